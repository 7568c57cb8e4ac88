/- A part of the walk. -/
import Derived.ArgAppend
import Derived.Deep.Upon
import Derived.Test.YtmmchlfoplcnbaaGreatDoorMC4
import Derived.Test.YtmmchlfoplcnbaaGreatDoorMC0
import Derived.Test.YtmmchlfoplcnbaaGreatDoorMB7
namespace Go.Proofs.YtmmchlfoplcnbaaGreatDoor
open Go Go.RowKit Tryz
set_option linter.all false
set_option maxRecDepth 100000
set_option maxHeartbeats 4000000
structure ag9 (q:bL):Prop where
 bt:q.bt<=9223372036854775807
 c1:q.c1<=9223372036854775807
 c2:q.c2<=9223372036854775807
 cw:q.cw<=9223372036854775807
 r1:q.r1<=9223372036854775807
 r2:q.r2<=9223372036854775807
 b2:q.b2<=9223372036854775807
 ret:q.ret<=9223372036854775807
 c9:q.c9<=9223372036854775807
 dead:q.dead<=9223372036854775807
theorem bL.Ok.aha {q:bL} (h:q.Ok):ag9 q:=⟨h.m0,h.m1,h.m2,h.m3,by have:=h.r1;have:=h.m0;omega,by have:=h.r2;have:=h.m2;omega,by have:=h.gl;omega,by have:=h.rt;omega,by have:=h.a2;omega,by have:=h.d;omega⟩
def o6 (h:List UInt8) (x y z:Nat):Nat->List UInt8
 | 0=>h
 | 1=>h++[32]++dO x
 | 2=>h++[32]++dO x++[32]++dO y
 | _=>h++[32]++dO x++[32]++dO y++[32]++dO z
def wQ (ts:List eH):List UInt8:=glue 10 (ts.map fun t=>qu++32 :: t.word)
theorem Vd (c:UInt8) (l m:List (List UInt8)):glue c (l++m)=glue c l++glue c m:=by
 induction l with
 | nil=>rfl
 | cons a l b6=>show a++c :: glue c (l++m)=_;rw [b6];simp [glue]
theorem ahb (ts:List eH) (i:Nat) (hi:i<ts.length):wQ (ts.take (i+1))=wQ (ts.take i)++[116,104,114,101,115,104,111,108,100,32]++ts[i].word++[10]:=by
 unfold wQ;rw [gS hi,nQ,Vd];simp [glue,qu]
theorem Ve {ts:List eH} (h:∀ t∈ts,t.Ok):(wQ ts).length<=60*ts.length:=by
 induction ts with
 | nil=>simp [wQ,glue]
 | cons t ts b6 =>
  have h1:=b6 fun x hx=>h x (by simp [hx])
  have ah:t.word.length<=40:=MD (h t av);unfold wQ at h1 ⊢
  simp only [ny,glue,cd,cy] at h1 ⊢
  have:qu.length=9:=rfl;omega
theorem xY {n:Nat} {x y z:ByteArray} {w:World} {r:Result Next} (h:n<=1000000/\x++y=z):(if 9223372036854775807<n then r else Result.ok (Next.value (.string (x++y))) w)=Result.ok (Next.value (.string z)) w:=by rw [bp af,h.2]
theorem xZ (x y:List UInt8):str x++str y=str (x++y):=ByteArray.mk_append_mk x y
theorem ahc (q:bL):q.text=o6 (o6 ux q.bt q.c1 q.c2 3++[10,97,108,108,111,99,97,116,97,98,108,101]) q.cw q.r1 q.r2 3++[10]++wQ q.ts++[112,101,114,105,111,100,32]++dO q.b2++[10,114,101,116,114,105,101,115,32]++dO q.ret++[10,109,97,120,97,103,101,32]++dO q.c9++[10,100,101,97,100,32]++dO q.dead++[10]:=by
 unfold bL.text bL.ws zA IJ wQ;simp only [ny,nQ,List.map_map,glue,Vd,je,o6,rT];simp [DA,zw,zx,zy,zz,Function.comp_def,je]
theorem ahd (q:bL) (bd:q.Ok) (A:Option Addr) (c:Nat) (w:World) (hr:a7 w i7 A q.ts):Calls prog 54 #[.agg #[.i q.bt,.i q.c1,.i q.c2,.i q.cw,.i q.r1,.i q.r2,.slice A q.ts.length c,.i q.b2,.i q.ret,.i q.c9,.i q.dead]] w (o5 q.text w):=by
 have mixed:prog.follows Departure.mixedOrders=true:=ai;obtain ⟨aC,cU⟩:=aE (w.alloc (.cells #[.i q.bt,.i q.c1,.i q.c2,.i q.cw,.i q.r1,.i q.r2,.slice A q.ts.length c,.i q.b2,.i q.ret,.i q.c9,.i q.dead] 26));have uT:ar aC w.heap.size 26 #[.i q.bt,.i q.c1,.i q.c2,.i q.cw,.i q.r1,.i q.r2,.slice A q.ts.length c,.i q.b2,.i q.ret,.i q.c9,.i q.dead]:=by rw [<- cU];exact ar.new w 26 #[.i q.bt,.i q.c1,.i q.c2,.i q.cw,.i q.r1,.i q.r2,.slice A q.ts.length c,.i q.b2,.i q.ret,.i q.c9,.i q.dead]
 have bV:Below w.heap.size w aC:=by rw [<- cU];exact (aO _ _).alloc aF _
 have sW:=J uT;have df:=J bV;have ei:=J (aO aC.heap.size aC);have bx:=J (hr.below bV);have hM:=J bd.aha;have ao:=J bd;have ze:Hid (q.text=q.text):=rfl;have Jt:=J (show ux.length<=8 by decide);clear hr bd uT bV
 go_enter func54,ntmps54
 go_wp2_with fail;clear cU
 go_loopw [3,4] (fun pI ii wr=>∃ (i:Nat) (T:List UInt8),i<=3/\ii=.i i/\pI=.string (str T)/\T=o6 ux q.bt q.c1 q.c2 i/\Below aC.heap.size aC wr) (fun _ ii _=>3-(intOf ii).toNat)
 case atStart=>exact ⟨0,ux,af,rfl,rfl,rfl,ei.out⟩
 case round =>
  clear ei;obtain ⟨i,T,hi,rfl,rfl,ih,eE⟩:=hrel;have ei:=J eE;have cC:=J ih;clear eE ih;have uu:i=0\/i=1\/i=2\/¬ i<3:=af
  rcases uu with rfl|rfl|rfl|Oa
  ·have jg:=J (show T.length<=8+0 by rw [cC.out];have:=Jt.out;have:=gy (n:=q.bt) hM.bt;have:=gy (n:=q.c1) hM.c1;simp only [o6,cd,cy,dD];omega)
   have eo:wr.cell? ⟨w.heap.size,0,none⟩=some (.i q.bt):=(sW.bw ei).cell 0;obtain ⟨ct,eB⟩:=aE (T++[32]);have nO:=J eB;have jK:=J (show ct.length<=9 by rw [<- eB];have:=jg.out;(try simp only [cd,cy,dD]);omega);have c6:(Op.stringOp .add (str T) ⟨#[32]⟩).run prog wr=.ok (.string (str ct)) wr:=by rw [<- eB];exact js wr T [32] (by have:=jg.out;(try simp only [cy,dD]);omega)
   clear eB;go_wp2_with fail;have eV:=sV q.bt hM.bt wr;unfold o5 at eV
   obtain ⟨bz,iN⟩:=aE (dO q.bt);have gm:=J (show bz.length<=21 from iN ▸ gy hM.bt);rw [iN] at eV
   have uU:=J iN;clear iN;refine eV.mono ?_;rintro e w3 ⟨rfl,bu⟩;have rK:=J (ei.trans (bu.mono ei.size));clear eV bu eo c6;obtain ⟨dX,eU⟩:=aE (ct++bz);have hL:=J eU;have nP:=J (show dX.length<=30 by rw [<- eU];have:=jK.out;have:=gm.out;(try simp only [cd,cy,dD]);omega);have a2:(Op.stringOp .add (str ct) (str bz)).run prog w3=.ok (.string (str dX)) w3:=by rw [<- eU];exact js w3 ct bz (by have:=jK.out;have:=gm.out;(try simp only [cy,dD]);omega)
   clear eU;go_wp2_with fail
   go_roundw
   case rel=>exact ⟨1,dX,af,cm,rfl,by rw [<- hL.out,<- nO.out,<- uU.out,cC.out];rfl,rK.out⟩
   case measure=>exact ef
  ·have jg:=J (show T.length<=8+22 by rw [cC.out];have:=Jt.out;have:=gy (n:=q.bt) hM.bt;have:=gy (n:=q.c1) hM.c1;simp only [o6,cd,cy,dD];omega)
   have eo:wr.cell? ⟨w.heap.size,1,none⟩=some (.i q.c1):=(sW.bw ei).cell 1;obtain ⟨ct,eB⟩:=aE (T++[32]);have nO:=J eB;have jK:=J (show ct.length<=31 by rw [<- eB];have:=jg.out;(try simp only [cd,cy,dD]);omega);have c6:(Op.stringOp .add (str T) ⟨#[32]⟩).run prog wr=.ok (.string (str ct)) wr:=by rw [<- eB];exact js wr T [32] (by have:=jg.out;(try simp only [cy,dD]);omega)
   clear eB;go_wp2_with fail;have eV:=sV q.c1 hM.c1 wr;unfold o5 at eV
   obtain ⟨bz,iN⟩:=aE (dO q.c1);have gm:=J (show bz.length<=21 from iN ▸ gy hM.c1);rw [iN] at eV
   have uU:=J iN;clear iN;refine eV.mono ?_;rintro e w3 ⟨rfl,bu⟩;have rK:=J (ei.trans (bu.mono ei.size));clear eV bu eo c6;obtain ⟨dX,eU⟩:=aE (ct++bz);have hL:=J eU;have nP:=J (show dX.length<=52 by rw [<- eU];have:=jK.out;have:=gm.out;(try simp only [cd,cy,dD]);omega);have a2:(Op.stringOp .add (str ct) (str bz)).run prog w3=.ok (.string (str dX)) w3:=by rw [<- eU];exact js w3 ct bz (by have:=jK.out;have:=gm.out;(try simp only [cy,dD]);omega)
   clear eU;go_wp2_with fail
   go_roundw
   case rel=>exact ⟨2,dX,af,cm,rfl,by rw [<- hL.out,<- nO.out,<- uU.out,cC.out];rfl,rK.out⟩
   case measure=>exact ef
  ·have jg:=J (show T.length<=8+44 by rw [cC.out];have:=Jt.out;have:=gy (n:=q.bt) hM.bt;have:=gy (n:=q.c1) hM.c1;simp only [o6,cd,cy,dD];omega)
   have eo:wr.cell? ⟨w.heap.size,2,none⟩=some (.i q.c2):=(sW.bw ei).cell 2;obtain ⟨ct,eB⟩:=aE (T++[32]);have nO:=J eB;have jK:=J (show ct.length<=53 by rw [<- eB];have:=jg.out;(try simp only [cd,cy,dD]);omega);have c6:(Op.stringOp .add (str T) ⟨#[32]⟩).run prog wr=.ok (.string (str ct)) wr:=by rw [<- eB];exact js wr T [32] (by have:=jg.out;(try simp only [cy,dD]);omega)
   clear eB;go_wp2_with fail;have eV:=sV q.c2 hM.c2 wr;unfold o5 at eV
   obtain ⟨bz,iN⟩:=aE (dO q.c2);have gm:=J (show bz.length<=21 from iN ▸ gy hM.c2);rw [iN] at eV
   have uU:=J iN;clear iN;refine eV.mono ?_;rintro e w3 ⟨rfl,bu⟩;have rK:=J (ei.trans (bu.mono ei.size));clear eV bu eo c6;obtain ⟨dX,eU⟩:=aE (ct++bz);have hL:=J eU;have nP:=J (show dX.length<=74 by rw [<- eU];have:=jK.out;have:=gm.out;(try simp only [cd,cy,dD]);omega);have a2:(Op.stringOp .add (str ct) (str bz)).run prog w3=.ok (.string (str dX)) w3:=by rw [<- eU];exact js w3 ct bz (by have:=jK.out;have:=gm.out;(try simp only [cy,dD]);omega)
   clear eU;go_wp2_with fail
   go_roundw
   case rel=>exact ⟨3,dX,af,cm,rfl,by rw [<- hL.out,<- nO.out,<- uU.out,cC.out];rfl,rK.out⟩
   case measure=>exact ef
  ·have cg:decide ((i:Int)<3)=false:=cX af
   have Ob:=J (show i=3 by omega);rw [Ob.out] at cC
   clear Oa hi;have jg:=J (show T.length<=74 by rw [cC.out];have:=Jt.out;have:=gy (n:=q.bt) hM.bt;have:=gy (n:=q.c1) hM.c1;have:=gy (n:=q.c2) hM.c2;simp only [o6,cd,cy,dD];omega);obtain ⟨F5,Bl⟩:=aE (T++[10,97,108,108,111,99,97,116,97,98,108,101]);have dh:=J Bl;have Ju:=J (show F5.length<=86 by rw [<- Bl];have:=jg.out;(try simp only [cd,cy,dD]);omega);have c6:(Op.stringOp .add (str T) ⟨#[10,97,108,108,111,99,97,116,97,98,108,101]⟩).run prog wr=.ok (.string (str F5)) wr:=by rw [<- Bl];exact js wr T [10,97,108,108,111,99,97,116,97,98,108,101] (by have:=jg.out;(try simp only [cy,dD]);omega)
   clear Bl;have dh:Hid (F5=o6 ux q.bt q.c1 q.c2 3++[10,97,108,108,111,99,97,116,97,98,108,101]):=by show _=_;rw [<- dh.out,cC.out]
   go_wp2_with fail;clear c6
   go_loopw [3,5] (fun pI ii wr=>∃ (i:Nat) (T:List UInt8),i<=3/\ii=.i i/\pI=.string (str T)/\T=o6 F5 q.cw q.r1 q.r2 i/\Below aC.heap.size aC wr) (fun _ ii _=>3-(intOf ii).toNat)
   case atStart=>exact ⟨0,F5,af,rfl,rfl,rfl,ei.out⟩
   case round =>
    clear ei;obtain ⟨i,T,hi,rfl,rfl,ih,eE⟩:=hrel;have ei:=J eE;have cC:=J ih;clear eE ih;have uu:i=0\/i=1\/i=2\/¬ i<3:=af
    rcases uu with rfl|rfl|rfl|Oa
    ·have jg:=J (show T.length<=86+0 by rw [cC.out];have:=Ju.out;have:=gy (n:=q.cw) hM.cw;have:=gy (n:=q.r1) hM.r1;simp only [o6,cd,cy,dD];omega)
     have eo:wr.cell? ⟨w.heap.size,3,none⟩=some (.i q.cw):=(sW.bw ei).cell 3;obtain ⟨ct,eB⟩:=aE (T++[32]);have nO:=J eB;have jK:=J (show ct.length<=87 by rw [<- eB];have:=jg.out;(try simp only [cd,cy,dD]);omega);have c6:(Op.stringOp .add (str T) ⟨#[32]⟩).run prog wr=.ok (.string (str ct)) wr:=by rw [<- eB];exact js wr T [32] (by have:=jg.out;(try simp only [cy,dD]);omega)
     clear eB;go_wp2_with fail;have eV:=sV q.cw hM.cw wr;unfold o5 at eV
     obtain ⟨bz,iN⟩:=aE (dO q.cw);have gm:=J (show bz.length<=21 from iN ▸ gy hM.cw);rw [iN] at eV
     have uU:=J iN;clear iN;refine eV.mono ?_;rintro e w3 ⟨rfl,bu⟩;have rK:=J (ei.trans (bu.mono ei.size));clear eV bu eo c6;obtain ⟨dX,eU⟩:=aE (ct++bz);have hL:=J eU;have nP:=J (show dX.length<=108 by rw [<- eU];have:=jK.out;have:=gm.out;(try simp only [cd,cy,dD]);omega);have a2:(Op.stringOp .add (str ct) (str bz)).run prog w3=.ok (.string (str dX)) w3:=by rw [<- eU];exact js w3 ct bz (by have:=jK.out;have:=gm.out;(try simp only [cy,dD]);omega)
     clear eU;go_wp2_with fail
     go_roundw
     case rel=>exact ⟨1,dX,af,cm,rfl,by rw [<- hL.out,<- nO.out,<- uU.out,cC.out];rfl,rK.out⟩
     case measure=>exact ef
    ·have jg:=J (show T.length<=86+22 by rw [cC.out];have:=Ju.out;have:=gy (n:=q.cw) hM.cw;have:=gy (n:=q.r1) hM.r1;simp only [o6,cd,cy,dD];omega)
     have eo:wr.cell? ⟨w.heap.size,4,none⟩=some (.i q.r1):=(sW.bw ei).cell 4;obtain ⟨ct,eB⟩:=aE (T++[32]);have nO:=J eB;have jK:=J (show ct.length<=109 by rw [<- eB];have:=jg.out;(try simp only [cd,cy,dD]);omega);have c6:(Op.stringOp .add (str T) ⟨#[32]⟩).run prog wr=.ok (.string (str ct)) wr:=by rw [<- eB];exact js wr T [32] (by have:=jg.out;(try simp only [cy,dD]);omega)
     clear eB;go_wp2_with fail;have eV:=sV q.r1 hM.r1 wr;unfold o5 at eV
     obtain ⟨bz,iN⟩:=aE (dO q.r1);have gm:=J (show bz.length<=21 from iN ▸ gy hM.r1);rw [iN] at eV
     have uU:=J iN;clear iN;refine eV.mono ?_;rintro e w3 ⟨rfl,bu⟩;have rK:=J (ei.trans (bu.mono ei.size));clear eV bu eo c6;obtain ⟨dX,eU⟩:=aE (ct++bz);have hL:=J eU;have nP:=J (show dX.length<=130 by rw [<- eU];have:=jK.out;have:=gm.out;(try simp only [cd,cy,dD]);omega);have a2:(Op.stringOp .add (str ct) (str bz)).run prog w3=.ok (.string (str dX)) w3:=by rw [<- eU];exact js w3 ct bz (by have:=jK.out;have:=gm.out;(try simp only [cy,dD]);omega)
     clear eU;go_wp2_with fail
     go_roundw
     case rel=>exact ⟨2,dX,af,cm,rfl,by rw [<- hL.out,<- nO.out,<- uU.out,cC.out];rfl,rK.out⟩
     case measure=>exact ef
    ·have jg:=J (show T.length<=86+44 by rw [cC.out];have:=Ju.out;have:=gy (n:=q.cw) hM.cw;have:=gy (n:=q.r1) hM.r1;simp only [o6,cd,cy,dD];omega)
     have eo:wr.cell? ⟨w.heap.size,5,none⟩=some (.i q.r2):=(sW.bw ei).cell 5;obtain ⟨ct,eB⟩:=aE (T++[32]);have nO:=J eB;have jK:=J (show ct.length<=131 by rw [<- eB];have:=jg.out;(try simp only [cd,cy,dD]);omega);have c6:(Op.stringOp .add (str T) ⟨#[32]⟩).run prog wr=.ok (.string (str ct)) wr:=by rw [<- eB];exact js wr T [32] (by have:=jg.out;(try simp only [cy,dD]);omega)
     clear eB;go_wp2_with fail;have eV:=sV q.r2 hM.r2 wr;unfold o5 at eV
     obtain ⟨bz,iN⟩:=aE (dO q.r2);have gm:=J (show bz.length<=21 from iN ▸ gy hM.r2);rw [iN] at eV
     have uU:=J iN;clear iN;refine eV.mono ?_;rintro e w3 ⟨rfl,bu⟩;have rK:=J (ei.trans (bu.mono ei.size));clear eV bu eo c6;obtain ⟨dX,eU⟩:=aE (ct++bz);have hL:=J eU;have nP:=J (show dX.length<=152 by rw [<- eU];have:=jK.out;have:=gm.out;(try simp only [cd,cy,dD]);omega);have a2:(Op.stringOp .add (str ct) (str bz)).run prog w3=.ok (.string (str dX)) w3:=by rw [<- eU];exact js w3 ct bz (by have:=jK.out;have:=gm.out;(try simp only [cy,dD]);omega)
     clear eU;go_wp2_with fail
     go_roundw
     case rel=>exact ⟨3,dX,af,cm,rfl,by rw [<- hL.out,<- nO.out,<- uU.out,cC.out];rfl,rK.out⟩
     case measure=>exact ef
    ·have cg:decide ((i:Int)<3)=false:=cX af
     have Ob:=J (show i=3 by omega);rw [Ob.out] at cC
     clear Oa hi;have jg:=J (show T.length<=152 by rw [cC.out];have:=Ju.out;have:=gy (n:=q.cw) hM.cw;have:=gy (n:=q.r1) hM.r1;have:=gy (n:=q.r2) hM.r2;simp only [o6,cd,cy,dD];omega);obtain ⟨Bv,Bw⟩:=aE (T++[10]);have ahe:=J Bw;have Vf:=J (show Bv.length<=153 by rw [<- Bw];have:=jg.out;(try simp only [cd,cy,dD]);omega);have c6:(Op.stringOp .add (str T) ⟨#[10]⟩).run prog wr=.ok (.string (str Bv)) wr:=by rw [<- Bw];exact js wr T [10] (by have:=jg.out;(try simp only [cy,dD]);omega)
     clear Bw;have ahf:=J (show Bv=o6 (o6 ux q.bt q.c1 q.c2 3++[10,97,108,108,111,99,97,116,97,98,108,101]) q.cw q.r1 q.r2 3++[10] by rw [<- ahe.out,cC.out,dh.out]);have eo:wr.cell? ⟨w.heap.size,6,none⟩=some (.slice A q.ts.length c):=(sW.bw ei).cell 6;go_wp2_with fail;clear c6 eo
     go_loopw [3,6] (fun pI ii wr=>∃ (i:Nat) (T:List UInt8),i<=q.ts.length/\ii=.i i/\pI=.string (str T)/\T=Bv++wQ (q.ts.take i)/\Below aC.heap.size aC wr) (fun _ ii _=>q.ts.length-(intOf ii).toNat)
     case atStart=>exact ⟨0,Bv,af,rfl,rfl,by simp [wQ,glue],ei.out⟩
     case round =>
      clear ei;obtain ⟨i,T,hi,rfl,rfl,ih,eE⟩:=hrel;have ei:=J eE;have cC:=J ih;have S4:=ao.n;clear eE ih
      by_cases aT:i<q.ts.length
      ·have cg:decide ((i:Int)<(q.ts.length:Int))=true:=bO af
       have kA:(i:Int)<(q.ts.length:Int):=af;have jg:=J (show T.length<=900 by rw [cC.out,cd];have:=Vf.out;have h1:=Ve (ts:=q.ts.take i) fun t ht=>ao.ts t (Ez ht);have:=ao.n;rw [fv] at h1;omega);have o7:=J (ahb q.ts i aT);have sP:=J (ao.ts q.ts[i] (iO aT));have eo:wr.cell? ⟨w.heap.size,6,none⟩=some (.slice A q.ts.length c):=(sW.bw ei).cell 6;obtain ⟨b,off,hA,_,bg,aX,ba,nD,sg⟩:=(bx.below ei).O5 aT;obtain ⟨t,Vg⟩:=aE q.ts[i];rw [Vg] at o7 sP bg aX ba nD sg
       rw [hA] at eo
       clear Vg hA;obtain ⟨ct,eB⟩:=aE (T++[116,104,114,101,115,104,111,108,100,32]);have nO:=J eB;have jK:=J (show ct.length<=910 by rw [<- eB];have:=jg.out;(try simp only [cd,cy,dD]);omega);have c6:(Op.stringOp .add (str T) ⟨#[116,104,114,101,115,104,111,108,100,32]⟩).run prog wr=.ok (.string (str ct)) wr:=by rw [<- eB];exact js wr T [116,104,114,101,115,104,111,108,100,32] (by have:=jg.out;(try simp only [cy,dD]);omega)
       clear eB;go_wp2_with fail;have eV:=ag7 t sP.out wr;unfold o5 at eV
       obtain ⟨bz,iN⟩:=aE t.word;have gm:=J (show bz.length<=40 from iN ▸ MD sP.out);rw [iN] at eV o7
       clear iN;refine eV.mono ?_;rintro e w3 ⟨rfl,bu⟩;have rK:=J (ei.trans (bu.mono ei.size));clear eV bu eo c6 bg aX ba nD sg;obtain ⟨dX,eU⟩:=aE (ct++bz);have hL:=J eU;have nP:=J (show dX.length<=950 by rw [<- eU];have:=jK.out;have:=gm.out;(try simp only [cd,cy,dD]);omega);have a2:(Op.stringOp .add (str ct) (str bz)).run prog w3=.ok (.string (str dX)) w3:=by rw [<- eU];exact js w3 ct bz (by have:=jK.out;have:=gm.out;(try simp only [cy,dD]);omega)
       clear eU;obtain ⟨rJ,qJ⟩:=aE (dX++[10]);have mI:=J qJ;have Js:=J (show rJ.length<=951 by rw [<- qJ];have:=nP.out;(try simp only [cd,cy,dD]);omega);have a3:(Op.stringOp .add (str dX) ⟨#[10]⟩).run prog w3=.ok (.string (str rJ)) w3:=by rw [<- qJ];exact js w3 dX [10] (by have:=nP.out;(try simp only [cy,dD]);omega)
       clear qJ;go_wp2_with fail
       go_roundw
       case rel=>exact ⟨i+1,rJ,af,cm,rfl,by rw [<- mI.out,<- hL.out,<- nO.out,o7.out,cC.out];simp,rK.out⟩
       case measure=>exact c4
      ·obtain rfl:i=q.ts.length:=by omega
       have cg:decide ((q.ts.length:Int)<(q.ts.length:Int))=false:=av;rw [kn] at cC
       have eo:wr.cell? ⟨w.heap.size,6,none⟩=some (.slice A q.ts.length c):=(sW.bw ei).cell 6;have jg:=J (show T.length<=900 by rw [cC.out,cd];have:=Vf.out;have h1:=Ve (ts:=q.ts) ao.ts;have:=ao.n;omega);obtain ⟨Cb,Jv⟩:=aE (T++[112,101,114,105,111,100,32]);have ahg:=J Jv;have Vh:=J (show Cb.length<=910 by rw [<- Jv];have:=jg.out;(try simp only [cd,cy,dD]);omega);have ahh:Hid ((str T).size+7<=1000000/\str T++⟨#[112,101,114,105,111,100,32]⟩=str Cb):=⟨by rw [mo];have:=jg.out;omega,by rw [<- Jv];exact xZ T [112,101,114,105,111,100,32]⟩
       clear Jv;obtain ⟨F6,Oc⟩:=aE (dO q.b2);have Vi:=J (show F6.length<=21 from Oc ▸ gy hM.b2);have Vj:=J Oc;clear Oc;obtain ⟨Cc,Jw⟩:=aE (Cb++F6);have ahi:=J Jw;have Vk:=J (show Cc.length<=931 by rw [<- Jw];have:=Vh.out;have:=Vi.out;(try simp only [cd,cy,dD]);omega);have ahj:Hid ((str Cb).size+(str F6).size<=1000000/\str Cb++(str F6)=str Cc):=⟨by rw [mo];have:=Vh.out;have:=Vi.out;rw [mo];omega,by rw [<- Jw];exact xZ Cb F6⟩
       clear Jw;obtain ⟨Cd,Jx⟩:=aE (Cc++[10,114,101,116,114,105,101,115,32]);have ahk:=J Jx;have Vl:=J (show Cd.length<=940 by rw [<- Jx];have:=Vk.out;(try simp only [cd,cy,dD]);omega);have ahl:Hid ((str Cc).size+9<=1000000/\str Cc++⟨#[10,114,101,116,114,105,101,115,32]⟩=str Cd):=⟨by rw [mo];have:=Vk.out;omega,by rw [<- Jx];exact xZ Cc [10,114,101,116,114,105,101,115,32]⟩
       clear Jx;obtain ⟨F7,Od⟩:=aE (dO q.ret);have Vm:=J (show F7.length<=21 from Od ▸ gy hM.ret);have Vn:=J Od;clear Od;obtain ⟨Ce,Jy⟩:=aE (Cd++F7);have ahm:=J Jy;have Vo:=J (show Ce.length<=961 by rw [<- Jy];have:=Vl.out;have:=Vm.out;(try simp only [cd,cy,dD]);omega);have ahn:Hid ((str Cd).size+(str F7).size<=1000000/\str Cd++(str F7)=str Ce):=⟨by rw [mo];have:=Vl.out;have:=Vm.out;rw [mo];omega,by rw [<- Jy];exact xZ Cd F7⟩
       clear Jy;obtain ⟨Cf,Jz⟩:=aE (Ce++[10,109,97,120,97,103,101,32]);have aho:=J Jz;have Vp:=J (show Cf.length<=969 by rw [<- Jz];have:=Vo.out;(try simp only [cd,cy,dD]);omega);have ahp:Hid ((str Ce).size+8<=1000000/\str Ce++⟨#[10,109,97,120,97,103,101,32]⟩=str Cf):=⟨by rw [mo];have:=Vo.out;omega,by rw [<- Jz];exact xZ Ce [10,109,97,120,97,103,101,32]⟩
       clear Jz;obtain ⟨F8,Oe⟩:=aE (dO q.c9);have Vq:=J (show F8.length<=21 from Oe ▸ gy hM.c9);have Vr:=J Oe;clear Oe;obtain ⟨Cg,JA⟩:=aE (Cf++F8);have ahq:=J JA;have Vs:=J (show Cg.length<=990 by rw [<- JA];have:=Vp.out;have:=Vq.out;(try simp only [cd,cy,dD]);omega);have ahr:Hid ((str Cf).size+(str F8).size<=1000000/\str Cf++(str F8)=str Cg):=⟨by rw [mo];have:=Vp.out;have:=Vq.out;rw [mo];omega,by rw [<- JA];exact xZ Cf F8⟩
       clear JA;obtain ⟨Ch,JB⟩:=aE (Cg++[10,100,101,97,100,32]);have ahs:=J JB;have Vt:=J (show Ch.length<=996 by rw [<- JB];have:=Vs.out;(try simp only [cd,cy,dD]);omega);have aht:Hid ((str Cg).size+6<=1000000/\str Cg++⟨#[10,100,101,97,100,32]⟩=str Ch):=⟨by rw [mo];have:=Vs.out;omega,by rw [<- JB];exact xZ Cg [10,100,101,97,100,32]⟩
       clear JB;obtain ⟨F9,Of⟩:=aE (dO q.dead);have Vu:=J (show F9.length<=21 from Of ▸ gy hM.dead);have Vv:=J Of;clear Of;obtain ⟨Ci,JC⟩:=aE (Ch++F9);have ahu:=J JC;have Vw:=J (show Ci.length<=1017 by rw [<- JC];have:=Vt.out;have:=Vu.out;(try simp only [cd,cy,dD]);omega);have ahv:Hid ((str Ch).size+(str F9).size<=1000000/\str Ch++(str F9)=str Ci):=⟨by rw [mo];have:=Vt.out;have:=Vu.out;rw [mo];omega,by rw [<- JC];exact xZ Ch F9⟩
       clear JC;obtain ⟨F',JD⟩:=aE (Ci++[10]);have ahw:=J JD;have alg:=J (show F'.length<=1018 by rw [<- JD];have:=Vw.out;(try simp only [cd,cy,dD]);omega);have ahx:Hid ((str Ci).size+1<=1000000/\str Ci++⟨#[10]⟩=str F'):=⟨by rw [mo];have:=Vw.out;omega,by rw [<- JD];exact xZ Ci [10]⟩
       clear JD;go_wp2_with fail;clear eo;obtain ⟨wd,aG⟩:=aE wr.drew;have bf:Below wr.heap.size wr wd:=by rw [<- aG];exact (aO _ _).drew
       have gA:=J ((sW.bw ei).bw bf);have ei:=J (ei.trans (bf.mono ei.size));clear bf;refine wp_region_held_drew (S:=fun w'=>w'.cell? ⟨w.heap.size,7,none⟩=some (.i q.b2)/\w'.cell? ⟨w.heap.size,8,none⟩=some (.i q.ret)/\w'.cell? ⟨w.heap.size,9,none⟩=some (.i q.c9)/\w'.cell? ⟨w.heap.size,10,none⟩=some (.i q.dead)) ai (by rw [aG];exact (ae (gA.cell 7) (ae (gA.cell 8) (ae (gA.cell 9) (gA.cell 10))))) (fun hHeld=>?_);rw [aG] at hHeld ⊢
       clear aG;refine aj 0 ?_;refine gN 1 53 (.string (str Cb)) rfl rfl ai ai ai (fun _ _ _ h=>h) aH (by intro w' dB;(try dsimp only at dB);go_simp;(first|done|with_reducible rfl|exact xY ahh.out)) As ?_;simp only [Act.put,aY,aZ,a1];refine aj 2 ?_;refine aj 3 ?_;refine aj 7 ?_;refine aj 8 ?_;refine aj 12 ?_;refine aj 13 ?_;refine aj 17 ?_;refine aj 18 ?_;refine dR 4 56 rfl rfl ai aH (fun K hK=>?_);go_simp;have eV:=sV q.b2 hM.b2 wd;unfold o5 at eV
       rw [Vj.out] at eV
       refine eV.mono ?_;rintro e ahy ⟨rfl,bu⟩;have ei:=J (ei.trans (bu.mono ei.size));have gA:=J (gA.bw bu);clear eV bu;have hHeld:=(ae (gA.cell 7) (ae (gA.cell 8) (ae (gA.cell 9) (gA.cell 10))))
       refine hK _ _ hHeld ?_;clear hK K;simp only [Act.put,aY,aZ,a1];refine gN 5 57 (.string (str Cc)) rfl rfl ai ai ai (fun _ _ _ h=>h) aH (by intro w' dB;(try dsimp only at dB);go_simp;(first|done|with_reducible rfl|exact xY ahj.out)) As ?_;simp only [Act.put,aY,aZ,a1];refine gN 6 58 (.string (str Cd)) rfl rfl ai ai ai (fun _ _ _ h=>h) aH (by intro w' dB;(try dsimp only at dB);go_simp;(first|done|with_reducible rfl|exact xY ahl.out)) As ?_;simp only [Act.put,aY,aZ,a1];refine dR 9 61 rfl rfl ai aH (fun K hK=>?_);go_simp;have eV:=sV q.ret hM.ret ahy;unfold o5 at eV
       rw [Vn.out] at eV
       refine eV.mono ?_;rintro e ahz ⟨rfl,bu⟩;have ei:=J (ei.trans (bu.mono ei.size));have gA:=J (gA.bw bu);clear eV bu;have hHeld:=(ae (gA.cell 7) (ae (gA.cell 8) (ae (gA.cell 9) (gA.cell 10))))
       refine hK _ _ hHeld ?_;clear hK K;simp only [Act.put,aY,aZ,a1];refine gN 10 62 (.string (str Ce)) rfl rfl ai ai ai (fun _ _ _ h=>h) aH (by intro w' dB;(try dsimp only at dB);go_simp;(first|done|with_reducible rfl|exact xY ahn.out)) As ?_;simp only [Act.put,aY,aZ,a1];refine gN 11 63 (.string (str Cf)) rfl rfl ai ai ai (fun _ _ _ h=>h) aH (by intro w' dB;(try dsimp only at dB);go_simp;(first|done|with_reducible rfl|exact xY ahp.out)) As ?_;simp only [Act.put,aY,aZ,a1];refine dR 14 66 rfl rfl ai aH (fun K hK=>?_);go_simp;have eV:=sV q.c9 hM.c9 ahz;unfold o5 at eV
       rw [Vr.out] at eV
       refine eV.mono ?_;rintro e ahA ⟨rfl,bu⟩;have ei:=J (ei.trans (bu.mono ei.size));have gA:=J (gA.bw bu);clear eV bu;have hHeld:=(ae (gA.cell 7) (ae (gA.cell 8) (ae (gA.cell 9) (gA.cell 10))))
       refine hK _ _ hHeld ?_;clear hK K;simp only [Act.put,aY,aZ,a1];refine gN 15 67 (.string (str Cg)) rfl rfl ai ai ai (fun _ _ _ h=>h) aH (by intro w' dB;(try dsimp only at dB);go_simp;(first|done|with_reducible rfl|exact xY ahr.out)) As ?_;simp only [Act.put,aY,aZ,a1];refine gN 16 68 (.string (str Ch)) rfl rfl ai ai ai (fun _ _ _ h=>h) aH (by intro w' dB;(try dsimp only at dB);go_simp;(first|done|with_reducible rfl|exact xY aht.out)) As ?_;simp only [Act.put,aY,aZ,a1];refine dR 19 71 rfl rfl ai aH (fun K hK=>?_);go_simp;have eV:=sV q.dead hM.dead ahA;unfold o5 at eV
       rw [Vv.out] at eV
       refine eV.mono ?_;rintro e alh ⟨rfl,bu⟩;have ei:=J (ei.trans (bu.mono ei.size));have gA:=J (gA.bw bu);clear eV bu;have hHeld:=(ae (gA.cell 7) (ae (gA.cell 8) (ae (gA.cell 9) (gA.cell 10))))
       refine hK _ _ hHeld ?_;clear hK K;simp only [Act.put,aY,aZ,a1];refine gN 20 72 (.string (str Ci)) rfl rfl ai ai ai (fun _ _ _ h=>h) aH (by intro w' dB;(try dsimp only at dB);go_simp;(first|done|with_reducible rfl|exact xY ahv.out)) As ?_;simp only [Act.put,aY,aZ,a1];refine gN 21 73 (.string (str F')) rfl rfl ai ai ai (fun _ _ _ h=>h) aH (by intro w' dB;(try dsimp only at dB);go_simp;(first|done|with_reducible rfl|exact xY ahx.out)) As ?_;simp only [Act.put,aY,aZ,a1];refine aj 22 ?_;refine wpAnyH_done ai ?_ _;clear hHeld;go_wp2_with fail;go_ret;refine ⟨?_,df.trans (ei.mono df.size)⟩
       show Ending.returned (.string (str F'))=_
       rw [show q.text=F' from ?_];rw [<- ahw.out,<- ahu.out,<- ahs.out,<- ahq.out,<- aho.out,<- ahm.out,<- ahk.out,<- ahi.out,<- ahg.out,cC.out,<- Vj.out,<- Vn.out,<- Vr.out,<- Vv.out,ahf.out];exact ahc q
def Iy (l:List cv):Prop:=∀ (i j:Nat) (_:i<j) (aD:j<l.length),blt (l[i]'af).id l[j].id=true
def iX (l:List cv) (s:ByteArray):Nat:=l.countP fun x=>blt x.id s
def kD (l:List cv) (s:ByteArray):Bool:=match l[iX l s]? with|some x=>x.id.toList==s.toList|none=>false
structure sF (l:List cv) (s:ByteArray) (a b:Nat):Prop where
 le:a<=b
 top:b<=l.length
 lI:∀ (t:Nat) (ht:t<l.length),t<a->blt l[t].id s=true
 hi:∀ (t:Nat) (ht:t<l.length),b<=t->blt l[t].id s=false
theorem sF.start (l:List cv) (s:ByteArray):sF l s 0 l.length:=⟨p3 _,e3 _,fun t _ h=>af,fun t h ah=>af⟩
theorem sF.up {l:List cv} {s:ByteArray} {a b h:Nat} (hs:Iy l) (hS:sF l s a b) (hb:h<b) (hl:h<l.length) (hc:blt l[h].id s=true):sF l s (h+1) b:=by
 refine ⟨af,hS.top,fun t ht aT=>?_,hS.hi⟩
 rcases gB t h with h1|h1
 ·exact jY (hs t h h1 hl) hc
 ·obtain rfl:t=h:=by omega
  exact hc
theorem sF.down {l:List cv} {s:ByteArray} {a b h:Nat} (hs:Iy l) (hS:sF l s a b) (ha:a<=h) (hb:h<b) (hl:h<l.length) (hc:blt l[h].id s=false):sF l s a h:=by
 refine ⟨ha,af,hS.lI,fun t ht iy=>?_⟩
 rcases gB h t with h1|h1
 ·cases ah:blt l[t].id s
  ·rfl
  ·rw [jY (hs h t h1 ht) ah] at hc;cases hc
 ·obtain rfl:t=h:=by omega
  exact hc
theorem sF.done {l:List cv} {s:ByteArray} {a:Nat} (hS:sF l s a a):iX l s=a:=yf _ l a hS.top hS.lI hS.hi
theorem SM (x:cv) (s:ByteArray) (W:World):Calls prog 256 #[.agg #[.string x.id,.i x.state,.i x.il,.i x.last],.string s] W fun e w'=>e=.returned (.i (Lib.compareBytes x.id.data.toList s.data.toList))/\Below W.heap.size W w':=by
 have ah:=fun W'=>ye x.id s W'
 generalize Lib.compareBytes x.id.data.toList s.data.toList=r2 at *
 have ju:=J ah;clear ah;have aA:=J ((aO W.heap.size W).alloc aF (.cells #[.string x.id,.i x.state,.i x.il,.i x.last] 75))
 go_enter func256,ntmps256
 go_wp2_with fail;refine (ju.out _).mono ?_;rintro e w' ⟨rfl,rfl⟩;go_wp2_with fail;go_ret;exact ⟨rfl,aA.out⟩
theorem adi (l:List cv) (s:ByteArray) (A:Option Addr) (c:Nat) (w:World) (hr:a7 w cK A l) (hm:l.length<=1000000) (hs:Iy l) :
  Calls prog 255 #[.slice A l.length c,.string s,.func (.func 256) #[] #[]] w fun e w'=>e=.returned (.tuple #[.i (iX l s),.bool (kD l s)])/\Below w.heap.size w w':=by
 have bx:=J hr;have aP:=J hs;clear hr hs
 go_enter func255,ntmps255
 go_wp2_with fail
 go_loopw [9,10] (fun i j wr=>∃ a b:Nat,i=.i a/\j=.i b/\sF l s a b/\Below w.heap.size w wr) (fun i j _=>((intOf j).toNat-(intOf i).toNat))
 case atStart=>exact ⟨0,l.length,rfl,rfl,sF.start l s,aO _ _⟩
 case round =>
  obtain ⟨a,b,rfl,rfl,hS,bM⟩:=hrel;have hle:=hS.le;have Km:=hS.top;have ao:=J (ae hS bM);clear hS bM
  by_cases aT:a<b
  ·obtain ⟨h,bQ⟩:∃ h:Nat,h=(a+b) / 2:=⟨_,rfl⟩
   have Ar:a<=h:=af;have s9:h<b:=af;have pk:h<l.length:=af;have cg:decide ((a:Int)<(b:Int))=true:=bO af;have l0:decide (a<b)=true:=bO af;have lG:(h:Int)<(l.length:Int):=af;obtain ⟨n,hn⟩:∃ n:Nat,n=a+b:=⟨_,rfl⟩
   have iz:(a:Int)+(b:Int)=(n:Int):=af;have aV:wrap64 ((a:Int)+(b:Int))=(n:Int):=by unfold wrap64;omega
   have bE:IntKind.u64.wrap (n:Int)=(n:Int):=by rw [IntKind.wrap_u64];omega
   have cG:(n:Int) / 2=(h:Int):=af;have po:wrap64 (h:Int)=(h:Int):=by unfold wrap64;omega
   obtain ⟨b0,off,rfl,ff,bt,c1,c2,c3⟩:=(bx.below ao.2).ks pk;have lg:=J (GI l[h].id s);have Au:=J (fun hc=>ao.1.up aP.out s9 pk hc);have vx:=J (fun hc=>ao.1.down aP.out Ar s9 pk hc);generalize l[h]=x at *
   have dN:=J (fun W'=>SM x s W');generalize Lib.compareBytes x.id.data.toList s.data.toList=r at *
   clear bQ hn
   cases he:blt x.id s
   ·have d0:decide (r<0)=false:=cX (by rw [lg.out,he];simp)
    have bF:=J (vx.out he);clear he;go_wp2_with fail;refine (dN.out _).mono ?_;rintro e w' ⟨rfl,eE⟩;have aA:=J (ao.2.trans (eE.mono ao.2.size));clear eE;go_wp2_with fail
    go_roundw
    case rel=>exact ⟨a,h,rfl,rfl,bF.out,aA.out⟩
    case measure=>exact c4
   ·have d0:decide (r<0)=true:=bO (by rw [lg.out,he])
    have bF:=J (Au.out he);clear he;go_wp2_with fail;refine (dN.out _).mono ?_;rintro e w' ⟨rfl,eE⟩;have aA:=J (ao.2.trans (eE.mono ao.2.size));clear eE;go_wp2_with fail
    go_roundw
    case rel=>exact ⟨h+1,b,cm,rfl,bF.out,aA.out⟩
    case measure=>exact c4
  ·obtain rfl:a=b:=by omega
   have cT:=J (ao.1.done);have cg:decide ((a:Int)<(a:Int))=false:=av
   by_cases qR:a<l.length
   ·have vp:decide ((a:Int)<(l.length:Int))=true:=bO af
    have Kn:(a:Int)<(l.length:Int):=af;obtain ⟨b0,off,rfl,ff,bt,c1,c2,c3⟩:=(bx.below ao.2).ks qR;have fx:=J (show kD l s=(l[a].id.toList==s.toList) by unfold kD;rw [cT.out,dF qR]);have lg:=J (cmp_eq l[a].id s);generalize l[a]=x at *
    have dN:=J (fun W'=>SM x s W');generalize Lib.compareBytes x.id.data.toList s.data.toList=r at *
    cases he:(x.id.toList==s.toList)
    ·have d0:(r==0)=false:=ji.2 (fun h=>by rw [lg.out,he] at h;cases h)
     have bF:=J (show kD l s=false by rw [fx.out,he]);clear he;go_wp2_with fail;refine (dN.out _).mono ?_;rintro e w' ⟨rfl,eE⟩;have aA:=J (ao.2.trans (eE.mono ao.2.size));clear eE;go_wp2_with fail
     go_ret2
     exact ⟨by rw [cT.out,bF.out] <;> rfl,aA.out⟩
    ·have d0:(r==0)=true:=qQ.2 (by rw [lg.out,he])
     have bF:=J (show kD l s=true by rw [fx.out,he]);clear he;go_wp2_with fail;refine (dN.out _).mono ?_;rintro e w' ⟨rfl,eE⟩;have aA:=J (ao.2.trans (eE.mono ao.2.size));clear eE;go_wp2_with fail
     go_ret2
     exact ⟨by rw [cT.out,bF.out] <;> rfl,aA.out⟩
   ·have vp:decide ((a:Int)<(l.length:Int))=false:=cX af
    have bF:=J (show kD l s=false by unfold kD;rw [cT.out,td af]);go_wp2_with fail
    go_ret2
    exact ⟨by rw [cT.out,bF.out] <;> rfl,ao.2⟩
def iY (S:Nat->Prop) (w:World) (A:Option Addr) (c:Nat) (l:List Bool):Prop :=
 (A=none/\l = []/\c=0)\/∃ g off cs,A=some ⟨g,off,none⟩/\cW w S g 4 cs/\off+c<=cs.size/\l.length<=c/\c<=maxLen/\∀ j b,l[j]? = some b->cs[off+j]? = some (.bool b)
theorem L1 (l:List Bool):xe.all l=l.map Value.bool:=by
 induction l with
 | nil=>rfl
 | cons a l b6=>rw [cu.all_cons,b6];rfl
section
variable {S cn:Nat->Prop} {ts:List TypeId} {w w':World} {A:Option Addr} {c:Nat} {l:List Bool}
theorem iY.kp (h:iY S w A c l):a7 w xe A l:=fun hn=>by
 rcases h with ⟨_,rfl,_⟩|⟨g,off,cs,rfl,hb,_,_,_,hc⟩
 ·exact absurd rfl hn
 ·refine ⟨g,off,rfl,hb.ab.lt,fun j u aD=>?_⟩
  rw [L1,qW] at aD
  cases oO:l[j]? with
  | none=>rw [oO] at aD;cases aD
  | some b =>
   rw [oO] at aD
   injection aD with aD
   subst aD;rw [hb.ab.cell];exact hc j b oO
theorem iY.plain (h:iY S w A c l):Plain A:=by
 rcases h with ⟨rfl,_⟩|⟨g,off,cs,rfl,_⟩
 ·exact .inl rfl
 ·exact .inr ⟨g,off,rfl⟩
theorem iY.cap (h:iY S w A c l):l.length<=c/\c<=maxLen:=by
 rcases h with ⟨_,rfl,rfl⟩|⟨_,_,_,_,_,_,h1,ah,_⟩
 ·exact ⟨av,by unfold maxLen;omega⟩
 ·exact ⟨h1,ah⟩
theorem iY.k1 (h:iY S w A c l) (hk:∀ g cs,cW w S g 4 cs->cW w' cn g 4 cs):iY cn w' A c l:=by
 rcases h with h|⟨g,off,cs,h1,ah,aw⟩
 ·exact .inl h
 ·exact .inr ⟨g,off,cs,h1,hk g cs ah,aw⟩
theorem iY.a6 (h:iY S w A c l) (hc:bh cn ts w w') (he:4∉ts):iY S w' A c l:=h.k1 fun _ _ hb=>hb.a6 hc he
theorem iY.iG (h:iY S w A c l) (hc:bh cn ts w w') (hd:∀ k,S k->¬ cn k):iY S w' A c l:=h.k1 fun _ _ hb=>hb.iG hc hd
theorem iY.below (h:iY S w A c l) (hb:Below w.heap.size w w'):iY S w' A c l:=h.k1 fun _ _ hx=>hx.below hb
theorem iY.mono (h:iY S w A c l) (hS:∀ k,k<w.heap.size->S k->cn k):iY cn w A c l:=h.k1 fun _ _ hx=>hx.mono hS
theorem iY.tail {b:Bool} (h:iY S w A c (b :: l)):iY S w (if c=1 then A else A.map (·.add 1)) (c-1) l:=by
 rcases h with ⟨_,h,_⟩|⟨g,off,cs,rfl,hb,h1,ah,aw,hc⟩
 ·cases h
 ·have ahW:∀ j x,l[j]? = some x->cs[off+1+j]? = some (.bool x):=fun j x aD=>by
   have:=hc (j+1) x (by simpa using aD)
   rwa [show off+(j+1)=off+1+j from af] at this
  simp only [cy] at ah
  by_cases he:c=1
  ·subst he
   rw [bB rfl];have hl:l = []:=Cx af;subst hl;exact .inr ⟨g,off,cs,rfl,hb,af,av,by unfold maxLen;omega,fun j x aD=>by simp at aD⟩
  ·rw [bp he]
   exact .inr ⟨g,off+1,cs,by simp [ko],hb,af,af,by unfold maxLen at *;omega,ahW⟩
end
theorem R2 (q:bL) (hn:q.ts.length<=12) (A:Option Addr) (c:Nat) (w:World):Calls prog 77 #[.agg (q.cells A c)] w (H6 (List.replicate q.ts.length (-1)) w):=by
 unfold bL.cells;obtain ⟨n,kc⟩:=aE q.ts.length;rw [kc] at hn ⊢
 clear kc;have dl:=J (ar.new w 26 #[.i q.bt,.i q.c1,.i q.c2,.i q.cw,.i q.r1,.i q.r2,.slice A n c,.i q.b2,.i q.ret,.i q.c9,.i q.dead]);have aA:=J ((aO w.heap.size w).alloc aF (.cells #[.i q.bt,.i q.c1,.i q.c2,.i q.cw,.i q.r1,.i q.r2,.slice A n c,.i q.b2,.i q.ret,.i q.c9,.i q.dead] 26));obtain ⟨aC,cU⟩:=aE (w.alloc (.cells #[.i q.bt,.i q.c1,.i q.c2,.i q.cw,.i q.r1,.i q.r2,.slice A n c,.i q.b2,.i q.ret,.i q.c9,.i q.dead] 26));have zu:=aeL n af aC;rw [cU] at dl aA
 have eo:=dl.cell;have b4:Hid (ar (aC.alloc (.cells (Array.replicate n (.i 0)) 3)) aC.heap.size 3 (iZ n 0 (fun _=>.i (-1)) (.i 0))):=by rw [I1];exact ar.new _ _ _
 have cA:=J (aA.alloc aA.size (.cells (Array.replicate n (.i 0)) 3));have lc:=J aA.size;clear dl aA
 go_enter func77,ntmps77
 go_wp2_with fail;clear eo zu cU;obtain ⟨aM,gx⟩:=aE (aC.alloc (.cells (Array.replicate n (.i 0)) 3));rw [gx] at b4 cA ⊢
 clear gx;obtain ⟨g,az⟩:=aE aC.heap.size;rw [az] at b4 lc ⊢
 clear az
 go_loopw [11] (fun ii wr=>∃ i:Nat,i<=n/\ii=.i i/\ar wr g 3 (iZ n i (fun _=>.i (-1)) (.i 0))/\Below w.heap.size w wr) (fun ii _=>n-(intOf ii).toNat)
 case atStart=>exact ⟨0,af,rfl,b4.out,cA.out⟩
 case round =>
  clear b4 cA;obtain ⟨i,hi,rfl,hk,hb⟩:=hrel;have dl:=J hk;have aA:=J hb;clear hk hb
  by_cases aT:i<n
  ·have cg:decide ((i:Int)<(n:Int))=true:=bO af
   have l0:decide (i<n)=true:=bO aT;have kA:(i:Int)<(n:Int):=af;have eo:wr.cell? ⟨g,i,none⟩=some (.i 0):=by rw [dl.cell,wG aT,bp af]
   have zq:=dl.frozen i;have bs:Hid (ar (wr.setCell ⟨g,i,none⟩ (.i (-1))) g 3 (iZ n (i+1) (fun _=>.i (-1)) (.i 0))):=by
    have:=dl.eW i (.i (-1))
    rwa [zQ (F:=fun _=>.i (-1)) aT] at this
   have iu:=J (aA.grown (w6 wr g i (.i (-1))) aA.size (fun k hk=>by injection hk with hk;have:=lc.out;omega));go_wp2_with fail
   go_roundw
   case rel=>exact ⟨i+1,af,cm,bs.out,iu.out⟩
   case measure=>exact c4
  ·obtain rfl:i=n:=by omega
   have cg:decide ((i:Int)<(i:Int))=false:=av;go_wp2_with fail;go_ret;refine ⟨g,by rw [H8];rfl,lc.out,?_,aA.out⟩;have:=dl.out
   rwa [I2 (l:=List.replicate i (.i (-1))) av (fun j aD=>by simp),<- List.map_replicate] at this
end Go.Proofs.YtmmchlfoplcnbaaGreatDoor
