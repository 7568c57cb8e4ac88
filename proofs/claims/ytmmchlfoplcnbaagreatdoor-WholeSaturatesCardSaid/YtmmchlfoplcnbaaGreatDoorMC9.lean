/- A part of the walk. -/
import Derived.Test.YtmmchlfoplcnbaaGreatDoorMB9
import Derived.Test.YtmmchlfoplcnbaaGreatDoorMB7
namespace Go.Proofs.YtmmchlfoplcnbaaGreatDoor
open Go Go.RowKit Tryz
set_option linter.all false
set_option maxRecDepth 100000
set_option maxHeartbeats 4000000
def nz (l:List bj) (i:Nat):List bj:=l.take i++l.drop (i+1)
theorem GJ (l:List bj) (i:Nat) (hi:i<l.length):(nz l i).length=l.length-1:=by unfold nz;simp;omega
def Pb (l:List bj) (i:Nat) (A:Option Addr) (c base:Nat) (w:World) (e:Ending) (w':World):Prop :=
 ∃ br a8,e=.returned (.slice br (l.length-1) a8)/\Own w' base 66 cR (.slice br (l.length-1) a8) (nz l i)/\w.grownBy w' (Value.slice A l.length c).ownBlock
section
variable {l:List bj} {i:Nat} {A:Option Addr} {c base:Nat} {w:World}
theorem Xo (hown:Own w base 66 cR (.slice A l.length c) l) (hl:l.length<=100000) (hi:i<l.length) :
  Calls prog 126 #[.slice A l.length c,.i i,.i ((i:Int)+1)] w (Pb l i A c base w):=by
 have bW:l≠[]:=by intro e;subst e;simp at hi
 obtain ⟨g,cap,p4,hval,iy,az,xa,nS,hcs,kO⟩:=th hown bW;injection hval with hA _ jO
 subst hA;subst jO;have fX:=yg hown;obtain ⟨n,hn⟩:∃ n,n=l.length:=⟨_,rfl⟩
 unfold Pb;rw [<- hn] at hown hi hl xa kO ⊢
 obtain ⟨cur,ik⟩:∃ cur:List Value,cur=p4.toList:=⟨_,rfl⟩
 have oH:p4=cur.toArray:=by rw [ik]
 rw [oH] at az hcs
 rw [<- ik] at kO
 have bZ:cur.length=c*12:=by simpa using hcs
 clear oH ik hcs;obtain ⟨i0,i',iP,hN,kP⟩:=Ko;have dH:(cR.all (l.drop (i+1))).length=(n-(i+1))*12:=by rw [cR.h3,rV];omega
 have lh:cur.take (i*12)=cR.all (l.take i):=by
  rw [cR.xb l i af,<- kO,vu,oF af]
 have Av:c<=9223372036854775807:=by simpa only [maxLen] using nS
 obtain ⟨h4,fQ,fY⟩:=rS g 66 (cR.all (l.drop (i+1))) (i*12) w.drew cur (by rw [dH,bZ];omega) az.drew;have mR:(Value.agg #[.string ⟨#[]⟩,.i 0,.bool false,.i 0,.i 0,.i 0,.i 0,.i 0,.i 0,.string ⟨#[]⟩,.i 0,.i 0]).cells.size=12:=rfl;have hcut:(cur.take (i*12)++cR.all (l.drop (i+1))++cur.drop (i*12+(cR.all (l.drop (i+1))).length)).length=c*12:=by rw [jN _ _ _ (by rw [dH,bZ];omega),bZ]
 obtain ⟨eJ,Aw⟩:∃ eJ,eJ=w.drew.setCells g (i*12) (cR.all (l.drop (i+1))):=⟨_,rfl⟩
 rw [<- Aw] at h4 fQ fY
 obtain ⟨gU,zs,hC,tj,li,er,kQ⟩:=O' (P:=prog) eJ 32 0 66 66 i0 _ underlying32 i' iP Xp (by rw [mR];omega) g ((n-1)*12) 1 (c-(n-1)) af _ h4 (by rw [hcut,mR];omega);have fL:w.grownBy gU (some g):=⟨er.os.trans fQ.os,er.tape.trans fQ.tape,er.output.trans fQ.output,by rw [kQ,fY];exact e3 _,fun k hk bW=>(er.block k (by rw [fY];exact hk) bW).trans (fQ.block k hk bW)⟩
 have gj:(Builtin.append_ #[32,32] 32 #[.slice (some ⟨g,0,none⟩) i c,.slice (if c=i+1 then some ⟨g,0,none⟩ else some ⟨g,(i+1)*12,none⟩) (n-(i+1)) (c-(i+1))]).run prog w.drew=.ok (.slice (some ⟨g,0,none⟩) (n-1) c) eJ:=by
  have Kp:i+(n-(i+1))=n-1:=af;have key:∀ (ad:Addr),(∀ j v,(cR.all (l.drop (i+1)))[j]? = some v->w.drew.cell? (ad.add j)=some v)->(Builtin.append_ #[32,32] 32 #[.slice (some ⟨g,0,none⟩) i c,.slice (some ad) (n-(i+1)) (c-(i+1))]).run prog w.drew=.ok (.slice (some ⟨g,0,none⟩) (n-1) c) eJ:=fun ad Kq=>by
   have h:=run_append_room_cells (P:=prog) w.drew 32 32 66 i0 underlying32 i' g 0 i c ad (n-(i+1)) (c-(i+1)) (cR.all (l.drop (i+1))) (by rw [dH,hN]) Kq (cR.s3 _) af
    (fun j aD=>by
     rw [dH] at aD
     rw [az.drew.cell,s8,hN,dF af];simp) (fun j _=>az.drew.frozen _)
   rw [Kp,hN,fw,<- Aw] at h
   exact h
  split
  ·refine key _ fun j v aD=>?_
   have:(cR.all (l.drop (i+1))).length=0:=by rw [dH,show n-(i+1)=0 from af]
   have:=(jv.1 aD).1;omega
  ·refine key _ fun j v aD=>?_
   rw [ko]
   show w.cell? _=_
   rw [yh cR l (i+1) j af] at aD
   exact fX _ v aD
 have ap:Hid (Own gU base 66 cR (.slice (some ⟨g,0,none⟩) (n-1) c) (nz l i)/\w.grownBy gU (some g)):=by
  refine ⟨?_,fL⟩;have fC:=GJ l i af;rw [<- hn] at fC
  rw [<- fC];refine ⟨cR.h3 _,.inr ⟨g,c,_,rfl,iy,li,af,nS,?_,?_⟩⟩
  ·rw [pp,<- tj,jN,hcut]
   rw [hcut,tj,mR];omega
  ·rw [fC]
   have aV:∀ (q zs r:List Value) (k:Nat),k<=q.length->(q.take k++zs++r).take k=q.take k:=fun q zs r k hk=>by
    rw [mq,D7 (by rw [fv];omega),vu,Nat.min_self]
   rw [aV _ _ _ _ (by rw [hcut];omega),rU (by rw [cd,fv,dH,bZ];omega),lh];unfold nz;rw [cR.all_append]
 have aq:=J hC;have tk:=J gj;have cU:IntKind.i64.wrap ((i:Int)+1)=(i:Int)+1:=by rw [mS];omega
 have vy:((i:Int)==(i:Int)+1)=false:=ji.2 af;have iA:(0:Int)<=(i:Int)+1:=af;have dI:(i:Int)+1<=(n:Int):=af;have Ax:((i:Int)+1).toNat=i+1:=af;have cV:n-1<=n:=af;have nT:¬ (c=n-1):=af;have eZ:n-(n-1)=1:=af;have fD:((n-1:Nat):Int)<=(n:Int):=af;have vz:i<=n:=af;have Xq:i<=c:=af;have Xr:i+1<=c:=af;have Xs:(i:Int)<=(c:Int):=af;have s6:n<=c:=af;clear fX dH i' iP hN kP hC az h4 li fQ er fY kQ fL lh bZ hcut tj hn hown gj kO Aw;have mixed:prog.follows Departure.mixedOrders=true:=ai
 by_cases hce:c=i+1
 ·rw [bB hce] at tk
  subst hce;rw [Nat.sub_self] at tk
  have qT:(i:Int)<=(i:Int)+1:=af
  go_enter func126,ntmps126
  go_wp2_with fail
  go_region_law_o (refine GD rfl (.tmp 22) (.tmp 25) 32 32 rfl _ _ (by simp [Act.eval,Act.put]) (by simp [Act.eval,Act.put];omega) tk.out ?_)
  go_wp2_with (refine GF rfl (.tmp 31) 32 rfl _ rfl aq.out ?_)
  go_ret;exact ⟨_,_,rfl,ap.1,ap.2⟩
 ·rw [bp hce] at tk
  go_enter func126,ntmps126
  go_wp2_with fail
  go_region_law_o (refine GD rfl (.tmp 22) (.tmp 25) 32 32 rfl _ _ (by simp [Act.eval,Act.put]) (by simp [Act.eval,Act.put]) tk.out ?_)
  go_wp2_with (refine GF rfl (.tmp 31) 32 rfl _ rfl aq.out ?_)
  go_ret;exact ⟨_,_,rfl,ap.1,ap.2⟩
end
theorem GK (l:List bj) (A:Option Addr) (c:Nat) (w:World) (hr:a7 w cR A l) (hl:l.length<=100000) :
  Calls prog 68 #[.slice A l.length c] w fun e w'=>∃ br a8,e=.returned (.slice br l.length a8)/\Own w' w.heap.size 66 cR (.slice br l.length a8) l/\Below w.heap.size w w':=by
 have bx:=J hr;clear hr;have Pc:∀ (w:World) (a:Option Addr) (n c jw a8:Nat),(binOp .eql 32 (.slice a n c) (.slice none jw a8)).run prog w=.ok (.bool a.isNone) w:=fun w a n c jw a8=>Lib.run_eql_slice_nil w _ _ a n c jw a8 underlying32
 cases A with
 | none =>
  have eI:l = []:=by
   rcases Kr l with h|⟨eK,x,h⟩
   ·exact h
   ·obtain ⟨b,off,ah,_⟩:=bx.out (by rw [h];simp)
    cases ah
  subst eI;have bJ:=J (Own.e8 w w.heap.size 66 cR)
  go_enter func68,ntmps68
  go_wp2_with fail;go_ret;exact ⟨none,0,rfl,bJ.out,aO _ _⟩
 | some a =>
  go_enter func68,ntmps68
  go_wp2_with (at_builtin;refine Ks J7 cR rfl (.tmp 5) (.tmp 6) rfl rfl _ l c rfl bx af af ?_;intro bz dv aC ho hb;have aB:=J (ae ho hb);clear ho hb)
  go_ret;exact ⟨bz,dv,rfl,aB.1,aB.2⟩
theorem aeM (w:World):Below w.heap.size w w.drew:=⟨rfl,rfl,rfl,e3 _,fun _ _=>rfl⟩
theorem Own.newRow {α:Type} {size:Nat} {E:cu α size} (w:World) (e:TypeId) (l:List α) (cs:Array Value) (hc:cs.toList=E.all l) (hm:l.length<=9223372036854775807):Own (w.alloc (.cells cs e)) w.heap.size e E (.slice (some ⟨w.heap.size,0,none⟩) l.length l.length) l:=Own.made w w.heap.size e E l cs hc aF hm
theorem TH (x:Int) (aI:0<=x) (h1:x<=4294967295) (w:World):Calls prog 242 #[.i x] w fun e w'=>∃ g,e=.returned (.slice (some ⟨g,0,none⟩) 4 4)/\Own w' w.heap.size 5 cO (.slice (some ⟨g,0,none⟩) 4 4) (four x)/\Below w.heap.size w w':=by
 have ap:Hid (Own (w.alloc (.cells #[.int .u8 (x % 256),.int .u8 (x / 256 % 256),.int .u8 (x / 65536 % 256),.int .u8 (x / 16777216)] 5)) w.heap.size 5 cO (.slice (some ⟨w.heap.size,0,none⟩) 4 4) (four x)/\Below w.heap.size w (w.alloc (.cells #[.int .u8 (x % 256),.int .u8 (x / 256 % 256),.int .u8 (x / 65536 % 256),.int .u8 (x / 16777216)] 5))) :=
  ⟨Own.newRow w 5 (four x) _ (by rw [TI x aI h1]) (by simp [four]),(aO _ _).alloc aF _⟩
 go_enter func242,ntmps242
 go_wp2_with fail;go_ret;exact ⟨w.heap.size,rfl,ap.1,ap.2⟩
theorem aeN (n:Nat) (hn:n<=100000000) (w:World):Calls prog 298 #[.slice none 0 0,.i n] w fun e w'=>∃ A c,e=.returned (.slice A 0 c)/\Own w' w.heap.size 5 cO (.slice A 0 c) []/\Below w.heap.size w w':=by
 by_cases aI:n=0
 ·subst aI
  refine (Any8.slices_Grow_room growB none 0 0 0 w af af af af).mono ?_;rintro e w' ⟨rfl,rfl⟩;exact ⟨none,0,rfl,Own.e8 _ _ _ _,aO _ _⟩
 ·obtain ⟨i,h1,ah,aw,bn⟩:=info_parts (show (prog.info? 5).map (fun i=>(i.zero,i.size,i.bytes))=some (some (.int .u8 0),1,1) by kernel_rfl)
  refine (Any8.slices_Grow_grow growB i _ h1 ah af none 0 0 n [] w af af (by rw [bn];omega) af av (fun _=>rfl) (fun a ha=>by cases ha)).mono ?_;rintro e w' ⟨rfl,rfl⟩;refine ⟨_,_,rfl,⟨rfl,.inr ⟨w.heap.size,_,_,rfl,e3 _,ya w.drew _,p3 _,?_,?_,by simp [cu.all]⟩⟩,(aeM w).trans (show Below w.heap.size w.drew _ from (aO w.heap.size w.drew).alloc aF _)⟩
  ·exact GN w (0+n) 0 _ (by unfold maxLen;omega)
  ·have az:=grownCap_ge w (0+n) 0 (growB_ren.t 25)
   rw [Array.size_append,Array.size_append,w9,w9]
   show 0+(0+n-0)*1+(grownCap w (0+n) 0 (growB_ren.t 25)-(0+n))*1=grownCap w (0+n) 0 (growB_ren.t 25)*1
   omega
def rG (w:World):List (List UInt8)->List lX->Prop
 | [],[]=>True
 | l :: L,r :: R=>(r.n=l.length/\a7 w cO r.A l)/\rG w L R
 | _,_=>False
theorem rG.below {w w':World} (hb:Below w.heap.size w w'):∀ {L:List (List UInt8)} {R:List lX},rG w L R->rG w' L R
 | [],[],_=>trivial
 | _ :: _,_ :: _,h=>⟨⟨h.1.1,h.1.2.below hb⟩,rG.below hb h.2⟩
 | [],_ :: _,h=>h.elim
 | _ :: _,[],h=>h.elim
theorem rG.len {w:World}:∀ {L:List (List UInt8)} {R:List lX},rG w L R->R.length=L.length
 | [],[],_=>rfl
 | _ :: _,_ :: _,h=>by rw [cy,cy,rG.len h.2]
 | [],_ :: _,h=>h.elim
 | _ :: _,[],h=>h.elim
theorem rG.at_ {w:World}:∀ {L:List (List UInt8)} {R:List lX} (_:rG w L R) {k:Nat} {l:List UInt8} {r:lX},L[k]? = some l->R[k]? = some r->r.n=l.length/\a7 w cO r.A l
 | _ :: _,_ :: _,h,0,l,r,hd,hr=>by
  simp only [yQ,Ff] at hd hr
  subst hd;subst hr;exact h.1
 | _ :: _,_ :: _,h,k+1,l,r,hd,hr=>rG.at_ h.2 (k:=k) (by simpa using hd) (by simpa using hr)
 | [],[],_,k,l,r,hd,hr=>by simp at hd
 | [],_ :: _,h,k,l,r,hd,hr=>h.elim
 | _ :: _,[],h,k,l,r,hd,hr=>h.elim
theorem TJ (L:List (List UInt8)) (k:Nat) (l:List UInt8) (h:L[k]? = some l):(L.take (k+1)).flatten=(L.take k).flatten++l:=by
 obtain ⟨hl,e⟩:=jv.1 h;rw [gS hl,e];simp
theorem aeO (L:List (List UInt8)) (k:Nat):(L.take k).flatten.length<=L.flatten.length:=by
 conv=>rhs;rw [<- p1 k L,List.flatten_append,cd]
 omega
theorem aeP (L:List (List UInt8)) (R:List lX) (b c:Nat) (w:World) (hr:a7 w zt (some ⟨b,0,none⟩) R) (eT:rG w L R) (hR:R.length<=100) (hn:L.flatten.length<=100000000) :
  Calls prog 241 #[.slice (some ⟨b,0,none⟩) R.length c] w (Fb cO 5 L.flatten w):=by
 have bx:=J (ae hr eT);have kS:=J eT.len;have bs:=J hn;have bN:=J (aeO L);clear hr eT
 go_enter func241,ntmps241
 go_wp2_with fail
 go_loopw [3,11] (fun pI ii wr=>∃ (i:Nat),i<=R.length/\ii=.i i/\pI=.i (L.take i).flatten.length/\wr=w) (fun _ ii _=>R.length-(intOf ii).toNat)
 case atStart=>exact ⟨0,af,rfl,rfl,rfl⟩
 case round =>
  obtain ⟨i,hi,rfl,rfl,rfl⟩:=hrel;have Na:=bN.out i;have xM:=bs.out
  by_cases aT:i<R.length
  ·have cg:decide ((i:Int)<(R.length:Int))=true:=bO af
   have l0:decide (i<R.length)=true:=bO aT;have kA:(i:Int)<(R.length:Int):=af;obtain ⟨r,hr⟩:∃ r,R[i]? = some r:=⟨_,dF aT⟩
   obtain ⟨l,hl⟩:∃ l,L[i]? = some l:=⟨_,dF (by have:=kS.out;omega)⟩
   obtain ⟨h1,ah⟩:=bx.2.at_ hl hr;have iv:=Mu bx.1 hr;rw [fw,h1] at iv
   have fI:=bN.out (i+1);have cC:=J (TJ L i l hl);rw [cC.out,cd] at fI
   obtain ⟨s,hs⟩:=aE ((L.take i).flatten.length);have aP:=J hs;rw [hs] at fI Na ⊢
   have aV:decide (((s:Int)+(l.length:Int))<0)=false:=cX af;have bE:(s:Int)+(l.length:Int)<=100000000:=af;clear hs hr hl h1 ah xM;go_wp2_with fail
   go_roundw
   case rel=>exact ⟨i+1,af,cm,by rw [cC.out,cd,aP.out];go_num,trivial⟩
   case measure=>exact c4
  ·obtain rfl:i=R.length:=by omega
   have cg:decide ((R.length:Int)<(R.length:Int))=false:=av;have fX:L.take R.length=L:=pB (by have:=kS.out;omega);rw [fX];rw [fX] at Na
   have TK:=J fX;clear fX;obtain ⟨s,hs⟩:=aE L.flatten.length;have aP:=J hs;rw [hs] at xM ⊢
   have b4:=J (aeN s xM wr);clear hs Na;go_wp2_with fail;refine b4.mono ?_;rintro e aC ⟨xI,bt,rfl,BW,ff⟩;have ao:=J (ae BW ff);clear BW ff;go_wp2_with fail;obtain ⟨eh,rfl⟩:∃ W,W=wr:=⟨_,rfl⟩
   go_loopw [6,27] (fun pE ii wv=>∃ (i:Nat) (A:Option Addr) (c:Nat),i<=R.length/\ii=.i i/\pE=.slice A (L.take i).flatten.length c/\Own wv eh.heap.size 5 cO (.slice A (L.take i).flatten.length c) (L.take i).flatten/\Below eh.heap.size eh wv) (fun _ ii _=>R.length-(intOf ii).toNat)
   case atStart=>exact ⟨0,xI,bt,af,rfl,rfl,ao.1,ao.2⟩
   case round =>
    clear ao;obtain ⟨i,bz,c1,hi,rfl,rfl,gV,bV⟩:=hrel;have ao:=J (ae gV bV);clear gV bV
    by_cases aT:i<R.length
    ·have cg:decide ((i:Int)<(R.length:Int))=true:=bO af
     have l0:decide (i<R.length)=true:=bO aT;have kA:(i:Int)<(R.length:Int):=af;obtain ⟨r,hr⟩:∃ r,R[i]? = some r:=⟨_,dF aT⟩
     obtain ⟨l,hl⟩:∃ l,L[i]? = some l:=⟨_,dF (by have:=kS.out;omega)⟩
     obtain ⟨h1,ah⟩:=(bx.2.below ao.2).at_ hl hr;have iv:=Mu (bx.1.below ao.2) hr;rw [fw,h1] at iv
     have kW:=J ah;have cC:=J (TJ L i l hl);have fI:=bN.out (i+1);rw [cC.out,cd] at fI
     have FG:=J (gT fI bs);clear hr hl h1 ah fI;obtain ⟨F,hF⟩:=aE ((L.take i).flatten);rw [hF] at ao cC FG ⊢
     clear hF
     go_wp2_with (at_builtin;refine hW tG cO rfl (.tmp 31) (.tmp 32) rfl eh.heap.size _ F rfl ao.1 r.A l r.c rfl kW (by have:=FG.out;omega) (by have:=FG.out;omega) (by exact ao.2.size) ?_;intro br a8 w3 ee er _)
     have kV:=J ee;have e0:=J (ao.1.jX ao.2 er aF ao.2.size);clear ee er;go_wp2_with fail
     go_roundw
     case rel=>exact ⟨i+1,br,a8,af,cm,by rw [cC.out,cd],by rw [cC.out,cd];exact kV.out,e0.out⟩
     case measure=>exact c4
    ·obtain rfl:i=R.length:=by omega
     have cg:decide ((R.length:Int)<(R.length:Int))=false:=av;go_wp2_with fail;go_ret;exact ⟨bz,c1,by rw [TK.out];rfl,by have:=ao.1;rwa [TK.out] at this,ao.2⟩
def DJ (v:Nat) (l:List UInt8):List UInt8:=[[66,76,71,49],four v,four l.length,l].flatten
def k0 (v:Nat) (l:List UInt8):List UInt8:=BD (DJ v l)
theorem Mn (v:Nat) (l:List UInt8):(DJ v l).length=l.length+12:=by simp [DJ,four]
theorem adb (v:Nat) (hv:v<=4294967295) (l:List UInt8) (hl:l.length<=1048576) (A:Option Addr) (c:Nat) (w:World) (hr:a7 w cO A l) :
  Calls prog 186 #[.i v,.slice A l.length c] w fun e w'=>∃ br a8,e=.returned (.tuple #[.slice br (k0 v l).length a8,.i 0])/\Own w' w.heap.size 5 cO (.slice br (k0 v l).length a8) (k0 v l)/\Below w.heap.size w w':=by
 have bx:=J hr;have ag:Hid (a7 (w.alloc (.cells #[.int .u8 66,.int .u8 76,.int .u8 71,.int .u8 49] 5 (4,5))) cO (some ⟨w.heap.size,0,none⟩) [66,76,71,49]/\Below w.heap.size w (w.alloc (.cells #[.int .u8 66,.int .u8 76,.int .u8 71,.int .u8 49] 5 (4,5)))) :=
  ⟨a7.made w cO [66,76,71,49] 5 _ (4,5) rfl,(aO _ _).alloc aF _⟩
 have hcv:(convert 87 87 (.slice (some ⟨w.heap.size,0,none⟩) 4 4)).run prog (w.alloc (.cells #[.int .u8 66,.int .u8 76,.int .u8 71,.int .u8 49] 5))=.ok (.slice (some ⟨w.heap.size,0,none⟩) 4 4) (w.alloc (.cells #[.int .u8 66,.int .u8 76,.int .u8 71,.int .u8 49] 5 (4,5))):=Lib.run_convert_bytes_const w 87 5 #[.int .u8 66,.int .u8 76,.int .u8 71,.int .u8 49] 4 4 underlying87 underlying5;have TL:=J (fun W=>TH (v:Int) af af W);have FH:=J (fun W=>TH (l.length:Int) af af W);have d1:decide ((v:Int)<0)=false:=cX af;have d2:decide ((v:Int)>=4294967296)=false:=cX af;have d3:decide ((l.length:Int)>1048576)=false:=cX af;have d4:v<4294967296:=af;clear hr
 go_enter func186,ntmps186
 go_wp2_with fail;refine (TL.out _).mono ?_;rintro e aC ⟨g1,rfl,gV,bV⟩;have my:=J (ae (ag.1.below bV) (ae gV (ag.2.trans (bV.mono ag.2.size))));clear gV bV ag TL hcv;go_wp2_with fail;refine (FH.out _).mono ?_;rintro e aM ⟨g2,rfl,e9,bY⟩;have jz:=J (ae (my.1.below bY) (ae (my.2.1.below bY aF) (ae e9 (my.2.2.trans (bY.mono my.2.2.size)))));clear e9 bY my FH;have bu:Below aM.heap.size aM (aM.alloc (.cells #[.slice (some ⟨w.heap.size,0,none⟩) 4 4,.slice (some ⟨g1,0,none⟩) 4 4,.slice (some ⟨g2,0,none⟩) 4 4,.slice A l.length c] 87)):=(aO _ _).alloc aF _;have aq:=J (aeP [[66,76,71,49],four v,four l.length,l] [⟨some ⟨w.heap.size,0,none⟩,4,4⟩,⟨some ⟨g1,0,none⟩,4,4⟩,⟨some ⟨g2,0,none⟩,4,4⟩,⟨A,l.length,c⟩] aM.heap.size 4 _
  (a7.made aM zt _ 87 #[.slice (some ⟨w.heap.size,0,none⟩) 4 4,.slice (some ⟨g1,0,none⟩) 4 4,.slice (some ⟨g2,0,none⟩) 4 4,.slice A l.length c] (0,0) rfl)
  (rG.below bu ⟨⟨rfl,jz.1⟩,⟨rfl,jz.2.1.cZ⟩,⟨rfl,jz.2.2.1.cZ⟩,⟨rfl,bx.below jz.2.2.2⟩,trivial⟩) av (by have:=Mn v l;unfold DJ at this;omega))
 have e0:=J (jz.2.2.2.trans (bu.mono jz.2.2.2.size));have wH:Hid ([[66,76,71,49],four v,four l.length,l].flatten=DJ v l):=rfl;rw [wH.out] at aq
 clear bu jz;have FE:=Mn v l;generalize TM:DJ v l=X at *
 have aB:=J TM;have aeQ:X.length<=100000000:=af;clear TM FE;go_wp2_with fail;refine aq.mono ?_;rintro e eD ⟨oN,fA,rfl,oM,iA⟩;have kl:=J (e0.trans (iA.mono e0.size));have aP:=J (aeR X oN fA eD oM.cZ oM.plain aeQ);clear oM iA;go_wp2_with fail;refine aP.mono ?_;rintro e bc ⟨hQ,c5,rfl,hD,dI⟩;have dp:=J (kl.trans (dI.mono kl.size));have ra:=J (hD.mono kl.size);clear hD dI;go_wp2_with fail
 go_ret2
 have e:k0 v l=BD X:=by unfold k0;rw [aB.out]
 rw [e];exact ⟨hQ,c5,rfl,ra.out,dp.out⟩
end Go.Proofs.YtmmchlfoplcnbaaGreatDoor
