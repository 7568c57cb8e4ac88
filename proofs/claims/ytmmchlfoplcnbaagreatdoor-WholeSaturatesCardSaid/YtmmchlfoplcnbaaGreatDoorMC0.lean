/- A part of the walk. -/
import Derived.Test.YtmmchlfoplcnbaaGreatDoorMB8
import Derived.Test.YtmmchlfoplcnbaaGreatDoorMB5
import Derived.Test.YtmmchlfoplcnbaaGreatDoorMB9
namespace Go.Proofs.YtmmchlfoplcnbaaGreatDoor
open Go Go.RowKit Tryz
set_option linter.all false
set_option maxRecDepth 100000
set_option maxHeartbeats 4000000
structure vn where
 cap:cr
 room:cr
 A:Option Addr
 ts:List eH
 n:Nat
 b2:Int
 ret:Int
 c9:Int
 dead:Int
abbrev vn.cells (f:vn):Array Value:=#[.i f.cap.a,.i f.cap.b,.i f.cap.c,.i f.room.a,.i f.room.b,.i f.room.c,.slice f.A f.ts.length f.n,.i f.b2,.i f.ret,.i f.c9,.i f.dead]
theorem Al:(prog.info? 172).map (·.size)=some 3:=ai
def dM (l:List bj):List aQ:=l.map bj.aa
def Gu (room:cr) (p:aQ) (l:List bj) (a b c:Bool) (k s:Int) (O:List ByteArray) (err:Int):Prop :=
 (p.right=false/\k=0/\s=0/\O = []/\err=1) \/
 (p.right=true/\jL l p.id=true/\k=0/\s=0/\O = []/\err=5) \/
 (p.right=true/\jL l p.id=false/\64<=l.length/\k=0/\s=0/\O = []/\err=6) \/
 (p.right=true/\jL l p.id=false/\l.length<64/\(k9 a b c p).2=true/\k=3/\s=(k9 a b c p).1/\O = []/\err=0) \/
 (p.right=true/\jL l p.id=false/\l.length<64/\(k9 a b c p).2=false/\s=0/\err=0/\∃ eQ,wU room p (dM l) O eQ/\k=if eQ=false then 4 else if O = [] then 1 else 2)
def WO (room:cr) (p:aQ) (l:List bj) (a b c:Bool) (w:World) (e:Ending) (w':World):Prop :=
 ∃ (k s:Int) (O:List ByteArray) (err:Int) (A:Option Addr) (n:Nat),e=.returned (.tuple #[.agg #[.i k,.i s,.slice A O.length n],.i err])/\Gu room p l a b c k s O err/\Own w' w.heap.size 9 encS (.slice A O.length n) O/\Below w.heap.size w w'
theorem OY {p:aQ} {v:Bool} (hv:p.right=v) (w:World) (hp:p.fe) :
  Calls prog 120 #[.agg p.cells] w fun e w'=>e=.returned (.bool v)/\Below w.heap.size w w':=by subst hv;exact OZ p w hp
structure rQ (f:vn) (a b c:Bool) (p:aQ) (w W:World):Prop where
 ej:ar W (w.heap.size) 26 #[.i f.cap.a,.i f.cap.b,.i f.cap.c,.i f.room.a,.i f.room.b,.i f.room.c,.slice f.A f.ts.length f.n,.i f.b2,.i f.ret,.i f.c9,.i f.dead]
 on:ar W (w.heap.size+1) 33 #[.bool a,.bool b,.bool c]
 mQ:ar W (w.heap.size+1+1) 40 #[.string p.id,.i p.prio,.bool p.bo,.i p.bg,.i p.aX,.i p.ba,.i p.bk,.i p.bl,.i p.aW,.string p.bb,.i p.size]
 sY:ar W (w.heap.size+1+1+1) 172 #[.i 0,.i 0,.slice none 0 0]
 aR:Below w.heap.size w W
theorem rQ.below {f:vn} {a b c:Bool} {p:aQ} {w W W':World} (h:rQ f a b c p w W) (hb:Below W.heap.size W W'):rQ f a b c p w W':=⟨h.ej.bw hb,h.on.bw hb,h.mQ.bw hb,h.sY.bw hb,h.aR.trans (hb.mono h.aR.size)⟩
theorem rQ.alloc {f:vn} {a b c:Bool} {p:aQ} {w W:World} (h:rQ f a b c p w W) (o:Obj):rQ f a b c p w (W.alloc o):=⟨h.ej.alloc o,h.on.alloc o,h.mQ.alloc o,h.sY.alloc o,h.aR.alloc h.aR.size o⟩
theorem rQ.drew {f:vn} {a b c:Bool} {p:aQ} {w W:World} (h:rQ f a b c p w W):rQ f a b c p w W.drew:=⟨h.ej.drew,h.on.drew,h.mQ.drew,h.sY.drew,h.aR.drew⟩
theorem rQ.new (f:vn) (a b c:Bool) (p:aQ) (w:World):rQ f a b c p w ((((w.alloc (.cells #[.i f.cap.a,.i f.cap.b,.i f.cap.c,.i f.room.a,.i f.room.b,.i f.room.c,.slice f.A f.ts.length f.n,.i f.b2,.i f.ret,.i f.c9,.i f.dead] 26)).alloc (.cells #[.bool a,.bool b,.bool c] 33)).alloc (.cells #[.string p.id,.i p.prio,.bool p.bo,.i p.bg,.i p.aX,.i p.ba,.i p.bk,.i p.bl,.i p.aW,.string p.bb,.i p.size] 40)).alloc (.cells #[.i 0,.i 0,.slice none 0 0] 172)):=by
 have gu:(w.alloc (.cells #[.i f.cap.a,.i f.cap.b,.i f.cap.c,.i f.room.a,.i f.room.b,.i f.room.c,.slice f.A f.ts.length f.n,.i f.b2,.i f.ret,.i f.c9,.i f.dead] 26)).heap.size=w.heap.size+1:=av;have z2:((w.alloc (.cells #[.i f.cap.a,.i f.cap.b,.i f.cap.c,.i f.room.a,.i f.room.b,.i f.room.c,.slice f.A f.ts.length f.n,.i f.b2,.i f.ret,.i f.c9,.i f.dead] 26)).alloc (.cells #[.bool a,.bool b,.bool c] 33)).heap.size=w.heap.size+1+1:=av;have z3:(((w.alloc (.cells #[.i f.cap.a,.i f.cap.b,.i f.cap.c,.i f.room.a,.i f.room.b,.i f.room.c,.slice f.A f.ts.length f.n,.i f.b2,.i f.ret,.i f.c9,.i f.dead] 26)).alloc (.cells #[.bool a,.bool b,.bool c] 33)).alloc (.cells #[.string p.id,.i p.prio,.bool p.bo,.i p.bg,.i p.aX,.i p.ba,.i p.bk,.i p.bl,.i p.aW,.string p.bb,.i p.size] 40)).heap.size=w.heap.size+1+1+1:=av;have b0:=ar.new w 26 #[.i f.cap.a,.i f.cap.b,.i f.cap.c,.i f.room.a,.i f.room.b,.i f.room.c,.slice f.A f.ts.length f.n,.i f.b2,.i f.ret,.i f.c9,.i f.dead];have bX:=ar.new (w.alloc (.cells #[.i f.cap.a,.i f.cap.b,.i f.cap.c,.i f.room.a,.i f.room.b,.i f.room.c,.slice f.A f.ts.length f.n,.i f.b2,.i f.ret,.i f.c9,.i f.dead] 26)) 33 #[.bool a,.bool b,.bool c];rw [gu] at bX
 have cY:=ar.new ((w.alloc (.cells #[.i f.cap.a,.i f.cap.b,.i f.cap.c,.i f.room.a,.i f.room.b,.i f.room.c,.slice f.A f.ts.length f.n,.i f.b2,.i f.ret,.i f.c9,.i f.dead] 26)).alloc (.cells #[.bool a,.bool b,.bool c] 33)) 40 #[.string p.id,.i p.prio,.bool p.bo,.i p.bg,.i p.aX,.i p.ba,.i p.bk,.i p.bl,.i p.aW,.string p.bb,.i p.size];rw [z2] at cY
 have pd:=ar.new (((w.alloc (.cells #[.i f.cap.a,.i f.cap.b,.i f.cap.c,.i f.room.a,.i f.room.b,.i f.room.c,.slice f.A f.ts.length f.n,.i f.b2,.i f.ret,.i f.c9,.i f.dead] 26)).alloc (.cells #[.bool a,.bool b,.bool c] 33)).alloc (.cells #[.string p.id,.i p.prio,.bool p.bo,.i p.bg,.i p.aX,.i p.ba,.i p.bk,.i p.bl,.i p.aW,.string p.bb,.i p.size] 40)) 172 #[.i 0,.i 0,.slice none 0 0];rw [z3] at pd
 have aR:Below w.heap.size w ((((w.alloc (.cells #[.i f.cap.a,.i f.cap.b,.i f.cap.c,.i f.room.a,.i f.room.b,.i f.room.c,.slice f.A f.ts.length f.n,.i f.b2,.i f.ret,.i f.c9,.i f.dead] 26)).alloc (.cells #[.bool a,.bool b,.bool c] 33)).alloc (.cells #[.string p.id,.i p.prio,.bool p.bo,.i p.bg,.i p.aX,.i p.ba,.i p.bk,.i p.bl,.i p.aW,.string p.bb,.i p.size] 40)).alloc (.cells #[.i 0,.i 0,.slice none 0 0] 172)):=((((aO w.heap.size w).alloc aF _).alloc (by rw [gu];omega) _).alloc (by rw [z2];omega) _).alloc (by rw [z3];omega) _;exact ⟨(((b0.alloc _).alloc _).alloc _),((bX.alloc _).alloc _),(cY.alloc _),pd,aR⟩
theorem WQ (l:List bj) (i:Nat) (hi:i<l.length):dM (l.take (i+1))=dM (l.take i)++[l[i].aa]:=by
 unfold dM;rw [gS hi,nQ]
 rfl
theorem O0 (l:List bj):(dM l).length=l.length:=by unfold dM;simp
theorem O1 (f:vn) (l:List bj) (a b c:Bool) (p:aQ) (A:Option Addr) (n:Nat) (w:World) (hr:a7 w cR A l) (hw:∀ x∈l,x.aa.fe) (hm:l.length<=9223372036854775807) (hp:p.fe) :
  Calls prog 82 #[.agg f.cells,.slice A l.length n,.agg #[.bool a,.bool b,.bool c],.agg p.cells] w (WO f.room p l a b c w):=by
 have J3:∀ (fn:Fn) (first cap:Array Value) (w:World),(Instr.makeFunc fn first cap).run prog w=.ok (.func fn first cap) w:=fun _ _ _ _=>rfl
 have ao:=J (rQ.new f a b c p w);have bx:=J hr;have fk:=J hw;have vo:=J hp;clear hr hw hp;obtain ⟨v1,nR⟩:=aE p.right;obtain ⟨v2,DW⟩:=aE (jL l p.id);obtain ⟨s0,DX⟩:=aE ((k9 a b c p).1);obtain ⟨v3,x7⟩:=aE ((k9 a b c p).2);have H1:=J nR;have ju:=J DW;have wV:=J (ae DX x7);clear nR DW DX x7
 go_enter func82,ntmps82
 go_wp2_with fail;refine (OY H1 _ vo).mono ?_;rintro e aC ⟨rfl,hb⟩;have ao:=J (ao.below hb);clear hb
 cases v1
 ·have O2:True:=trivial
  go_wp2_with (refine ch rfl 172 (.tmp 8) (.tmp 21) rfl (w.heap.size+1+1+1) 172 #[.i 0,.i 0,.slice none 0 0] #[.i 0,.i 0,.slice none 0 0] rfl rfl ao.sY rfl Al cc ?_;intro bc bS bP dx)
  have dn:=bS.cell;have dp:Below w.heap.size w bc:=ao.aR.grown bP ao.aR.size dP;exact cS (v:=.tuple #[.agg #[.i 0,.i 0,.slice none 0 0],.i 1]) (by simp [results,results82,go_sem,dn]) rfl (⟨_,_,[],_,none,0,rfl,.inl ⟨H1.out,rfl,rfl,rfl,rfl⟩,Own.e8 _ _ _ _,dp⟩)
 ·have rP:=ao.mQ.cell
  go_wp2_with fail;refine (WN l p (w.heap.size+1+1) A n _ ju (bx.below ao.aR) hm ao.mQ).mono ?_;rintro e aM ⟨rfl,hb⟩;have ao:=J (ao.below hb);clear hb rP
  cases v2
  rotate_left
  ·have O2:True:=trivial
   go_wp2_with (refine ch rfl 172 (.tmp 8) (.tmp 26) rfl (w.heap.size+1+1+1) 172 #[.i 0,.i 0,.slice none 0 0] #[.i 0,.i 0,.slice none 0 0] rfl rfl ao.sY rfl Al cc ?_;intro bc bS bP dx)
   have dn:=bS.cell;have dp:Below w.heap.size w bc:=ao.aR.grown bP ao.aR.size dP;exact cS (v:=.tuple #[.agg #[.i 0,.i 0,.slice none 0 0],.i 5]) (by simp [results,results82,go_sem,dn]) rfl (⟨_,_,[],_,none,0,rfl,.inr (.inl ⟨H1.out,ju.out,rfl,rfl,rfl,rfl⟩),Own.e8 _ _ _ _,dp⟩)
  ·by_cases hl:64<=l.length
   ·have vp:decide ((64:Int)<=(l.length:Int))=true:=bO af
    have O3:decide (64<=l.length)=true:=bO hl
    go_wp2_with (refine ch rfl 172 (.tmp 8) (.tmp 31) rfl (w.heap.size+1+1+1) 172 #[.i 0,.i 0,.slice none 0 0] #[.i 0,.i 0,.slice none 0 0] rfl rfl ao.sY rfl Al cc ?_;intro bc bS bP dx)
    have dn:=bS.cell;have dp:Below w.heap.size w bc:=ao.aR.grown bP ao.aR.size dP;exact cS (v:=.tuple #[.agg #[.i 0,.i 0,.slice none 0 0],.i 6]) (by simp [results,results82,go_sem,dn]) rfl (⟨_,_,[],_,none,0,rfl,.inr (.inr (.inl ⟨H1.out,ju.out,hl,rfl,rfl,rfl,rfl⟩)),Own.e8 _ _ _ _,dp⟩)
   ·have vp:decide ((64:Int)<=(l.length:Int))=false:=cX af
    have O3:decide (64<=l.length)=false:=cX hl;have jh:l.length<64:=af;clear hl;have rP:=ao.mQ.cell;have WR:=ao.on.cell;go_wp2_with fail;refine (WE a b c p _).mono ?_;rintro e w3 ⟨rfl,hb⟩;have ao:=J (ao.below hb);clear hb rP WR;rw [wV.1,wV.2]
    cases v3
    rotate_left
    ·have O2:True:=trivial
     go_wp2_with (refine ch rfl 172 (.tmp 8) (.tmp 40) rfl (w.heap.size+1+1+1) 172 #[.i 0,.i 0,.slice none 0 0] #[.i 3,.i s0,.slice none 0 0] rfl rfl ao.sY rfl Al cc ?_;intro bc bS bP dx)
     have dn:=bS.cell;have dp:Below w.heap.size w bc:=ao.aR.grown bP ao.aR.size dP;exact cS (v:=.tuple #[.agg #[.i 3,.i s0,.slice none 0 0],.i 0]) (by simp [results,results82,go_sem,dn]) rfl (⟨_,_,[],_,none,0,rfl,.inr (.inr (.inr (.inl ⟨H1.out,ju.out,jh,wV.2,rfl,wV.1.symm,rfl,rfl⟩))),Own.e8 _ _ _ _,dp⟩)
    ·have qL:=J (bx.below ao.aR)
     go_wp2_with fail
     go_loopw [12,43] (fun st ii wr=>∃ (i:Nat) (bz:Option Addr) (c1:Nat),i<=l.length/\ii=.i i/\st=.slice bz (dM (l.take i)).length c1/\Own wr w3.heap.size 40 gv (.slice bz (dM (l.take i)).length c1) (dM (l.take i))/\Below w3.heap.size w3 wr) (fun _ ii _=>l.length-(intOf ii).toNat)
     case atStart=>exact ⟨0,none,0,af,rfl,rfl,Own.e8 _ _ _ _,aO _ _⟩
     case round =>
      obtain ⟨i,bz,c1,hi,rfl,rfl,ho,du⟩:=hrel;have ap:=J (ae ho du);clear ho du;have p0:Hid ((dM (l.take i)).length<=l.length):=by show _<=_;rw [O0,fv];omega
      by_cases aT:i<l.length
      ·have cg:decide ((i:Int)<(l.length:Int))=true:=bO af
       have lG:(i:Int)<(l.length:Int):=af;obtain ⟨b0,off,hA,_⟩:=bx.jM aT;obtain rfl:A=some ⟨b0,off,none⟩:=hA;have oC:=J (dF aT);have wW:=J (WQ l i aT);generalize dM (l.take i)=S at *
       generalize l[i]=x at *
       obtain ⟨dK,c8,dT,hj,jt,o8,oD,o9,pa,pb,pc,vh⟩:=qL.wT ap.2 oC.out;have df:=J (ap.2.alloc ap.2.size (.cells #[.string x.aa.id,.i x.aa.prio,.bool x.aa.bo,.i x.aa.bg,.i x.aa.aX,.i x.aa.ba,.i x.aa.bk,.i x.aa.bl,.i x.aa.aW,.string x.aa.bb,.i x.aa.size,.i x.phase] 66))
       go_wp2_with (at_builtin;refine Am DY gv rfl (.tmp 47) (.tmp 50) rfl x.aa #[.string x.aa.id,.i x.aa.prio,.bool x.aa.bo,.i x.aa.bg,.i x.aa.aX,.i x.aa.ba,.i x.aa.bk,.i x.aa.bl,.i x.aa.aW,.string x.aa.bb,.i x.aa.size] rfl w3.heap.size _ S rfl (ap.1.alloc _) rfl av df (by have:=p0.out;omega) (by have:=p0.out;omega) df.size ?_;intro b5 fP eD ho hb _;have cD:=J (ae ho hb);clear ho hb)
       go_roundw
       case rel=>exact ⟨i+1,b5,fP,af,cm,by rw [wW.out,cd];rfl,by rw [wW.out];exact wX cD.1,cD.2⟩
       case measure=>exact c4
      ·obtain rfl:i=l.length:=by omega
       have cg:decide ((l.length:Int)<(l.length:Int))=false:=av;rw [kn] at ap p0 ⊢
       have ao:=J (ao.below ap.2);have lc:=J (show ∀ x∈dM l,x.fe from fun x hx=>by
        obtain ⟨y,hy,e⟩:=kM.1 hx;rw [<- e];exact fk.out y hy)
       have WS:=J ao.sY.lt;have WT:=J ao.aR.size;have WU:=ao.ej.cell;have rP:=ao.mQ.cell;go_wp2_with fail;refine (WV (room:=f.room) (p:=p) (l:=dM l) bz c1 _ ap.1.cZ (by have:=p0.out;omega) lc vo).mono ?_;rintro e bm ⟨O,eQ,J4,iv,rfl,J5,ho,hb⟩;have Gv:=J J5;have x8:=J J5.len;have aB:=J ho;have ao:=J (ao.below hb);clear J5 ho hb WU rP
       cases eQ
       ·obtain rfl:O = []:=(by obtain ⟨_,_,_,_,_,h⟩:=Gv.out;exact h rfl)
        go_wp2_with (refine ch rfl 172 (.tmp 8) (.tmp 64) rfl (w.heap.size+1+1+1) 172 #[.i 0,.i 0,.slice none 0 0] #[.i 4,.i 0,.slice none 0 0] rfl rfl ao.sY rfl Al cc ?_;intro bc bS bP dx)
        have dn:=bS.cell;have dp:Below w.heap.size w bc:=ao.aR.grown bP ao.aR.size dP;exact cS (v:=.tuple #[.agg #[.i 4,.i 0,.slice none 0 0],.i 0]) (by simp [results,results82,go_sem,dn]) rfl (⟨_,_,[],_,none,0,rfl,.inr (.inr (.inr (.inr ⟨H1.out,ju.out,jh,wV.2,rfl,rfl,false,Gv.out,rfl⟩))),Own.e8 _ _ _ _,dp⟩)
       ·by_cases hO:O = []
        ·subst hO
         go_wp2_with (refine ch rfl 172 (.tmp 8) (.tmp 71) rfl (w.heap.size+1+1+1) 172 #[.i 0,.i 0,.slice none 0 0] #[.i 1,.i 0,.slice none 0 0] rfl rfl ao.sY rfl Al cc ?_;intro bc bS bP dx)
         have dn:=bS.cell;have dp:Below w.heap.size w bc:=ao.aR.grown bP ao.aR.size dP;exact cS (v:=.tuple #[.agg #[.i 1,.i 0,.slice none 0 0],.i 0]) (by simp [results,results82,go_sem,dn]) rfl (⟨_,_,[],_,none,0,rfl,.inr (.inr (.inr (.inr ⟨H1.out,ju.out,jh,wV.2,rfl,rfl,true,Gv.out,rfl⟩))),Own.e8 _ _ _ _,dp⟩)
        ·have WW:0<O.length:=DZ.2 hO
         have ajQ:decide ((0:Int)<(O.length:Int))=true:=bO af;have ajR:decide (0<O.length)=true:=bO WW;have WX:=J hO;clear hO
         go_wp2_with (refine ch rfl 172 (.tmp 8) (.tmp 70) rfl (w.heap.size+1+1+1) 172 #[.i 0,.i 0,.slice none 0 0] #[.i 2,.i 0,.slice J4 O.length iv] rfl rfl ao.sY rfl Al cc ?_;intro bc bS bP dx)
         have dn:=bS.cell;have dp:Below w.heap.size w bc:=ao.aR.grown bP ao.aR.size dP;exact cS (v:=.tuple #[.agg #[.i 2,.i 0,.slice J4 O.length iv],.i 0]) (by simp [results,results82,go_sem,dn]) rfl (⟨_,_,O,_,J4,iv,rfl,.inr (.inr (.inr (.inr ⟨H1.out,ju.out,jh,wV.2,rfl,rfl,true,Gv.out,by rw [bp av,bp WX.out]⟩))),(aB.grown bP (.inr fun e=>by have:=(aB.iw _ e).1;have:=WS.out;omega)).mono WT.out,dp⟩)
theorem a7.O5 {w:World} {A:Option Addr} {l:List eH} (h:a7 w i7 A l) {i:Nat} (hi:i<l.length):∃ b off,A=some ⟨b,off,none⟩/\b<w.heap.size /\
  w.cell? ⟨b,off+i*5,none⟩=some (.i l[i].sig)/\w.cell? ⟨b,off+i*5+1,none⟩=some (.i l[i].cb)/\w.cell? ⟨b,off+i*5+2,none⟩=some (.i l[i].ck)/\w.cell? ⟨b,off+i*5+3,none⟩=some (.bool l[i].soft)/\w.cell? ⟨b,off+i*5+4,none⟩=some (.i l[i].cE):=by
 obtain ⟨b,off,e,hb,hc⟩:=h.at_ hi;exact ⟨b,off,e,hb,by have:=hc 0 (.i l[i].sig) rfl;simpa using this,hc 1 (.i l[i].cb) rfl,hc 2 (.i l[i].ck) rfl,hc 3 (.bool l[i].soft) rfl,hc 4 (.i l[i].cE) rfl⟩
theorem W2 {p:aQ} (h:p.right=true):0<=p.bg/\0<=p.aX/\0<=p.ba:=by
 unfold aQ.right aQ.wZ bad at h
 simp only [qN,Bool.not_eq_true',Bool.or_eq_false_iff,An] at h
 omega
def kv (e:bj):Bool:=e.aa.right&&(decide (1<=e.phase)&&decide (e.phase<=3))
structure CQ (l:List bj) (i:Nat) (hi:i<l.length):Prop where
 r:kv l[i]=true
 s:∀ j (aD:j+1=i),blt (l[j]'af).aa.id l[i].aa.id=true
def AL (l:List bj) (k:Nat):Prop:=∀ i (hi:i<l.length),i<k->CQ l i hi
structure jb (rd:Int) (l:List bj):Prop where
 lI:0<=rd
 hi:rd<=1099511627776
 len:l.length<=64
 ok:AL l l.length
theorem AL.snoc {l:List bj} {k:Nat} (hk:k<l.length) (h:AL l k) (a:CQ l k hk):AL l (k+1):=fun i hi ah=>by
 rcases gB i k with aw|aw
 ·exact h i hi aw
 ·obtain rfl:i=k:=by omega
  exact a
theorem jb.no {rd:Int} {l:List bj} {v:Bool} (hv:v=true↔jb rd l) (h:¬ jb rd l):v=false:=by
 cases v
 ·rfl
 ·exact absurd (hv.1 rfl) h
theorem G9 {e:bj} {v:Bool} (hv:kv e=v) (w:World) (hp:e.aa.fe) :
  Calls prog 171 #[.agg #[.string e.aa.id,.i e.aa.prio,.bool e.aa.bo,.i e.aa.bg,.i e.aa.aX,.i e.aa.ba,.i e.aa.bk,.i e.aa.bl,.i e.aa.aW,.string e.aa.bb,.i e.aa.size,.i e.phase]] w fun x w'=>x=.returned (.bool v)/\Below w.heap.size w w':=by
 subst hv;have bC:=J (ar.new w 66 #[.string e.aa.id,.i e.aa.prio,.bool e.aa.bo,.i e.aa.bg,.i e.aa.aX,.i e.aa.ba,.i e.aa.bk,.i e.aa.bl,.i e.aa.aW,.string e.aa.bb,.i e.aa.size,.i e.phase]);have aA:=J ((aO w.heap.size w).alloc aF (.cells #[.string e.aa.id,.i e.aa.prio,.bool e.aa.bo,.i e.aa.bg,.i e.aa.aX,.i e.aa.ba,.i e.aa.bk,.i e.aa.bl,.i e.aa.aW,.string e.aa.bb,.i e.aa.size,.i e.phase] 66));obtain ⟨v1,nR⟩:=aE e.aa.right;have H1:=J nR;have ap:=J hp;clear nR hp
 go_enter func171,ntmps171
 have ce:=bC.cell;go_wp2_with fail;refine (OY H1 _ ap).mono ?_;rintro x aC ⟨rfl,hb⟩;have bC:=J (bC.bw hb);have aA:=J (aA.trans (hb.mono aA.size));clear hb ce;have ce:=bC.cell
 cases v1
 ·have bF:Hid (kv e=false):=by show _=_;unfold kv;rw [H1.out];rfl
  go_wp2_with fail;go_ret;exact ⟨gw bF.symm,aA.out⟩
 ·by_cases h1:1<=e.phase
  ·have d1:decide (1<=e.phase)=true:=bO h1
   by_cases ah:e.phase<=3
   ·have d2:decide (e.phase<=3)=true:=bO ah
    have bF:Hid (kv e=true):=by show _=_;unfold kv;rw [H1.out,d1,d2];rfl
    clear h1 ah;go_wp2_with fail;go_ret;exact ⟨gw bF.symm,aA.out⟩
   ·have d2:decide (e.phase<=3)=false:=cX ah
    have bF:Hid (kv e=false):=by show _=_;unfold kv;rw [H1.out,d1,d2];rfl
    clear h1 ah;go_wp2_with fail;go_ret;exact ⟨gw bF.symm,aA.out⟩
  ·have d1:decide (1<=e.phase)=false:=cX h1
   have bF:Hid (kv e=false):=by show _=_;unfold kv;rw [H1.out,d1];rfl
   clear h1;go_wp2_with fail;go_ret;exact ⟨gw bF.symm,aA.out⟩
theorem Qc {e:bj} (h1:e.aa.right=true) (ah:1<=e.phase) (aw:e.phase<=3):kv e=true:=by unfold kv;rw [h1,bO ah,bO aw];rfl
theorem KT {e:bj} (h:kv e=true):e.aa.right=true/\1<=e.phase/\e.phase<=3:=by
 unfold kv at h
 simp only [qN,jZ] at h
 exact h
structure oL (rd:Int) (A:Option Addr) (l:List bj) (c:Nat) (aU aL aS:Bool) (w W:World):Prop where
 dV:ar W (w.heap.size) 35 #[.i rd,.slice A l.length c,.bool aU,.bool aL,.bool aS]
 aR:Below w.heap.size w W
theorem oL.below {rd:Int} {A:Option Addr} {l:List bj} {c:Nat} {aU aL aS:Bool} {w W W':World} (h:oL rd A l c aU aL aS w W) (hb:Below W.heap.size W W'):oL rd A l c aU aL aS w W':=⟨h.dV.bw hb,h.aR.trans (hb.mono h.aR.size)⟩
theorem oL.alloc {rd:Int} {A:Option Addr} {l:List bj} {c:Nat} {aU aL aS:Bool} {w W:World} (h:oL rd A l c aU aL aS w W) (o:Obj):oL rd A l c aU aL aS w (W.alloc o):=⟨h.dV.alloc o,h.aR.alloc h.aR.size o⟩
theorem oL.drew {rd:Int} {A:Option Addr} {l:List bj} {c:Nat} {aU aL aS:Bool} {w W:World} (h:oL rd A l c aU aL aS w W):oL rd A l c aU aL aS w W.drew:=⟨h.dV.drew,h.aR.drew⟩
theorem oL.new (rd:Int) (A:Option Addr) (l:List bj) (c:Nat) (aU aL aS:Bool) (w:World):oL rd A l c aU aL aS w (w.alloc (.cells #[.i rd,.slice A l.length c,.bool aU,.bool aL,.bool aS] 35)):=by
 have b0:=ar.new w 35 #[.i rd,.slice A l.length c,.bool aU,.bool aL,.bool aS];have aR:Below w.heap.size w (w.alloc (.cells #[.i rd,.slice A l.length c,.bool aU,.bool aL,.bool aS] 35)):=(aO w.heap.size w).alloc aF _;exact ⟨b0,aR⟩
theorem YL {rd:Int} {l:List bj} {v:Bool} (hv:v=true↔jb rd l) (A:Option Addr) (c:Nat) (aU aL aS:Bool) (w:World) (hr:a7 w cR A l) (hw:∀ x∈l,x.aa.fe) (hm:l.length<=9223372036854775807) :
  Calls prog 114 #[.agg #[.i rd,.slice A l.length c,.bool aU,.bool aL,.bool aS]] w fun e w'=>e=.returned (.bool v)/\Below w.heap.size w w':=by
 have ao:=J (oL.new rd A l c aU aL aS w);have bx:=J hr;have bF:=J hv;have fk:=J hw;clear hr hv hw
 by_cases h1:rd<0
 ·have bs:Hid (v=false):=jb.no bF.out fun h=>by have:=h.lI;omega
  have d1:decide (rd<0)=true:=bO h1;clear h1
  go_enter func114,ntmps114
  have cs:=ao.dV.cell;go_wp2_with fail;go_ret;exact ⟨gw bs.symm,ao.aR⟩
 have d1:decide (rd<0)=false:=cX h1
 by_cases ah:1099511627776<rd
 ·have bs:Hid (v=false):=jb.no bF.out fun h=>by have:=h.hi;omega
  have d2:decide (1099511627776<rd)=true:=bO ah;clear h1 ah
  go_enter func114,ntmps114
  have cs:=ao.dV.cell;go_wp2_with fail;go_ret;exact ⟨gw bs.symm,ao.aR⟩
 have d2:decide (1099511627776<rd)=false:=cX ah
 by_cases aw:64<l.length
 ·have bs:Hid (v=false):=jb.no bF.out fun h=>by have:=h.len;omega
  have d3:decide (64<l.length)=true:=bO aw;have d4:decide ((64:Int)<(l.length:Int))=true:=bO af;clear h1 ah aw
  go_enter func114,ntmps114
  have cs:=ao.dV.cell;go_wp2_with fail;go_ret;exact ⟨gw bs.symm,ao.aR⟩
 have d3:decide (64<l.length)=false:=cX aw;have d4:decide ((64:Int)<(l.length:Int))=false:=cX af;have n1:=J (show 0<=rd/\rd<=1099511627776/\l.length<=64 from ⟨af,af,af⟩);clear h1 ah
 go_enter func114,ntmps114
 have cs:=ao.dV.cell;go_wp2_with fail;clear cs;generalize w.alloc (.cells #[.i rd,.slice A l.length c,.bool aU,.bool aL,.bool aS] 35)=w0 at *
 go_loopw [22] (fun ii wr=>∃ i:Nat,i<=l.length/\ii=.i i/\AL l i/\oL rd A l c aU aL aS w wr) (fun ii _=>l.length-(intOf ii).toNat)
 case atStart=>exact ⟨0,af,rfl,fun _ _ h=>af,ao.out⟩
 case round =>
  clear ao;obtain ⟨i,hi,rfl,bi,bd⟩:=hrel;have cj:=J bi;have ao:=J bd;clear bi bd
  by_cases aT:i<l.length
  ·obtain ⟨b,off,hA,_⟩:=bx.jM aT
   obtain rfl:A=some ⟨b,off,none⟩:=hA;have cg:decide ((i:Int)<(l.length:Int))=true:=bO af;have lG:(i:Int)<(l.length:Int):=af;have oC:=J (dF aT);have vG:=J (fk.out _ (iO aT));have Qd:=J (show ¬ CQ l i aT->v=false from fun h=>jb.no bF.out fun hf=>h (hf.ok i aT aT));have G':=J (fun a:CQ l i aT=>cj.snoc aT a);have Qe:=J (show kv l[i]=true->(∀ j (aD:j+1=i),blt (l[j]'af).aa.id l[i].aa.id=true)->CQ l i aT from fun c6 a2=>⟨c6,a2⟩);have Qf:=J (show CQ l i aT->kv l[i]=true/\∀ j (aD:j+1=i),blt (l[j]'af).aa.id l[i].aa.id=true from fun h=>⟨h.r,h.s⟩);generalize l[i]=x at *
   obtain ⟨dK,c8,dT,hj,jt,o8,oD,o9,pa,pb,pc,vh⟩:=bx.wT ao.aR oC.out;have cs:=ao.dV.cell;have bC:=J (ar.new wr 66 #[.string x.aa.id,.i x.aa.prio,.bool x.aa.bo,.i x.aa.bg,.i x.aa.aX,.i x.aa.ba,.i x.aa.bk,.i x.aa.bl,.i x.aa.aW,.string x.aa.bb,.i x.aa.size,.i x.phase]);have hz:=J ((bx.below ao.aR).alloc (.cells #[.string x.aa.id,.i x.aa.prio,.bool x.aa.bo,.i x.aa.bg,.i x.aa.aX,.i x.aa.ba,.i x.aa.bk,.i x.aa.bl,.i x.aa.aW,.string x.aa.bb,.i x.aa.size,.i x.phase] 66));have ao:=J (ao.alloc (.cells #[.string x.aa.id,.i x.aa.prio,.bool x.aa.bo,.i x.aa.bg,.i x.aa.aX,.i x.aa.ba,.i x.aa.bk,.i x.aa.bl,.i x.aa.aW,.string x.aa.bb,.i x.aa.size,.i x.phase] 66));go_wp2_with fail;clear cs dK c8 dT hj jt o8 oD o9 pa pb pc vh;generalize wr.heap.size=N at *
   generalize wr.alloc (.cells #[.string x.aa.id,.i x.aa.prio,.bool x.aa.bo,.i x.aa.bg,.i x.aa.aX,.i x.aa.ba,.i x.aa.bk,.i x.aa.bl,.i x.aa.aW,.string x.aa.bb,.i x.aa.size,.i x.phase] 66)=Ha at *
   cases tK:kv x
   ·have bs:=J (Qd.out fun h=>by have:=(Qf.out h).1;rw [tK] at this;cases this)
    have AM:=J tK;clear tK;have bC:=J bC.drew;have ao:=J ao.drew;have hz:=J hz.drew;refine wp_region_held_drew (S:=(fun w'=>w'.cell? ⟨N,0,none⟩=some (.string x.aa.id)/\w'.cell? ⟨N,1,none⟩=some (.i x.aa.prio)/\w'.cell? ⟨N,2,none⟩=some (.bool x.aa.bo)/\w'.cell? ⟨N,3,none⟩=some (.i x.aa.bg)/\w'.cell? ⟨N,4,none⟩=some (.i x.aa.aX)/\w'.cell? ⟨N,5,none⟩=some (.i x.aa.ba)/\w'.cell? ⟨N,6,none⟩=some (.i x.aa.bk)/\w'.cell? ⟨N,7,none⟩=some (.i x.aa.bl)/\w'.cell? ⟨N,8,none⟩=some (.i x.aa.aW)/\w'.cell? ⟨N,9,none⟩=some (.string x.aa.bb)/\w'.cell? ⟨N,10,none⟩=some (.i x.aa.size)/\w'.cell? ⟨N,11,none⟩=some (.i x.phase)/\w'.cell? ⟨w.heap.size,1,none⟩=some (.slice (some ⟨b,off,none⟩) l.length c))) ai (⟨bC.cell 0,bC.cell 1,bC.cell 2,bC.cell 3,bC.cell 4,bC.cell 5,bC.cell 6,bC.cell 7,bC.cell 8,bC.cell 9,bC.cell 10,bC.cell 11,ao.dV.cell 1⟩) (fun hHeld=>?_);generalize Ha.drew=wd at *
    refine aj 0 ?_;refine dR 1 28 rfl rfl ai aH (fun K hK=>?_);go_simp
    go_at_call 171;with_reducible refine (G9 AM.out _ vG.out).mono ?_;rintro e bm ⟨rfl,hb⟩
    have bC:=J (bC.bw hb);have ao:=J (ao.below hb);have hz:=J (hz.below hb);clear hb;have hHeld:=(show bm.cell? ⟨N,0,none⟩=some (.string x.aa.id)/\bm.cell? ⟨N,1,none⟩=some (.i x.aa.prio)/\bm.cell? ⟨N,2,none⟩=some (.bool x.aa.bo)/\bm.cell? ⟨N,3,none⟩=some (.i x.aa.bg)/\bm.cell? ⟨N,4,none⟩=some (.i x.aa.aX)/\bm.cell? ⟨N,5,none⟩=some (.i x.aa.ba)/\bm.cell? ⟨N,6,none⟩=some (.i x.aa.bk)/\bm.cell? ⟨N,7,none⟩=some (.i x.aa.bl)/\bm.cell? ⟨N,8,none⟩=some (.i x.aa.aW)/\bm.cell? ⟨N,9,none⟩=some (.string x.aa.bb)/\bm.cell? ⟨N,10,none⟩=some (.i x.aa.size)/\bm.cell? ⟨N,11,none⟩=some (.i x.phase)/\bm.cell? ⟨w.heap.size,1,none⟩=some (.slice (some ⟨b,off,none⟩) l.length c) from ⟨bC.cell 0,bC.cell 1,bC.cell 2,bC.cell 3,bC.cell 4,bC.cell 5,bC.cell 6,bC.cell 7,bC.cell 8,bC.cell 9,bC.cell 10,bC.cell 11,ao.dV.cell 1⟩)
    refine hK _ _ hHeld ?_;clear hK K;simp only [Act.put,aY,aZ,a1];refine aj 2 ?_;refine aj 3 ?_;refine cM 4 31 rfl rfl ai ai ai (fun _ _ _ h=>h) aH As ?_;simp only [Act.put,aY,aZ,a1];refine cM 5 32 rfl rfl ai ai ai (fun _ _ _ h=>h) aH As ?_;simp only [Act.put,aY,aZ,a1];refine cM 6 33 rfl rfl ai ai ai (fun _ _ _ h=>h) aH As ?_;simp only [Act.put,aY,aZ,a1];refine cM 7 34 rfl rfl ai ai ai (fun _ _ _ h=>h) aH As ?_;simp only [Act.put,aY,aZ,a1];refine cM 8 35 rfl rfl ai ai ai (fun _ _ _ h=>h) aH As ?_;simp only [Act.put,aY,aZ,a1];refine cM 9 36 rfl rfl ai ai ai (fun _ _ _ h=>h) aH As ?_;simp only [Act.put,aY,aZ,a1];refine cM 10 37 rfl rfl ai ai ai (fun _ _ _ h=>h) aH As ?_;simp only [Act.put,aY,aZ,a1];refine cM 11 38 rfl rfl ai ai ai (fun _ _ _ h=>h) aH As ?_;simp only [Act.put,aY,aZ,a1];refine cM 12 39 rfl rfl ai ai ai (fun _ _ _ h=>h) aH As ?_;simp only [Act.put,aY,aZ,a1];refine cM 13 40 rfl rfl ai ai ai (fun _ _ _ h=>h) aH As ?_;simp only [Act.put,aY,aZ,a1];refine cM 14 41 rfl rfl ai ai ai (fun _ _ _ h=>h) aH As ?_;simp only [Act.put,aY,aZ,a1];refine cM 15 42 rfl rfl ai ai ai (fun _ _ _ h=>h) aH As ?_;simp only [Act.put,aY,aZ,a1];refine cM 16 43 rfl rfl ai ai ai (fun _ _ _ h=>h) aH As ?_;simp only [Act.put,aY,aZ,a1];refine cM 17 44 rfl rfl ai ai ai (fun _ _ _ h=>h) aH As ?_;simp only [Act.put,aY,aZ,a1];refine cM 18 45 rfl rfl ai ai ai (fun _ _ _ h=>h) aH As ?_;simp only [Act.put,aY,aZ,a1];refine cM 19 46 rfl rfl ai ai ai (fun _ _ _ h=>h) aH As ?_;simp only [Act.put,aY,aZ,a1];refine aj 20 ?_;refine wpAnyH_done ai ?_ _;clear hHeld;go_wp2_with fail;go_ret;exact ⟨gw bs.symm,ao.aR⟩
   ·rcases Nat.eq_zero_or_pos i with bI|bI
    ·subst bI
     have KU:=J (G'.out (Qe.out tK fun j aD=>by omega));have AM:=J tK;clear tK;have bC:=J bC.drew;have ao:=J ao.drew;have hz:=J hz.drew;refine wp_region_held_drew (S:=(fun w'=>w'.cell? ⟨N,0,none⟩=some (.string x.aa.id)/\w'.cell? ⟨N,1,none⟩=some (.i x.aa.prio)/\w'.cell? ⟨N,2,none⟩=some (.bool x.aa.bo)/\w'.cell? ⟨N,3,none⟩=some (.i x.aa.bg)/\w'.cell? ⟨N,4,none⟩=some (.i x.aa.aX)/\w'.cell? ⟨N,5,none⟩=some (.i x.aa.ba)/\w'.cell? ⟨N,6,none⟩=some (.i x.aa.bk)/\w'.cell? ⟨N,7,none⟩=some (.i x.aa.bl)/\w'.cell? ⟨N,8,none⟩=some (.i x.aa.aW)/\w'.cell? ⟨N,9,none⟩=some (.string x.aa.bb)/\w'.cell? ⟨N,10,none⟩=some (.i x.aa.size)/\w'.cell? ⟨N,11,none⟩=some (.i x.phase)/\w'.cell? ⟨w.heap.size,1,none⟩=some (.slice (some ⟨b,off,none⟩) l.length c))) ai (⟨bC.cell 0,bC.cell 1,bC.cell 2,bC.cell 3,bC.cell 4,bC.cell 5,bC.cell 6,bC.cell 7,bC.cell 8,bC.cell 9,bC.cell 10,bC.cell 11,ao.dV.cell 1⟩) (fun hHeld=>?_);generalize Ha.drew=wd at *
     refine aj 0 ?_;refine dR 1 28 rfl rfl ai aH (fun K hK=>?_);go_simp
     go_at_call 171;with_reducible refine (G9 AM.out _ vG.out).mono ?_;rintro e bm ⟨rfl,hb⟩
     have bC:=J (bC.bw hb);have ao:=J (ao.below hb);have hz:=J (hz.below hb);clear hb;have hHeld:=(show bm.cell? ⟨N,0,none⟩=some (.string x.aa.id)/\bm.cell? ⟨N,1,none⟩=some (.i x.aa.prio)/\bm.cell? ⟨N,2,none⟩=some (.bool x.aa.bo)/\bm.cell? ⟨N,3,none⟩=some (.i x.aa.bg)/\bm.cell? ⟨N,4,none⟩=some (.i x.aa.aX)/\bm.cell? ⟨N,5,none⟩=some (.i x.aa.ba)/\bm.cell? ⟨N,6,none⟩=some (.i x.aa.bk)/\bm.cell? ⟨N,7,none⟩=some (.i x.aa.bl)/\bm.cell? ⟨N,8,none⟩=some (.i x.aa.aW)/\bm.cell? ⟨N,9,none⟩=some (.string x.aa.bb)/\bm.cell? ⟨N,10,none⟩=some (.i x.aa.size)/\bm.cell? ⟨N,11,none⟩=some (.i x.phase)/\bm.cell? ⟨w.heap.size,1,none⟩=some (.slice (some ⟨b,off,none⟩) l.length c) from ⟨bC.cell 0,bC.cell 1,bC.cell 2,bC.cell 3,bC.cell 4,bC.cell 5,bC.cell 6,bC.cell 7,bC.cell 8,bC.cell 9,bC.cell 10,bC.cell 11,ao.dV.cell 1⟩)
     refine hK _ _ hHeld ?_;clear hK K;simp only [Act.put,aY,aZ,a1];refine aj 2 ?_;refine aj 3 ?_;refine aj 4 ?_;refine gN 5 32 (.bool false) rfl rfl ai ai ai (fun _ _ _ h=>h) aH (by intro w' dB;(try dsimp only at dB);go_simp;(first|done|with_reducible rfl|(first|done|with_reducible rfl|omega|(simp;done)|(rw [IntKind.wrap_i64];omega)|(simp;omega)))) As ?_;simp only [Act.put,aY,aZ,a1];refine aj 6 ?_;refine cM 7 34 rfl rfl ai ai ai (fun _ _ _ h=>h) aH As ?_;simp only [Act.put,aY,aZ,a1];refine cM 8 35 rfl rfl ai ai ai (fun _ _ _ h=>h) aH As ?_;simp only [Act.put,aY,aZ,a1];refine cM 9 36 rfl rfl ai ai ai (fun _ _ _ h=>h) aH As ?_;simp only [Act.put,aY,aZ,a1];refine cM 10 37 rfl rfl ai ai ai (fun _ _ _ h=>h) aH As ?_;simp only [Act.put,aY,aZ,a1];refine cM 11 38 rfl rfl ai ai ai (fun _ _ _ h=>h) aH As ?_;simp only [Act.put,aY,aZ,a1];refine cM 12 39 rfl rfl ai ai ai (fun _ _ _ h=>h) aH As ?_;simp only [Act.put,aY,aZ,a1];refine cM 13 40 rfl rfl ai ai ai (fun _ _ _ h=>h) aH As ?_;simp only [Act.put,aY,aZ,a1];refine cM 14 41 rfl rfl ai ai ai (fun _ _ _ h=>h) aH As ?_;simp only [Act.put,aY,aZ,a1];refine cM 15 42 rfl rfl ai ai ai (fun _ _ _ h=>h) aH As ?_;simp only [Act.put,aY,aZ,a1];refine cM 16 43 rfl rfl ai ai ai (fun _ _ _ h=>h) aH As ?_;simp only [Act.put,aY,aZ,a1];refine cM 17 44 rfl rfl ai ai ai (fun _ _ _ h=>h) aH As ?_;simp only [Act.put,aY,aZ,a1];refine cM 18 45 rfl rfl ai ai ai (fun _ _ _ h=>h) aH As ?_;simp only [Act.put,aY,aZ,a1];refine aj 19 ?_;refine aj 20 ?_;refine wpAnyH_done ai ?_ _;clear hHeld;go_wp2_with fail
     go_roundw
     case rel=>exact ⟨1,af,cm,KU.out,ao.out⟩
     case measure=>exact c4
    ·obtain ⟨j,rfl⟩:∃ j,i=j+1:=⟨i-1,af⟩
     have vH:j<l.length:=af;have Hb:=J (dF vH);have YM:=J (fun h:blt l[j].aa.id x.aa.id=true=>G'.out (Qe.out tK fun t ht=>by cases (show t=j by omega);exact h));have lm:=J (fun h:blt l[j].aa.id x.aa.id=false=>Qd.out fun ah=>by have:=(Qf.out ah).2 j rfl;rw [h] at this;cases this);have dj:decide ((0:Int)<((j+1:Nat):Int))=true:=bO af;have YN:(j:Int)<(l.length:Int):=af;generalize l[j]=y at *
     cases du:blt y.aa.id x.aa.id
     ·have bs:=J (lm.out du)
      have AM:=J tK;clear tK;have gG:=J du;clear du;have bC:=J bC.drew;have ao:=J ao.drew;have hz:=J hz.drew;refine wp_region_held_drew (S:=(fun w'=>w'.cell? ⟨N,0,none⟩=some (.string x.aa.id)/\w'.cell? ⟨N,1,none⟩=some (.i x.aa.prio)/\w'.cell? ⟨N,2,none⟩=some (.bool x.aa.bo)/\w'.cell? ⟨N,3,none⟩=some (.i x.aa.bg)/\w'.cell? ⟨N,4,none⟩=some (.i x.aa.aX)/\w'.cell? ⟨N,5,none⟩=some (.i x.aa.ba)/\w'.cell? ⟨N,6,none⟩=some (.i x.aa.bk)/\w'.cell? ⟨N,7,none⟩=some (.i x.aa.bl)/\w'.cell? ⟨N,8,none⟩=some (.i x.aa.aW)/\w'.cell? ⟨N,9,none⟩=some (.string x.aa.bb)/\w'.cell? ⟨N,10,none⟩=some (.i x.aa.size)/\w'.cell? ⟨N,11,none⟩=some (.i x.phase)/\w'.cell? ⟨w.heap.size,1,none⟩=some (.slice (some ⟨b,off,none⟩) l.length c)/\w'.cell? ⟨b,off+j*12,none⟩=some (.string y.aa.id))) ai (⟨bC.cell 0,bC.cell 1,bC.cell 2,bC.cell 3,bC.cell 4,bC.cell 5,bC.cell 6,bC.cell 7,bC.cell 8,bC.cell 9,bC.cell 10,bC.cell 11,ao.dV.cell 1,(hz.wT (aO _ _) Hb).1⟩) (fun hHeld=>?_);generalize Ha.drew=wd at *
      refine aj 0 ?_;refine dR 1 28 rfl rfl ai aH (fun K hK=>?_);go_simp
      go_at_call 171;with_reducible refine (G9 AM.out _ vG.out).mono ?_;rintro e bm ⟨rfl,hb⟩
      have bC:=J (bC.bw hb);have ao:=J (ao.below hb);have hz:=J (hz.below hb);clear hb;have hHeld:=(show bm.cell? ⟨N,0,none⟩=some (.string x.aa.id)/\bm.cell? ⟨N,1,none⟩=some (.i x.aa.prio)/\bm.cell? ⟨N,2,none⟩=some (.bool x.aa.bo)/\bm.cell? ⟨N,3,none⟩=some (.i x.aa.bg)/\bm.cell? ⟨N,4,none⟩=some (.i x.aa.aX)/\bm.cell? ⟨N,5,none⟩=some (.i x.aa.ba)/\bm.cell? ⟨N,6,none⟩=some (.i x.aa.bk)/\bm.cell? ⟨N,7,none⟩=some (.i x.aa.bl)/\bm.cell? ⟨N,8,none⟩=some (.i x.aa.aW)/\bm.cell? ⟨N,9,none⟩=some (.string x.aa.bb)/\bm.cell? ⟨N,10,none⟩=some (.i x.aa.size)/\bm.cell? ⟨N,11,none⟩=some (.i x.phase)/\bm.cell? ⟨w.heap.size,1,none⟩=some (.slice (some ⟨b,off,none⟩) l.length c)/\bm.cell? ⟨b,off+j*12,none⟩=some (.string y.aa.id) from ⟨bC.cell 0,bC.cell 1,bC.cell 2,bC.cell 3,bC.cell 4,bC.cell 5,bC.cell 6,bC.cell 7,bC.cell 8,bC.cell 9,bC.cell 10,bC.cell 11,ao.dV.cell 1,(hz.wT (aO _ _) Hb).1⟩)
      refine hK _ _ hHeld ?_;clear hK K;simp only [Act.put,aY,aZ,a1];refine aj 2 ?_;refine aj 3 ?_;refine aj 4 ?_;refine gN 5 32 (.bool true) rfl rfl ai ai ai (fun _ _ _ h=>h) aH (by intro w' dB;(try dsimp only at dB);go_simp;(first|done|with_reducible rfl|(first|done|with_reducible rfl|omega|(simp;done)|(rw [IntKind.wrap_i64];omega)|(simp;omega)))) As ?_;simp only [Act.put,aY,aZ,a1];refine aj 6 ?_;refine aj 7 ?_;refine aj 8 ?_;refine aj 9 ?_;refine gN 10 37 (.i j) rfl rfl ai ai ai (fun _ _ _ h=>h) aH (by intro w' dB;(try dsimp only at dB);go_simp;(first|done|with_reducible rfl|(first|done|with_reducible rfl|omega|(simp;done)|(rw [IntKind.wrap_i64];omega)|(simp;omega)))) As ?_;simp only [Act.put,aY,aZ,a1];refine aj 11 ?_;refine aj 12 ?_;refine aj 13 ?_;refine aj 14 ?_;refine aj 15 ?_;refine aj 16 ?_;refine aj 17 ?_;refine gN 18 45 (.bool true) rfl rfl ai ai ai (fun _ _ _ h=>h) aH (by intro w' dB;(try dsimp only at dB);go_simp;(first|done|with_reducible rfl|(have bQ:=gG.out;unfold blt at bQ;simp [bQ]))) As ?_;simp only [Act.put,aY,aZ,a1];refine aj 19 ?_;refine aj 20 ?_;refine wpAnyH_done ai ?_ _;clear hHeld;go_wp2_with fail;go_ret;exact ⟨gw bs.symm,ao.aR⟩
     ·have KU:=J (YM.out du)
      have AM:=J tK;clear tK;have gG:=J du;clear du;have bC:=J bC.drew;have ao:=J ao.drew;have hz:=J hz.drew;refine wp_region_held_drew (S:=(fun w'=>w'.cell? ⟨N,0,none⟩=some (.string x.aa.id)/\w'.cell? ⟨N,1,none⟩=some (.i x.aa.prio)/\w'.cell? ⟨N,2,none⟩=some (.bool x.aa.bo)/\w'.cell? ⟨N,3,none⟩=some (.i x.aa.bg)/\w'.cell? ⟨N,4,none⟩=some (.i x.aa.aX)/\w'.cell? ⟨N,5,none⟩=some (.i x.aa.ba)/\w'.cell? ⟨N,6,none⟩=some (.i x.aa.bk)/\w'.cell? ⟨N,7,none⟩=some (.i x.aa.bl)/\w'.cell? ⟨N,8,none⟩=some (.i x.aa.aW)/\w'.cell? ⟨N,9,none⟩=some (.string x.aa.bb)/\w'.cell? ⟨N,10,none⟩=some (.i x.aa.size)/\w'.cell? ⟨N,11,none⟩=some (.i x.phase)/\w'.cell? ⟨w.heap.size,1,none⟩=some (.slice (some ⟨b,off,none⟩) l.length c)/\w'.cell? ⟨b,off+j*12,none⟩=some (.string y.aa.id))) ai (⟨bC.cell 0,bC.cell 1,bC.cell 2,bC.cell 3,bC.cell 4,bC.cell 5,bC.cell 6,bC.cell 7,bC.cell 8,bC.cell 9,bC.cell 10,bC.cell 11,ao.dV.cell 1,(hz.wT (aO _ _) Hb).1⟩) (fun hHeld=>?_);generalize Ha.drew=wd at *
      refine aj 0 ?_;refine dR 1 28 rfl rfl ai aH (fun K hK=>?_);go_simp
      go_at_call 171;with_reducible refine (G9 AM.out _ vG.out).mono ?_;rintro e bm ⟨rfl,hb⟩
      have bC:=J (bC.bw hb);have ao:=J (ao.below hb);have hz:=J (hz.below hb);clear hb;have hHeld:=(show bm.cell? ⟨N,0,none⟩=some (.string x.aa.id)/\bm.cell? ⟨N,1,none⟩=some (.i x.aa.prio)/\bm.cell? ⟨N,2,none⟩=some (.bool x.aa.bo)/\bm.cell? ⟨N,3,none⟩=some (.i x.aa.bg)/\bm.cell? ⟨N,4,none⟩=some (.i x.aa.aX)/\bm.cell? ⟨N,5,none⟩=some (.i x.aa.ba)/\bm.cell? ⟨N,6,none⟩=some (.i x.aa.bk)/\bm.cell? ⟨N,7,none⟩=some (.i x.aa.bl)/\bm.cell? ⟨N,8,none⟩=some (.i x.aa.aW)/\bm.cell? ⟨N,9,none⟩=some (.string x.aa.bb)/\bm.cell? ⟨N,10,none⟩=some (.i x.aa.size)/\bm.cell? ⟨N,11,none⟩=some (.i x.phase)/\bm.cell? ⟨w.heap.size,1,none⟩=some (.slice (some ⟨b,off,none⟩) l.length c)/\bm.cell? ⟨b,off+j*12,none⟩=some (.string y.aa.id) from ⟨bC.cell 0,bC.cell 1,bC.cell 2,bC.cell 3,bC.cell 4,bC.cell 5,bC.cell 6,bC.cell 7,bC.cell 8,bC.cell 9,bC.cell 10,bC.cell 11,ao.dV.cell 1,(hz.wT (aO _ _) Hb).1⟩)
      refine hK _ _ hHeld ?_;clear hK K;simp only [Act.put,aY,aZ,a1];refine aj 2 ?_;refine aj 3 ?_;refine aj 4 ?_;refine gN 5 32 (.bool true) rfl rfl ai ai ai (fun _ _ _ h=>h) aH (by intro w' dB;(try dsimp only at dB);go_simp;(first|done|with_reducible rfl|(first|done|with_reducible rfl|omega|(simp;done)|(rw [IntKind.wrap_i64];omega)|(simp;omega)))) As ?_;simp only [Act.put,aY,aZ,a1];refine aj 6 ?_;refine aj 7 ?_;refine aj 8 ?_;refine aj 9 ?_;refine gN 10 37 (.i j) rfl rfl ai ai ai (fun _ _ _ h=>h) aH (by intro w' dB;(try dsimp only at dB);go_simp;(first|done|with_reducible rfl|(first|done|with_reducible rfl|omega|(simp;done)|(rw [IntKind.wrap_i64];omega)|(simp;omega)))) As ?_;simp only [Act.put,aY,aZ,a1];refine aj 11 ?_;refine aj 12 ?_;refine aj 13 ?_;refine aj 14 ?_;refine aj 15 ?_;refine aj 16 ?_;refine aj 17 ?_;refine gN 18 45 (.bool false) rfl rfl ai ai ai (fun _ _ _ h=>h) aH (by intro w' dB;(try dsimp only at dB);go_simp;(first|done|with_reducible rfl|(have bQ:=gG.out;unfold blt at bQ;simp [bQ]))) As ?_;simp only [Act.put,aY,aZ,a1];refine aj 19 ?_;refine aj 20 ?_;refine wpAnyH_done ai ?_ _;clear hHeld;go_wp2_with fail
      go_roundw
      case rel=>exact ⟨j+1+1,af,cm,KU.out,ao.out⟩
      case measure=>exact c4
  ·obtain rfl:i=l.length:=by omega
   have cg:decide ((l.length:Int)<(l.length:Int))=false:=av;have bs:Hid (v=true):=bF.2 ⟨n1.1,n1.2.1,n1.2.2,cj.out⟩;have cs:=ao.dV.cell;go_wp2_with fail;go_ret;exact ⟨gw bs.symm,ao.aR⟩
end Go.Proofs.YtmmchlfoplcnbaaGreatDoor
