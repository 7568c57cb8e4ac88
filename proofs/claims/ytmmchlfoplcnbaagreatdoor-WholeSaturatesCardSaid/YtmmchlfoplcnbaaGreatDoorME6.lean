/- A part of the walk. -/
import Derived.Test.YtmmchlfoplcnbaaGreatDoorME3
import Derived.Test.YtmmchlfoplcnbaaGreatDoorMD8
namespace Go.Proofs.YtmmchlfoplcnbaaGreatDoor
open Go Go.RowKit Tryz
set_option linter.all false
set_option maxRecDepth 100000
set_option maxHeartbeats 4000000
section
theorem adq:(prog.info? 235).map (·.size)=some 6:=ai
theorem SR (a0 c6 a2 a3 a4 a5:Value) (w:World):(Instr.index 235 (.agg #[a0,c6,a2,a3,a4,a5]) (.i 0)).run prog w=.ok (.agg #[a0,c6]) w:=ai
theorem SS (a0 c6 a2 a3 a4 a5:Value) (w:World):(Instr.index 235 (.agg #[a0,c6,a2,a3,a4,a5]) (.i 1)).run prog w=.ok (.agg #[a2,a3]) w:=ai
theorem SU (a0 c6 a2 a3 a4 a5:Value) (w:World):(Instr.index 235 (.agg #[a0,c6,a2,a3,a4,a5]) (.i 2)).run prog w=.ok (.agg #[a4,a5]) w:=ai
attribute [local go_sem] SR SS SU
structure kI (cs:Array Value) (aI h1 ah m0 m1 m2:Bool) (w W:World):Prop where
 j0:ar W w.heap.size 235 cs
 hb:ar W (w.heap.size+1) 33 #[.bool aI,.bool h1,.bool ah]
 qt:ar W (w.heap.size+1+1) 33 #[.bool m0,.bool m1,.bool m2]
 jQ:ar W (w.heap.size+1+1+1) 235 #[.bool false,.i 0,.bool false,.i 0,.bool false,.i 0]
 aR:Below w.heap.size w W
section
variable {cs:Array Value} {aI h1 ah m0 m1 m2:Bool} {w W W':World}
theorem kI.below (h:kI cs aI h1 ah m0 m1 m2 w W) (hb:Below W.heap.size W W'):kI cs aI h1 ah m0 m1 m2 w W':=⟨h.j0.bw hb,h.hb.bw hb,h.qt.bw hb,h.jQ.bw hb,h.aR.trans (hb.mono h.aR.size)⟩
theorem kI.grown (h:kI cs aI h1 ah m0 m1 m2 w W) {row:Option Nat} (az:W.grownBy W' row) (hn:∀ k,row=some k->w.heap.size+1+1+1<k):kI cs aI h1 ah m0 m1 m2 w W' :=
 ⟨h.j0.grown az (by intro e;have:=hn _ e.symm;omega),h.hb.grown az (by intro e;have:=hn _ e.symm;omega),h.qt.grown az (by intro e;have:=hn _ e.symm;omega),h.jQ.grown az (by intro e;have:=hn _ e.symm;omega),h.aR.grown az h.aR.size (fun k hk=>by have:=hn k hk;omega)⟩
theorem kI.od {v:Value} {l:List cP} (h:kI cs aI h1 ah m0 m1 m2 w W) (ho:Own W w.heap.size 51 dA v l) (az:W.grownBy W' v.ownBlock):kI cs aI h1 ah m0 m1 m2 w W' :=
 ⟨h.j0.grown az (ho.fK h.j0 ak),h.hb.grown az (ho.fK h.hb ak),h.qt.grown az (ho.fK h.qt ak),h.jQ.grown az (ho.fK h.jQ ak),h.aR.grown az h.aR.size (fun k hk=>(ho.iw k hk).1)⟩
theorem kI.set {xG:Array Value} (h:kI cs aI h1 ah m0 m1 m2 w W) (hk:ar W' w.heap.size 235 xG) (az:W.grownBy W' (some w.heap.size)):kI xG aI h1 ah m0 m1 m2 w W' :=
 ⟨hk,h.hb.grown az (by intro e;injection e with e;omega),h.qt.grown az (by intro e;injection e with e;omega),h.jQ.grown az (by intro e;injection e with e;omega),h.aR.grown az h.aR.size (fun k hk=>by injection hk with hk;omega)⟩
theorem kI.new (aU aL aS:Bool) (cz dv ed:Int) (aI h1 ah m0 m1 m2:Bool) (w:World):kI #[.bool aU,.i cz,.bool aL,.i dv,.bool aS,.i ed] aI h1 ah m0 m1 m2 w ((((w.alloc (.cells #[.bool aU,.i cz,.bool aL,.i dv,.bool aS,.i ed] 235)).alloc (.cells #[.bool aI,.bool h1,.bool ah] 33)).alloc (.cells #[.bool m0,.bool m1,.bool m2] 33)).alloc (.cells #[.bool false,.i 0,.bool false,.i 0,.bool false,.i 0] 235)):=by
 have b0:=ar.new w 235 #[.bool aU,.i cz,.bool aL,.i dv,.bool aS,.i ed];have bX:=ar.new (w.alloc (.cells #[.bool aU,.i cz,.bool aL,.i dv,.bool aS,.i ed] 235)) 33 #[.bool aI,.bool h1,.bool ah];have cY:=ar.new ((w.alloc (.cells #[.bool aU,.i cz,.bool aL,.i dv,.bool aS,.i ed] 235)).alloc (.cells #[.bool aI,.bool h1,.bool ah] 33)) 33 #[.bool m0,.bool m1,.bool m2];have pd:=ar.new (((w.alloc (.cells #[.bool aU,.i cz,.bool aL,.i dv,.bool aS,.i ed] 235)).alloc (.cells #[.bool aI,.bool h1,.bool ah] 33)).alloc (.cells #[.bool m0,.bool m1,.bool m2] 33)) 235 #[.bool false,.i 0,.bool false,.i 0,.bool false,.i 0];simp only [zp] at bX cY pd
 exact ⟨((b0.alloc _).alloc _).alloc _,(bX.alloc _).alloc _,cY.alloc _,pd,((((aO w.heap.size w).alloc aF _).alloc av _).alloc (by simp;omega) _).alloc (by simp;omega) _⟩
end
def nK (a b c:List cP):Nat->List cP
 | 0=>[]
 | 1=>a
 | 2=>a++b
 | _=>a++b++c
def SV (aU aL aS:Bool) (cz dv ed:Int) (aI h1 ah m0 m1 m2 f:Bool) (b2:Int) (w:World) (e:Ending) (w':World):Prop :=
 ∃ (L:List cP) (A:Option Addr) (c:Nat),L=nc 0 aU (gi ⟨aU,cz⟩ aI m0 f b2).on++(nc 1 aL (gi ⟨aL,dv⟩ h1 m1 f b2).on++nc 2 aS (gi ⟨aS,ed⟩ ah m2 f b2).on) /\
  e=.returned (.tuple #[.agg #[.bool (gi ⟨aU,cz⟩ aI m0 f b2).on,.i (gi ⟨aU,cz⟩ aI m0 f b2).calm,.bool (gi ⟨aL,dv⟩ h1 m1 f b2).on,.i (gi ⟨aL,dv⟩ h1 m1 f b2).calm,.bool (gi ⟨aS,ed⟩ ah m2 f b2).on,.i (gi ⟨aS,ed⟩ ah m2 f b2).calm],.slice A L.length c]) /\
  Own w' w.heap.size 51 dA (.slice A L.length c) L/\Below w.heap.size w w'
theorem adr (aU aL aS:Bool) (cz dv ed:Int) (aI h1 ah m0 m1 m2 f:Bool) (b2:Int) (q4:0<=cz/\cz<=1000) (AB:0<=dv/\dv<=1000) (oI:0<=ed/\ed<=1000) (w:World) :
  Calls prog 135 #[.agg #[.bool aU,.i cz,.bool aL,.i dv,.bool aS,.i ed],.agg #[.bool aI,.bool h1,.bool ah],.agg #[.bool m0,.bool m1,.bool m2],.bool f,.i b2] w (SV aU aL aS cz dv ed aI h1 ah m0 m1 m2 f b2 w):=by
 have mixed:prog.follows Departure.mixedOrders=true:=ai;have Da:=J (fun W=>Ms aU cz aI m0 f b2 q4.1 q4.2 W);have yY:=J (fun W=>Ms aL dv h1 m1 f b2 AB.1 AB.2 W);have yX:=J (fun W=>Ms aS ed ah m2 f b2 oI.1 oI.2 W);unfold SV;generalize gi ⟨aU,cz⟩ aI m0 f b2=n0 at *
 generalize gi ⟨aL,dv⟩ h1 m1 f b2=lL at *
 generalize gi ⟨aS,ed⟩ ah m2 f b2=n2 at *
 obtain ⟨dK,z0⟩:=n0;obtain ⟨c8,gu⟩:=lL;obtain ⟨dT,z2⟩:=n2;simp only at Da yY yX ⊢
 have Fc:Hid (nc 0 aU dK=nc 0 aU dK):=rfl;obtain ⟨lW,Iz⟩:=aE (nc 0 aU dK);obtain ⟨ft,IA⟩:=aE (nc 1 aL c8);obtain ⟨fN,IB⟩:=aE (nc 2 aS dT);rw [Iz,IA,IB];have Fc:=J Iz;have e5:=J IA;have e1:=J IB;have iW:Hid (lW.length<=1/\ft.length<=1/\fN.length<=1):=⟨by rw [<- Iz];exact Dw _ _ _,by rw [<- IA];exact Dw _ _ _,by rw [<- IB];exact Dw _ _ _⟩
 have ag:=J (kI.new aU aL aS cz dv ed aI h1 ah m0 m1 m2 w);have eo:=ag.j0.cell;clear Iz IA IB q4 AB oI
 go_enter func135,ntmps135
 go_wp2_with fail;clear eo;obtain ⟨aM,gx⟩:=aE ((((w.alloc (.cells #[.bool aU,.i cz,.bool aL,.i dv,.bool aS,.i ed] 235)).alloc (.cells #[.bool aI,.bool h1,.bool ah] 33)).alloc (.cells #[.bool m0,.bool m1,.bool m2] 33)).alloc (.cells #[.bool false,.i 0,.bool false,.i 0,.bool false,.i 0] 235));rw [gx] at ag ⊢
 clear gx
 go_loopw [12,16] (fun uv ii wr=>(ii=.i 0/\kI #[.bool aU,.i cz,.bool aL,.i dv,.bool aS,.i ed] aI h1 ah m0 m1 m2 w wr/\Own wr w.heap.size 51 dA uv (nK lW ft fN 0))\/(ii=.i 1/\kI #[.bool dK,.i z0,.bool aL,.i dv,.bool aS,.i ed] aI h1 ah m0 m1 m2 w wr/\Own wr w.heap.size 51 dA uv (nK lW ft fN 1))\/(ii=.i 2/\kI #[.bool dK,.i z0,.bool c8,.i gu,.bool aS,.i ed] aI h1 ah m0 m1 m2 w wr/\Own wr w.heap.size 51 dA uv (nK lW ft fN 2))\/(ii=.i 3/\kI #[.bool dK,.i z0,.bool c8,.i gu,.bool dT,.i z2] aI h1 ah m0 m1 m2 w wr/\Own wr w.heap.size 51 dA uv (nK lW ft fN 3))) (fun _ ii _=>3-(intOf ii).toNat)
 case atStart=>exact .inl ⟨rfl,ag.out,Own.e8 _ _ _ _⟩
 case round =>
  clear ag
  rcases hrel with ⟨rfl,bd,ho⟩|⟨rfl,bd,ho⟩|⟨rfl,bd,ho⟩|⟨rfl,bd,ho⟩
  ·have ao:=J bd
   have bJ:=J ho;clear bd ho;obtain ⟨bz,c1,BG,_⟩:=bJ.form;subst BG;obtain ⟨ct,eB⟩:=aE (nK lW ft fN 0);have hL:Hid (nK lW ft fN 1=ct++lW):=by show _=_;rw [<- eB];simp [nK]
   have mI:Hid (ct.length<=2):=by show _<=_;rw [<- eB];have:=iW.out;simp [nK] <;> omega
   rw [eB] at bJ ⊢
   clear eB;have bs:=J (ar.new wr 234 #[.bool false,.i 0])
   go_wp2_with (refine ch rfl 234 (.tmp 14) (.tmp 19) rfl wr.heap.size 234 #[.bool false,.i 0] #[.bool aU,.i cz] rfl rfl bs.out rfl wq cc ?_;intro b3 cp bT dm)
   have eZ:Below wr.heap.size wr b3:=((aO wr.heap.size wr).alloc aF (.cells #[.bool false,.i 0] 234)).grown bT av dP;have ap:=J (ae (ao.below (eZ.trans ((aO b3.heap.size b3).drew.mono eZ.size))) (ae cp.drew (bJ.below (eZ.trans ((aO b3.heap.size b3).drew.mono eZ.size)) aF)));have iR:Hid (w.heap.size+1+1+1<wr.heap.size):=ao.jQ.lt;clear bT dm cp eZ bs;obtain ⟨wd,aG⟩:=aE b3.drew;rw [aG] at ap
   refine wp_region_held_drew (S:=fun w'=>w'.cell? ⟨wr.heap.size,0,none⟩=some (.bool aU)/\w'.cell? ⟨wr.heap.size,1,none⟩=some (.i cz)/\w'.cell? ⟨w.heap.size+1,0,none⟩=some (.bool aI)/\w'.cell? ⟨w.heap.size+1+1,0,none⟩=some (.bool m0)) ai (by rw [aG];exact (ae (ap.2.1.cell 0) (ae (ap.2.1.cell 1) (ae (ap.1.hb.cell 0) (ap.1.qt.cell 0))))) (fun hHeld=>?_);rw [aG] at hHeld ⊢
   clear aG;refine aj 0 ?_;refine aj 1 ?_;refine aj 2 ?_;refine aj 3 ?_;refine aj 4 ?_;refine aj 5 ?_;refine aj 6 ?_;refine aj 7 ?_;refine aj 8 ?_;refine aj 9 ?_;refine dR 10 30 rfl rfl ai aH (fun K hK=>?_);go_simp;refine (Da.out wd).mono ?_;rintro e dy ⟨rfl,fD⟩;have ap:=J (ae (ap.1.below fD) (ae (ap.2.1.bw fD) (ap.2.2.below fD aF)));clear fD;have hHeld:=(ae (ap.2.1.cell 0) (ae (ap.2.1.cell 1) (ae (ap.1.hb.cell 0) (ap.1.qt.cell 0))))
   refine hK _ _ hHeld ?_;clear hK K;simp only [Act.put,aY,aZ,a1];refine aj 11 ?_;refine Mt 12 rfl ai aH 234 _ _ rfl w.heap.size 0 235 #[.bool aU,.i cz,.bool aL,.i dv,.bool aS,.i ed] #[.bool dK,.i z0] rfl rfl ap.1.j0 av ai cc ?_;intro cN zr ou wt;have ap:=J (ae (ap.1.set (xG:=#[.bool dK,.i z0,.bool aL,.i dv,.bool aS,.i ed]) zr ou) (ae (ap.2.1.grown ou (by intro e;injection e with e;have:=iR.out;omega)) (ap.2.2.grown ou (.inr fun e=>(ap.2.2.fK ap.1.j0 ak) e.symm))));clear zr ou wt;refine ⟨(ae (ap.2.1.cell 0) (ae (ap.2.1.cell 1) (ae (ap.1.hb.cell 0) (ap.1.qt.cell 0)))),?_⟩;simp only [Act.put,aY,aZ,a1];refine wpAnyH_done ai ?_ _;clear hHeld;have eo:=ap.1.j0.cell;have SX:=ap.2.1.cell
   cases aU
   ·cases dK
    ·have cq:Hid (lW = []):=Fc.symm
     have dh:Hid (kI #[.bool false,.i z0,.bool aL,.i dv,.bool aS,.i ed] aI h1 ah m0 m1 m2 w cN/\Own cN w.heap.size 51 dA (.slice bz ct.length c1) (ct++lW)):=⟨ap.1,by rw [cq.out,rR];exact ap.2.2⟩
     clear ap;go_wp2_with fail
     go_roundw
     case rel=>exact .inr (.inl ⟨cm,dh.1,by rw [hL.out];exact dh.2⟩)
     case measure=>exact ef
    ·have cq:Hid (lW = [(⟨6,iI,0,0⟩:cP)]):=Fc.symm
     have cA:=J ((aO cN.heap.size cN).alloc aF (.cells #[.i 6,.string ⟨#[]⟩,.i 0,.i 0] 51));have j5:=J (a7.made cN dA [(⟨6,iI,0,0⟩:cP)] 51 #[.i 6,.string ⟨#[]⟩,.i 0,.i 0] (0,0) rfl)
     go_wp2_with (at_builtin;refine hW sA dA rfl (.tmp 42) (.tmp 45) rfl w.heap.size _ ct rfl (ap.2.2.alloc _) _ [(⟨6,iI,0,0⟩:cP)] 1 rfl j5 (by have:=mI.out;simp;omega) (by have:=mI.out;simp;omega) (by have:=ap.1.aR.size;simp;omega) ?_;intro b5 c3 w3 eX eF _;have dh:=J (ae ((ap.1.below cA).od (ap.2.2.alloc _) eF) (show Own w3 w.heap.size 51 dA (.slice b5 (ct.length + [(⟨6,iI,0,0⟩:cP)].length) c3) (ct++lW) by rw [cq.out];exact eX));clear eX eF)
     go_roundw
     case rel=>exact .inr (.inl ⟨cm,dh.1,by rw [hL.out];exact dh.2⟩)
     case measure=>exact ef
   ·cases dK
    ·have cq:Hid (lW = [(⟨7,iI,0,0⟩:cP)]):=Fc.symm
     have cA:=J ((aO cN.heap.size cN).alloc aF (.cells #[.i 7,.string ⟨#[]⟩,.i 0,.i 0] 51));have j5:=J (a7.made cN dA [(⟨7,iI,0,0⟩:cP)] 51 #[.i 7,.string ⟨#[]⟩,.i 0,.i 0] (0,0) rfl)
     go_wp2_with (at_builtin;refine hW sA dA rfl (.tmp 57) (.tmp 60) rfl w.heap.size _ ct rfl (ap.2.2.alloc _) _ [(⟨7,iI,0,0⟩:cP)] 1 rfl j5 (by have:=mI.out;simp;omega) (by have:=mI.out;simp;omega) (by have:=ap.1.aR.size;simp;omega) ?_;intro b5 c3 w3 eX eF _;have dh:=J (ae ((ap.1.below cA).od (ap.2.2.alloc _) eF) (show Own w3 w.heap.size 51 dA (.slice b5 (ct.length + [(⟨7,iI,0,0⟩:cP)].length) c3) (ct++lW) by rw [cq.out];exact eX));clear eX eF)
     go_roundw
     case rel=>exact .inr (.inl ⟨cm,dh.1,by rw [hL.out];exact dh.2⟩)
     case measure=>exact ef
    ·have cq:Hid (lW = []):=Fc.symm
     have dh:Hid (kI #[.bool true,.i z0,.bool aL,.i dv,.bool aS,.i ed] aI h1 ah m0 m1 m2 w cN/\Own cN w.heap.size 51 dA (.slice bz ct.length c1) (ct++lW)):=⟨ap.1,by rw [cq.out,rR];exact ap.2.2⟩
     clear ap;go_wp2_with fail
     go_roundw
     case rel=>exact .inr (.inl ⟨cm,dh.1,by rw [hL.out];exact dh.2⟩)
     case measure=>exact ef
  ·have ao:=J bd
   have bJ:=J ho;clear bd ho;obtain ⟨bz,c1,BG,_⟩:=bJ.form;subst BG;obtain ⟨ct,eB⟩:=aE (nK lW ft fN 1);have hL:Hid (nK lW ft fN 2=ct++ft):=by show _=_;rw [<- eB];simp [nK]
   have mI:Hid (ct.length<=2):=by show _<=_;rw [<- eB];have:=iW.out;simp [nK] <;> omega
   rw [eB] at bJ ⊢
   clear eB;have bs:=J (ar.new wr 234 #[.bool false,.i 0])
   go_wp2_with (refine ch rfl 234 (.tmp 14) (.tmp 19) rfl wr.heap.size 234 #[.bool false,.i 0] #[.bool aL,.i dv] rfl rfl bs.out rfl wq cc ?_;intro b3 cp bT dm)
   have eZ:Below wr.heap.size wr b3:=((aO wr.heap.size wr).alloc aF (.cells #[.bool false,.i 0] 234)).grown bT av dP;have ap:=J (ae (ao.below (eZ.trans ((aO b3.heap.size b3).drew.mono eZ.size))) (ae cp.drew (bJ.below (eZ.trans ((aO b3.heap.size b3).drew.mono eZ.size)) aF)));have iR:Hid (w.heap.size+1+1+1<wr.heap.size):=ao.jQ.lt;clear bT dm cp eZ bs;obtain ⟨wd,aG⟩:=aE b3.drew;rw [aG] at ap
   refine wp_region_held_drew (S:=fun w'=>w'.cell? ⟨wr.heap.size,0,none⟩=some (.bool aL)/\w'.cell? ⟨wr.heap.size,1,none⟩=some (.i dv)/\w'.cell? ⟨w.heap.size+1,1,none⟩=some (.bool h1)/\w'.cell? ⟨w.heap.size+1+1,1,none⟩=some (.bool m1)) ai (by rw [aG];exact (ae (ap.2.1.cell 0) (ae (ap.2.1.cell 1) (ae (ap.1.hb.cell 1) (ap.1.qt.cell 1))))) (fun hHeld=>?_);rw [aG] at hHeld ⊢
   clear aG;refine aj 0 ?_;refine aj 1 ?_;refine aj 2 ?_;refine aj 3 ?_;refine aj 4 ?_;refine aj 5 ?_;refine aj 6 ?_;refine aj 7 ?_;refine aj 8 ?_;refine aj 9 ?_;refine dR 10 30 rfl rfl ai aH (fun K hK=>?_);go_simp;refine (yY.out wd).mono ?_;rintro e dy ⟨rfl,fD⟩;have ap:=J (ae (ap.1.below fD) (ae (ap.2.1.bw fD) (ap.2.2.below fD aF)));clear fD;have hHeld:=(ae (ap.2.1.cell 0) (ae (ap.2.1.cell 1) (ae (ap.1.hb.cell 1) (ap.1.qt.cell 1))))
   refine hK _ _ hHeld ?_;clear hK K;simp only [Act.put,aY,aZ,a1];refine aj 11 ?_;refine Mt 12 rfl ai aH 234 _ _ rfl w.heap.size 2 235 #[.bool dK,.i z0,.bool aL,.i dv,.bool aS,.i ed] #[.bool c8,.i gu] rfl rfl ap.1.j0 av ai cc ?_;intro cN zr ou wt;have ap:=J (ae (ap.1.set (xG:=#[.bool dK,.i z0,.bool c8,.i gu,.bool aS,.i ed]) zr ou) (ae (ap.2.1.grown ou (by intro e;injection e with e;have:=iR.out;omega)) (ap.2.2.grown ou (.inr fun e=>(ap.2.2.fK ap.1.j0 ak) e.symm))));clear zr ou wt;refine ⟨(ae (ap.2.1.cell 0) (ae (ap.2.1.cell 1) (ae (ap.1.hb.cell 1) (ap.1.qt.cell 1)))),?_⟩;simp only [Act.put,aY,aZ,a1];refine wpAnyH_done ai ?_ _;clear hHeld;have eo:=ap.1.j0.cell;have SX:=ap.2.1.cell
   cases aL
   ·cases c8
    ·have cq:Hid (ft = []):=e5.symm
     have dh:Hid (kI #[.bool dK,.i z0,.bool false,.i gu,.bool aS,.i ed] aI h1 ah m0 m1 m2 w cN/\Own cN w.heap.size 51 dA (.slice bz ct.length c1) (ct++ft)):=⟨ap.1,by rw [cq.out,rR];exact ap.2.2⟩
     clear ap;go_wp2_with fail
     go_roundw
     case rel=>exact .inr (.inr (.inl ⟨cm,dh.1,by rw [hL.out];exact dh.2⟩))
     case measure=>exact ef
    ·have cq:Hid (ft = [(⟨6,iI,1,0⟩:cP)]):=e5.symm
     have cA:=J ((aO cN.heap.size cN).alloc aF (.cells #[.i 6,.string ⟨#[]⟩,.i 1,.i 0] 51));have j5:=J (a7.made cN dA [(⟨6,iI,1,0⟩:cP)] 51 #[.i 6,.string ⟨#[]⟩,.i 1,.i 0] (0,0) rfl)
     go_wp2_with (at_builtin;refine hW sA dA rfl (.tmp 42) (.tmp 45) rfl w.heap.size _ ct rfl (ap.2.2.alloc _) _ [(⟨6,iI,1,0⟩:cP)] 1 rfl j5 (by have:=mI.out;simp;omega) (by have:=mI.out;simp;omega) (by have:=ap.1.aR.size;simp;omega) ?_;intro b5 c3 w3 eX eF _;have dh:=J (ae ((ap.1.below cA).od (ap.2.2.alloc _) eF) (show Own w3 w.heap.size 51 dA (.slice b5 (ct.length + [(⟨6,iI,1,0⟩:cP)].length) c3) (ct++ft) by rw [cq.out];exact eX));clear eX eF)
     go_roundw
     case rel=>exact .inr (.inr (.inl ⟨cm,dh.1,by rw [hL.out];exact dh.2⟩))
     case measure=>exact ef
   ·cases c8
    ·have cq:Hid (ft = [(⟨7,iI,1,0⟩:cP)]):=e5.symm
     have cA:=J ((aO cN.heap.size cN).alloc aF (.cells #[.i 7,.string ⟨#[]⟩,.i 1,.i 0] 51));have j5:=J (a7.made cN dA [(⟨7,iI,1,0⟩:cP)] 51 #[.i 7,.string ⟨#[]⟩,.i 1,.i 0] (0,0) rfl)
     go_wp2_with (at_builtin;refine hW sA dA rfl (.tmp 57) (.tmp 60) rfl w.heap.size _ ct rfl (ap.2.2.alloc _) _ [(⟨7,iI,1,0⟩:cP)] 1 rfl j5 (by have:=mI.out;simp;omega) (by have:=mI.out;simp;omega) (by have:=ap.1.aR.size;simp;omega) ?_;intro b5 c3 w3 eX eF _;have dh:=J (ae ((ap.1.below cA).od (ap.2.2.alloc _) eF) (show Own w3 w.heap.size 51 dA (.slice b5 (ct.length + [(⟨7,iI,1,0⟩:cP)].length) c3) (ct++ft) by rw [cq.out];exact eX));clear eX eF)
     go_roundw
     case rel=>exact .inr (.inr (.inl ⟨cm,dh.1,by rw [hL.out];exact dh.2⟩))
     case measure=>exact ef
    ·have cq:Hid (ft = []):=e5.symm
     have dh:Hid (kI #[.bool dK,.i z0,.bool true,.i gu,.bool aS,.i ed] aI h1 ah m0 m1 m2 w cN/\Own cN w.heap.size 51 dA (.slice bz ct.length c1) (ct++ft)):=⟨ap.1,by rw [cq.out,rR];exact ap.2.2⟩
     clear ap;go_wp2_with fail
     go_roundw
     case rel=>exact .inr (.inr (.inl ⟨cm,dh.1,by rw [hL.out];exact dh.2⟩))
     case measure=>exact ef
  ·have ao:=J bd
   have bJ:=J ho;clear bd ho;obtain ⟨bz,c1,BG,_⟩:=bJ.form;subst BG;obtain ⟨ct,eB⟩:=aE (nK lW ft fN 2);have hL:Hid (nK lW ft fN 3=ct++fN):=by show _=_;rw [<- eB];simp [nK]
   have mI:Hid (ct.length<=2):=by show _<=_;rw [<- eB];have:=iW.out;simp [nK] <;> omega
   rw [eB] at bJ ⊢
   clear eB;have bs:=J (ar.new wr 234 #[.bool false,.i 0])
   go_wp2_with (refine ch rfl 234 (.tmp 14) (.tmp 19) rfl wr.heap.size 234 #[.bool false,.i 0] #[.bool aS,.i ed] rfl rfl bs.out rfl wq cc ?_;intro b3 cp bT dm)
   have eZ:Below wr.heap.size wr b3:=((aO wr.heap.size wr).alloc aF (.cells #[.bool false,.i 0] 234)).grown bT av dP;have ap:=J (ae (ao.below (eZ.trans ((aO b3.heap.size b3).drew.mono eZ.size))) (ae cp.drew (bJ.below (eZ.trans ((aO b3.heap.size b3).drew.mono eZ.size)) aF)));have iR:Hid (w.heap.size+1+1+1<wr.heap.size):=ao.jQ.lt;clear bT dm cp eZ bs;obtain ⟨wd,aG⟩:=aE b3.drew;rw [aG] at ap
   refine wp_region_held_drew (S:=fun w'=>w'.cell? ⟨wr.heap.size,0,none⟩=some (.bool aS)/\w'.cell? ⟨wr.heap.size,1,none⟩=some (.i ed)/\w'.cell? ⟨w.heap.size+1,2,none⟩=some (.bool ah)/\w'.cell? ⟨w.heap.size+1+1,2,none⟩=some (.bool m2)) ai (by rw [aG];exact (ae (ap.2.1.cell 0) (ae (ap.2.1.cell 1) (ae (ap.1.hb.cell 2) (ap.1.qt.cell 2))))) (fun hHeld=>?_);rw [aG] at hHeld ⊢
   clear aG;refine aj 0 ?_;refine aj 1 ?_;refine aj 2 ?_;refine aj 3 ?_;refine aj 4 ?_;refine aj 5 ?_;refine aj 6 ?_;refine aj 7 ?_;refine aj 8 ?_;refine aj 9 ?_;refine dR 10 30 rfl rfl ai aH (fun K hK=>?_);go_simp;refine (yX.out wd).mono ?_;rintro e dy ⟨rfl,fD⟩;have ap:=J (ae (ap.1.below fD) (ae (ap.2.1.bw fD) (ap.2.2.below fD aF)));clear fD;have hHeld:=(ae (ap.2.1.cell 0) (ae (ap.2.1.cell 1) (ae (ap.1.hb.cell 2) (ap.1.qt.cell 2))))
   refine hK _ _ hHeld ?_;clear hK K;simp only [Act.put,aY,aZ,a1];refine aj 11 ?_;refine Mt 12 rfl ai aH 234 _ _ rfl w.heap.size 4 235 #[.bool dK,.i z0,.bool c8,.i gu,.bool aS,.i ed] #[.bool dT,.i z2] rfl rfl ap.1.j0 av ai cc ?_;intro cN zr ou wt;have ap:=J (ae (ap.1.set (xG:=#[.bool dK,.i z0,.bool c8,.i gu,.bool dT,.i z2]) zr ou) (ae (ap.2.1.grown ou (by intro e;injection e with e;have:=iR.out;omega)) (ap.2.2.grown ou (.inr fun e=>(ap.2.2.fK ap.1.j0 ak) e.symm))));clear zr ou wt;refine ⟨(ae (ap.2.1.cell 0) (ae (ap.2.1.cell 1) (ae (ap.1.hb.cell 2) (ap.1.qt.cell 2)))),?_⟩;simp only [Act.put,aY,aZ,a1];refine wpAnyH_done ai ?_ _;clear hHeld;have eo:=ap.1.j0.cell;have SX:=ap.2.1.cell
   cases aS
   ·cases dT
    ·have cq:Hid (fN = []):=e1.symm
     have dh:Hid (kI #[.bool dK,.i z0,.bool c8,.i gu,.bool false,.i z2] aI h1 ah m0 m1 m2 w cN/\Own cN w.heap.size 51 dA (.slice bz ct.length c1) (ct++fN)):=⟨ap.1,by rw [cq.out,rR];exact ap.2.2⟩
     clear ap;go_wp2_with fail
     go_roundw
     case rel=>exact .inr (.inr (.inr ⟨cm,dh.1,by rw [hL.out];exact dh.2⟩))
     case measure=>exact ef
    ·have cq:Hid (fN = [(⟨6,iI,2,0⟩:cP)]):=e1.symm
     have cA:=J ((aO cN.heap.size cN).alloc aF (.cells #[.i 6,.string ⟨#[]⟩,.i 2,.i 0] 51));have j5:=J (a7.made cN dA [(⟨6,iI,2,0⟩:cP)] 51 #[.i 6,.string ⟨#[]⟩,.i 2,.i 0] (0,0) rfl)
     go_wp2_with (at_builtin;refine hW sA dA rfl (.tmp 42) (.tmp 45) rfl w.heap.size _ ct rfl (ap.2.2.alloc _) _ [(⟨6,iI,2,0⟩:cP)] 1 rfl j5 (by have:=mI.out;simp;omega) (by have:=mI.out;simp;omega) (by have:=ap.1.aR.size;simp;omega) ?_;intro b5 c3 w3 eX eF _;have dh:=J (ae ((ap.1.below cA).od (ap.2.2.alloc _) eF) (show Own w3 w.heap.size 51 dA (.slice b5 (ct.length + [(⟨6,iI,2,0⟩:cP)].length) c3) (ct++fN) by rw [cq.out];exact eX));clear eX eF)
     go_roundw
     case rel=>exact .inr (.inr (.inr ⟨cm,dh.1,by rw [hL.out];exact dh.2⟩))
     case measure=>exact ef
   ·cases dT
    ·have cq:Hid (fN = [(⟨7,iI,2,0⟩:cP)]):=e1.symm
     have cA:=J ((aO cN.heap.size cN).alloc aF (.cells #[.i 7,.string ⟨#[]⟩,.i 2,.i 0] 51));have j5:=J (a7.made cN dA [(⟨7,iI,2,0⟩:cP)] 51 #[.i 7,.string ⟨#[]⟩,.i 2,.i 0] (0,0) rfl)
     go_wp2_with (at_builtin;refine hW sA dA rfl (.tmp 57) (.tmp 60) rfl w.heap.size _ ct rfl (ap.2.2.alloc _) _ [(⟨7,iI,2,0⟩:cP)] 1 rfl j5 (by have:=mI.out;simp;omega) (by have:=mI.out;simp;omega) (by have:=ap.1.aR.size;simp;omega) ?_;intro b5 c3 w3 eX eF _;have dh:=J (ae ((ap.1.below cA).od (ap.2.2.alloc _) eF) (show Own w3 w.heap.size 51 dA (.slice b5 (ct.length + [(⟨7,iI,2,0⟩:cP)].length) c3) (ct++fN) by rw [cq.out];exact eX));clear eX eF)
     go_roundw
     case rel=>exact .inr (.inr (.inr ⟨cm,dh.1,by rw [hL.out];exact dh.2⟩))
     case measure=>exact ef
    ·have cq:Hid (fN = []):=e1.symm
     have dh:Hid (kI #[.bool dK,.i z0,.bool c8,.i gu,.bool true,.i z2] aI h1 ah m0 m1 m2 w cN/\Own cN w.heap.size 51 dA (.slice bz ct.length c1) (ct++fN)):=⟨ap.1,by rw [cq.out,rR];exact ap.2.2⟩
     clear ap;go_wp2_with fail
     go_roundw
     case rel=>exact .inr (.inr (.inr ⟨cm,dh.1,by rw [hL.out];exact dh.2⟩))
     case measure=>exact ef
  ·have ao:=J bd
   have bJ:=J ho;clear bd ho;obtain ⟨bz,c1,BG,_⟩:=bJ.form;subst BG;have eo:=ao.j0.cell;obtain ⟨ct,eB⟩:=aE (nK lW ft fN 3);have hL:Hid (ct=lW++(ft++fN)):=by show _=_;rw [<- eB];simp [nK]
   rw [eB] at bJ ⊢
   clear eB
   go_wp2_with (refine ch rfl 235 (.tmp 10) (.tmp 63) rfl (w.heap.size+1+1+1) 235 #[.bool false,.i 0,.bool false,.i 0,.bool false,.i 0] #[.bool dK,.i z0,.bool c8,.i gu,.bool dT,.i z2] rfl rfl ao.jQ rfl adq cc ?_;intro bc bS bP dx)
   have dn:=bS.cell;exact cS (v:=.tuple #[.agg #[.bool dK,.i z0,.bool c8,.i gu,.bool dT,.i z2],.slice bz ct.length c1]) (by simp [results,results135,go_sem,dn]) rfl ⟨ct,bz,c1,hL.out,rfl,bJ.grown bP (.inr fun e=>(bJ.fK ao.jQ ak) e.symm),ao.aR.grown bP ao.aR.size dP⟩
end
end Go.Proofs.YtmmchlfoplcnbaaGreatDoor
