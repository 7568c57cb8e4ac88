/- A part of the walk. -/
import Derived.Test.YtmmchlfoplcnbaaGreatDoorMD6
namespace Go.Proofs.YtmmchlfoplcnbaaGreatDoor
open Go Go.RowKit Tryz
set_option linter.all false
set_option maxRecDepth 100000
set_option maxHeartbeats 4000000
theorem Nc (t:eH) (ht:t.Ok) (cap sS:Int) (tB:0<=cap) (qa:cap<=9223372036854775807) (ala:0<=sS) (uq:sS<=9223372036854775807) (w:World) :
  Calls prog 187 #[.agg #[.i t.sig,.i t.cb,.i t.ck,.bool t.soft,.i t.cE],.i cap,.i sS] w fun e w'=>e=.returned (.bool (sO t cap sS))/\Below w.heap.size w w':=by
 obtain ⟨la,cx,am,jr,gr⟩:=t
 dsimp only at *
 have aA:=J ((aO w.heap.size w).alloc aF (.cells #[.i la,.i cx,.i am,.bool jr,.i gr] 90));have dl:=J (ar.new w 90 #[.i la,.i cx,.i am,.bool jr,.i gr]);have eo:=dl.cell
 by_cases hp:0<cx
 ·have UO:decide (cx>0)=true:=bO hp
  have agd:cx<=100:=by rcases ht.val with ⟨_,h,_⟩|⟨h,_⟩ <;> simp only at h <;> omega
  obtain ⟨pn,B4⟩:∃ n:Nat,cx=(n:Int):=⟨cx.toNat,af⟩
  obtain ⟨ks,xc⟩:∃ n:Nat,cap=(n:Int):=⟨cap.toNat,af⟩
  obtain ⟨an,UP⟩:∃ n:Nat,sS=(n:Int):=⟨sS.toNat,af⟩
  have aq:=J (fun W=>age an ks pn af af af W);have bC:Hid (sO ⟨la,cx,am,jr,gr⟩ cap sS=decide (an*100<ks*pn)):=by
   show _=_
   unfold sO;rw [bB hp,B4,xc,UP]
   apply decide_eq_decide.2
   constructor
   ·intro h;have:((an*100:Nat):Int)<((ks*pn:Nat):Int):=by push_cast;exact h
    omega
   ·intro h;have:((an*100:Nat):Int)<((ks*pn:Nat):Int):=by omega
    push_cast at this;exact this
  subst xc;subst UP;subst B4;have UO:decide ((0:Int)<(pn:Int))=true:=bO hp;have alb:decide (0<pn)=true:=bO af;have alc:0<pn:=af;clear agd
  go_enter func187,ntmps187
  go_wp2_with fail;refine (aq.out _).mono ?_;rintro e w' ⟨rfl,hb⟩;have aA:=J (aA.trans (hb.mono aA.size));clear hb eo;go_wp2_with fail;go_ret;exact ⟨gw bC.symm,aA.out⟩
 ·have UO:decide (cx>0)=false:=cX hp
  have bC:Hid (sO ⟨la,cx,am,jr,gr⟩ cap sS=decide (sS<am)):=by show _=_;unfold sO;rw [bp hp]
  clear hp
  go_enter func187,ntmps187
  go_wp2_with fail;go_ret;exact ⟨gw bC.symm,aA.out⟩
theorem Nb {w W:World} {A:Option Addr} {l:List eH} (h:a7 w i7 A l) (hb:Below w.heap.size w W) {i:Nat} {x:eH} (hi:l[i]? = some x):∃ b off,A=some ⟨b,off,none⟩/\W.cell? ⟨b,off+i*5,none⟩=some (.i x.sig)/\W.cell? ⟨b,off+i*5+1,none⟩=some (.i x.cb)/\W.cell? ⟨b,off+i*5+2,none⟩=some (.i x.ck)/\W.cell? ⟨b,off+i*5+3,none⟩=some (.bool x.soft)/\W.cell? ⟨b,off+i*5+4,none⟩=some (.i x.cE):=by
 obtain ⟨hl,e⟩:=jv.1 hi;obtain ⟨b,off,aV,_,hc⟩:=(h.below hb).at_ hl;rw [e] at hc
 exact ⟨b,off,aV,by have:=hc 0 (.i x.sig) rfl;simpa using this,hc 1 (.i x.cb) rfl,hc 2 (.i x.ck) rfl,hc 3 (.bool x.soft) rfl,hc 4 (.i x.cE) rfl⟩
structure qD (q:bL) (A:Option Addr) (n c:Nat) (v0 v1 v2:Int) (w W:World):Prop where
 hq:ar W w.heap.size 26 #[.i q.bt,.i q.c1,.i q.c2,.i q.cw,.i q.r1,.i q.r2,.slice A n c,.i q.b2,.i q.ret,.i q.c9,.i q.dead]
 vb:ar W (w.heap.size+1) 23 #[.i v0,.i v1,.i v2]
 aR:Below w.heap.size w W
theorem qD.below {q:bL} {A:Option Addr} {n c:Nat} {v0 v1 v2:Int} {w W W':World} (h:qD q A n c v0 v1 v2 w W) (hb:Below W.heap.size W W'):qD q A n c v0 v1 v2 w W':=⟨h.hq.bw hb,h.vb.bw hb,h.aR.trans (hb.mono h.aR.size)⟩
theorem qD.cF {q:bL} {A:Option Addr} {n c:Nat} {v0 v1 v2:Int} {w W:World} (h:qD q A n c v0 v1 v2 w W) {g:Nat} (az:w.heap.size+1<g) (i:Nat) (u:Value):qD q A n c v0 v1 v2 w (W.setCell ⟨g,i,none⟩ u) :=
 ⟨h.hq.cF (by simp only;omega) u,h.vb.cF (by simp only;omega) u,h.aR.grown (w6 W g i u) h.aR.size (fun k hk=>by injection hk with hk;omega)⟩
theorem qD.new (q:bL) (A:Option Addr) (n c:Nat) (v0 v1 v2:Int) (w:World):qD q A n c v0 v1 v2 w ((w.alloc (.cells #[.i q.bt,.i q.c1,.i q.c2,.i q.cw,.i q.r1,.i q.r2,.slice A n c,.i q.b2,.i q.ret,.i q.c9,.i q.dead] 26)).alloc (.cells #[.i v0,.i v1,.i v2] 23)):=by
 have gu:(w.alloc (.cells #[.i q.bt,.i q.c1,.i q.c2,.i q.cw,.i q.r1,.i q.r2,.slice A n c,.i q.b2,.i q.ret,.i q.c9,.i q.dead] 26)).heap.size=w.heap.size+1:=av;have bX:=ar.new (w.alloc (.cells #[.i q.bt,.i q.c1,.i q.c2,.i q.cw,.i q.r1,.i q.r2,.slice A n c,.i q.b2,.i q.ret,.i q.c9,.i q.dead] 26)) 23 #[.i v0,.i v1,.i v2];rw [gu] at bX
 exact ⟨(ar.new w _ _).alloc _,bX,((aO w.heap.size w).alloc aF _).alloc (by rw [gu];omega) _⟩
theorem TN (q:bL) (bd:q.Ok) (A:Option Addr) (c:Nat) (v0 v1 v2:Int) (aI:0<=v0/\v0<=9223372036854775807) (h1:0<=v1/\v1<=9223372036854775807) (ah:0<=v2/\v2<=9223372036854775807) (w:World) (hr:a7 w i7 A q.ts) :
  Calls prog 134 #[.agg (q.cells A c),.agg #[.i v0,.i v1,.i v2]] w (H7 (hh q v0 v1 v2) w):=by
 have mixed:prog.follows Departure.mixedOrders=true:=ai;unfold bL.cells;have hn:=bd.n;have m0:=bd.m0;have m1:=bd.m1;have m2:=bd.m2;have xH:=J bd.ts;obtain ⟨ts,o2⟩:=aE q.ts;have nY:Hid (hh q v0 v1 v2=ts.map fun t=>sO t (q.cap t.sig) (I3 v0 v1 v2 t.sig)):=by show _=_;unfold hh;rw [o2]
 rw [o2] at hn hr xH ⊢
 clear o2;obtain ⟨n,kc⟩:=aE ts.length;rw [kc] at hn ⊢
 have xt:=J kc;have ag:=J (qD.new q A n c v0 v1 v2 w);obtain ⟨aC,cU⟩:=aE ((w.alloc (.cells #[.i q.bt,.i q.c1,.i q.c2,.i q.cw,.i q.r1,.i q.r2,.slice A n c,.i q.b2,.i q.ret,.i q.c9,.i q.dead] 26)).alloc (.cells #[.i v0,.i v1,.i v2] 23));have zu:=TG n af aC;rw [cU] at ag
 have eo:=ag.hq.cell;obtain ⟨F,hF⟩:∃ F:Nat->Value,F=fun j=>match ts[j]? with|some t=>.bool (sO t (q.cap t.sig) (I3 v0 v1 v2 t.sig))|none=>.bool false:=⟨_,rfl⟩
 have zR:Hid (∀ j t,ts[j]? = some t->F j=.bool (sO t (q.cap t.sig) (I3 v0 v1 v2 t.sig))):=by intro j t h;rw [hF];dsimp only;rw [h]
 clear hF kc;have b4:Hid (ar (aC.alloc (.cells (Array.replicate n (.bool false)) 4)) aC.heap.size 4 (iZ n 0 F (.bool false))):=by rw [I1];exact ar.new _ _ _
 have ry:=J (ag.below ((aO _ _).alloc aF (.cells (Array.replicate n (.bool false)) 4)));have BX:=ry.hq.cell;have nr:Hid (w.heap.size+1<aC.heap.size):=by show _<_;rw [<- cU];simp
 have bx:=J hr;clear ag hr
 go_enter func134,ntmps134
 go_wp2_with fail;clear eo BX zu cU;obtain ⟨aM,gx⟩:=aE (aC.alloc (.cells (Array.replicate n (.bool false)) 4));have lc:Hid (aC.heap.size<aM.heap.size):=by show _<_;rw [<- gx];simp
 rw [gx] at b4 ry ⊢
 clear gx;obtain ⟨g,az⟩:=aE aC.heap.size;rw [az] at b4 lc nr ⊢
 clear az
 go_loopw [15] (fun ii wr=>∃ i:Nat,i<=n/\ii=.i i/\qD q A n c v0 v1 v2 w wr/\ar wr g 4 (iZ n i F (.bool false))) (fun ii _=>n-(intOf ii).toNat)
 case atStart=>exact ⟨0,af,rfl,ry.out,b4.out⟩
 case round =>
  clear b4 ry;obtain ⟨i,hi,rfl,hm,hk⟩:=hrel;have ag:=J hm;have dl:=J hk;have qE:=J hk.lt;clear hk hm
  by_cases aT:i<n
  ·have cg:decide ((i:Int)<(n:Int))=true:=bO af
   have l0:decide (i<n)=true:=bO aT;have kA:(i:Int)<(n:Int):=af;have fC:i<ts.length:=by have:=xt.out;omega
   obtain ⟨⟨la,cx,am,jr,gr⟩,ht⟩:∃ t,ts[i]? = some t:=⟨_,dF fC⟩
   obtain ⟨b,off,rfl,dK,c8,dT,hj,jt⟩:=Nb bx.out ag.aR ht;have wH:=J (zR.out i _ ht);have sP:=J (xH.out _ (qB ht));have BZ:la=0\/la=1\/la=2:=by have h1:=sP.s0;have ah:=sP.s2;simp only at h1 ah;omega
   have bs:=J (ar.new wr 90 #[.i 0,.i 0,.i 0,.bool false,.i 0]);clear ht;simp only at dK c8 dT hj jt
   go_wp2_with (refine ch rfl 90 (.tmp 7) (.tmp 19) rfl wr.heap.size 90 #[.i 0,.i 0,.i 0,.bool false,.i 0] #[.i la,.i cx,.i am,.bool jr,.i gr] rfl rfl bs.out rfl B0 cc ?_;intro b3 cp bT dm)
   have eZ:Below wr.heap.size wr b3:=((aO wr.heap.size wr).alloc aF (.cells #[.i 0,.i 0,.i 0,.bool false,.i 0] 90)).grown bT av dP;have ap:=J (ae (ag.below (eZ.trans ((aO b3.heap.size b3).drew.mono eZ.size))) (ae cp.drew (dl.bw (eZ.trans ((aO b3.heap.size b3).drew.mono eZ.size)))));clear bT dm cp eZ bs dK c8 dT hj jt;obtain ⟨wd,aG⟩:=aE b3.drew;rw [aG] at ap
   rcases BZ with rfl|rfl|rfl
   ·have bN:Hid (F i=.bool (sO ⟨0,cx,am,jr,gr⟩ q.bt v0)):=by show _=_;rw [wH.out];rfl
    refine wp_region_held_drew (S:=fun w'=>w'.cell? ⟨wr.heap.size,0,none⟩=some (.i 0)/\w'.cell? ⟨wr.heap.size,1,none⟩=some (.i cx)/\w'.cell? ⟨wr.heap.size,2,none⟩=some (.i am)/\w'.cell? ⟨wr.heap.size,3,none⟩=some (.bool jr)/\w'.cell? ⟨wr.heap.size,4,none⟩=some (.i gr)/\w'.cell? ⟨w.heap.size,0,none⟩=some (.i q.bt)/\w'.cell? ⟨w.heap.size+1,0,none⟩=some (.i v0)) ai (by rw [aG];exact (ae (ap.2.1.cell 0) (ae (ap.2.1.cell 1) (ae (ap.2.1.cell 2) (ae (ap.2.1.cell 3) (ae (ap.2.1.cell 4) (ae (ap.1.hq.cell 0) (ap.1.vb.cell 0)))))))) (fun hHeld=>?_);rw [aG] at hHeld ⊢
    clear aG;refine aj 0 ?_;refine aj 1 ?_;refine aj 2 ?_;refine aj 3 ?_;refine aj 4 ?_;refine aj 5 ?_;refine aj 6 ?_;refine aj 7 ?_;refine aj 8 ?_;refine aj 9 ?_;refine aj 10 ?_;refine aj 11 ?_;refine dR 12 32 rfl rfl ai aH (fun K hK=>?_);go_simp;refine (Nc ⟨0,cx,am,jr,gr⟩ sP q.bt v0 af af af af wd).mono ?_;rintro e dy ⟨rfl,fD⟩;have ap:=J (ae (ap.1.below fD) (ae (ap.2.1.bw fD) (ap.2.2.bw fD)));clear fD;have hHeld:=(ae (ap.2.1.cell 0) (ae (ap.2.1.cell 1) (ae (ap.2.1.cell 2) (ae (ap.2.1.cell 3) (ae (ap.2.1.cell 4) (ae (ap.1.hq.cell 0) (ap.1.vb.cell 0)))))))
    refine hK _ _ hHeld ?_;clear hK K;simp only [Act.put,aY,aZ,a1];refine aj 13 ?_;refine iC 14 rfl ai aH (fun K hK=>?_);have cs:dy.cell? ⟨g,i,none⟩=some (.bool false):=by rw [ap.2.2.cell,wG aT,bp af]
    have fs:=ap.2.2.frozen i;go_simp;generalize ie:dy.setCell ⟨g,i,none⟩ _=cN;have ap:Hid (qD q (some ⟨b,off,none⟩) n c v0 v1 v2 w cN/\ar cN wr.heap.size 90 #[.i 0,.i cx,.i am,.bool jr,.i gr]/\ar cN g 4 (iZ n (i+1) F (.bool false))):=by
     subst ie;refine ⟨ap.1.cF nr.out i _,ap.2.1.cF (by simp only;have:=qE.out;omega) _,?_⟩;have:=ap.2.2.eW i (F i);rw [zQ aT] at this
     rwa [bN.out] at this
    clear ie cs fs;have hHeld:=(ae (ap.2.1.cell 0) (ae (ap.2.1.cell 1) (ae (ap.2.1.cell 2) (ae (ap.2.1.cell 3) (ae (ap.2.1.cell 4) (ae (ap.1.hq.cell 0) (ap.1.vb.cell 0)))))))
    refine hK undef _ hHeld ?_;clear hK K;simp only [Act.put,aY,aZ,a1];refine wpAnyH_done ai ?_ _;clear hHeld;go_wp2_with fail
    go_roundw
    case rel=>exact ⟨i+1,af,cm,ap.1,ap.2.2⟩
    case measure=>exact c4
   ·have bN:Hid (F i=.bool (sO ⟨1,cx,am,jr,gr⟩ q.c1 v1)):=by show _=_;rw [wH.out];rfl
    refine wp_region_held_drew (S:=fun w'=>w'.cell? ⟨wr.heap.size,0,none⟩=some (.i 1)/\w'.cell? ⟨wr.heap.size,1,none⟩=some (.i cx)/\w'.cell? ⟨wr.heap.size,2,none⟩=some (.i am)/\w'.cell? ⟨wr.heap.size,3,none⟩=some (.bool jr)/\w'.cell? ⟨wr.heap.size,4,none⟩=some (.i gr)/\w'.cell? ⟨w.heap.size,1,none⟩=some (.i q.c1)/\w'.cell? ⟨w.heap.size+1,1,none⟩=some (.i v1)) ai (by rw [aG];exact (ae (ap.2.1.cell 0) (ae (ap.2.1.cell 1) (ae (ap.2.1.cell 2) (ae (ap.2.1.cell 3) (ae (ap.2.1.cell 4) (ae (ap.1.hq.cell 1) (ap.1.vb.cell 1)))))))) (fun hHeld=>?_);rw [aG] at hHeld ⊢
    clear aG;refine aj 0 ?_;refine aj 1 ?_;refine aj 2 ?_;refine aj 3 ?_;refine aj 4 ?_;refine aj 5 ?_;refine aj 6 ?_;refine aj 7 ?_;refine aj 8 ?_;refine aj 9 ?_;refine aj 10 ?_;refine aj 11 ?_;refine dR 12 32 rfl rfl ai aH (fun K hK=>?_);go_simp;refine (Nc ⟨1,cx,am,jr,gr⟩ sP q.c1 v1 af af af af wd).mono ?_;rintro e dy ⟨rfl,fD⟩;have ap:=J (ae (ap.1.below fD) (ae (ap.2.1.bw fD) (ap.2.2.bw fD)));clear fD;have hHeld:=(ae (ap.2.1.cell 0) (ae (ap.2.1.cell 1) (ae (ap.2.1.cell 2) (ae (ap.2.1.cell 3) (ae (ap.2.1.cell 4) (ae (ap.1.hq.cell 1) (ap.1.vb.cell 1)))))))
    refine hK _ _ hHeld ?_;clear hK K;simp only [Act.put,aY,aZ,a1];refine aj 13 ?_;refine iC 14 rfl ai aH (fun K hK=>?_);have cs:dy.cell? ⟨g,i,none⟩=some (.bool false):=by rw [ap.2.2.cell,wG aT,bp af]
    have fs:=ap.2.2.frozen i;go_simp;generalize ie:dy.setCell ⟨g,i,none⟩ _=cN;have ap:Hid (qD q (some ⟨b,off,none⟩) n c v0 v1 v2 w cN/\ar cN wr.heap.size 90 #[.i 1,.i cx,.i am,.bool jr,.i gr]/\ar cN g 4 (iZ n (i+1) F (.bool false))):=by
     subst ie;refine ⟨ap.1.cF nr.out i _,ap.2.1.cF (by simp only;have:=qE.out;omega) _,?_⟩;have:=ap.2.2.eW i (F i);rw [zQ aT] at this
     rwa [bN.out] at this
    clear ie cs fs;have hHeld:=(ae (ap.2.1.cell 0) (ae (ap.2.1.cell 1) (ae (ap.2.1.cell 2) (ae (ap.2.1.cell 3) (ae (ap.2.1.cell 4) (ae (ap.1.hq.cell 1) (ap.1.vb.cell 1)))))))
    refine hK undef _ hHeld ?_;clear hK K;simp only [Act.put,aY,aZ,a1];refine wpAnyH_done ai ?_ _;clear hHeld;go_wp2_with fail
    go_roundw
    case rel=>exact ⟨i+1,af,cm,ap.1,ap.2.2⟩
    case measure=>exact c4
   ·have bN:Hid (F i=.bool (sO ⟨2,cx,am,jr,gr⟩ q.c2 v2)):=by show _=_;rw [wH.out];rfl
    refine wp_region_held_drew (S:=fun w'=>w'.cell? ⟨wr.heap.size,0,none⟩=some (.i 2)/\w'.cell? ⟨wr.heap.size,1,none⟩=some (.i cx)/\w'.cell? ⟨wr.heap.size,2,none⟩=some (.i am)/\w'.cell? ⟨wr.heap.size,3,none⟩=some (.bool jr)/\w'.cell? ⟨wr.heap.size,4,none⟩=some (.i gr)/\w'.cell? ⟨w.heap.size,2,none⟩=some (.i q.c2)/\w'.cell? ⟨w.heap.size+1,2,none⟩=some (.i v2)) ai (by rw [aG];exact (ae (ap.2.1.cell 0) (ae (ap.2.1.cell 1) (ae (ap.2.1.cell 2) (ae (ap.2.1.cell 3) (ae (ap.2.1.cell 4) (ae (ap.1.hq.cell 2) (ap.1.vb.cell 2)))))))) (fun hHeld=>?_);rw [aG] at hHeld ⊢
    clear aG;refine aj 0 ?_;refine aj 1 ?_;refine aj 2 ?_;refine aj 3 ?_;refine aj 4 ?_;refine aj 5 ?_;refine aj 6 ?_;refine aj 7 ?_;refine aj 8 ?_;refine aj 9 ?_;refine aj 10 ?_;refine aj 11 ?_;refine dR 12 32 rfl rfl ai aH (fun K hK=>?_);go_simp;refine (Nc ⟨2,cx,am,jr,gr⟩ sP q.c2 v2 af af af af wd).mono ?_;rintro e dy ⟨rfl,fD⟩;have ap:=J (ae (ap.1.below fD) (ae (ap.2.1.bw fD) (ap.2.2.bw fD)));clear fD;have hHeld:=(ae (ap.2.1.cell 0) (ae (ap.2.1.cell 1) (ae (ap.2.1.cell 2) (ae (ap.2.1.cell 3) (ae (ap.2.1.cell 4) (ae (ap.1.hq.cell 2) (ap.1.vb.cell 2)))))))
    refine hK _ _ hHeld ?_;clear hK K;simp only [Act.put,aY,aZ,a1];refine aj 13 ?_;refine iC 14 rfl ai aH (fun K hK=>?_);have cs:dy.cell? ⟨g,i,none⟩=some (.bool false):=by rw [ap.2.2.cell,wG aT,bp af]
    have fs:=ap.2.2.frozen i;go_simp;generalize ie:dy.setCell ⟨g,i,none⟩ _=cN;have ap:Hid (qD q (some ⟨b,off,none⟩) n c v0 v1 v2 w cN/\ar cN wr.heap.size 90 #[.i 2,.i cx,.i am,.bool jr,.i gr]/\ar cN g 4 (iZ n (i+1) F (.bool false))):=by
     subst ie;refine ⟨ap.1.cF nr.out i _,ap.2.1.cF (by simp only;have:=qE.out;omega) _,?_⟩;have:=ap.2.2.eW i (F i);rw [zQ aT] at this
     rwa [bN.out] at this
    clear ie cs fs;have hHeld:=(ae (ap.2.1.cell 0) (ae (ap.2.1.cell 1) (ae (ap.2.1.cell 2) (ae (ap.2.1.cell 3) (ae (ap.2.1.cell 4) (ae (ap.1.hq.cell 2) (ap.1.vb.cell 2)))))))
    refine hK undef _ hHeld ?_;clear hK K;simp only [Act.put,aY,aZ,a1];refine wpAnyH_done ai ?_ _;clear hHeld;go_wp2_with fail
    go_roundw
    case rel=>exact ⟨i+1,af,cm,ap.1,ap.2.2⟩
    case measure=>exact c4
  ·obtain rfl:i=n:=by omega
   have cg:decide ((i:Int)<(i:Int))=false:=av;go_wp2_with fail;go_ret;refine ⟨g,by rw [nY.out,lJ,xt.out];rfl,by have:=nr.out;omega,?_,ag.aR⟩;have:=dl.out
   rwa [I2 (l:=(hh q v0 v1 v2).map Value.bool) (by rw [nY.out,lJ,lJ,xt.out]) (fun j aD=>by
    simp only [nY.out,lJ] at aD
    rw [zR.out j ts[j] (dF aD)];simp [nY.out])] at this
theorem aeS {l:List Bool} {g:Nat} {w:World} {i:Nat} {s:Bool} (h:ar w g 4 (l.map .bool).toArray) (hi:l[i]? = some s):w.cell? ⟨g,i,none⟩=some (.bool s):=by
 rw [h.cell,s8,qW,hi];rfl
theorem Nd {w W:World} {A:Option Addr} {l:List Int} (h:a7 w qP A l) (hb:Below w.heap.size w W) {i:Nat} {x:Int} (hi:l[i]? = some x):∃ b off,A=some ⟨b,off,none⟩/\W.cell? ⟨b,off+i,none⟩=some (.i x):=by
 obtain ⟨hl,e⟩:=jv.1 hi;obtain ⟨b,off,aV,_,hc⟩:=(h.below hb).at_ hl;rw [e] at hc
 exact ⟨b,off,aV,by have:=hc 0 (.i x) rfl;simpa using this⟩
theorem aeT (q:bL) (bd:q.Ok) (A:Option Addr) (c:Nat) (since:List Int) (As:Option Addr) (cs:Nat) (v0 v1 v2 rd:Int) (aI:0<=v0/\v0<=9223372036854775807) (h1:0<=v1/\v1<=9223372036854775807) (ah:0<=v2/\v2<=9223372036854775807) (w:World) (hr:a7 w i7 A q.ts) (hs:a7 w qP As since) (hl:since.length=q.ts.length) :
  Calls prog 131 #[.agg (q.cells A c),.slice As since.length cs,.agg #[.i v0,.i v1,.i v2],.i rd] w (H6 (km (hh q v0 v1 v2) since rd) w):=by
 have uw:=J (fun W=>R2 q bd.n A c W);have wC:=J (fun W hr=>TN q bd A c v0 v1 v2 aI h1 ah W hr);have pw:(hh q v0 v1 v2).length=q.ts.length:=by unfold hh;simp
 have hn:=bd.n;obtain ⟨M,oJ⟩:=aE (hh q v0 v1 v2);rw [oJ] at wC pw ⊢
 unfold bL.cells at uw wC ⊢
 obtain ⟨n,kc⟩:=aE q.ts.length;rw [kc] at uw wC pw hl hn ⊢
 rw [hl];have vO:=J (qD.new q A n c v0 v1 v2 w);have eo:=vO.hq.cell;have BX:=vO.vb.cell;have hZ:=J (ae hl pw);obtain ⟨F,hF⟩:∃ F:Nat->Value,F=fun j=>match M[j]?,since[j]? with|some m,some s=>.int .i64 (if m=true then (if s = -1 then rd else s) else -1)|_,_=>.int .i64 (-1):=⟨_,rfl⟩
 have zR:Hid (∀ j m s,M[j]? = some m->since[j]? = some s->F j=.i (if m=true then (if s = -1 then rd else s) else -1)):=by intro j m s h cI;rw [hF];dsimp only;rw [h,cI]
 have bx:=J hr;have aP:=J hs;clear hF kc hr hs oJ hl pw aI h1 ah bd
 go_enter func131,ntmps131
 go_wp2_with fail;refine (uw.out _).mono ?_;rintro e aC ⟨g,rfl,az,hk,hb⟩;have sG:=J (vO.below hb);have dl:=J hk;have TP:Hid (w.heap.size+1<g):=by have:=az;simp at this;exact (show _<_ by omega)
 clear hb hk az eo BX;have eo:=sG.hq.cell;have BX:=sG.vb.cell;rw [H8];go_wp2_with fail;refine (wC.out _ (bx.below sG.aR)).mono ?_;rintro e aM ⟨aN,rfl,wy,DK,hb⟩;have aA:=J (sG.aR.trans (hb.mono sG.aR.size));have dl:Hid (ar aM g 3 (iZ n 0 F (.i (-1)))):=by
  have:=dl.bw hb;rw [List.map_replicate] at this
  rw [I1]
  show ar _ _ _ _
  simpa using this
 have TQ:=J DK;have py:=J (show g≠aN from dl.fK DK ak);clear hb DK wy eo BX;rw [hZ.2];go_wp2_with fail
 go_loopw [18] (fun ii wr=>∃ i:Nat,i<=n/\ii=.i i/\Below w.heap.size w wr/\ar wr g 3 (iZ n i F (.i (-1)))/\ar wr aN 4 (M.map .bool).toArray) (fun ii _=>n-(intOf ii).toNat)
 case atStart=>exact ⟨0,af,rfl,aA.out,dl.out,TQ.out⟩
 case round =>
  clear aA dl TQ;obtain ⟨i,hi,rfl,hb,hk,DK⟩:=hrel;have ap:=J (ae hb (ae hk DK));clear hk hb DK
  by_cases aT:i<n
  ·have cg:decide ((i:Int)<(n:Int))=true:=bO af
   have l0:decide (i<n)=true:=bO aT;have kA:(i:Int)<(n:Int):=af;obtain ⟨m,hm⟩:∃ m,M[i]? = some m:=⟨_,dF (by have:=hZ.2;omega)⟩
   obtain ⟨s,hs⟩:∃ s,since[i]? = some s:=⟨_,dF (by have:=hZ.1;omega)⟩
   obtain ⟨b,off,rfl,xs⟩:=Nd aP.out ap.1 hs;have akH:=aeS ap.2.2 hm;have bN:=J (zR.out i m s hm hs);have eo:wr.cell? ⟨g,i,none⟩=some (.i (-1)):=by rw [ap.2.1.cell,wG aT,bp af]
   have zq:=ap.2.1.frozen i;have bs:∀ u,F i=u->Hid (Below w.heap.size w (wr.setCell ⟨g,i,none⟩ u)/\ar (wr.setCell ⟨g,i,none⟩ u) g 3 (iZ n (i+1) F (.i (-1)))/\ar (wr.setCell ⟨g,i,none⟩ u) aN 4 (M.map .bool).toArray):=fun u hu=>by
    subst hu;refine ⟨ap.1.grown (w6 wr g i _) ap.1.size (fun k hk=>by injection hk with hk;have:=TP.out;omega),?_,ap.2.2.cF (fun e=>py.out e.symm) _⟩;have:=ap.2.1.eW i (F i)
    rwa [zQ aT] at this
   have bs:=J bs;clear hm hs
   cases m
   ·have cq:Hid (iZ n (i+1) F (.i (-1))=iZ n i F (.i (-1))):=aeK (by rw [bN.out];rfl)
    go_wp2_with fail
    go_roundw
    case rel=>exact ⟨i+1,af,cm,ap.1,by rw [cq.out];exact ap.2.1,ap.2.2⟩
    case measure=>exact c4
   ·by_cases c7:s = -1
    ·have d1:(s==-1)=true:=by rw [c7];rfl
     have lm:=J (bs.out (.i rd) (by rw [bN.out,c7];rfl));clear c7 bs;go_wp2_with fail
     go_roundw
     case rel=>exact ⟨i+1,af,cm,lm.out.1,lm.out.2.1,lm.out.2.2⟩
     case measure=>exact c4
    ·have d1:(s==-1)=false:=ji.2 c7
     have lm:=J (bs.out (.i s) (by rw [bN.out,bB rfl,bp c7]));clear c7 bs;go_wp2_with fail
     go_roundw
     case rel=>exact ⟨i+1,af,cm,lm.out.1,lm.out.2.1,lm.out.2.2⟩
     case measure=>exact c4
  ·obtain rfl:i=n:=by omega
   have cg:decide ((i:Int)<(i:Int))=false:=av;go_wp2_with fail;go_ret;have q8:(km M since rd).length=i:=by unfold km;rw [I4,hZ.1,hZ.2];omega
   refine ⟨g,by rw [q8];rfl,by have:=TP.out;omega,?_,ap.1⟩;have:=ap.2.1
   rwa [I2 (l:=(km M since rd).map (.int .i64)) (by rw [lJ,q8]) (fun j aD=>by
    rw [lJ,q8] at aD
    have c6:M[j]? = some (M[j]'(by have:=hZ.2;omega)):=dF _;have a2:since[j]? = some (since[j]'(by have:=hZ.1;omega)):=dF _;rw [zR.out j _ _ c6 a2];simp [km])] at this
structure mi (q:bL) (A:Option Addr) (n c:Nat) (w W:World):Prop where
 hq:ar W w.heap.size 26 #[.i q.bt,.i q.c1,.i q.c2,.i q.cw,.i q.r1,.i q.r2,.slice A n c,.i q.b2,.i q.ret,.i q.c9,.i q.dead]
 aR:Below w.heap.size w W
theorem mi.below {q:bL} {A:Option Addr} {n c:Nat} {w W W':World} (h:mi q A n c w W) (hb:Below W.heap.size W W'):mi q A n c w W':=⟨h.hq.bw hb,h.aR.trans (hb.mono h.aR.size)⟩
theorem mi.cF {q:bL} {A:Option Addr} {n c:Nat} {w W:World} (h:mi q A n c w W) {g:Nat} (az:w.heap.size<g) (i:Nat) (u:Value):mi q A n c w (W.setCell ⟨g,i,none⟩ u) :=
 ⟨h.hq.cF (by simp only;omega) u,h.aR.grown (w6 W g i u) h.aR.size (fun k hk=>by injection hk with hk;omega)⟩
theorem mi.new (q:bL) (A:Option Addr) (n c:Nat) (w:World):mi q A n c w (w.alloc (.cells #[.i q.bt,.i q.c1,.i q.c2,.i q.cw,.i q.r1,.i q.r2,.slice A n c,.i q.b2,.i q.ret,.i q.c9,.i q.dead] 26)):=⟨ar.new w _ _,(aO w.heap.size w).alloc aF _⟩
theorem aeU (q:bL) (bd:q.Ok) (A:Option Addr) (c:Nat) (since:List Int) (As:Option Addr) (cs:Nat) (rd:Int) (gC:0<=rd/\rd<=1099511627776) (CY:∀ s∈since,-1<=s/\s<=1099511627776) (w:World) (hr:a7 w i7 A q.ts) (hs:a7 w qP As since) (hl:since.length=q.ts.length) :
  Calls prog 132 #[.agg (q.cells A c),.slice As since.length cs,.i rd] w (H7 (lY q.ts since rd) w):=by
 have mixed:prog.follows Departure.mixedOrders=true:=ai;have hn:=bd.n;have xH:=J bd.ts;unfold bL.cells;obtain ⟨ts,o2⟩:=aE q.ts;rw [o2] at hn hr hl xH ⊢
 clear o2;obtain ⟨n,kc⟩:=aE ts.length;rw [kc] at hl hn ⊢
 rw [hl];have hZ:=J (ae hl kc);have ag:=J (mi.new q A n c w);obtain ⟨aC,cU⟩:=aE (w.alloc (.cells #[.i q.bt,.i q.c1,.i q.c2,.i q.cw,.i q.r1,.i q.r2,.slice A n c,.i q.b2,.i q.ret,.i q.c9,.i q.dead] 26));have zu:=TG n af aC;rw [cU] at ag
 have eo:=ag.hq.cell;obtain ⟨F,hF⟩:∃ F:Nat->Value,F=fun j=>match ts[j]?,since[j]? with|some t,some s=>.bool ((s != -1)&&(!t.soft||decide (t.cE<=rd-s)))|_,_=>.bool false:=⟨_,rfl⟩
 have zR:Hid (∀ j t s,ts[j]? = some t->since[j]? = some s->F j=.bool ((s != -1)&&(!t.soft||decide (t.cE<=rd-s)))):=by intro j t s h cI;rw [hF];dsimp only;rw [h,cI]
 clear hF kc hl;have b4:Hid (ar (aC.alloc (.cells (Array.replicate n (.bool false)) 4)) aC.heap.size 4 (iZ n 0 F (.bool false))):=by rw [I1];exact ar.new _ _ _
 have ry:=J (ag.below ((aO _ _).alloc aF (.cells (Array.replicate n (.bool false)) 4)));have BX:=ry.hq.cell;have nr:Hid (w.heap.size<aC.heap.size):=by show _<_;rw [<- cU];simp
 have bx:=J hr;have aP:=J hs;have C4:=J CY;clear ag hr hs CY
 go_enter func132,ntmps132
 go_wp2_with fail;clear eo BX zu cU;obtain ⟨aM,gx⟩:=aE (aC.alloc (.cells (Array.replicate n (.bool false)) 4));have lc:Hid (aC.heap.size<aM.heap.size):=by show _<_;rw [<- gx];simp
 rw [gx] at b4 ry ⊢
 clear gx;obtain ⟨g,az⟩:=aE aC.heap.size;rw [az] at b4 lc nr ⊢
 clear az
 go_loopw [17] (fun ii wr=>∃ i:Nat,i<=n/\ii=.i i/\mi q A n c w wr/\ar wr g 4 (iZ n i F (.bool false))) (fun ii _=>n-(intOf ii).toNat)
 case atStart=>exact ⟨0,af,rfl,ry.out,b4.out⟩
 case round =>
  clear b4 ry;obtain ⟨i,hi,rfl,hm,hk⟩:=hrel;have ag:=J hm;have dl:=J hk;have qE:=J hk.lt;clear hk hm
  by_cases aT:i<n
  ·have cg:decide ((i:Int)<(n:Int))=true:=bO af
   have l0:decide (i<n)=true:=bO aT;have kA:(i:Int)<(n:Int):=af;obtain ⟨⟨la,cx,am,jr,gr⟩,ht⟩:∃ t,ts[i]? = some t:=⟨_,dF (by have:=hZ.2;omega)⟩
   obtain ⟨s,hs⟩:∃ s,since[i]? = some s:=⟨_,dF (by have:=hZ.1;omega)⟩
   obtain ⟨b,off,rfl,dK,c8,dT,hj,jt⟩:=Nb bx.out ag.aR ht;obtain ⟨j8,os,rfl,_⟩:=Nd aP.out ag.aR hs;have kY:=J (show ∀ W,Below w.heap.size w W->W.cell? ⟨j8,os+i,none⟩=some (.i s) from fun W hb=>by
    obtain ⟨b',p2,e,hc⟩:=Nd aP.out hb hs;injection e with e
    injection e with aV bE
    subst aV;subst bE;exact hc)
   have wH:=J (zR.out i _ s ht hs);obtain ⟨c7,fY⟩:=C4.out s (qB hs);have bs:=J (ar.new wr 90 #[.i 0,.i 0,.i 0,.bool false,.i 0]);clear ht hs;simp only at dK c8 dT hj jt wH
   go_wp2_with (refine ch rfl 90 (.tmp 9) (.tmp 21) rfl wr.heap.size 90 #[.i 0,.i 0,.i 0,.bool false,.i 0] #[.i la,.i cx,.i am,.bool jr,.i gr] rfl rfl bs.out rfl B0 cc ?_;intro b3 cp bT dm)
   have eZ:Below wr.heap.size wr b3:=((aO wr.heap.size wr).alloc aF (.cells #[.i 0,.i 0,.i 0,.bool false,.i 0] 90)).grown bT av dP;have ap:=J (ae (ag.below (eZ.trans ((aO b3.heap.size b3).drew.mono eZ.size))) (ae cp.drew (dl.bw (eZ.trans ((aO b3.heap.size b3).drew.mono eZ.size)))));clear bT dm cp eZ bs dK c8 dT hj jt;obtain ⟨wd,aG⟩:=aE b3.drew;rw [aG] at ap
   obtain ⟨Y9,Y'⟩:=gC
   by_cases jR:s = -1
   ·have d1:(s != -1)=false:=by rw [jR];rfl
    clear jR;have bN:Hid (F i=.bool (false)):=by show _=_;rw [wH.out];simp [d1]
    refine wp_region_held_drew (S:=fun w'=>w'.cell? ⟨j8,os+i,none⟩=some (.i s)) ai (by rw [aG];exact (kY.out _ ap.1.aR)) (fun hHeld=>?_);rw [aG] at hHeld ⊢
    clear aG;refine aj 0 ?_;refine aj 1 ?_;refine aj 2 ?_;refine aj 3 ?_;refine aj 4 ?_;refine aj 5 ?_;refine aj 6 ?_;refine aj 7 ?_;refine cM 8 30 rfl rfl ai ai ai (fun _ _ _ h=>h) aH As ?_;simp only [Act.put,aY,aZ,a1];refine cM 9 31 rfl rfl ai ai ai (fun _ _ _ h=>h) aH As ?_;simp only [Act.put,aY,aZ,a1];refine cM 10 32 rfl rfl ai ai ai (fun _ _ _ h=>h) aH As ?_;simp only [Act.put,aY,aZ,a1];refine cM 11 33 rfl rfl ai ai ai (fun _ _ _ h=>h) aH As ?_;simp only [Act.put,aY,aZ,a1];refine cM 12 34 rfl rfl ai ai ai (fun _ _ _ h=>h) aH As ?_;simp only [Act.put,aY,aZ,a1];refine cM 13 35 rfl rfl ai ai ai (fun _ _ _ h=>h) aH As ?_;simp only [Act.put,aY,aZ,a1];refine cM 14 36 rfl rfl ai ai ai (fun _ _ _ h=>h) aH As ?_;simp only [Act.put,aY,aZ,a1];refine cM 15 37 rfl rfl ai ai ai (fun _ _ _ h=>h) aH As ?_;simp only [Act.put,aY,aZ,a1];refine cM 16 38 rfl rfl ai ai ai (fun _ _ _ h=>h) aH As ?_;simp only [Act.put,aY,aZ,a1];refine cM 17 39 rfl rfl ai ai ai (fun _ _ _ h=>h) aH As ?_;simp only [Act.put,aY,aZ,a1];refine cM 18 40 rfl rfl ai ai ai (fun _ _ _ h=>h) aH As ?_;simp only [Act.put,aY,aZ,a1];refine cM 19 41 rfl rfl ai ai ai (fun _ _ _ h=>h) aH As ?_;simp only [Act.put,aY,aZ,a1];refine cM 20 42 rfl rfl ai ai ai (fun _ _ _ h=>h) aH As ?_;simp only [Act.put,aY,aZ,a1];refine cM 21 43 rfl rfl ai ai ai (fun _ _ _ h=>h) aH As ?_;simp only [Act.put,aY,aZ,a1];refine aj 22 ?_;refine aj 23 ?_;refine iC 24 rfl ai aH (fun K hK=>?_);have gQ:wd.cell? ⟨g,i,none⟩=some (.bool false):=by rw [ap.2.2.cell,wG aT,bp af]
    have kK:=ap.2.2.frozen i;go_simp;generalize ie:wd.setCell ⟨g,i,none⟩ _=cN;have ap:Hid (mi q (some ⟨b,off,none⟩) n c w cN/\ar cN wr.heap.size 90 #[.i la,.i cx,.i am,.bool jr,.i gr]/\ar cN g 4 (iZ n (i+1) F (.bool false))):=by
     subst ie;refine ⟨ap.1.cF nr.out i _,ap.2.1.cF (by simp only;have:=qE.out;omega) _,?_⟩;have:=ap.2.2.eW i (F i);rw [zQ aT] at this
     rwa [bN.out] at this
    clear ie gQ kK;have hHeld:=(kY.out _ ap.1.aR)
    refine hK undef _ hHeld ?_;clear hK K;simp only [Act.put,aY,aZ,a1];refine wpAnyH_done ai ?_ _;clear hHeld;go_wp2_with fail
    go_roundw
    case rel=>exact ⟨i+1,af,cm,ap.1,ap.2.2⟩
    case measure=>exact c4
   ·have d1:(s != -1)=true:=by rw [bne_iff_ne];exact jR
    clear jR
    cases jr
    ·have bN:Hid (F i=.bool (true)):=by show _=_;rw [wH.out];simp [d1]
     refine wp_region_held_drew (S:=fun w'=>w'.cell? ⟨j8,os+i,none⟩=some (.i s)/\w'.cell? ⟨wr.heap.size,3,none⟩=some (.bool false)) ai (by rw [aG];exact (ae (kY.out _ ap.1.aR) (ap.2.1.cell 3))) (fun hHeld=>?_);rw [aG] at hHeld ⊢
     clear aG;refine aj 0 ?_;refine aj 1 ?_;refine aj 2 ?_;refine aj 3 ?_;refine aj 4 ?_;refine aj 5 ?_;refine aj 6 ?_;refine aj 7 ?_;refine aj 8 ?_;refine aj 9 ?_;refine aj 10 ?_;refine aj 11 ?_;refine cM 12 34 rfl rfl ai ai ai (fun _ _ _ h=>h) aH As ?_;simp only [Act.put,aY,aZ,a1];refine cM 13 35 rfl rfl ai ai ai (fun _ _ _ h=>h) aH As ?_;simp only [Act.put,aY,aZ,a1];refine cM 14 36 rfl rfl ai ai ai (fun _ _ _ h=>h) aH As ?_;simp only [Act.put,aY,aZ,a1];refine cM 15 37 rfl rfl ai ai ai (fun _ _ _ h=>h) aH As ?_;simp only [Act.put,aY,aZ,a1];refine cM 16 38 rfl rfl ai ai ai (fun _ _ _ h=>h) aH As ?_;simp only [Act.put,aY,aZ,a1];refine cM 17 39 rfl rfl ai ai ai (fun _ _ _ h=>h) aH As ?_;simp only [Act.put,aY,aZ,a1];refine cM 18 40 rfl rfl ai ai ai (fun _ _ _ h=>h) aH As ?_;simp only [Act.put,aY,aZ,a1];refine cM 19 41 rfl rfl ai ai ai (fun _ _ _ h=>h) aH As ?_;simp only [Act.put,aY,aZ,a1];refine cM 20 42 rfl rfl ai ai ai (fun _ _ _ h=>h) aH As ?_;simp only [Act.put,aY,aZ,a1];refine aj 21 ?_;refine aj 22 ?_;refine aj 23 ?_;refine iC 24 rfl ai aH (fun K hK=>?_);have gQ:wd.cell? ⟨g,i,none⟩=some (.bool false):=by rw [ap.2.2.cell,wG aT,bp af]
     have kK:=ap.2.2.frozen i;go_simp;generalize ie:wd.setCell ⟨g,i,none⟩ _=cN;have ap:Hid (mi q (some ⟨b,off,none⟩) n c w cN/\ar cN wr.heap.size 90 #[.i la,.i cx,.i am,.bool false,.i gr]/\ar cN g 4 (iZ n (i+1) F (.bool false))):=by
      subst ie;refine ⟨ap.1.cF nr.out i _,ap.2.1.cF (by simp only;have:=qE.out;omega) _,?_⟩;have:=ap.2.2.eW i (F i);rw [zQ aT] at this
      rwa [bN.out] at this
     clear ie gQ kK;have hHeld:=(ae (kY.out _ ap.1.aR) (ap.2.1.cell 3))
     refine hK undef _ hHeld ?_;clear hK K;simp only [Act.put,aY,aZ,a1];refine wpAnyH_done ai ?_ _;clear hHeld;go_wp2_with fail
     go_roundw
     case rel=>exact ⟨i+1,af,cm,ap.1,ap.2.2⟩
     case measure=>exact c4
    ·have bN:Hid (F i=.bool (decide (gr<=rd-s))):=by show _=_;rw [wH.out];simp [d1]
     refine wp_region_held_drew (S:=fun w'=>w'.cell? ⟨j8,os+i,none⟩=some (.i s)/\w'.cell? ⟨wr.heap.size,3,none⟩=some (.bool true)/\w'.cell? ⟨wr.heap.size,4,none⟩=some (.i gr)) ai (by rw [aG];exact (ae (kY.out _ ap.1.aR) (ae (ap.2.1.cell 3) (ap.2.1.cell 4)))) (fun hHeld=>?_);rw [aG] at hHeld ⊢
     clear aG;refine aj 0 ?_;refine aj 1 ?_;refine aj 2 ?_;refine aj 3 ?_;refine aj 4 ?_;refine aj 5 ?_;refine aj 6 ?_;refine aj 7 ?_;refine aj 8 ?_;refine aj 9 ?_;refine aj 10 ?_;refine aj 11 ?_;refine aj 12 ?_;refine aj 13 ?_;refine aj 14 ?_;refine aj 15 ?_;refine aj 16 ?_;refine gN 17 39 (.i (rd-s)) rfl rfl ai ai ai (fun _ _ _ h=>h) aH (by intro w' dB;(try dsimp only at dB);go_simp;(first|done|with_reducible rfl|(rw [IntKind.wrap_i64];omega))) As ?_;simp only [Act.put,aY,aZ,a1];refine aj 18 ?_;refine aj 19 ?_;refine aj 20 ?_;refine aj 21 ?_;refine aj 22 ?_;refine aj 23 ?_;refine iC 24 rfl ai aH (fun K hK=>?_);have gQ:wd.cell? ⟨g,i,none⟩=some (.bool false):=by rw [ap.2.2.cell,wG aT,if_neg af]
     have kK:=ap.2.2.frozen i;go_simp;generalize ie:wd.setCell ⟨g,i,none⟩ _=cN;have ap:Hid (mi q (some ⟨b,off,none⟩) n c w cN/\ar cN wr.heap.size 90 #[.i la,.i cx,.i am,.bool true,.i gr]/\ar cN g 4 (iZ n (i+1) F (.bool false))):=by
      subst ie;refine ⟨ap.1.cF nr.out i _,ap.2.1.cF (by simp only;have:=qE.out;omega) _,?_⟩;have:=ap.2.2.eW i (F i);rw [zQ aT] at this
      rwa [bN.out] at this
     clear ie gQ kK;have hHeld:=(ae (kY.out _ ap.1.aR) (ae (ap.2.1.cell 3) (ap.2.1.cell 4)))
     refine hK undef _ hHeld ?_;clear hK K;simp only [Act.put,aY,aZ,a1];refine wpAnyH_done ai ?_ _;clear hHeld;go_wp2_with fail
     go_roundw
     case rel=>exact ⟨i+1,af,cm,ap.1,ap.2.2⟩
     case measure=>exact c4
  ·obtain rfl:i=n:=by omega
   have cg:decide ((i:Int)<(i:Int))=false:=av;go_wp2_with fail;go_ret;have q8:(lY ts since rd).length=i:=by unfold lY;rw [I4,hZ.1,hZ.2];omega
   refine ⟨g,by rw [q8];rfl,by have:=nr.out;omega,?_,ag.aR⟩;have:=dl.out
   rwa [I2 (l:=(lY ts since rd).map .bool) (by rw [lJ,q8]) (fun j aD=>by
    rw [lJ,q8] at aD
    have c6:ts[j]? = some (ts[j]'(by have:=hZ.2;omega)):=dF _;have a2:since[j]? = some (since[j]'(by have:=hZ.1;omega)):=dF _;rw [zR.out j _ _ c6 a2];simp [lY])] at this

end Go.Proofs.YtmmchlfoplcnbaaGreatDoor
