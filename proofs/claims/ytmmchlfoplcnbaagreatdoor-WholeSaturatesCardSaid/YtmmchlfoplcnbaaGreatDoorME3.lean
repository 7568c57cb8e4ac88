/- A part of the walk. -/
import Derived.Test.YtmmchlfoplcnbaaGreatDoorMD7
import Derived.Test.YtmmchlfoplcnbaaGreatDoorME2
namespace Go.Proofs.YtmmchlfoplcnbaaGreatDoor
open Go Go.RowKit Tryz
set_option linter.all false
set_option maxRecDepth 100000
set_option maxHeartbeats 4000000
theorem aeA {l:List dJ} (h:∀ x∈l,IW x) (id:ByteArray):IW (sk l id):=by
 have aI:IW (⟨iI,0,0,0⟩:dJ):=⟨⟨oU 0,show (0:Int)<=mx from ak⟩,⟨oU 0,show (0:Int)<=mx from ak⟩,⟨oU 0,show (0:Int)<=mx from ak⟩⟩
 unfold sk
 repeat' split
 all_goals first
  | exact aI
  | (rename_i x hx;exact h x (qB hx))
  | (rename_i x hx _;exact h x (qB hx))
  | exact h _ (iO _)
  | (rename_i x hx;exact h x (M2 hx))
  | skip
theorem fG.MZ {q:bL} {a:bD} (h:fG q a) {k:Int} {e:bj} (he:e∈a.ax):EH k e.aa a.uses:=by
 have h1:=aeA h.DH e.aa.id;have ah:=W2 (h.r.each e he).1;have aw:=h.w e he;have yH:=aw.aX.2;have akD:=aw.ba.2;have a0:=h1.a;have c6:=h1.b;have a2:=h1.c;unfold mx at a0 c6 a2
 constructor
 ·unfold eL ck asked
  repeat' split
  all_goals omega
 ·unfold eL ck asked
  repeat' split
  all_goals omega
theorem Nf (ts:List eH) (l:List Bool) (i:Nat) (t:eH) (b:Bool) (k:Int) (ht:ts[i]? = some t) (hb:l[i]? = some b):fW (ts.take (i+1)) (l.take (i+1)) k=(fW (ts.take i) (l.take i) k||(b&&(t.sig==k))):=by
 obtain ⟨h1,aV⟩:=jv.1 ht;obtain ⟨ah,bE⟩:=jv.1 hb;unfold fW;rw [gS h1,gS ah,List.zipWith_append (by simp;omega),Gt,aV,bE];simp
theorem aeV:(prog.info? 33).map (·.size)=some 3:=ai
theorem TR {w W:World} {A:Option Addr} {l:List Bool} (h:a7 w xe A l) (hb:Below w.heap.size w W) {i:Nat} {x:Bool} (hi:l[i]? = some x):∃ b off,A=some ⟨b,off,none⟩/\W.cell? ⟨b,off+i,none⟩=some (.bool x):=by
 obtain ⟨hl,e⟩:=jv.1 hi;obtain ⟨b,off,aV,_,hc⟩:=(h.below hb).at_ hl;rw [e] at hc
 exact ⟨b,off,aV,by have:=hc 0 (.bool x) rfl;simpa using this⟩
theorem TS (q:bL) (bd:q.Ok) (A:Option Addr) (c:Nat) (l:List Bool) (As:Option Addr) (cs:Nat) (w:World) (hr:a7 w i7 A q.ts) (hs:a7 w xe As l) (hl:l.length=q.ts.length) :
  Calls prog 133 #[.agg (q.cells A c),.slice As l.length cs] w fun e w'=>e=.returned (.agg #[.bool (fW q.ts l 0),.bool (fW q.ts l 1),.bool (fW q.ts l 2)])/\Below w.heap.size w w':=by
 have mixed:prog.follows Departure.mixedOrders=true:=ai;have hn:=bd.n;have xH:=J bd.ts;unfold bL.cells;obtain ⟨ts,o2⟩:=aE q.ts;rw [o2] at hn hr hl xH ⊢
 clear o2;obtain ⟨n,kc⟩:=aE ts.length;rw [kc] at hl hn ⊢
 rw [hl];have hZ:=J (ae hl kc);have bV:Below (w.heap.size+1) (w.alloc (.cells #[.i q.bt,.i q.c1,.i q.c2,.i q.cw,.i q.r1,.i q.r2,.slice A n c,.i q.b2,.i q.ret,.i q.c9,.i q.dead] 26)) (((w.alloc (.cells #[.i q.bt,.i q.c1,.i q.c2,.i q.cw,.i q.r1,.i q.r2,.slice A n c,.i q.b2,.i q.ret,.i q.c9,.i q.dead] 26)).alloc (.cells #[.bool false,.bool false,.bool false] 33)).alloc (.cells #[.bool false,.bool false,.bool false] 33)):=((aO _ _).alloc av _).alloc av _;have ag:=J ((mi.new q A n c w).below (by rw [zp];exact bV));have bR:Hid (ar (((w.alloc (.cells #[.i q.bt,.i q.c1,.i q.c2,.i q.cw,.i q.r1,.i q.r2,.slice A n c,.i q.b2,.i q.ret,.i q.c9,.i q.dead] 26)).alloc (.cells #[.bool false,.bool false,.bool false] 33)).alloc (.cells #[.bool false,.bool false,.bool false] 33)) (w.heap.size+1) 33 #[.bool false,.bool false,.bool false]):=by
  have:=(ar.new (w.alloc (.cells #[.i q.bt,.i q.c1,.i q.c2,.i q.cw,.i q.r1,.i q.r2,.slice A n c,.i q.b2,.i q.ret,.i q.c9,.i q.dead] 26)) 33 #[.bool false,.bool false,.bool false]).alloc (.cells #[.bool false,.bool false,.bool false] 33)
  rwa [zp] at this
 have b4:Hid (ar (((w.alloc (.cells #[.i q.bt,.i q.c1,.i q.c2,.i q.cw,.i q.r1,.i q.r2,.slice A n c,.i q.b2,.i q.ret,.i q.c9,.i q.dead] 26)).alloc (.cells #[.bool false,.bool false,.bool false] 33)).alloc (.cells #[.bool false,.bool false,.bool false] 33)) (w.heap.size+1+1) 33 #[.bool false,.bool false,.bool false]):=by
  have:=ar.new ((w.alloc (.cells #[.i q.bt,.i q.c1,.i q.c2,.i q.cw,.i q.r1,.i q.r2,.slice A n c,.i q.b2,.i q.ret,.i q.c9,.i q.dead] 26)).alloc (.cells #[.bool false,.bool false,.bool false] 33)) 33 #[.bool false,.bool false,.bool false]
  rwa [zp,zp] at this
 have eo:=ag.hq.cell;have bx:=J hr;have aP:=J hs;clear hr hs bV kc hl
 go_enter func133,ntmps133
 go_wp2_with fail;obtain ⟨aM,gx⟩:=aE (((w.alloc (.cells #[.i q.bt,.i q.c1,.i q.c2,.i q.cw,.i q.r1,.i q.r2,.slice A n c,.i q.b2,.i q.ret,.i q.c9,.i q.dead] 26)).alloc (.cells #[.bool false,.bool false,.bool false] 33)).alloc (.cells #[.bool false,.bool false,.bool false] 33));rw [gx] at ag b4 bR ⊢
 clear gx eo
 go_loopw [11] (fun ii wr=>∃ (i:Nat) (aU aL aS:Bool),i<=n/\ii=.i i/\fW (ts.take i) (l.take i) 0=aU/\fW (ts.take i) (l.take i) 1=aL/\fW (ts.take i) (l.take i) 2=aS/\mi q A n c w wr/\ar wr (w.heap.size+1+1) 33 #[.bool aU,.bool aL,.bool aS]/\ar wr (w.heap.size+1) 33 #[.bool false,.bool false,.bool false]) (fun ii _=>n-(intOf ii).toNat)
 case atStart=>exact ⟨0,false,false,false,af,rfl,rfl,rfl,rfl,ag.out,b4.out,bR.out⟩
 case round =>
  clear ag b4 bR;obtain ⟨i,aU,aL,aS,hi,rfl,aI,h1,ah,hm,hk,qy⟩:=hrel;have ag:=J hm;have dl:=J hk;have qE:=J hk.lt;have bR:=J qy;have zS:=J aI;have iQ:=J h1;have jk:=J ah;clear hk hm qy aI h1 ah
  by_cases aT:i<n
  ·have cg:decide ((i:Int)<(n:Int))=true:=bO af
   have l0:decide (i<n)=true:=bO aT;have kA:(i:Int)<(n:Int):=af;obtain ⟨⟨la,cx,am,jr,gr⟩,ht⟩:∃ t,ts[i]? = some t:=⟨_,dF (by have:=hZ.2;omega)⟩
   obtain ⟨wI,hs⟩:∃ s,l[i]? = some s:=⟨_,dF (by have:=hZ.1;omega)⟩
   obtain ⟨b,off,rfl,dK,c8,dT,hj,jt⟩:=Nb bx.out ag.aR ht;obtain ⟨j8,os,rfl,_⟩:=TR aP.out ag.aR hs;have kY:=J (show ∀ W,Below w.heap.size w W->W.cell? ⟨j8,os+i,none⟩=some (.bool wI) from fun W hb=>by
    obtain ⟨b',p2,e,hc⟩:=TR aP.out hb hs;injection e with e
    injection e with aV bE
    subst aV;subst bE;exact hc)
   have lQ:=J (Nf ts l i _ wI 0 ht hs);have mA:=J (Nf ts l i _ wI 1 ht hs);have lm:=J (Nf ts l i _ wI 2 ht hs);have sP:=J (xH.out _ (qB ht));have BZ:la=0\/la=1\/la=2:=by have h1:=sP.s0;have ah:=sP.s2;simp only at h1 ah;omega
   have bs:=J (ar.new wr 90 #[.i 0,.i 0,.i 0,.bool false,.i 0]);clear ht hs;simp only at dK c8 dT hj jt lQ mA lm
   go_wp2_with (refine ch rfl 90 (.tmp 7) (.tmp 15) rfl wr.heap.size 90 #[.i 0,.i 0,.i 0,.bool false,.i 0] #[.i la,.i cx,.i am,.bool jr,.i gr] rfl rfl bs.out rfl B0 cc ?_;intro b3 cp bT dm)
   have eZ:Below wr.heap.size wr b3:=((aO wr.heap.size wr).alloc aF (.cells #[.i 0,.i 0,.i 0,.bool false,.i 0] 90)).grown bT av dP;have ap:=J (ae (ag.below (eZ.trans ((aO b3.heap.size b3).drew.mono eZ.size))) (ae cp.drew (ae (dl.bw (eZ.trans ((aO b3.heap.size b3).drew.mono eZ.size))) (bR.bw (eZ.trans ((aO b3.heap.size b3).drew.mono eZ.size))))));clear bT dm cp eZ bs dK c8 dT hj jt;obtain ⟨wd,aG⟩:=aE b3.drew;rw [aG] at ap
   rcases BZ with rfl|rfl|rfl
   ·cases aU
    ·refine wp_region_held_drew (S:=fun w'=>w'.cell? ⟨wr.heap.size,0,none⟩=some (.i 0)/\w'.cell? ⟨j8,os+i,none⟩=some (.bool wI)) ai (by rw [aG];exact (ae (ap.2.1.cell 0) (kY.out _ ap.1.aR))) (fun hHeld=>?_)
     rw [aG] at hHeld ⊢
     clear aG;refine aj 0 ?_;refine aj 1 ?_;refine aj 2 ?_;refine aj 3 ?_;refine aj 4 ?_;refine dR 5 21 rfl rfl ai aH (fun K hK=>?_);have uL:=ap.2.2.1.cell;go_simp;clear uL;have hHeld:=(ae (ap.2.1.cell 0) (kY.out _ ap.1.aR))
     refine hK _ _ hHeld ?_;clear hK K;simp only [Act.put,aY,aZ,a1];refine aj 6 ?_;refine aj 7 ?_;refine aj 8 ?_;refine aj 9 ?_;refine aj 10 ?_;refine aj 11 ?_;refine aj 12 ?_;refine iC 13 rfl ai aH (fun K hK=>?_);have gQ:=ap.2.2.1.cell;have kK:=ap.2.2.1.frozen;go_simp;generalize ie:wd.setCell _ _=cN;have ap:Hid (mi q (some ⟨b,off,none⟩) n c w cN/\ar cN wr.heap.size 90 #[.i 0,.i cx,.i am,.bool jr,.i gr]/\ar cN (w.heap.size+1+1) 33 #[.bool wI,.bool aL,.bool aS]/\ar cN (w.heap.size+1) 33 #[.bool false,.bool false,.bool false]):=by
      subst ie;exact ⟨ap.1.cF af _ _,ap.2.1.cF (by simp only;have:=qE.out;omega) _,ap.2.2.1.eW 0 _,ap.2.2.2.cF (by simp only;omega) _⟩
     clear ie gQ kK;have hHeld:=(ae (ap.2.1.cell 0) (kY.out _ ap.1.aR))
     refine hK undef _ hHeld ?_;clear hK K;simp only [Act.put,aY,aZ,a1];refine wpAnyH_done ai ?_ _;clear hHeld;go_wp2_with fail
     go_roundw
     case rel =>
      refine ⟨i+1,_,_,_,af,cm,?_,?_,?_,ap.1,ap.2.2.1,ap.2.2.2⟩
      ·rw [lQ.out,zS.out];simp
      ·rw [mA.out,iQ.out];simp
      ·rw [lm.out,jk.out];simp
     case measure=>exact c4
    ·refine wp_region_held_drew (S:=fun w'=>w'.cell? ⟨wr.heap.size,0,none⟩=some (.i 0)) ai (by rw [aG];exact (ap.2.1.cell 0)) (fun hHeld=>?_)
     rw [aG] at hHeld ⊢
     clear aG;refine aj 0 ?_;refine aj 1 ?_;refine aj 2 ?_;refine aj 3 ?_;refine aj 4 ?_;refine dR 5 21 rfl rfl ai aH (fun K hK=>?_);have uL:=ap.2.2.1.cell;go_simp;clear uL;have hHeld:=(ap.2.1.cell 0)
     refine hK _ _ hHeld ?_;clear hK K;simp only [Act.put,aY,aZ,a1];refine aj 6 ?_;refine cM 7 23 rfl rfl ai ai ai (fun _ _ _ h=>h) aH As ?_;simp only [Act.put,aY,aZ,a1];refine cM 8 24 rfl rfl ai ai ai (fun _ _ _ h=>h) aH As ?_;simp only [Act.put,aY,aZ,a1];refine cM 9 25 rfl rfl ai ai ai (fun _ _ _ h=>h) aH As ?_;simp only [Act.put,aY,aZ,a1];refine cM 10 26 rfl rfl ai ai ai (fun _ _ _ h=>h) aH As ?_;simp only [Act.put,aY,aZ,a1];refine aj 11 ?_;refine aj 12 ?_;refine iC 13 rfl ai aH (fun K hK=>?_);have gQ:=ap.2.2.1.cell;have kK:=ap.2.2.1.frozen;go_simp;generalize ie:wd.setCell _ _=cN;have ap:Hid (mi q (some ⟨b,off,none⟩) n c w cN/\ar cN wr.heap.size 90 #[.i 0,.i cx,.i am,.bool jr,.i gr]/\ar cN (w.heap.size+1+1) 33 #[.bool true,.bool aL,.bool aS]/\ar cN (w.heap.size+1) 33 #[.bool false,.bool false,.bool false]):=by
      subst ie;exact ⟨ap.1.cF af _ _,ap.2.1.cF (by simp only;have:=qE.out;omega) _,ap.2.2.1.eW 0 _,ap.2.2.2.cF (by simp only;omega) _⟩
     clear ie gQ kK;have hHeld:=(ap.2.1.cell 0)
     refine hK undef _ hHeld ?_;clear hK K;simp only [Act.put,aY,aZ,a1];refine wpAnyH_done ai ?_ _;clear hHeld;go_wp2_with fail
     go_roundw
     case rel =>
      refine ⟨i+1,_,_,_,af,cm,?_,?_,?_,ap.1,ap.2.2.1,ap.2.2.2⟩
      ·rw [lQ.out,zS.out];simp
      ·rw [mA.out,iQ.out];simp
      ·rw [lm.out,jk.out];simp
     case measure=>exact c4
   ·cases aL
    ·refine wp_region_held_drew (S:=fun w'=>w'.cell? ⟨wr.heap.size,0,none⟩=some (.i 1)/\w'.cell? ⟨j8,os+i,none⟩=some (.bool wI)) ai (by rw [aG];exact (ae (ap.2.1.cell 0) (kY.out _ ap.1.aR))) (fun hHeld=>?_)
     rw [aG] at hHeld ⊢
     clear aG;refine aj 0 ?_;refine aj 1 ?_;refine aj 2 ?_;refine aj 3 ?_;refine aj 4 ?_;refine dR 5 21 rfl rfl ai aH (fun K hK=>?_);have uL:=ap.2.2.1.cell;go_simp;clear uL;have hHeld:=(ae (ap.2.1.cell 0) (kY.out _ ap.1.aR))
     refine hK _ _ hHeld ?_;clear hK K;simp only [Act.put,aY,aZ,a1];refine aj 6 ?_;refine aj 7 ?_;refine aj 8 ?_;refine aj 9 ?_;refine aj 10 ?_;refine aj 11 ?_;refine aj 12 ?_;refine iC 13 rfl ai aH (fun K hK=>?_);have gQ:=ap.2.2.1.cell;have kK:=ap.2.2.1.frozen;go_simp;generalize ie:wd.setCell _ _=cN;have ap:Hid (mi q (some ⟨b,off,none⟩) n c w cN/\ar cN wr.heap.size 90 #[.i 1,.i cx,.i am,.bool jr,.i gr]/\ar cN (w.heap.size+1+1) 33 #[.bool aU,.bool wI,.bool aS]/\ar cN (w.heap.size+1) 33 #[.bool false,.bool false,.bool false]):=by
      subst ie;exact ⟨ap.1.cF af _ _,ap.2.1.cF (by simp only;have:=qE.out;omega) _,ap.2.2.1.eW 1 _,ap.2.2.2.cF (by simp only;omega) _⟩
     clear ie gQ kK;have hHeld:=(ae (ap.2.1.cell 0) (kY.out _ ap.1.aR))
     refine hK undef _ hHeld ?_;clear hK K;simp only [Act.put,aY,aZ,a1];refine wpAnyH_done ai ?_ _;clear hHeld;go_wp2_with fail
     go_roundw
     case rel =>
      refine ⟨i+1,_,_,_,af,cm,?_,?_,?_,ap.1,ap.2.2.1,ap.2.2.2⟩
      ·rw [lQ.out,zS.out];simp
      ·rw [mA.out,iQ.out];simp
      ·rw [lm.out,jk.out];simp
     case measure=>exact c4
    ·refine wp_region_held_drew (S:=fun w'=>w'.cell? ⟨wr.heap.size,0,none⟩=some (.i 1)) ai (by rw [aG];exact (ap.2.1.cell 0)) (fun hHeld=>?_)
     rw [aG] at hHeld ⊢
     clear aG;refine aj 0 ?_;refine aj 1 ?_;refine aj 2 ?_;refine aj 3 ?_;refine aj 4 ?_;refine dR 5 21 rfl rfl ai aH (fun K hK=>?_);have uL:=ap.2.2.1.cell;go_simp;clear uL;have hHeld:=(ap.2.1.cell 0)
     refine hK _ _ hHeld ?_;clear hK K;simp only [Act.put,aY,aZ,a1];refine aj 6 ?_;refine cM 7 23 rfl rfl ai ai ai (fun _ _ _ h=>h) aH As ?_;simp only [Act.put,aY,aZ,a1];refine cM 8 24 rfl rfl ai ai ai (fun _ _ _ h=>h) aH As ?_;simp only [Act.put,aY,aZ,a1];refine cM 9 25 rfl rfl ai ai ai (fun _ _ _ h=>h) aH As ?_;simp only [Act.put,aY,aZ,a1];refine cM 10 26 rfl rfl ai ai ai (fun _ _ _ h=>h) aH As ?_;simp only [Act.put,aY,aZ,a1];refine aj 11 ?_;refine aj 12 ?_;refine iC 13 rfl ai aH (fun K hK=>?_);have gQ:=ap.2.2.1.cell;have kK:=ap.2.2.1.frozen;go_simp;generalize ie:wd.setCell _ _=cN;have ap:Hid (mi q (some ⟨b,off,none⟩) n c w cN/\ar cN wr.heap.size 90 #[.i 1,.i cx,.i am,.bool jr,.i gr]/\ar cN (w.heap.size+1+1) 33 #[.bool aU,.bool true,.bool aS]/\ar cN (w.heap.size+1) 33 #[.bool false,.bool false,.bool false]):=by
      subst ie;exact ⟨ap.1.cF af _ _,ap.2.1.cF (by simp only;have:=qE.out;omega) _,ap.2.2.1.eW 1 _,ap.2.2.2.cF (by simp only;omega) _⟩
     clear ie gQ kK;have hHeld:=(ap.2.1.cell 0)
     refine hK undef _ hHeld ?_;clear hK K;simp only [Act.put,aY,aZ,a1];refine wpAnyH_done ai ?_ _;clear hHeld;go_wp2_with fail
     go_roundw
     case rel =>
      refine ⟨i+1,_,_,_,af,cm,?_,?_,?_,ap.1,ap.2.2.1,ap.2.2.2⟩
      ·rw [lQ.out,zS.out];simp
      ·rw [mA.out,iQ.out];simp
      ·rw [lm.out,jk.out];simp
     case measure=>exact c4
   ·cases aS
    ·refine wp_region_held_drew (S:=fun w'=>w'.cell? ⟨wr.heap.size,0,none⟩=some (.i 2)/\w'.cell? ⟨j8,os+i,none⟩=some (.bool wI)) ai (by rw [aG];exact (ae (ap.2.1.cell 0) (kY.out _ ap.1.aR))) (fun hHeld=>?_)
     rw [aG] at hHeld ⊢
     clear aG;refine aj 0 ?_;refine aj 1 ?_;refine aj 2 ?_;refine aj 3 ?_;refine aj 4 ?_;refine dR 5 21 rfl rfl ai aH (fun K hK=>?_);have uL:=ap.2.2.1.cell;go_simp;clear uL;have hHeld:=(ae (ap.2.1.cell 0) (kY.out _ ap.1.aR))
     refine hK _ _ hHeld ?_;clear hK K;simp only [Act.put,aY,aZ,a1];refine aj 6 ?_;refine aj 7 ?_;refine aj 8 ?_;refine aj 9 ?_;refine aj 10 ?_;refine aj 11 ?_;refine aj 12 ?_;refine iC 13 rfl ai aH (fun K hK=>?_);have gQ:=ap.2.2.1.cell;have kK:=ap.2.2.1.frozen;go_simp;generalize ie:wd.setCell _ _=cN;have ap:Hid (mi q (some ⟨b,off,none⟩) n c w cN/\ar cN wr.heap.size 90 #[.i 2,.i cx,.i am,.bool jr,.i gr]/\ar cN (w.heap.size+1+1) 33 #[.bool aU,.bool aL,.bool wI]/\ar cN (w.heap.size+1) 33 #[.bool false,.bool false,.bool false]):=by
      subst ie;exact ⟨ap.1.cF af _ _,ap.2.1.cF (by simp only;have:=qE.out;omega) _,ap.2.2.1.eW 2 _,ap.2.2.2.cF (by simp only;omega) _⟩
     clear ie gQ kK;have hHeld:=(ae (ap.2.1.cell 0) (kY.out _ ap.1.aR))
     refine hK undef _ hHeld ?_;clear hK K;simp only [Act.put,aY,aZ,a1];refine wpAnyH_done ai ?_ _;clear hHeld;go_wp2_with fail
     go_roundw
     case rel =>
      refine ⟨i+1,_,_,_,af,cm,?_,?_,?_,ap.1,ap.2.2.1,ap.2.2.2⟩
      ·rw [lQ.out,zS.out];simp
      ·rw [mA.out,iQ.out];simp
      ·rw [lm.out,jk.out];simp
     case measure=>exact c4
    ·refine wp_region_held_drew (S:=fun w'=>w'.cell? ⟨wr.heap.size,0,none⟩=some (.i 2)) ai (by rw [aG];exact (ap.2.1.cell 0)) (fun hHeld=>?_)
     rw [aG] at hHeld ⊢
     clear aG;refine aj 0 ?_;refine aj 1 ?_;refine aj 2 ?_;refine aj 3 ?_;refine aj 4 ?_;refine dR 5 21 rfl rfl ai aH (fun K hK=>?_);have uL:=ap.2.2.1.cell;go_simp;clear uL;have hHeld:=(ap.2.1.cell 0)
     refine hK _ _ hHeld ?_;clear hK K;simp only [Act.put,aY,aZ,a1];refine aj 6 ?_;refine cM 7 23 rfl rfl ai ai ai (fun _ _ _ h=>h) aH As ?_;simp only [Act.put,aY,aZ,a1];refine cM 8 24 rfl rfl ai ai ai (fun _ _ _ h=>h) aH As ?_;simp only [Act.put,aY,aZ,a1];refine cM 9 25 rfl rfl ai ai ai (fun _ _ _ h=>h) aH As ?_;simp only [Act.put,aY,aZ,a1];refine cM 10 26 rfl rfl ai ai ai (fun _ _ _ h=>h) aH As ?_;simp only [Act.put,aY,aZ,a1];refine aj 11 ?_;refine aj 12 ?_;refine iC 13 rfl ai aH (fun K hK=>?_);have gQ:=ap.2.2.1.cell;have kK:=ap.2.2.1.frozen;go_simp;generalize ie:wd.setCell _ _=cN;have ap:Hid (mi q (some ⟨b,off,none⟩) n c w cN/\ar cN wr.heap.size 90 #[.i 2,.i cx,.i am,.bool jr,.i gr]/\ar cN (w.heap.size+1+1) 33 #[.bool aU,.bool aL,.bool true]/\ar cN (w.heap.size+1) 33 #[.bool false,.bool false,.bool false]):=by
      subst ie;exact ⟨ap.1.cF af _ _,ap.2.1.cF (by simp only;have:=qE.out;omega) _,ap.2.2.1.eW 2 _,ap.2.2.2.cF (by simp only;omega) _⟩
     clear ie gQ kK;have hHeld:=(ap.2.1.cell 0)
     refine hK undef _ hHeld ?_;clear hK K;simp only [Act.put,aY,aZ,a1];refine wpAnyH_done ai ?_ _;clear hHeld;go_wp2_with fail
     go_roundw
     case rel =>
      refine ⟨i+1,_,_,_,af,cm,?_,?_,?_,ap.1,ap.2.2.1,ap.2.2.2⟩
      ·rw [lQ.out,zS.out];simp
      ·rw [mA.out,iQ.out];simp
      ·rw [lm.out,jk.out];simp
     case measure=>exact c4
  ·obtain rfl:i=n:=by omega
   have cg:decide ((i:Int)<(i:Int))=false:=av;have eo:=dl.cell;have aV:ts.take i=ts:=pB (by have:=hZ.2;omega);have bE:l.take i=l:=pB (by have:=hZ.1;omega);rw [aV,bE] at zS iQ jk
   clear aV bE
   go_wp2_with (refine ch rfl 33 (.tmp 4) (.tmp 30) rfl (w.heap.size+1) 33 #[.bool false,.bool false,.bool false] #[.bool aU,.bool aL,.bool aS] rfl rfl bR.out rfl aeV cc ?_;intro bc bS bP dx)
   have dn:=bS.cell;exact cS (v:=.agg #[.bool aU,.bool aL,.bool aS]) (by simp [results,results133,go_sem,dn]) rfl ⟨by rw [zS.out,iQ.out,jk.out],ag.aR.grown bP ag.aR.size dP⟩
theorem wq:(prog.info? 234).map (·.size)=some 2:=ai
theorem Ms (on:Bool) (calm:Int) (h m f:Bool) (b2:Int) (aI:0<=calm) (h1:calm<=1000) (w:World) :
  Calls prog 188 #[.agg #[.bool on,.i calm],.bool h,.bool m,.bool f,.i b2] w fun e w'=>e=.returned (.agg #[.bool (gi ⟨on,calm⟩ h m f b2).on,.i (gi ⟨on,calm⟩ h m f b2).calm])/\Below w.heap.size w w':=by
 have bY:Below w.heap.size w ((w.alloc (.cells #[.bool on,.i calm] 234)).alloc (.cells #[.bool false,.i 0] 234)):=((aO _ _).alloc aF _).alloc av _;have hc:=(ar.new w 234 #[.bool on,.i calm]).alloc (.cells #[.bool false,.i 0] 234);have hr:=ar.new (w.alloc (.cells #[.bool on,.i calm] 234)) 234 #[.bool false,.i 0];rw [zp] at hr
 have eo:=hc.cell;have bR:=J hr;have aA:=J bY;clear hc hr bY;have key:∀ (x:Bool) (z:Int) (bc:World),(x=(gi ⟨on,calm⟩ h m f b2).on/\z=(gi ⟨on,calm⟩ h m f b2).calm)->ar bc (w.heap.size+1) 234 #[.bool x,.i z]->((w.alloc (.cells #[.bool on,.i calm] 234)).alloc (.cells #[.bool false,.i 0] 234)).grownBy bc (some (w.heap.size+1))->bc.cell? ⟨w.heap.size+1,0,none⟩=some (.bool x)/\bc.cell? ⟨w.heap.size+1,1,none⟩=some (.i z)/\Below w.heap.size w bc:=fun x z bc _ hk az =>
  ⟨hk.cell 0,hk.cell 1,aA.grown az aA.size dP⟩
 have BF:=J key;clear key
 cases f
 ·go_enter func188,ntmps188
  cases on
  ·go_wp2_with (refine ch rfl 234 (.tmp 10) (.tmp 26) rfl (w.heap.size+1) 234 #[.bool false,.i 0] #[.bool false,.i 0] rfl rfl bR.out rfl wq cc ?_;intro bc bS bP dx)
   obtain ⟨bt,c1,hb⟩:=BF.out false (0) bc (⟨rfl,rfl⟩) bS bP;exact cS (v:=.agg #[.bool false,.i 0]) (by simp [results,results188,go_sem,bt,c1]) rfl ⟨by first|rfl|rw [bF.out],hb⟩
  ·go_wp2_with (refine ch rfl 234 (.tmp 10) (.tmp 26) rfl (w.heap.size+1) 234 #[.bool false,.i 0] #[.bool true,.i 0] rfl rfl bR.out rfl wq cc ?_;intro bc bS bP dx)
   obtain ⟨bt,c1,hb⟩:=BF.out true (0) bc (⟨rfl,rfl⟩) bS bP;exact cS (v:=.agg #[.bool true,.i 0]) (by simp [results,results188,go_sem,bt,c1]) rfl ⟨by first|rfl|rw [bF.out],hb⟩
 ·cases h
  ·cases on
   ·go_enter func188,ntmps188
    go_wp2_with (refine ch rfl 234 (.tmp 10) (.tmp 26) rfl (w.heap.size+1) 234 #[.bool false,.i 0] #[.bool false,.i 0] rfl rfl bR.out rfl wq cc ?_;intro bc bS bP dx)
    obtain ⟨bt,c1,hb⟩:=BF.out false (0) bc (⟨rfl,rfl⟩) bS bP;exact cS (v:=.agg #[.bool false,.i 0]) (by simp [results,results188,go_sem,bt,c1]) rfl ⟨by first|rfl|rw [bF.out],hb⟩
   ·cases m
    ·by_cases hp:b2<=calm+1
     ·have d1:decide (b2<=calm+1)=true:=bO hp
      have bF:Hid (gi ⟨true,calm⟩ false false true b2=⟨false,0⟩):=by show _=_;unfold gi;simp [hp]
      clear hp
      go_enter func188,ntmps188
      go_wp2_with (refine ch rfl 234 (.tmp 10) (.tmp 33) rfl (w.heap.size+1) 234 #[.bool false,.i 0] #[.bool false,.i 0] rfl rfl bR.out rfl wq cc ?_;intro bc bS bP dx)
      obtain ⟨bt,c1,hb⟩:=BF.out false (0) bc (by rw [bF.out];exact ⟨rfl,rfl⟩) bS bP;exact cS (v:=.agg #[.bool false,.i 0]) (by simp [results,results188,go_sem,bt,c1]) rfl ⟨by first|rfl|rw [bF.out],hb⟩
     ·have d1:decide (b2<=calm+1)=false:=cX hp
      have bF:Hid (gi ⟨true,calm⟩ false false true b2=⟨true,calm+1⟩):=by show _=_;unfold gi;simp [hp]
      clear hp
      go_enter func188,ntmps188
      go_wp2_with (refine ch rfl 234 (.tmp 10) (.tmp 37) rfl (w.heap.size+1) 234 #[.bool false,.i 0] #[.bool true,.i (calm+1)] rfl rfl bR.out rfl wq cc ?_;intro bc bS bP dx)
      obtain ⟨bt,c1,hb⟩:=BF.out true (calm+1) bc (by rw [bF.out];exact ⟨rfl,rfl⟩) bS bP;exact cS (v:=.agg #[.bool true,.i (calm+1)]) (by simp [results,results188,go_sem,bt,c1]) rfl ⟨by first|rfl|rw [bF.out],hb⟩
    ·go_enter func188,ntmps188
     go_wp2_with (refine ch rfl 234 (.tmp 10) (.tmp 26) rfl (w.heap.size+1) 234 #[.bool false,.i 0] #[.bool true,.i 0] rfl rfl bR.out rfl wq cc ?_;intro bc bS bP dx)
     obtain ⟨bt,c1,hb⟩:=BF.out true (0) bc (⟨rfl,rfl⟩) bS bP;exact cS (v:=.agg #[.bool true,.i 0]) (by simp [results,results188,go_sem,bt,c1]) rfl ⟨by first|rfl|rw [bF.out],hb⟩
  ·go_enter func188,ntmps188
   go_wp2_with (refine ch rfl 234 (.tmp 10) (.tmp 16) rfl (w.heap.size+1) 234 #[.bool false,.i 0] #[.bool true,.i 0] rfl rfl bR.out rfl wq cc ?_;intro bc bS bP dx)
   obtain ⟨bt,c1,hb⟩:=BF.out true (0) bc (⟨rfl,rfl⟩) bS bP;exact cS (v:=.agg #[.bool true,.i 0]) (by simp [results,results188,go_sem,bt,c1]) rfl ⟨by first|rfl|rw [bF.out],hb⟩

end Go.Proofs.YtmmchlfoplcnbaaGreatDoor
