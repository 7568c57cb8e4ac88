/- A part of the walk. -/
import Derived.Test.YtmmchlfoplcnbaaGreatDoorMD9
namespace Go.Proofs.YtmmchlfoplcnbaaGreatDoor
open Go Go.RowKit Tryz
set_option linter.all false
set_option maxRecDepth 100000
set_option maxHeartbeats 4000000
abbrev jc:List TypeId:=[180,138,51,131,75,161,187,4]
def Tm (S:Nat->Prop) (w':World) (E:Option Addr) (n c:Nat) (ev:List cP):Prop:=n=ev.length/\b7 w' S 51 dA (.slice E ev.length c) ev
def Tn (S:Nat->Prop) (aJ:Nat) (r r':jB) (fs:di) (v:Nat) (x:bD×List cP×Int×Bool) (E:Option Addr) (n c:Nat) (ec:Int) (w':World):Prop :=
 (x.2.2.2=false/\ec=x.2.2.1/\r'.dead=false/\jC S w' r.ps aJ fs v/\Tm S w' E n c x.2.1) \/
 (x.2.2.2=true/\r.gX = -1/\ec=0/\r'.dead=false/\jC S w' r.ps aJ (lS fs (k0 (v+1) x.1.bytes) 4).1 (v+1)/\Tm S w' E n c x.2.1) \/
 (x.2.2.2=true/\∃ k:Nat,k<=4/\r.gX=k/\ec=7/\E=none/\n=0/\Dk S w' r.ps aJ (lS fs (k0 (v+1) x.1.bytes) k).1 (lS fs (k0 (v+1) x.1.bytes) k).2)
def oV (S:Nat->Prop) (ay aJ:Nat) (q:bL) (r:jB) (fs:di) (v:Nat) (x:bD×List cP×Int×Bool) (o:bA) (w:World) (e:Ending) (w':World):Prop :=
 ∃ (E:Option Addr) (n c:Nat) (ec:Int) (r':jB),e=.returned (.tuple #[.slice E n c,.i ec])/\eY S w' ay q r' x.1/\(r'.bH=r.bH/\r'.ps=r.ps/\r'.gX=r.gX)/\eO S w' r.bH q.ret o/\bh S jc w w'/\Tn S aJ r r' fs v x E n c ec w'
section
variable {S cn:Nat->Prop} {ts:List TypeId} {w w':World} {ay aJ v:Nat} {q:bL} {r r':jB} {a a':bD} {o:bA} {fs:di}
theorem RX (hs:dw S w) (h:eY S w ay q r a) (hd:jC S w r.ps aJ fs v) (hw:eO S w r.bH q.ret o) (bi:fG q a) (hv:v<=100000000) (hf:r.gX = -1\/∃ k:Nat,k<=4/\r.gX=k) (lu:r.dead=false) {ev:List cP} {E:Option Addr} {ec:Nat} (he:b7 w S 51 dA (.slice E ev.length ec) ev) (err:Int) :
  Calls prog 85 #[.pointer (some ⟨ay,0,none⟩),.slice E ev.length ec] w (oV S ay aJ q r fs v (a,ev,err,true) o w):=by
 rcases hf with hf|⟨k,hk,hf⟩
 ·refine (ab7 hs h hd bi hv hf E ev.length ec).mono ?_
  rintro e w' ⟨rfl,h1,ah,aw⟩;have bn:bh S jc w w':=aw.mono (by simp [jc]);exact ⟨E,ev.length,ec,0,r,rfl,h1,⟨rfl,rfl,rfl⟩,hw.a6 aw ak ak ak ak,bn,.inr (.inl ⟨rfl,hf,rfl,lu,ah,rfl,he.a6 aw ak⟩)⟩
 ·refine (aca hs h hd bi hv k hk hf E ev.length ec).mono ?_
  rintro e w' ⟨rfl,h1,ah,aw⟩;exact ⟨none,0,0,7,_,rfl,h1,⟨rfl,rfl,rfl⟩,hw.a6 aw ak ak ak ak,aw.mono (by simp [jc]),.inr (.inr ⟨rfl,k,hk,hf,rfl,rfl,rfl,ah⟩)⟩
theorem oV.H5 {x:bD×List cP×Int×Bool} {e:Ending} {w0 aC:World} {g g':jB} (hc:bh S jc w w0) (az:g.bH=g'.bH/\g.ps=g'.ps/\g.gX=g'.gX) (h:oV S ay aJ q g fs v x o w0 e aC):oV S ay aJ q g' fs v x o w e aC:=by
 obtain ⟨E,n,c,ec,r',he,h1,⟨ah,aw,bn⟩,dk,iT,kB⟩:=h;obtain ⟨g1,g2,g3⟩:=az;refine ⟨E,n,c,ec,r',he,h1,⟨ah.trans g1,aw.trans g2,bn.trans g3⟩,g1 ▸ dk,hc.trans iT,?_⟩;unfold Tn at kB ⊢
 rw [<- g2,<- g3];exact kB
end
section
variable {S cn:Nat->Prop} {ts:List TypeId} {w w':World} {ay aJ v:Nat} {q:bL} {r r':jB} {a a':bD} {o:bA} {fs:di}
abbrev DD:List TypeId:=[138,90,66,3,318,131,4,75,146,187,161,wo,5,190]
structure l' (S:Nat->Prop) (w:World) (ay aJ:Nat) (q:bL) (r:jB) (a:bD) (o:bA) (fs:di) (v:Nat):Prop where
 au:eY S w ay q r a
 eh:eO S w r.bH q.ret o
 st:jC S w r.ps aJ fs v
theorem l'.below (h:l' S w ay aJ q r a o fs v) (hb:Below w.heap.size w w'):l' S w' ay aJ q r a o fs v:=⟨h.au.below hb,h.eh.below hb,h.st.below hb⟩
theorem l'.a6 (h:l' S w ay aJ q r a o fs v) (hc:bh cn ts w w') (hd:∀ t∈DD,t∉ts):l' S w' ay aJ q r a o fs v :=
 ⟨h.au.a6 hc (hd _ ak) (hd _ ak) (hd _ ak) (hd _ ak) (hd _ ak),h.eh.a6 hc (hd _ ak) (hd _ ak) (hd _ ak) (hd _ ak),h.st.a6 hc (hd _ ak) (hd _ ak) (hd _ ak) (hd _ ak) (hd _ ak)⟩
theorem l'.put (h:l' S w ay aJ q r a o fs v) (A0:r'.bH=r.bH/\r'.ps=r.ps) (hr:pK S w q r' a') (hb:ar w' ay 138 (r'.cells q a')) (az:w.grownBy w' (some ay)):l' S w' ay aJ q r' a' o fs v/\bh S [138] w w':=by
 obtain ⟨h1,ah⟩:=eY.put h.au.ab hr hb az;refine ⟨⟨h1,?_,?_⟩,ah⟩
 ·rw [A0.1];exact h.eh.a6 ah ak ak ak ak
 ·rw [A0.2];exact h.st.a6 ah ak ak ak ak ak
theorem b7.od {α:Type} {size:Nat} {E:cu α size} {e:TypeId} {x x':Value} {l eK:List α} {k:Nat} {w0:World} (h:b7 w S e E x l) (hs:dw S w0) (hk:w0.heap.size<=k) (ho:Own w' 0 e E x' eK) (hn:x'.ownBlock=x.ownBlock\/x'.ownBlock=some k):b7 w' S e E x' eK :=
 ⟨ho,fun j aD=>by
  rcases hn with aV|aV
  ·exact h.ins j (aV ▸ aD)
  ·rw [aV] at aD;injection aD with aD;subst aD;exact hs.gJ _ hk⟩
theorem oV.no (h:l' S w' ay aJ q r a o fs v) (lu:r.dead=false) (hc:bh S jc w w') (err:Int) {x:bD×List cP×Int×Bool} {ev:List cP} {E:Option Addr} {c:Nat} (hx:x=(a,ev,err,false)) (he:b7 w' S 51 dA (.slice E ev.length c) ev):oV S ay aJ q r fs v x o w (.returned (.tuple #[.slice E ev.length c,.i err])) w':=by
 subst hx;exact ⟨E,ev.length,c,err,r,rfl,h.au,⟨rfl,rfl,rfl⟩,h.eh,hc,.inl ⟨rfl,rfl,lu,h.st,rfl,he⟩⟩
end
theorem abQ:(prog.info? 32).map (·.size)=some 1:=ai
section
variable {S cn:Nat->Prop} {ts:List TypeId} {w w':World} {ay:Nat} {q:bL} {r:jB} {a:bD}
theorem abR (h:eY S w ay q r a) (hl:a.ax.length<=100000):Calls prog 39 #[.pointer (some ⟨ay,0,none⟩)] w (Hf a.rd a.aU a.aL a.aS a.ax w):=by
 have bX:Below w.heap.size w (w.alloc (.cells #[.i 0,.slice none 0 0,.bool false,.bool false,.bool false] 35)):=(aO _ _).alloc aF _;obtain ⟨aC,cU⟩:=aE (w.alloc (.cells #[.i 0,.slice none 0 0,.bool false,.bool false,.bool false] 35));have cH:aC.heap.size=w.heap.size+1:=by rw [<- cU];simp
 have bR:=J (show ar aC w.heap.size 35 #[.i 0,.slice none 0 0,.bool false,.bool false,.bool false] by rw [<- cU];exact ar.new w 35 #[.i 0,.slice none 0 0,.bool false,.bool false,.bool false]);rw [cU] at bX
 have h1:=h.below bX;have q9:aC.cell? ⟨ay,13,none⟩=some (.i a.rd):=h1.ab.ab.cell 13;have sy:aC.cell? ⟨ay,14,none⟩=some (.slice r.el a.ax.length r.cx):=h1.ab.ab.cell 14;have tX:aC.cell? ⟨ay,15,none⟩=some (.bool a.aU):=h1.ab.ab.cell 15;have tY:aC.cell? ⟨ay,16,none⟩=some (.bool a.aL):=h1.ab.ab.cell 16;have tZ:aC.cell? ⟨ay,17,none⟩=some (.bool a.aS):=h1.ab.ab.cell 17;have cY:Below aC.heap.size aC (aC.alloc (.cells #[.i 0,.slice none 0 0,.bool false,.bool false,.bool false] 35)):=(aO _ _).alloc aF _;have ag:=J h;have cT:=J hl;have df:=J bX;have cA:=J cY;have iR:=J cH;have lm:=J (ar.new aC 35 #[.i 0,.slice none 0 0,.bool false,.bool false,.bool false]);clear h hl h1 bX cY cH
 go_enter func39,ntmps39
 go_wp2_with (refine ch rfl 35 (.tmp 3) (.tmp 7) rfl aC.heap.size 35 #[.i 0,.slice none 0 0,.bool false,.bool false,.bool false] #[.i a.rd,.slice r.el a.ax.length r.cx,.bool a.aU,.bool a.aL,.bool a.aS] rfl rfl lm.out rfl ai cc ?_;intro w3 y1 er kQ;have e0:=J (cA.grown er cA.size (by intro k hk;cases hk;exact e3 _));have Gs:=J y1;have lL:w3.cell? ⟨aC.heap.size,1,none⟩=some (.slice r.el a.ax.length r.cx):=y1.cell 1;clear y1 er kQ)
 have Df:=ag.below (df.trans (e0.mono df.size));refine (GK a.ax r.el r.cx w3 Df.rows.ax.cZ cT).mono ?_;rintro e bc ⟨hQ,iV,rfl,hD,dI⟩;have ra:=J hD;have EW:=J (Gs.bw dI);have dp:=J (e0.trans (dI.mono e0.size));clear Df hD dI lL
 go_wp2_with (first
  | (refine kZ rfl 32 (.tmp 11) (.tmp 10) rfl aC.heap.size 1 35 _ (.slice hQ a.ax.length iV) rfl rfl EW.out av abQ rfl ?_;intro bm qj ua EX;have tM:=J (dp.grown ua dp.size (by intro k hk;cases hk;exact e3 _));have nF:=J (ra.grown ua (.inr fun e=>ra.fK EW ak e.symm));have vX:=J (bR.below tM (by have:=iR.out;omega));have n6:=qj.cell;clear qj ua EX)
  | (refine ch rfl 35 (.tmp 2) (.tmp 12) rfl w.heap.size 35 #[.i 0,.slice none 0 0,.bool false,.bool false,.bool false] #[.i a.rd,.slice hQ a.ax.length iV,.bool a.aU,.bool a.aL,.bool a.aS] rfl rfl vX.out rfl ai cc ?_;intro bU gg eS j7))
 have ub:=gg.cell;have nT:Below w.heap.size w bU:=(df.trans (tM.mono df.size)).grown eS (gT df.size tM.size) (by intro k hk;cases hk;exact e3 _);have lr:Own bU w.heap.size 66 cR (.slice hQ a.ax.length iV) a.ax:=(nF.grown eS (.inr fun e=>nF.fK vX ak e.symm)).mono (gT df.size e0.size);clear n6;exact cS (v:=.agg #[.i a.rd,.slice hQ a.ax.length iV,.bool a.aU,.bool a.aL,.bool a.aS]) (by simp [results,results39,go_sem,ub]) rfl ⟨hQ,iV,rfl,lr,nT⟩
end
section
variable {S cn:Nat->Prop} {ts:List TypeId} {w w':World} {ay:Nat} {q:bL} {r:jB} {a:bD}
def aie (S:Nat->Prop) (ay:Nat) (q:bL) (r:jB) (x:bD×Int) (w:World) (e:Ending) (w':World):Prop:=e=.returned (.i x.2)/\(∃ jW uc,eY S w' ay q { r with jW:=jW,uc:=uc } x.1)/\bh S [138] w w'
theorem ad9 (hs:dw S w) (h:eY S w ay q r a) (bi:fG q a) (bd:q.Ok) (lu:r.dead=false) (gC:a.rd<=1099511627776) {t:Int} {f0 f1 f2 c:Nat} {A:Option Addr} {l:List gW} {v:Bool} (hv:v=true↔q5 ⟨t,f0,f1,f2,A,l,c⟩) (hr:gH.fe ⟨t,f0,f1,f2,A,l,c⟩ w) :
  Calls prog 62 #[.pointer (some ⟨ay,0,none⟩),.agg #[.i t,.float .f64 f0,.float .f64 f1,.float .f64 f2,.slice A l.length c]] w (aie S ay q r (a.lU q t f0 f1 f2 l v) w):=by
 have mixed:prog.follows Departure.mixedOrders=true:=ai;have bX:Below w.heap.size w (w.alloc (.cells #[.i t,.float .f64 f0,.float .f64 f1,.float .f64 f2,.slice A l.length c] 45)):=(aO _ _).alloc aF _;have ag:=J (h.below bX);have aq:=J (bh.dL S [138] bX);have bR:=J (show cW (w.alloc (.cells #[.i t,.float .f64 f0,.float .f64 f1,.float .f64 f2,.slice A l.length c] 45)) S w.heap.size 45 #[.i t,.float .f64 f0,.float .f64 f1,.float .f64 f2,.slice A l.length c] from ⟨ar.new w 45 #[.i t,.float .f64 f0,.float .f64 f1,.float .f64 f2,.slice A l.length c],hs.gJ _ aF⟩);have hU:=J (hr.below bX);have aP:=J hs;have ao:=J bd;have bF:Hid (v=true↔q5 ⟨t,f0,f1,f2,A,l,c⟩):=hv;have aA:=J (show -1<=a.time/\0<=a.rd/\a.rd<=1099511627776 from ⟨bi.t.1,bi.r.NA.1,gC⟩);have Ab:=J (show (1:Int)<=q.c9/\(q.c9:Int)<=9223372036854775807 by have:=bd.c6;have:=bd.a2;omega);have BO:=J lu;clear h hs bd bi hr bX hv gC lu
 go_enter func62,ntmps62
 have EY:(w.alloc (.cells #[.i t,.float .f64 f0,.float .f64 f1,.float .f64 f2,.slice A l.length c] 45)).cell? ⟨ay,29,none⟩=some (.bool false):=by have:=ag.ab.ab.cell 29;rw [this];simp [BO.out]
 go_wp2_with fail;clear EY;obtain ⟨aC,cU⟩:=aE (w.alloc (.cells #[.i t,.float .f64 f0,.float .f64 f1,.float .f64 f2,.slice A l.length c] 45));rw [cU] at ag aq bR hU ⊢
 clear cU
 cases x0:A4 v (pH t a.time a.rd q.c9) with
 | none =>
  have yv:=J x0;have Oi:Hid (a.lU q t f0 f1 f2 l v=({ a with time:=t,v0:=dW f0,v1:=dW f1,v2:=dW f2,uses:=kh l,fresh:=true },0)):=by show _=_;unfold bD.lU;rw [x0]
  clear x0
  go_cut [5,6] (fun v5 v6 W=>∃ (N:Nat) (eJ:World) (b5:Option Addr) (c3:Nat),W=eJ/\v5=.pointer (some ⟨N,0,none⟩)/\v6=.i 0/\eY S eJ ay q r a/\b7 eJ S 318 jA (.slice b5 (kh l).length c3) (kh l)/\cW eJ S N 136 #[.i t,.i (dW f0),.i (dW f1),.i (dW f2),.slice b5 (kh l).length c3]/\bh S [138] w eJ/\w.heap.size<=N)
  case first =>
   obtain ⟨wd,aG⟩:=aE aC.drew;have bf:Below aC.heap.size aC wd:=by rw [<- aG];exact (aO _ _).drew
   have ag:=J (ag.below bf);have aq:=J (aq.below bf);have bR:=J (bR.below bf);have hU:=J (hU.below bf);clear bf;refine wp_region_held_drew (S:=fun w'=>w'.cell? ⟨w.heap.size,0,none⟩=some (.i t)/\w'.cell? ⟨w.heap.size,1,none⟩=some (.float .f64 f0)/\w'.cell? ⟨w.heap.size,2,none⟩=some (.float .f64 f1)/\w'.cell? ⟨w.heap.size,3,none⟩=some (.float .f64 f2)/\w'.cell? ⟨w.heap.size,4,none⟩=some (.slice A l.length c)/\w'.cell? ⟨ay,22,none⟩=some (.i a.time)/\w'.cell? ⟨ay,13,none⟩=some (.i a.rd)/\w'.cell? ⟨ay,9,none⟩=some (.i q.c9)) ai (by rw [aG];exact (ae (bR.ab.cell 0) (ae (bR.ab.cell 1) (ae (bR.ab.cell 2) (ae (bR.ab.cell 3) (ae (bR.ab.cell 4) (ae (ag.ab.ab.cell 22) (ae (ag.ab.ab.cell 13) (ag.ab.ab.cell 9))))))))) (fun hHeld=>?_);rw [aG] at hHeld ⊢
   clear aG;refine aj 0 ?_;refine aj 1 ?_;refine aj 2 ?_;refine aj 3 ?_;refine aj 4 ?_;refine aj 5 ?_;refine aj 6 ?_;refine aj 7 ?_;refine aj 8 ?_;refine aj 9 ?_;refine aj 10 ?_;refine aj 11 ?_;refine aj 12 ?_;refine aj 13 ?_;refine aj 14 ?_;refine aj 15 ?_;refine HM 16 20 28 5 rfl rfl rfl rfl ai aH aH (fun K hK=>?_) (fun K hK=>?_)
   ·go_simp
    have kJ:=HH wd bF.out hU.out rfl rfl rfl aA.1 aA.2.1 aA.2.2 Ab.1 Ab.2;rw [yv.out] at kJ
    refine kJ.mono ?_;rintro e w3 hp;clear kJ;obtain ⟨b5,fR,rfl,ee,bu⟩:=hp;have bJ:=J (b7.jU (aP.size aq.size) ee aF);have ag:=J (ag.below bu);have aq:=J (aq.below bu);have bR:=J (bR.below bu);have hU:=J (hU.below bu);clear bu;clear ee;have hHeld:=(ae (bR.ab.cell 0) (ae (bR.ab.cell 1) (ae (bR.ab.cell 2) (ae (bR.ab.cell 3) (ae (bR.ab.cell 4) (ae (ag.ab.ab.cell 22) (ae (ag.ab.ab.cell 13) (ag.ab.ab.cell 9))))))))
    refine hK _ _ hHeld ?_;clear hK K;simp only [Act.put,aY,aZ,a1];refine aj 17 ?_;refine aj 18 ?_;refine aj 19 ?_;refine dR 20 5 rfl rfl ai aH (fun K hK=>?_);go_simp;have ia:Below w3.heap.size w3 (w3.alloc (.cells #[.i 0,.i 0,.i 0,.i 0,.slice none 0 0] 136)):=(aO _ _).alloc aF _;have bG:=J (show cW (w3.alloc (.cells #[.i 0,.i 0,.i 0,.i 0,.slice none 0 0] 136)) S w3.heap.size 136 #[.i 0,.i 0,.i 0,.i 0,.slice none 0 0] from ⟨ar.new w3 136 #[.i 0,.i 0,.i 0,.i 0,.slice none 0 0],aP.gJ _ aq.size⟩);have iu:=J aq.size;have ag:=J (ag.below ia);have aq:=J (aq.below ia);have bR:=J (bR.below ia);have hU:=J (hU.below ia);have bJ:=J (bJ.below ia);clear ia;obtain ⟨N,b8⟩:=aE w3.heap.size;obtain ⟨vS,mC⟩:=aE (w3.alloc (.cells #[.i 0,.i 0,.i 0,.i 0,.slice none 0 0] 136));rw [mC] at ag aq bR hU bG bJ ⊢
    rw [b8] at bG iu ⊢
    clear b8 mC;have hHeld:=(ae (bR.ab.cell 0) (ae (bR.ab.cell 1) (ae (bR.ab.cell 2) (ae (bR.ab.cell 3) (ae (bR.ab.cell 4) (ae (ag.ab.ab.cell 22) (ae (ag.ab.ab.cell 13) (ag.ab.ab.cell 9))))))))
    refine hK _ _ hHeld ?_;clear hK K;simp only [Act.put,aY,aZ,a1];refine iC 21 rfl ai aH (fun K hK=>?_);refine Dg 136 (.tmp 5) (.tmp 29) rfl N 0 136 _ #[.i t,.i (dW f0),.i (dW f1),.i (dW f2),.slice b5 (kh l).length fR] rfl rfl bG.ab av ai cc ?_;intro b3 cp bT dm;have fF:=bh.box bG.out bT;have ag:=J (ag.a6 fF ak ak ak ak ak);have aq:=J (aq.ql bT iu);have bR:=J (bR.a6 fF ak);have bJ:=J (bJ.a6 fF ak);have bG:=J (show cW b3 S N 136 #[.i t,.i (dW f0),.i (dW f1),.i (dW f2),.slice b5 (kh l).length fR] from ⟨cp,bG.ins⟩);clear fF cp bT dm;have hHeld:=(ae (bR.ab.cell 0) (ae (bR.ab.cell 1) (ae (bR.ab.cell 2) (ae (bR.ab.cell 3) (ae (bR.ab.cell 4) (ae (ag.ab.ab.cell 22) (ae (ag.ab.ab.cell 13) (ag.ab.ab.cell 9))))))))
    refine hK undef _ hHeld ?_;clear hK K;simp only [Act.put,aY,aZ,a1];refine aj 22 ?_;refine wpAnyH_done ai ?_ _;clear hHeld hU;go_wp2_with fail
    go_meet
    exact ⟨N,b3,b5,fR,rfl,rfl,rfl,ag.out,bJ.out,bG.out,aq.out,iu.out⟩
   ·go_simp
    have ia:Below wd.heap.size wd (wd.alloc (.cells #[.i 0,.i 0,.i 0,.i 0,.slice none 0 0] 136)):=(aO _ _).alloc aF _;have bG:=J (show cW (wd.alloc (.cells #[.i 0,.i 0,.i 0,.i 0,.slice none 0 0] 136)) S wd.heap.size 136 #[.i 0,.i 0,.i 0,.i 0,.slice none 0 0] from ⟨ar.new wd 136 #[.i 0,.i 0,.i 0,.i 0,.slice none 0 0],aP.gJ _ aq.size⟩);have iu:=J aq.size;have ag:=J (ag.below ia);have aq:=J (aq.below ia);have bR:=J (bR.below ia);have hU:=J (hU.below ia);clear ia;obtain ⟨N,b8⟩:=aE wd.heap.size;obtain ⟨vS,mC⟩:=aE (wd.alloc (.cells #[.i 0,.i 0,.i 0,.i 0,.slice none 0 0] 136));rw [mC] at ag aq bR hU bG ⊢
    rw [b8] at bG iu ⊢
    clear b8 mC;have hHeld:=(ae (bR.ab.cell 0) (ae (bR.ab.cell 1) (ae (bR.ab.cell 2) (ae (bR.ab.cell 3) (ae (bR.ab.cell 4) (ae (ag.ab.ab.cell 22) (ae (ag.ab.ab.cell 13) (ag.ab.ab.cell 9))))))))
    refine hK _ _ hHeld ?_;clear hK K;simp only [Act.put,aY,aZ,a1];refine dR 16 28 rfl rfl ai aH (fun K hK=>?_);go_simp;have kJ:=HH vS bF.out hU.out rfl rfl rfl aA.1 aA.2.1 aA.2.2 Ab.1 Ab.2;rw [yv.out] at kJ
    refine kJ.mono ?_;rintro e w3 hp;clear kJ;obtain ⟨b5,fR,rfl,ee,bu⟩:=hp;have bJ:=J (b7.jU (aP.size aq.size) ee aF);have ag:=J (ag.below bu);have aq:=J (aq.below bu);have bR:=J (bR.below bu);have hU:=J (hU.below bu);have bG:=J (bG.below bu);clear bu;clear ee;have hHeld:=(ae (bR.ab.cell 0) (ae (bR.ab.cell 1) (ae (bR.ab.cell 2) (ae (bR.ab.cell 3) (ae (bR.ab.cell 4) (ae (ag.ab.ab.cell 22) (ae (ag.ab.ab.cell 13) (ag.ab.ab.cell 9))))))))
    refine hK _ _ hHeld ?_;clear hK K;simp only [Act.put,aY,aZ,a1];refine aj 17 ?_;refine aj 18 ?_;refine aj 19 ?_;refine iC 21 rfl ai aH (fun K hK=>?_);refine Dg 136 (.tmp 5) (.tmp 29) rfl N 0 136 _ #[.i t,.i (dW f0),.i (dW f1),.i (dW f2),.slice b5 (kh l).length fR] rfl rfl bG.ab av ai cc ?_;intro b3 cp bT dm;have fF:=bh.box bG.out bT;have ag:=J (ag.a6 fF ak ak ak ak ak);have aq:=J (aq.ql bT iu);have bR:=J (bR.a6 fF ak);have bJ:=J (bJ.a6 fF ak);have bG:=J (show cW b3 S N 136 #[.i t,.i (dW f0),.i (dW f1),.i (dW f2),.slice b5 (kh l).length fR] from ⟨cp,bG.ins⟩);clear fF cp bT dm;have hHeld:=(ae (bR.ab.cell 0) (ae (bR.ab.cell 1) (ae (bR.ab.cell 2) (ae (bR.ab.cell 3) (ae (bR.ab.cell 4) (ae (ag.ab.ab.cell 22) (ae (ag.ab.ab.cell 13) (ag.ab.ab.cell 9))))))))
    refine hK undef _ hHeld ?_;clear hK K;simp only [Act.put,aY,aZ,a1];refine aj 22 ?_;refine wpAnyH_done ai ?_ _;clear hHeld hU;go_wp2_with fail
    go_meet
    exact ⟨N,b3,b5,fR,rfl,rfl,rfl,ag.out,bJ.out,bG.out,aq.out,iu.out⟩
  case rest =>
   obtain ⟨N,eJ,b5,c3,rfl,rfl,rfl,hm,ho,hb,hc,hn⟩:=hcut;have ag:=J hm;have bJ:=J ho;have aq:=J hc;have s0:wc.cell? ⟨N,0,none⟩=some (.i t):=hb.ab.cell 0;have s1:wc.cell? ⟨N,1,none⟩=some (.i (dW f0)):=hb.ab.cell 1;have s2:wc.cell? ⟨N,2,none⟩=some (.i (dW f1)):=hb.ab.cell 2;have qX:wc.cell? ⟨N,3,none⟩=some (.i (dW f2)):=hb.ab.cell 3;have Sf:wc.cell? ⟨N,4,none⟩=some (.slice b5 (kh l).length c3):=hb.ab.cell 4;clear hm ho hb hc hn
   go_wp2_with (first
    | (refine RU rfl 136 (.tmp 38) (.tmp 36) rfl ay 22 138 _ #[.i t,.i (dW f0),.i (dW f1),.i (dW f2),.slice b5 (kh l).length c3] rfl rfl ag.ab.ab av ai cc ?_;intro bc bS bP dx;have dp:=J bS;have lq:=J (bh.box ag.ab bP);clear bS bP dx)
    | (refine kZ rfl 4 (.tmp 40) (.const (.bool true)) rfl ay 27 138 _ (.bool true) rfl rfl dp.out av DM rfl ?_;intro bm qj ua EX))
   refine cS (v:=.i 0) (by simp [results,results62,go_sem]) rfl ?_;rw [Oi.out];have Hs:cW bc S ay 138 _:=⟨dp.out,ag.ab.ins⟩
   obtain ⟨g1,g2⟩:=eY.put (r':={ r with jW:=b5,uc:=c3 }) (a':={ a with time:=t,v0:=dW f0,v1:=dW f1,v2:=dW f2,uses:=kh l,fresh:=true }) Hs ⟨ag.rows.kj.a6 lq.out ak,ag.rows.ax.a6 lq.out ak,ag.rows.since.a6 lq.out ak,bJ.a6 lq.out ak⟩ qj ua;exact ⟨rfl,⟨b5,c3,g1⟩,(aq.trans lq).trans g2⟩
 | some k =>
  have yv:=J x0;have Oi:Hid (a.lU q t f0 f1 f2 l v=(a,k)):=by show _=_;unfold bD.lU;rw [x0]
  have yW:=J (show (k==0)=false by unfold A4 at x0;split at x0 <;> (try split at x0) <;> simp_all <;> omega);clear x0
  go_cut [6] (fun v6 W=>v6=.i k/\∃ eJ,W=eJ/\eY S eJ ay q r a/\bh S [138] w eJ)
  case first =>
   obtain ⟨wd,aG⟩:=aE aC.drew;have bf:Below aC.heap.size aC wd:=by rw [<- aG];exact (aO _ _).drew
   have ag:=J (ag.below bf);have aq:=J (aq.below bf);have bR:=J (bR.below bf);have hU:=J (hU.below bf);clear bf;refine wp_region_held_drew (S:=fun w'=>w'.cell? ⟨w.heap.size,0,none⟩=some (.i t)/\w'.cell? ⟨w.heap.size,1,none⟩=some (.float .f64 f0)/\w'.cell? ⟨w.heap.size,2,none⟩=some (.float .f64 f1)/\w'.cell? ⟨w.heap.size,3,none⟩=some (.float .f64 f2)/\w'.cell? ⟨w.heap.size,4,none⟩=some (.slice A l.length c)/\w'.cell? ⟨ay,22,none⟩=some (.i a.time)/\w'.cell? ⟨ay,13,none⟩=some (.i a.rd)/\w'.cell? ⟨ay,9,none⟩=some (.i q.c9)) ai (by rw [aG];exact (ae (bR.ab.cell 0) (ae (bR.ab.cell 1) (ae (bR.ab.cell 2) (ae (bR.ab.cell 3) (ae (bR.ab.cell 4) (ae (ag.ab.ab.cell 22) (ae (ag.ab.ab.cell 13) (ag.ab.ab.cell 9))))))))) (fun hHeld=>?_);rw [aG] at hHeld ⊢
   clear aG;refine aj 0 ?_;refine aj 1 ?_;refine aj 2 ?_;refine aj 3 ?_;refine aj 4 ?_;refine aj 5 ?_;refine aj 6 ?_;refine aj 7 ?_;refine aj 8 ?_;refine aj 9 ?_;refine aj 10 ?_;refine aj 11 ?_;refine aj 12 ?_;refine aj 13 ?_;refine aj 14 ?_;refine aj 15 ?_;refine HM 16 20 28 5 rfl rfl rfl rfl ai aH aH (fun K hK=>?_) (fun K hK=>?_)
   ·go_simp
    have kJ:=HH wd bF.out hU.out rfl rfl rfl aA.1 aA.2.1 aA.2.2 Ab.1 Ab.2;rw [yv.out] at kJ
    refine kJ.mono ?_;rintro e w3 hp;clear kJ;obtain ⟨rfl,bu⟩:=hp;have ag:=J (ag.below bu);have aq:=J (aq.below bu);have bR:=J (bR.below bu);have hU:=J (hU.below bu);clear bu;have hHeld:=(ae (bR.ab.cell 0) (ae (bR.ab.cell 1) (ae (bR.ab.cell 2) (ae (bR.ab.cell 3) (ae (bR.ab.cell 4) (ae (ag.ab.ab.cell 22) (ae (ag.ab.ab.cell 13) (ag.ab.ab.cell 9))))))))
    refine hK _ _ hHeld ?_;clear hK K;simp only [Act.put,aY,aZ,a1];refine aj 17 ?_;refine aj 18 ?_;refine aj 19 ?_;refine dR 20 5 rfl rfl ai aH (fun K hK=>?_);go_simp;have ia:Below w3.heap.size w3 (w3.alloc (.cells #[.i 0,.i 0,.i 0,.i 0,.slice none 0 0] 136)):=(aO _ _).alloc aF _;have bG:=J (show cW (w3.alloc (.cells #[.i 0,.i 0,.i 0,.i 0,.slice none 0 0] 136)) S w3.heap.size 136 #[.i 0,.i 0,.i 0,.i 0,.slice none 0 0] from ⟨ar.new w3 136 #[.i 0,.i 0,.i 0,.i 0,.slice none 0 0],aP.gJ _ aq.size⟩);have iu:=J aq.size;have ag:=J (ag.below ia);have aq:=J (aq.below ia);have bR:=J (bR.below ia);have hU:=J (hU.below ia);clear ia;obtain ⟨N,b8⟩:=aE w3.heap.size;obtain ⟨vS,mC⟩:=aE (w3.alloc (.cells #[.i 0,.i 0,.i 0,.i 0,.slice none 0 0] 136));rw [mC] at ag aq bR hU bG ⊢
    rw [b8] at bG iu ⊢
    clear b8 mC;have hHeld:=(ae (bR.ab.cell 0) (ae (bR.ab.cell 1) (ae (bR.ab.cell 2) (ae (bR.ab.cell 3) (ae (bR.ab.cell 4) (ae (ag.ab.ab.cell 22) (ae (ag.ab.ab.cell 13) (ag.ab.ab.cell 9))))))))
    refine hK _ _ hHeld ?_;clear hK K;simp only [Act.put,aY,aZ,a1];refine iC 21 rfl ai aH (fun K hK=>?_);refine Dg 136 (.tmp 5) (.tmp 29) rfl N 0 136 _ #[.i 0,.i 0,.i 0,.i 0,.slice none 0 0] rfl rfl bG.ab av ai cc ?_;intro b3 cp bT dm;have fF:=bh.box bG.out bT;have ag:=J (ag.a6 fF ak ak ak ak ak);have aq:=J (aq.ql bT iu);have bR:=J (bR.a6 fF ak);have bG:=J (show cW b3 S N 136 #[.i 0,.i 0,.i 0,.i 0,.slice none 0 0] from ⟨cp,bG.ins⟩);clear fF cp bT dm;have hHeld:=(ae (bR.ab.cell 0) (ae (bR.ab.cell 1) (ae (bR.ab.cell 2) (ae (bR.ab.cell 3) (ae (bR.ab.cell 4) (ae (ag.ab.ab.cell 22) (ae (ag.ab.ab.cell 13) (ag.ab.ab.cell 9))))))))
    refine hK undef _ hHeld ?_;clear hK K;simp only [Act.put,aY,aZ,a1];refine aj 22 ?_;refine wpAnyH_done ai ?_ _;clear hHeld hU;go_wp2_with fail
    go_meet
    exact ⟨rfl,b3,rfl,ag.out,aq.out⟩
   ·go_simp
    have ia:Below wd.heap.size wd (wd.alloc (.cells #[.i 0,.i 0,.i 0,.i 0,.slice none 0 0] 136)):=(aO _ _).alloc aF _;have bG:=J (show cW (wd.alloc (.cells #[.i 0,.i 0,.i 0,.i 0,.slice none 0 0] 136)) S wd.heap.size 136 #[.i 0,.i 0,.i 0,.i 0,.slice none 0 0] from ⟨ar.new wd 136 #[.i 0,.i 0,.i 0,.i 0,.slice none 0 0],aP.gJ _ aq.size⟩);have iu:=J aq.size;have ag:=J (ag.below ia);have aq:=J (aq.below ia);have bR:=J (bR.below ia);have hU:=J (hU.below ia);clear ia;obtain ⟨N,b8⟩:=aE wd.heap.size;obtain ⟨vS,mC⟩:=aE (wd.alloc (.cells #[.i 0,.i 0,.i 0,.i 0,.slice none 0 0] 136));rw [mC] at ag aq bR hU bG ⊢
    rw [b8] at bG iu ⊢
    clear b8 mC;have hHeld:=(ae (bR.ab.cell 0) (ae (bR.ab.cell 1) (ae (bR.ab.cell 2) (ae (bR.ab.cell 3) (ae (bR.ab.cell 4) (ae (ag.ab.ab.cell 22) (ae (ag.ab.ab.cell 13) (ag.ab.ab.cell 9))))))))
    refine hK _ _ hHeld ?_;clear hK K;simp only [Act.put,aY,aZ,a1];refine dR 16 28 rfl rfl ai aH (fun K hK=>?_);go_simp;have kJ:=HH vS bF.out hU.out rfl rfl rfl aA.1 aA.2.1 aA.2.2 Ab.1 Ab.2;rw [yv.out] at kJ
    refine kJ.mono ?_;rintro e w3 hp;clear kJ;obtain ⟨rfl,bu⟩:=hp;have ag:=J (ag.below bu);have aq:=J (aq.below bu);have bR:=J (bR.below bu);have hU:=J (hU.below bu);have bG:=J (bG.below bu);clear bu;have hHeld:=(ae (bR.ab.cell 0) (ae (bR.ab.cell 1) (ae (bR.ab.cell 2) (ae (bR.ab.cell 3) (ae (bR.ab.cell 4) (ae (ag.ab.ab.cell 22) (ae (ag.ab.ab.cell 13) (ag.ab.ab.cell 9))))))))
    refine hK _ _ hHeld ?_;clear hK K;simp only [Act.put,aY,aZ,a1];refine aj 17 ?_;refine aj 18 ?_;refine aj 19 ?_;refine iC 21 rfl ai aH (fun K hK=>?_);refine Dg 136 (.tmp 5) (.tmp 29) rfl N 0 136 _ #[.i 0,.i 0,.i 0,.i 0,.slice none 0 0] rfl rfl bG.ab av ai cc ?_;intro b3 cp bT dm;have fF:=bh.box bG.out bT;have ag:=J (ag.a6 fF ak ak ak ak ak);have aq:=J (aq.ql bT iu);have bR:=J (bR.a6 fF ak);have bG:=J (show cW b3 S N 136 #[.i 0,.i 0,.i 0,.i 0,.slice none 0 0] from ⟨cp,bG.ins⟩);clear fF cp bT dm;have hHeld:=(ae (bR.ab.cell 0) (ae (bR.ab.cell 1) (ae (bR.ab.cell 2) (ae (bR.ab.cell 3) (ae (bR.ab.cell 4) (ae (ag.ab.ab.cell 22) (ae (ag.ab.ab.cell 13) (ag.ab.ab.cell 9))))))))
    refine hK undef _ hHeld ?_;clear hK K;simp only [Act.put,aY,aZ,a1];refine aj 22 ?_;refine wpAnyH_done ai ?_ _;clear hHeld hU;go_wp2_with fail
    go_meet
    exact ⟨rfl,b3,rfl,ag.out,aq.out⟩
  case rest =>
   obtain ⟨rfl,eJ,rfl,hm,hc⟩:=hcut;have ag:=J hm;have aq:=J hc;have aif:=yW.out;have alp:(k != 0)=true:=by simp [bne,aif]
   clear hm hc;go_wp2_with fail;refine cS (v:=.i k) (by simp [results,results62,go_sem]) rfl ?_;rw [Oi.out];exact ⟨rfl,⟨r.jW,r.uc,ag.out⟩,aq.out⟩
end
theorem bA.wD (o:bA) (id:ByteArray):(o.box id).1=hY (o.at_ id):=by
 unfold bA.box hY
 split <;> simp_all
section
variable {S cn:Nat->Prop} {ts:List TypeId} {w w':World} {pr:Nat} {q:bL} {x:fT} {r:Rd}
theorem aet (hs:dw S w) (h:e6 S w pr q x r) {N E:Nat} (bi:c0 q N E r) (b8:N<=100000) (ea:E<=1000000) (id:ByteArray) (was:Int) :
  Calls prog 150 #[.pointer (some ⟨pr,0,none⟩),.string id,.i was] w (ni S pr q x (r.ending q id was) w):=by
 have mixed:prog.follows Departure.mixedOrders=true:=ai;have ag:=J h;have aP:=J hs;have cj:=J bi;have bs:=J (ae b8 ea);have aq:=J (bh.refl S iL w);have fE:=J (show r.a.ax.length<=100000/\fB r.a.ax from ⟨by have:=bi.a.r.len;omega,bi.a.r.iq⟩);have iW:=J (show r.ev.length<=1000000 by have:=bi.e;omega);clear h hs bi b8 ea
 by_cases aw:was=3
 ·have bq:Hid (r.ending q id was=if hY ((r.o.ask id 3 q.ret r.a.rd).2.at_ id)=3 then { r with o:=(r.o.ask id 3 q.ret r.a.rd).2 } else ({ r with o:=(r.o.ask id 3 q.ret r.a.rd).2 }:Rd).leave 12 id):=by show _=_;unfold Rd.ending;rw [bB aw]
  subst aw
  go_enter func150,ntmps150
  go_wp2_with fail;obtain ⟨wd,aG⟩:=aE w.drew;have bf:Below w.heap.size w wd:=by rw [<- aG];exact (aO _ _).drew
  have ag:=J (ag.below bf);have aq:=J (aq.below bf);clear bf;refine wp_region_held_drew (S:=fun w'=>w'.cell? ⟨pr,0,none⟩=some (.pointer (some ⟨x.ay,0,none⟩))/\w'.cell? ⟨x.ay,11,none⟩=some (.pointer (some ⟨x.g.bH,0,none⟩))/\w'.cell? ⟨x.ay,13,none⟩=some (.i r.a.rd)) ai (by rw [aG];exact (ae (ag.ab.ab.cell 0) (ae (ag.au.ab.ab.cell 11) (ag.au.ab.ab.cell 13)))) (fun hHeld=>?_);rw [aG] at hHeld ⊢
  clear aG;refine aj 0 ?_;refine aj 1 ?_;refine aj 2 ?_;refine aj 3 ?_;refine aj 4 ?_;refine aj 5 ?_;refine aj 6 ?_;refine aj 7 ?_;refine aj 8 ?_;refine aj 9 ?_;refine aj 10 ?_;refine aj 11 ?_;refine aj 12 ?_;refine aj 13 ?_;refine aj 14 ?_;refine aj 15 ?_;refine dR 16 26 rfl rfl ai aH (fun K hK=>?_);go_simp;refine (zD (aP.size aq.size) ag.eh cj.o bs.1 id 3 r.a.rd).mono ?_;rintro e bc ⟨rfl,hD,eN⟩;have ag:=J (ag.world eN hD);have aq:=J (aq.trans (eN.mono av));clear hD eN;have hHeld:=(ae (ag.ab.ab.cell 0) (ae (ag.au.ab.ab.cell 11) (ag.au.ab.ab.cell 13)))
  refine hK _ _ hHeld ?_;clear hK K;simp only [Act.put,aY,aZ,a1];refine wpAnyH_done ai ?_ _;clear hHeld;have rz:=J (cj.o.ask (id:=id) (what:=3) (ret:=q.ret) (rd:=r.a.rd) cj.rd);obtain ⟨aL,gV⟩:=aE ((r.o.ask id 3 q.ret r.a.rd).2);rw [gV] at ag rz bq
  obtain ⟨bX,bV⟩:=aE ((r.o.ask id 3 q.ret r.a.rd).1);rw [bV];clear bV gV;have bG:=J (wE ag.eh rz bs.1 id);obtain ⟨cz,_⟩:=ag.cells;have ka:bc.cell? ⟨x.ay,11,none⟩=some (.pointer (some ⟨x.g.bH,0,none⟩)):=ag.au.ab.ab.cell 11;have gq:=J (bA.wD aL id);obtain ⟨s1,c7⟩:=aE (hY (aL.at_ id));rw [c7] at gq bq
  clear c7
  by_cases bn:s1=3
  ·have d4:(s1==3)=true:=by simp [bn]
   rw [bB bn] at bq
   clear bn;go_wp2_with fail;refine bG.mono ?_;rintro e bm ⟨rfl,cV⟩;rw [gq.out];obtain ⟨t1,ic⟩:=aE ((aL.box id).2.1);obtain ⟨v1,nR⟩:=aE ((aL.box id).2.2);rw [ic,nR];have ag:=J (ag.below cV);have aq:=J (aq.below cV);have iK:Below bm.heap.size bm (bm.alloc (.cells #[.i 0,.i 0] 73)):=(aO _ _).alloc aF _;have gf:=J iK;have k4:=J (ar.new bm 73 #[.i 0,.i 0]);clear cV ic nR iK cz ka bG gq
   go_wp2_with (refine ch rfl 73 (.tmp 6) (.tmp 37) rfl bm.heap.size 73 #[.i 0,.i 0] #[.i s1,.i t1] rfl rfl k4.out rfl ai cc ?_;intro bU gg eS j7;have m0:bU.cell? ⟨bm.heap.size,0,none⟩=some (.i s1):=gg.cell 0;have ep:=J (gf.grown eS gf.size dP);have ag:=J (ag.below ep);have aq:=J (aq.below ep);clear gg eS j7)
   go_end0
   rw [bq.out];exact ⟨rfl,⟨x,fT.same.refl x,ag.out⟩,aq.out⟩
  ·have d4:(s1==3)=false:=by simpa using bn
   rw [bp bn] at bq
   clear bn;go_wp2_with fail;refine bG.mono ?_;rintro e bm ⟨rfl,cV⟩;rw [gq.out];obtain ⟨t1,ic⟩:=aE ((aL.box id).2.1);obtain ⟨v1,nR⟩:=aE ((aL.box id).2.2);rw [ic,nR];have ag:=J (ag.below cV);have aq:=J (aq.below cV);have iK:Below bm.heap.size bm (bm.alloc (.cells #[.i 0,.i 0] 73)):=(aO _ _).alloc aF _;have gf:=J iK;have k4:=J (ar.new bm 73 #[.i 0,.i 0]);clear cV ic nR iK cz ka bG gq
   go_wp2_with (refine ch rfl 73 (.tmp 6) (.tmp 37) rfl bm.heap.size 73 #[.i 0,.i 0] #[.i s1,.i t1] rfl rfl k4.out rfl ai cc ?_;intro bU gg eS j7;have m0:bU.cell? ⟨bm.heap.size,0,none⟩=some (.i s1):=gg.cell 0;have ep:=J (gf.grown eS gf.size dP);have ag:=J (ag.below ep);have aq:=J (aq.below ep);clear gg eS j7)
   obtain ⟨wd,aG⟩:=aE bU.drew;have bf:Below bU.heap.size bU wd:=by rw [<- aG];exact (aO _ _).drew
   have ag:=J (ag.below bf);have aq:=J (aq.below bf);clear bf;refine nH 15 (S:=fun w'=>w'.cell? ⟨pr,0,none⟩=some (.pointer (some ⟨x.ay,0,none⟩))/\w'.cell? ⟨x.ay,13,none⟩=some (.i r.a.rd)/\w'.cell? ⟨x.ay,14,none⟩=some (.slice x.g.el r.a.ax.length x.g.cx)/\w'.cell? ⟨x.ay,15,none⟩=some (.bool r.a.aU)/\w'.cell? ⟨x.ay,16,none⟩=some (.bool r.a.aL)/\w'.cell? ⟨x.ay,17,none⟩=some (.bool r.a.aS)) ai (by rw [aG];exact (ae (ag.ab.ab.cell 0) (ae (ag.au.ab.ab.cell 13) (ae (ag.au.ab.ab.cell 14) (ae (ag.au.ab.ab.cell 15) (ae (ag.au.ab.ab.cell 16) (ag.au.ab.ab.cell 17))))))) (fun hHeld=>?_);rw [aG] at hHeld ⊢
   clear aG;refine aK 0 ?_;refine aK 1 ?_;refine aK 2 ?_;refine aK 3 ?_;refine aK 4 ?_;refine aK 5 ?_;refine aK 6 ?_;refine aK 7 ?_;refine aK 8 ?_;refine aK 9 ?_;refine aK 10 ?_;refine aK 11 ?_;refine nI 12 54 rfl rfl ai aH (fun K hK=>?_);go_simp;refine (Hg r.a.rd r.a.ax id x.g.el x.g.cx r.a.aU r.a.aL r.a.aS wd ag.au.rows.ax.cZ fE.1 fE.2).mono ?_;rintro e w3 ⟨b5,fR,rfl,ee,bu⟩;have iD:=J (b7.jU (aP.size aq.size) ee aF);have ag:=J (ag.below bu);have aq:=J (aq.below bu);clear ee bu;have hHeld:=(ae (ag.ab.ab.cell 0) (ae (ag.au.ab.ab.cell 13) (ae (ag.au.ab.ab.cell 14) (ae (ag.au.ab.ab.cell 15) (ae (ag.au.ab.ab.cell 16) (ag.au.ab.ab.cell 17))))))
   refine hK _ _ hHeld ?_;clear hK K;simp only [Act.put,aY,aZ,a1];refine aK 13 ?_;refine aK 14 ?_;refine ue 15 rfl ai aH rfl ai 35 (.tmp 56) (.tmp 54) rfl x.ay 13 138 _ #[.i r.a.rd,.slice b5 (im r.a.ax id).length fR,.bool r.a.aU,.bool r.a.aL,.bool r.a.aS] rfl rfl ag.au.ab.ab av ai cc ?_;intro b3 cp bT dm;obtain ⟨f1,f2⟩:=eY.put (r':={ x.g with el:=b5,cx:=fR }) (a':={ r.a with ax:=im r.a.ax id }) ag.au.ab (ag.au.rows.Ba iD) cp bT;have BP:=J (ag.agent f2 f1 rfl);have rF:=J (aq.trans (f2.mono av));clear f1 f2 cp bT dm;go_wp2_with fail;refine (wz (aP.size rF.size) BP iW 12 id 0).mono ?_;rintro e dy ⟨rfl,⟨y,hy,hJ⟩,jH⟩;have cq:=J (ae hy (ae hJ (rF.trans jH)));clear hy hJ jH;go_wp2_with fail
   go_end0
   rw [bq.out];exact ⟨rfl,⟨y,cq.1,cq.2.1⟩,cq.2.2⟩
 ·have bq:Hid (r.ending q id was=r.leave 12 id):=by show _=_;unfold Rd.ending;rw [bp aw]
  have d3:(was==3)=false:=by simpa using aw
  clear aw
  go_enter func150,ntmps150
  go_wp2_with fail;obtain ⟨wd,aG⟩:=aE w.drew;have bf:Below w.heap.size w wd:=by rw [<- aG];exact (aO _ _).drew
  have ag:=J (ag.below bf);have aq:=J (aq.below bf);clear bf;refine nH 15 (S:=fun w'=>w'.cell? ⟨pr,0,none⟩=some (.pointer (some ⟨x.ay,0,none⟩))/\w'.cell? ⟨x.ay,13,none⟩=some (.i r.a.rd)/\w'.cell? ⟨x.ay,14,none⟩=some (.slice x.g.el r.a.ax.length x.g.cx)/\w'.cell? ⟨x.ay,15,none⟩=some (.bool r.a.aU)/\w'.cell? ⟨x.ay,16,none⟩=some (.bool r.a.aL)/\w'.cell? ⟨x.ay,17,none⟩=some (.bool r.a.aS)) ai (by rw [aG];exact (ae (ag.ab.ab.cell 0) (ae (ag.au.ab.ab.cell 13) (ae (ag.au.ab.ab.cell 14) (ae (ag.au.ab.ab.cell 15) (ae (ag.au.ab.ab.cell 16) (ag.au.ab.ab.cell 17))))))) (fun hHeld=>?_);rw [aG] at hHeld ⊢
  clear aG;refine aK 0 ?_;refine aK 1 ?_;refine aK 2 ?_;refine aK 3 ?_;refine aK 4 ?_;refine aK 5 ?_;refine aK 6 ?_;refine aK 7 ?_;refine aK 8 ?_;refine aK 9 ?_;refine aK 10 ?_;refine aK 11 ?_;refine nI 12 54 rfl rfl ai aH (fun K hK=>?_);go_simp;refine (Hg r.a.rd r.a.ax id x.g.el x.g.cx r.a.aU r.a.aL r.a.aS wd ag.au.rows.ax.cZ fE.1 fE.2).mono ?_;rintro e w3 ⟨b5,fR,rfl,ee,bu⟩;have iD:=J (b7.jU (aP.size aq.size) ee aF);have ag:=J (ag.below bu);have aq:=J (aq.below bu);clear ee bu;have hHeld:=(ae (ag.ab.ab.cell 0) (ae (ag.au.ab.ab.cell 13) (ae (ag.au.ab.ab.cell 14) (ae (ag.au.ab.ab.cell 15) (ae (ag.au.ab.ab.cell 16) (ag.au.ab.ab.cell 17))))))
  refine hK _ _ hHeld ?_;clear hK K;simp only [Act.put,aY,aZ,a1];refine aK 13 ?_;refine aK 14 ?_;refine ue 15 rfl ai aH rfl ai 35 (.tmp 56) (.tmp 54) rfl x.ay 13 138 _ #[.i r.a.rd,.slice b5 (im r.a.ax id).length fR,.bool r.a.aU,.bool r.a.aL,.bool r.a.aS] rfl rfl ag.au.ab.ab av ai cc ?_;intro b3 cp bT dm;obtain ⟨f1,f2⟩:=eY.put (r':={ x.g with el:=b5,cx:=fR }) (a':={ r.a with ax:=im r.a.ax id }) ag.au.ab (ag.au.rows.Ba iD) cp bT;have BP:=J (ag.agent f2 f1 rfl);have rF:=J (aq.trans (f2.mono av));clear f1 f2 cp bT dm;go_wp2_with fail;refine (wz (aP.size rF.size) BP iW 12 id 0).mono ?_;rintro e dy ⟨rfl,⟨y,hy,hJ⟩,jH⟩;have cq:=J (ae hy (ae hJ (rF.trans jH)));clear hy hJ jH;go_wp2_with fail
  go_end0
  rw [bq.out];exact ⟨rfl,⟨y,cq.1,cq.2.1⟩,cq.2.2⟩
end
section
variable {S:Nat->Prop} {w:World} {pr:Nat} {q:bL} {x:fT} {r:Rd}
theorem Ih (h:r.dc=false):r.nN q=r:=by unfold Rd.nN;rw [bp (by rw [h];simp)]
theorem afk (h:e6 S w pr q x r) (hp:r.dc=false) :
  Calls prog 90 #[.pointer (some ⟨pr,0,none⟩)] w (ni S pr q x (r.nN q) w):=by
 obtain ⟨_,_,_,_,kz,_⟩:=h.cells;have ag:=J h;have aq:=J (bh.refl S iL w);have bq:=J (Ih (q:=q) hp);rw [hp] at kz
 clear h hp
 go_enter func90,ntmps90
 go_wp2_with fail
 go_end0
 rw [bq.out];exact ⟨rfl,⟨x,fT.same.refl x,ag.out⟩,aq.out⟩
end
end Go.Proofs.YtmmchlfoplcnbaaGreatDoor
