/- A part of the walk. -/
import Derived.Test.YtmmchlfoplcnbaaGreatDoorME8
namespace Go.Proofs.YtmmchlfoplcnbaaGreatDoor
open Go Go.RowKit Tryz
set_option linter.all false
set_option maxRecDepth 100000
set_option maxHeartbeats 4000000
theorem ah6:(prog.info? 97).map (·.size)=some 1:=ai
section
variable {S cn:Nat->Prop} {ts:List TypeId} {w w':World} {q:bL}
def ah7 (S:Nat->Prop) (q:bL) (w:World) (e:Ending) (w':World):Prop:=∃ pn z,e=.returned (.tuple #[.pointer (some ⟨pn,0,none⟩),.i 0])/\hG S w' pn q z (fO.new q)/\Below w.heap.size w w'
theorem Sn (hs:dw S w) (bd:q.Ok) (dE:iH w) (A:Option Addr) (c:Nat) (hr:a7 w cO A q.text) (hA:Plain A) :
  Calls prog 31 #[.slice A q.text.length c] w (ah7 S q w):=by
 have mixed:prog.follows Departure.mixedOrders=true:=ai;have VI:=J (R0 q bd A c w dE hr);have aP:=J hs;have ao:=J bd;have VJ:=J dE;have VK:=J hr;have nG:=J hA;have jg:=J (bL.S3 bd);clear hs bd dE hr hA
 go_enter func31,ntmps31
 go_wp2_with fail;refine VI.mono ?_;rintro e aC ⟨bz,ez,rfl,ho,hb⟩;have bX:Below aC.heap.size aC (aC.alloc (.cells #[.i 0,.i 0,.i 0,.i 0,.i 0,.i 0,.slice none 0 0,.i 0,.i 0,.i 0,.i 0] 26)):=(aO _ _).alloc aF _;have df:=J bX;have ei:=J hb;have mA:=J (ar.new aC 26 #[.i 0,.i 0,.i 0,.i 0,.i 0,.i 0,.slice none 0 0,.i 0,.i 0,.i 0,.i 0]);clear ho hb bX
 go_wp2_with (refine ch rfl 26 (.tmp 4) (.tmp 11) rfl aC.heap.size 26 #[.i 0,.i 0,.i 0,.i 0,.i 0,.i 0,.slice none 0 0,.i 0,.i 0,.i 0,.i 0] #[.i q.bt,.i q.c1,.i q.c2,.i q.cw,.i q.r1,.i q.r2,.slice bz q.ts.length ez,.i q.b2,.i q.ret,.i q.c9,.i q.dead] rfl rfl mA.out rfl ai cc ?_;intro aM Cj fQ fY;have eR:=J Cj;have cA:=J (ei.trans ((df.grown fQ df.size (by intro k hk;cases hk;exact e3 _)).mono ei.size));clear Cj fQ fY)
 have aq:=cA;have ze:=J (VK.below cA);have b4:=J (VJ.a6 aP.kF (bh.dL S [] cA));clear cA VK VJ VI;obtain ⟨wd,aG⟩:=aE aM.drew;have bf:Below aM.heap.size aM wd:=by rw [<- aG];exact (aO _ _).drew
 have b4:=J (b4.a6 aP.kF (bh.dL S [] bf));have aq:=J (aq.trans (bf.mono aq.size));have eR:=J (eR.bw bf);have ze:=J (ze.below bf);clear bf;refine wp_region_held_drew (S:=fun w'=>w'.cell? ⟨aC.heap.size,8,none⟩=some (.i q.ret)) ai (by rw [aG];exact (eR.cell 8)) (fun hHeld=>?_);rw [aG] at hHeld ⊢
 clear aG;refine aj 0 ?_;refine aj 3 ?_;refine aj 4 ?_;refine dR 1 18 rfl rfl ai aH (fun K hK=>?_);go_simp;refine (Dn q.text A c wd ze nG (by have:=jg.out;omega)).mono ?_;rintro e w3 ⟨b5,fR,rfl,ee,bu⟩;have cC:=J (b7.jU (aP.size aq.size) ee aF);have aq:=J (aq.trans (bu.mono aq.size));have eR:=J (eR.bw bu);have b4:=J (b4.a6 aP.kF (bh.dL S [] bu));clear ee bu;have hHeld:=(eR.cell 8)
 refine hK _ _ hHeld ?_;clear hK K;simp only [Act.put,aY,aZ,a1];refine dR 2 19 rfl rfl ai aH (fun K hK=>?_);go_simp;refine (SH S w3 (aP.size aq.size)).mono ?_;rintro e eD ⟨aJ,rfl,hd,_,iA⟩;have bq:=J hd;have b4:=J (b4.a6 aP.kF (bh.dL S [] iA));have aq:=J (aq.trans (iA.mono aq.size));have eR:=J (eR.bw iA);have cC:=J (cC.below iA);clear hd iA;have hHeld:=(eR.cell 8)
 refine hK _ _ hHeld ?_;clear hK K;simp only [Act.put,aY,aZ,a1];refine dR 5 22 rfl rfl ai aH (fun K hK=>?_);go_simp;refine (ah8 (aP.size aq.size) q.ret).mono ?_;rintro e bc ⟨rfl,DT,dI⟩;obtain ⟨bH,tN⟩:=aE eD.heap.size;rw [tN] at DT ⊢
 have Aa:=J DT;have b4:=J (b4.a6 aP.kF (bh.dL S [] dI));have aq:=J (aq.trans (dI.mono aq.size));have eR:=J (eR.bw dI);have cC:=J (cC.below dI);have bq:=J (bq.below dI);clear DT dI tN;have hHeld:=(eR.cell 8)
 refine hK _ _ hHeld ?_;clear hK K;simp only [Act.put,aY,aZ,a1];refine aj 6 ?_;refine dR 7 24 rfl rfl ai aH (fun K hK=>?_);go_simp;have mY:Below bc.heap.size bc (bc.alloc (.cells #[.slice b5 q.text.length fR,.pointer (some ⟨aJ,0,none⟩),.pointer (some ⟨bH,0,none⟩),.pointer none,.pointer none] 99)):=(aO _ _).alloc aF _;have bs:=J (show cW (bc.alloc (.cells #[.slice b5 q.text.length fR,.pointer (some ⟨aJ,0,none⟩),.pointer (some ⟨bH,0,none⟩),.pointer none,.pointer none] 99)) S bc.heap.size 99 #[.slice b5 q.text.length fR,.pointer (some ⟨aJ,0,none⟩),.pointer (some ⟨bH,0,none⟩),.pointer none,.pointer none] from ⟨ar.new bc 99 #[.slice b5 q.text.length fR,.pointer (some ⟨aJ,0,none⟩),.pointer (some ⟨bH,0,none⟩),.pointer none,.pointer none],aP.gJ _ aq.size⟩);have b4:=J (b4.a6 aP.kF (bh.dL S [] mY));have xt:=J aq.size;have aq:=J (aq.trans (mY.mono aq.size));have eR:=J (eR.bw mY);have cC:=J (cC.below mY);have bq:=J (bq.below mY);have Aa:=J (Aa.below mY);clear mY;obtain ⟨N,b8⟩:=aE bc.heap.size;obtain ⟨bm,uV⟩:=aE (bc.alloc (.cells #[.slice b5 q.text.length fR,.pointer (some ⟨aJ,0,none⟩),.pointer (some ⟨bH,0,none⟩),.pointer none,.pointer none] 99));rw [uV] at aq eR cC bq Aa bs b4 ⊢
 rw [b8] at bs xt ⊢
 clear b8 uV;have hHeld:=(eR.cell 8)
 refine hK _ _ hHeld ?_;clear hK K;simp only [Act.put,aY,aZ,a1];refine aj 8 ?_;refine wpAnyH_done ai ?_ _;clear hHeld ze eR;go_wp2_with fail;obtain ⟨wd,aG⟩:=aE bm.drew;have bf:Below bm.heap.size bm wd:=by rw [<- aG];exact (aO _ _).drew
 have b4:=J (b4.a6 aP.kF (bh.dL S [] bf));have aq:=J (aq.trans (bf.mono aq.size));have cC:=J (cC.below bf);have bq:=J (bq.below bf);have Aa:=J (Aa.below bf);have bs:=J (bs.below bf);clear bf;refine nH 19 (S:=fun w'=>w'.cell? ⟨N,0,none⟩=some (.slice b5 q.text.length fR)/\w'.cell? ⟨N,1,none⟩=some (.pointer (some ⟨aJ,0,none⟩))/\w'.cell? ⟨N,2,none⟩=some (.pointer (some ⟨bH,0,none⟩))) ai (by rw [aG];exact (ae (bs.ab.cell 0) (ae (bs.ab.cell 1) (bs.ab.cell 2)))) (fun hHeld=>?_);rw [aG] at hHeld ⊢
 clear aG;refine aK 0 ?_;refine aK 1 ?_;refine aK 2 ?_;refine aK 3 ?_;refine aK 4 ?_;refine aK 5 ?_;refine aK 6 ?_;refine aK 7 ?_;refine aK 8 ?_;refine aK 9 ?_;refine aK 10 ?_;refine aK 11 ?_;refine aK 12 ?_;refine nI 13 39 rfl rfl ai aH (fun K hK=>?_);go_simp;refine (acg (aP.size aq.size) ao b4 bq rfl rfl b5 fR cC.cZ).mono ?_;rintro e b3 ⟨ay,r,rfl,hm,tN,oE,hdd,dU,eZ⟩;have bN:=J (ae hm (ae tN (ae oE (ae hdd dU))));have aq:=J (aq.trans (eZ.mono aq.size));have cC:=J (cC.below eZ);have Aa:=J (Aa.below eZ);have bs:=J (bs.below eZ);clear hm tN oE hdd dU eZ;have hHeld:=(ae (bs.ab.cell 0) (ae (bs.ab.cell 1) (bs.ab.cell 2)))
 refine hK _ _ hHeld ?_;clear hK K;simp only [Act.put,aY,aZ,a1];refine aK 14 ?_;refine aK 15 ?_;refine I5 16 41 (.i 0) rfl rfl ai ai ai (fun _ _ _ h=>h) aH ai (by intro w';go_simp;(try (with_reducible rfl))) As ?_;simp only [Act.put,aY,aZ,a1];refine aK 17 ?_;refine aK 18 ?_;refine FM 19 rfl ai aH rfl ai 97 (.tmp 43) (.tmp 40) rfl N 3 99 _ (.pointer (some ⟨ay,0,none⟩)) rfl rfl bs.ab av ah6 rfl ?_;intro dy VL B2 ah9;have fF:=bh.box bs.out B2;have aia:=J (show l' S dy ay aJ q r (fO.new q).a (fO.new q).o (fun _=>none) 0 from ⟨bN.1.a6 fF ak ak ak ak ak,by rw [bN.2.1];exact Aa.a6 fF ak ak ak ak,bN.2.2.2.2.a6 fF ak ak ak ak ak⟩);have aib:=J (cC.a6 fF ak);have aic:Hid (Below w.heap.size w dy):=aq.grown B2 aq.size (by intro k hk;cases hk;exact xt.out);have aid:=J (show cW dy S N 99 (uz q ⟨b5,fR,aJ,ay,r,fun _=>none,.pointer none⟩) from ⟨by simp only [uz];rw [bN.2.1];exact VL,bs.ins⟩);clear fF VL B2 ah9;go_wp2_with fail;refine bodyPost_ret (v:=.tuple #[.pointer (some ⟨N,0,none⟩),.i 0]) (by simp [results,results31,go_sem]) rfl ?_;exact ⟨N,⟨b5,fR,aJ,ay,r,fun _=>none,.pointer none⟩,rfl,⟨aid.out,aib.out,aia.out,bN.2.2.1,bN.2.2.2.1,wB.start,rfl⟩,aic.out⟩
end
section
variable {S:Nat->Prop} {w w':World} {q:bL}
def Sk (q:bL) (w:World) (e:Ending) (w':World):Prop:=∃ A c,e=.returned (.slice A q.text.length c)/\a7 w' cO A q.text/\Plain A/\Below w.heap.size w w'
theorem Sl (q:bL) (bd:q.Ok) (A:Option Addr) (c:Nat) (w:World) (hr:a7 w i7 A q.ts):Calls prog 32 #[.agg #[.i q.bt,.i q.c1,.i q.c2,.i q.cw,.i q.r1,.i q.r2,.slice A q.ts.length c,.i q.b2,.i q.ret,.i q.c9,.i q.dead]] w (Sk q w):=by
 obtain ⟨aC,cU⟩:=aE (w.alloc (.cells #[.i q.bt,.i q.c1,.i q.c2,.i q.cw,.i q.r1,.i q.r2,.slice A q.ts.length c,.i q.b2,.i q.ret,.i q.c9,.i q.dead] 26));have uT:ar aC w.heap.size 26 #[.i q.bt,.i q.c1,.i q.c2,.i q.cw,.i q.r1,.i q.r2,.slice A q.ts.length c,.i q.b2,.i q.ret,.i q.c9,.i q.dead]:=by rw [<- cU];exact ar.new w _ _
 have bV:Below w.heap.size w aC:=by rw [<- cU];exact (aO _ _).alloc aF _
 have yF:=uT.cell;have df:=J bV;have ap:=J (ahd q bd A c aC (hr.below bV));clear hr bd uT bV
 go_enter func32,ntmps32
 go_wp2_with fail;refine ap.mono ?_;rintro e aM ⟨rfl,bY⟩;have cA:=J (df.trans (bY.mono df.size));clear yF bY ap cU;obtain ⟨s,hs⟩:=aE (str q.text);have iR:=J (show s.size=q.text.length/\s.data.toList=q.text by rw [<- hs];exact ⟨rfl,by simp [str]⟩);rw [hs];obtain ⟨c3,w3,hcv,gC,bu⟩:=O9 aM s;have qL:=J gC;have e0:=J (cA.trans (bu.mono cA.size));clear hs gC bu;go_wp2_with fail;go_ret;refine ⟨some ⟨aM.heap.size,0,none⟩,c3,?_,?_,.inr ⟨_,_,rfl⟩,e0.out⟩
 ·rw [<- iR.1];rfl
 ·have:=nx.kp qL.out
  rwa [iR.2] at this
def ajn (S:Nat->Prop) (q:bL) (w:World) (e:Ending) (w':World):Prop:=∃ pn z,e=.returned (.pointer (some ⟨pn,0,none⟩))/\hG S w' pn q z (fO.new q)/\Below w.heap.size w w'
theorem JL (hs:dw S w) (q:bL) (bd:q.Ok) (dE:iH w) (A:Option Addr) (c:Nat) (hr:a7 w i7 A q.ts):Calls prog 10 #[.agg #[.i q.bt,.i q.c1,.i q.c2,.i q.cw,.i q.r1,.i q.r2,.slice A q.ts.length c,.i q.b2,.i q.ret,.i q.c9,.i q.dead]] w (ajn S q w):=by
 obtain ⟨aC,cU⟩:=aE (w.alloc (.cells #[.i q.bt,.i q.c1,.i q.c2,.i q.cw,.i q.r1,.i q.r2,.slice A q.ts.length c,.i q.b2,.i q.ret,.i q.c9,.i q.dead] 26));have uT:ar aC w.heap.size 26 #[.i q.bt,.i q.c1,.i q.c2,.i q.cw,.i q.r1,.i q.r2,.slice A q.ts.length c,.i q.b2,.i q.ret,.i q.c9,.i q.dead]:=by rw [<- cU];exact ar.new w _ _
 have bV:Below w.heap.size w aC:=by rw [<- cU];exact (aO _ _).alloc aF _
 have yF:=uT.cell;have df:=J bV;have b4:=J (dE.a6 hs.kF (bh.dL S [] bV));have aP:=J hs;have ao:=J bd;have ap:=J (Sl q bd A c aC (hr.below bV));clear hr bd uT bV dE hs
 go_enter func10,ntmps10
 go_wp2_with fail;refine ap.mono ?_;rintro e aM ⟨A2,c2,rfl,E9,zf,bY⟩;have cA:=J (df.trans (bY.mono df.size));have bs:=J (Sn (aP.size cA.size) ao (b4.a6 aP.kF (bh.dL S [] bY)) A2 c2 E9 zf);clear yF bY ap cU E9 zf;go_wp2_with fail;refine bs.mono ?_;rintro e w3 ⟨pn,z,rfl,hm,bu⟩;have ag:=J (ae hm (cA.trans (bu.mono cA.size)));clear hm bu bs;go_wp2_with fail;go_ret;exact ⟨pn,z,rfl,ag.1,ag.2⟩
abbrev L6 (cw:Nat):bL:=⟨100,100,100,cw,10,10,[⟨0,10,0,false,0⟩],1,1,2,1⟩
theorem Sj (cw:Nat) (h:cw<=9223372036854775807):(L6 cw).Ok:=by
 refine ⟨av,av,av,av,av,av,h,av,av,av,?_,av,av,av,av,av,av⟩;intro t ht;simp at ht
 subst ht;exact ⟨ak,ak,.inl ak,av⟩
def ajo (w:World) (e:Ending) (w':World):Prop:=∃ A c,e=.returned (.agg #[.i 100,.i 100,.i 100,.i 10,.i 10,.i 10,.slice A 1 c,.i 1,.i 1,.i 2,.i 1])/\a7 w' i7 A [⟨0,10,0,false,0⟩]/\Below w.heap.size w w'
theorem E8 (w:World):Calls prog 9 #[] w (ajo w):=by
 have bX:Below w.heap.size w (w.alloc (.cells #[.i 0,.i 0,.i 0,.i 0,.i 0,.i 0,.slice none 0 0,.i 0,.i 0,.i 0,.i 0] 26)):=(aO _ _).alloc aF _;obtain ⟨aC,cU⟩:=aE (w.alloc (.cells #[.i 0,.i 0,.i 0,.i 0,.i 0,.i 0,.slice none 0 0,.i 0,.i 0,.i 0,.i 0] 26));rw [cU] at bX
 have uT:ar aC w.heap.size 26 #[.i 0,.i 0,.i 0,.i 0,.i 0,.i 0,.slice none 0 0,.i 0,.i 0,.i 0,.i 0]:=by rw [<- cU];exact ar.new w _ _
 have cY:Below aC.heap.size aC (aC.alloc (.cells #[.i 0,.i 10,.i 0,.bool false,.i 0] 90)):=(aO _ _).alloc aF _;have sW:=J (uT.bw cY);have cA:=J (bX.trans (cY.mono bX.size));have bx:=J (show a7 (aC.alloc (.cells #[.i 0,.i 10,.i 0,.bool false,.i 0] 90)) i7 (some ⟨aC.heap.size,0,none⟩) [⟨0,10,0,false,0⟩] from a7.made aC i7 [⟨0,10,0,false,0⟩] 90 #[.i 0,.i 10,.i 0,.bool false,.i 0] (0,0) rfl);have iR:=J (show w.heap.size<aC.heap.size by rw [<- cU];simp);clear bX cY uT
 go_enter func9,ntmps9
 go_wp2_with (refine ch rfl 26 (.tmp 0) (.tmp 5) rfl w.heap.size 26 _ #[.i 100,.i 100,.i 100,.i 10,.i 10,.i 10,.slice (some ⟨aC.heap.size,0,none⟩) 1 1,.i 1,.i 1,.i 2,.i 1] rfl rfl sW.out rfl ai cc ?_;intro bc bS bP dx)
 have dn:=bS.cell;refine cS (v:=.agg #[.i 100,.i 100,.i 100,.i 10,.i 10,.i 10,.slice (some ⟨aC.heap.size,0,none⟩) 1 1,.i 1,.i 1,.i 2,.i 1]) (by simp [results,results9,go_sem,dn]) rfl ⟨_,1,rfl,?_,cA.grown bP cA.size (by intro k hk;cases hk;exact e3 _)⟩;exact bx.YO bP fun a ha _ e=>by
  injection ha with ha
  subst ha;have bE:aC.heap.size=w.heap.size:=by injection e
  have:=iR.out;omega
end
section
variable {q:bL} {N V:Nat} {n:fO} {x:oh} {a:bD} {o:bA}
theorem agi {t last round most:Int} (h:pH t last round most=false):¬ t<=last/\¬ round<t:=by
 refine ⟨fun h1=>?_,fun h1=>?_⟩
 ·rw [Rg h1] at h;cases h
 ·rw [Rh h1] at h;cases h
theorem fG.lU (h:fG q a) {t:Int} {f0 f1 f2 c:Nat} {A:Option Addr} {l:List gW} {v:Bool} (hv:v=true↔q5 ⟨t,f0,f1,f2,A,l,c⟩):fG q (a.lU q t f0 f1 f2 l v).1:=by
 unfold bD.lU
 cases hk:A4 v (pH t a.time a.rd q.c9) with
 | some k=>exact h
 | none =>
  have E0:v=true:=by
   cases v
   ·unfold A4 at hk;simp at hk
   ·rfl
  have dU:pH t a.time a.rd q.c9=false:=by
   cases hs:pH t a.time a.rd q.c9
   ·rfl
   ·unfold A4 at hk;rw [hs,E0] at hk;simp at hk
  obtain ⟨h1,ah⟩:=agi dU;have hr:=hv.1 E0;have gC:=h.r.NA;have ht:=h.t;refine ⟨h.r,h.w,h.f,h.sl,h.s,h.k,⟨by simp only;omega,by simp only;omega⟩,⟨vM f0,vM f1,vM f2⟩,by simp only;rw [aao];exact hr.len,aal.1 (QY (Q7 hr.ok)),fun x hx=>?_⟩;have:=aat hx;exact ⟨⟨this.bk,this.aap⟩,⟨this.bl,this.aaq⟩,⟨this.aW,this.aar⟩⟩
theorem bD.agj (a:bD) (t:Int) (f0 f1 f2:Nat) (l:List gW) (v:Bool):(a.lU q t f0 f1 f2 l v).1.sv=a.sv:=by
 unfold bD.lU
 split <;> rfl
theorem bD.agk (a:bD) (p:aQ) (h:(a.CV q p).2.2.2=false):(a.CV q p).1=a:=by
 unfold bD.CV at h ⊢
 simp only at h ⊢
 split
 ·rfl
 ·rename_i h1
  rw [bp h1] at h
  split
  ·rfl
  ·rename_i ah;rw [bp ah] at h;simp at h
theorem bD.agl (a:bD) (id:ByteArray) (h:(a.delete id).2.2.2=false):(a.delete id).1=a:=by
 unfold bD.delete at h ⊢
 split
 ·rename_i h1
  rw [bB h1] at h
  split
  ·rename_i e he
   rw [he] at h
   simp only at h ⊢
   split
   ·rfl
   ·rename_i ah;rw [bp ah] at h;simp at h
  ·rfl
 ·rfl
theorem bD.agm (a:bD) (p:aQ):(a.CV q p).1.rd=a.rd:=by
 unfold bD.CV;simp only
 split
 ·rfl
 ·split <;> rfl
theorem bD.agn (a:bD) (id:ByteArray):(a.delete id).1.rd=a.rd:=by
 unfold bD.delete
 split
 ·split
  ·split <;> rfl
  ·rfl
 ·rfl
structure ago (q:bL) (N:Nat) (a:bD) (d:UR):Prop where
 au:fG q d.a
 eh:e2 (N+64) d.o
 sv:d.nj=false->d.a.sv=a.sv
 rd:d.a.rd<=a.rd+1
theorem Jl (what kind:Int):∀ (l:List ByteArray) (r:Rd),(l.foldl (Rd.gY q what kind) r).a=r.a
 | [],r=>rfl
 | y :: l,r=>by
  rw [oP,Jl what kind l];unfold Rd.gY;simp only
  split <;> rfl
theorem US:∀ (l:List cf) (r:Rd),(l.foldl Rd.pT r).a=r.a
 | [],r=>rfl
 | y :: l,r=>by
  rw [oP,US l];unfold Rd.pT;simp only
  split <;> rfl
theorem agp (r:Rd):(r.mZ q).a=r.a:=by
 unfold Rd.mZ;simp only;rw [Jl]
theorem agq (r:Rd):(r.nN q).a=r.a:=by
 unfold Rd.nN
 split
 ·simp only
  rw [US]
 ·rfl
theorem agr {r r':Rd} {k:Int} (h:r.oe k=some r'):r'.a.rd=r.a.rd:=by
 unfold Rd.oe at h
 simp only at h
 split at h
 ·injection h with h
  subst h
  rfl
 ·cases h
theorem UT (r:Rd):∀ (n k:Nat),(r.mh n k).a.rd=r.a.rd
 | 0,_=>rfl
 | n+1,k=>by
  unfold Rd.mh
  split
  ·rename_i r' h
   split at h
   ·exact agr h
   ·cases h
  ·exact UT r n (k+1)
theorem ags (r:Rd):r.j9.a.rd=r.a.rd:=by
 rw [Rd.MV]
 split
 ·rfl
 ·exact UT r 3 0
theorem agt (r:Rd) (id:ByteArray) (was:Int):(r.ending q id was).a.rd=r.a.rd:=by
 unfold Rd.ending;simp only
 split
 ·split <;> rfl
 ·rfl
theorem agu (what kind:Int) (r:Rd) (id:ByteArray):(r.gY q what kind id).a=r.a:=Jl what kind [id] r
theorem agv (r:Rd) (e:bj):(r.aa q e).a.rd=r.a.rd:=by
 unfold Rd.aa;simp only
 split
 ·exact agt r _ _
 split
 ·rfl
 split
 ·rfl
 split
 ·rfl
 split
 ·split <;> rfl
 split
 ·rw [agu]
 split <;> rfl
theorem UU:∀ (l:List bj) (r:Rd),(l.foldl (Rd.aa q) r).a.rd=r.a.rd
 | [],r=>rfl
 | y :: l,r=>by rw [oP,UU l,agv]
theorem agw (q:bL) (a:bD) (o:bA):(a.round q o).a.rd=a.rd+1:=by
 unfold bD.round Rd.lost Rd.ax;rw [Jl,UU,ags,agq,agp]
 rfl
theorem agx (q:bL) (a:bD) (o:bA):(a.tick q o).1.rd=a.rd+1:=by
 rw [<- agw q a o];unfold bD.tick
 rfl
theorem Tv {y:uk} {S:Nat->Prop} {w:World} (bd:q.Ok) (ha:fG q a) (ho:e2 N o) (hr:a.rd<nk) (h1:1<=x.kind) (ah:x.kind<=5) (hx:kE S w x y):ago q N a (fu q a o x):=by
 have hk:x.kind=1\/x.kind=2\/x.kind=3\/x.kind=4\/x.kind=5:=af;have e9:=ho.mono (M:=N+64) af
 rcases hk with hk|hk|hk|hk|hk
 ·rw [show fu q a o x=⟨(a.CV q x.aa).1,o,(a.CV q x.aa).2.1,(a.CV q x.aa).2.2.1,(a.CV q x.aa).2.2.2⟩ from Im (n:=⟨a,o,none,0,none⟩) hk]
  refine ⟨ha.CV hx.p,e9,fun h=>?_,?_⟩
  ·show (a.CV q x.aa).1.sv=a.sv
   rw [bD.agk a x.aa h]
  ·show (a.CV q x.aa).1.rd<=a.rd+1
   rw [bD.agm];omega
 ·rw [show fu q a o x=⟨(a.delete x.id).1,o,(a.delete x.id).2.1,(a.delete x.id).2.2.1,(a.delete x.id).2.2.2⟩ from ad3 (n:=⟨a,o,none,0,none⟩) hk]
  refine ⟨ha.delete x.id,e9,fun h=>?_,?_⟩
  ·show (a.delete x.id).1.sv=a.sv
   rw [bD.agl a x.id h]
  ·show (a.delete x.id).1.rd<=a.rd+1
   rw [bD.agn];omega
 ·rw [show fu q a o x=⟨(a.tick q o).1,(a.tick q o).2.1,(a.tick q o).2.2,0,true⟩ from L' (n:=⟨a,o,none,0,none⟩) hk]
  obtain ⟨aw,bn,_⟩:=fG.tick bd ha ho hr;refine ⟨aw,bn,fun h=>(by cases h),?_⟩
  show (a.tick q o).1.rd<=a.rd+1
  rw [agx];exact oU _
 ·rw [show fu q a o x=⟨(a.lU q x.t x.f0 x.f1 x.f2 x.uses x.ok).1,o,[],(a.lU q x.t x.f0 x.f1 x.f2 x.uses x.ok).2,false⟩ from Ma (n:=⟨a,o,none,0,none⟩) hk]
  have xy:=bD.agj (q:=q) a x.t x.f0 x.f1 x.f2 x.uses x.ok;refine ⟨ha.lU hx.ok,e9,fun _=>xy,?_⟩
  show (a.lU q x.t x.f0 x.f1 x.f2 x.uses x.ok).1.rd<=a.rd+1
  rw [show (a.lU q x.t x.f0 x.f1 x.f2 x.uses x.ok).1.rd=a.rd from pz o4.rd xy];omega
 ·rw [show fu q a o x=if 4096<o.q.length+x.dS.length then ⟨a,o,[],6,false⟩ else ⟨a,{ o with q:=o.q++x.dS },[],0,false⟩ from ad4 (n:=⟨a,o,none,0,none⟩) hk]
  by_cases hb:4096<o.q.length+x.dS.length
  ·rw [bB hb]
   exact ⟨ha,e9,fun _=>rfl,by show a.rd<=a.rd+1;omega⟩
  ·rw [bp hb]
   exact ⟨ha,e9.feed af,fun _=>rfl,by show a.rd<=a.rd+1;omega⟩
theorem jo.Bs {y:uk} {S:Nat->Prop} {w:World} (bd:q.Ok) (h:jo q N V n) (h2:V<=100000) (h0:n.pN=none) (h1:1<=x.kind) (ah:x.kind<=5) (hx:kE S w x y):jo q (N+64) (V+1) (n.act q x).1/\(n.act q x).1.pN=none:=by
 have hd:=Tv bd h.a h.o (by have:=h.rd;simp only [nk];omega) h1 ah hx;rw [zd h0 h1 ah];refine ⟨⟨hd.au,hd.eh,?_,?_,by have:=hd.rd;have:=h.rd;simp only;omega⟩,rfl⟩
 ·simp only
  cases hs:(fu q n.a n.o x).nj
  ·simp only [oQ,ml]
   rw [hd.sv hs,h.sv]
  ·rfl
 ·simp only
  have:=h.v
  split <;> omega
theorem bD.agy (s:o4) (hr:jb s.rd s.ax) (hw:∀ x∈s.ax,x.aa.fe) (hf:gp q.ky (dM s.ax)=true):fG q (bD.of q s):=by
 refine ⟨hr,hw,hf,by simp [bD.of,bD.new],?_,⟨⟨by simp [bD.of,bD.new],by simp [bD.of,bD.new]⟩,⟨by simp [bD.of,bD.new],by simp [bD.of,bD.new]⟩,⟨by simp [bD.of,bD.new],by simp [bD.of,bD.new]⟩⟩,⟨by simp [bD.of,bD.new],by simp [bD.of,bD.new,mx]⟩,⟨⟨by simp [bD.of,bD.new],by simp [bD.of,bD.new,mx]⟩,⟨by simp [bD.of,bD.new],by simp [bD.of,bD.new,mx]⟩,⟨by simp [bD.of,bD.new],by simp [bD.of,bD.new,mx]⟩⟩,by simp [bD.of,bD.new],by simp [bD.of,bD.new,oR],by simp [bD.of,bD.new]⟩;intro s' tW;simp [bD.of,bD.new] at tW
 obtain ⟨_,rfl⟩:=tW;simp only [nk];omega
theorem agz (room:cr) (h:0<=room.a/\0<=room.b/\0<=room.c):gp room (dM [])=true:=by
 obtain ⟨aI,h1,ah⟩:=h;have iz:decide (room.a<0)=false:=cX af;have aV:decide (room.b<0)=false:=cX af;have bE:decide (room.c<0)=false:=cX af
 show room.fits ⟨0,0,0⟩=true
 unfold cr.fits iU;simp only [iz,aV,bE]
 rfl
theorem jo.new (bd:q.Ok):jo q 0 0 (fO.new q) :=
 ⟨bD.agy o4.zero ⟨ak,ak,by simp [o4.zero],fun i hi=>by simp [o4.zero] at hi⟩ (fun x hx=>by cases hx) (agz _ ⟨by simp [bL.ky],by simp [bL.ky],by simp [bL.ky]⟩),e2.new,rfl,by simp [fO.new],by simp [fO.new,bD.of,bD.new,o4.zero]⟩
end
theorem R8 {room:cr} {p:aQ} {l:List aQ} (h:kx p l = []):jE room p l=([],gp room (fV p l)):=by
 unfold jE;rw [h]
 cases gp room (fV p l)
 ·rfl
 ·simp only [ll,List.mergeSort_nil,gR]
theorem acr {q:bL} {r:Rd} (h:r.o.boxes.filter (px (gh r.a.ax)) = []):r.mZ q = { r with o:=r.o.lv (hE r.a.ax) r.a.rd }:=by
 unfold Rd.mZ;simp only;have e:Bn (r.o.lv (hE r.a.ax) r.a.rd).boxes (gh r.a.ax) (if r.dc=true then 0 else (q.dead:Int)) = []:=by
  show Bn r.o.boxes _ _ = []
  unfold Bn na;rw [h,List.mergeSort_nil,rT,List.take_nil]
 rw [e]
 rfl
abbrev e4:aQ:=⟨⟨#[112]⟩,0,false,4,4,4,0,0,0,⟨#[119,101,98]⟩,7⟩
abbrev cQ:bL:=L6 10
theorem t1:mG cQ.ky e4 [] false false false=(1,0,[],0):=by
 unfold mG;rw [show jE cQ.ky e4 (dM [])=([],true) from (R8 rfl).trans aH]
 rfl
abbrev Bo:bD:=⟨0,[],false,false,false,[-1],0,0,0,-1,0,0,0,[],false⟩
abbrev re:bD:={ Bo with ax:=[⟨e4,1⟩] }
theorem s1:bD.CV cQ Bo e4=(re,[⟨1,⟨#[112]⟩,0,0⟩],0,true):=by
 unfold bD.CV;rw [show mG cQ.ky e4 Bo.ax Bo.aU Bo.aL Bo.aS=(1,0,[],0) from t1]
 rfl
abbrev Bp:bD:={ Bo with rd:=1,ax:=[⟨e4,2⟩] }
abbrev y9:bA:=⟨[],[⟨⟨#[112]⟩,1,0,1⟩],[]⟩
theorem Ie {q:bL} {a:bD} {o:bA} {R R1 R3 xz Ig:Rd} (h1:Rd.signals q ⟨{ a with rd:=a.rd+1 },o,[],[],false,false,false⟩=R) (ah:R.o.boxes.filter (px (gh R.a.ax)) = []) (aw : { R with o:=R.o.lv (hE R.a.ax) R.a.rd }=R1) (bn:R1.dc=false) (dk:R1.j9=R3) (iT:R3.ax q=xz) (kB:xz.lost q=Ig):a.tick q o=({ Ig.a with fresh:=false },Ig.o,Ig.ev):=by
 unfold bD.tick bD.round;rw [h1,acr ah,aw,Ih bn,dk,iT,kB]
abbrev dr:ByteArray:=⟨#[112]⟩
abbrev mH:ByteArray:=⟨#[119,101,98]⟩
theorem bX:Rd.signals cQ ⟨{ re with rd:=re.rd+1 },⟨[],[],[]⟩,[],[],false,false,false⟩=⟨{ re with rd:=1 },⟨[],[],[]⟩,[],[],false,false,false⟩:=aH
theorem cY:({ (⟨{ re with rd:=1 },⟨[],[],[]⟩,[],[],false,false,false⟩:Rd) with o:=bA.lv ⟨[],[],[]⟩ (hE [⟨e4,1⟩]) 1 }:Rd)=⟨{ re with rd:=1 },⟨[],[],[]⟩,[],[],false,false,false⟩:=aH
theorem pd:(⟨{ re with rd:=1 },⟨[],[],[]⟩,[],[],false,false,false⟩:Rd).j9=⟨{ re with rd:=1 },⟨[],[],[]⟩,[],[],false,false,false⟩:=aH
theorem R9:blt dr dr=false:=by unfold blt;simp only [oG];rfl
theorem E4 (e:bj) (h:e.aa.id=dr):ij [e] dr=true/\dQ [e] dr=0:=by
 have h1:dQ [e] dr=0:=by unfold dQ;simp [h,R9]
 refine ⟨?_,h1⟩;unfold ij;rw [h1];simp [h]
theorem L7 (x:cv) (h:x.id=dr):kD [x] dr=true/\iX [x] dr=0:=by
 have h1:iX [x] dr=0:=by unfold iX;simp [h,R9]
 refine ⟨?_,h1⟩;unfold kD;rw [h1];simp [h]
theorem Sa (e e':bj) (h:e.aa.id=dr) (cI:e'.aa.id=dr):fZ [e] e' = [e']:=by
 unfold fZ;rw [cI,(E4 e h).1,bB rfl,(E4 e h).2]
 rfl
theorem Bq (x:cv) (h:x.id=dr) (b:List Bool) (qU:List cf):bA.at_ ⟨b,[x],qU⟩ dr=some x:=by
 unfold bA.at_;rw [(L7 x h).1,bB rfl,(L7 x h).2]
 rfl
theorem Sb (x:cv) (h:x.id=dr) (b:List Bool) (qU:List cf) (what:Int) (dS:Bool) (ret rd:Int):bA.act ⟨b,[x],qU⟩ dr what dS ret rd=⟨b,uj [x] 0 (oZ x what dS ret rd),qU⟩:=by
 unfold bA.act;rw [Bq x h];simp only;rw [(L7 x h).2]
theorem Sc:hasB [dr] dr=true:=by unfold hasB;simp
theorem acs:hasB [mH] mH=true:=by unfold hasB;simp
theorem Ii (q:bL) (r:Rd) (e:bj) (h:r.a.ax = [e]):r.ax q=r.aa q e:=by unfold Rd.ax;rw [h];rfl
theorem yp:Rd.ax cQ ⟨{ re with rd:=1 },⟨[],[],[]⟩,[],[],false,false,false⟩=⟨Bp,y9,[⟨8,dr,0,0⟩],[],false,false,false⟩:=by
 rw [Ii _ _ ⟨e4,1⟩ rfl];unfold Rd.aa;simp only [Sa ⟨e4,1⟩ ⟨e4,2⟩ rfl rfl]
 rfl
theorem L8 (q:bL) (r:Rd) (x:cv) (e:bj) (h:r.o.boxes = [x]) (ah:r.a.ax = [e]) (aw:x.id=dr) (bn:e.aa.id=dr):r.lost q=r:=by
 unfold Rd.lost;rw [h,ah];have:mT (p' (gh [e])) [x] = []:=by
  unfold mT p' gh;simp [aw,bn,Sc]
 rw [this]
 rfl
theorem L9 (r:Rd) (x:cv) (e:bj) (h:r.o.boxes = [x]) (ah:r.a.ax = [e]) (aw:x.id=dr) (bn:e.aa.id=dr):r.o.boxes.filter (px (gh r.a.ax)) = []:=by
 rw [h,ah];unfold px gh;simp [aw,bn,Sc]
theorem s2:bD.tick cQ re ⟨[],[],[]⟩=(Bp,y9,[⟨8,dr,0,0⟩]) :=
 Ie bX rfl cY rfl pd yp (L8 _ _ ⟨dr,1,0,1⟩ ⟨e4,2⟩ rfl rfl rfl rfl)
abbrev xA:bD:={ Bp with rd:=2 }
abbrev E5:bA:=⟨[],[⟨dr,2,0,2⟩],[⟨mH,7,2⟩]⟩
theorem acu (ret rd l:Int):bA.lx ⟨[],[⟨dr,1,0,l⟩],[]⟩ dr mH 7 ret rd=(true,⟨[],[⟨dr,2,0,rd⟩],[⟨mH,7,rd⟩]⟩):=by
 unfold bA.lx bA.may;simp only [Bq ⟨dr,1,0,l⟩ rfl,Sb ⟨dr,1,0,l⟩ rfl,List.tail_nil]
 rfl
theorem Sd (s what l ret rd:Int) (qU:List cf) (hm:(j' s what != 0)=true) (hw:what≠1) (dk:j' s what≠5):bA.ask ⟨[],[⟨dr,s,0,l⟩],qU⟩ dr what ret rd=(true,⟨[],[⟨dr,j' s what,0,rd⟩],qU⟩):=by
 unfold bA.ask bA.may;simp only [Bq ⟨dr,s,0,l⟩ rfl,Sb ⟨dr,s,0,l⟩ rfl,hm,hw,List.tail_nil,ne_eq,not_false_eq_true,and_self,ll]
 show (true,(⟨[],uj [⟨dr,s,0,l⟩] 0 (oZ ⟨dr,s,0,l⟩ what true ret rd),qU⟩:bA))=_
 unfold uj;rw [bp (by show ¬ j' s what=5;exact dk)]
 rfl
theorem Se (b:List Bool) (x:cv) (l rd:Int) (e:bj) (h:e.aa.bb=mH):bA.lv ⟨b,[x],[⟨mH,7,l⟩]⟩ (hE [e]) rd=⟨b,[x],[late ⟨mH,7,l⟩ rd]⟩:=by
 unfold bA.lv kT hE;simp [h,acs]
theorem fA:Rd.ax cQ ⟨xA,y9,[],[],false,false,false⟩=⟨xA,E5,[⟨9,mH,0,7⟩],[],false,false,false⟩:=by
 rw [Ii _ _ ⟨e4,2⟩ rfl];unfold Rd.aa;simp only [Bq ⟨dr,1,0,1⟩ rfl,acu]
 rfl
theorem qX:bD.tick cQ Bp y9=(xA,E5,[⟨9,mH,0,7⟩]) :=
 Ie (R:=⟨xA,y9,[],[],false,false,false⟩) (R1:=⟨xA,y9,[],[],false,false,false⟩) (R3:=⟨xA,y9,[],[],false,false,false⟩) rfl (L9 _ ⟨dr,1,0,1⟩ ⟨e4,2⟩ rfl rfl rfl rfl) rfl rfl rfl fA (L8 _ _ ⟨dr,2,0,2⟩ ⟨e4,2⟩ rfl rfl rfl rfl)
abbrev wb:bD:={ Bp with rd:=3 }
abbrev za:bA:=⟨[],[⟨dr,3,0,3⟩],[⟨mH,7,3⟩]⟩
theorem d4:Rd.ax cQ ⟨wb,⟨[],[⟨dr,2,0,2⟩],[⟨mH,7,3⟩]⟩,[],[],false,false,false⟩=⟨wb,za,[⟨10,dr,0,0⟩],[],false,false,false⟩:=by
 rw [Ii _ _ ⟨e4,2⟩ rfl];unfold Rd.aa Rd.gY;simp only [Bq ⟨dr,2,0,2⟩ rfl,Sd 2 2 2 cQ.ret 3 [⟨mH,7,3⟩] ak ak ak]
 rfl
theorem Sf:bD.tick cQ xA E5=(wb,za,[⟨10,dr,0,0⟩]) :=
 Ie (R:=⟨wb,E5,[],[],false,false,false⟩) (R1:=⟨wb,⟨[],[⟨dr,2,0,2⟩],[⟨mH,7,3⟩]⟩,[],[],false,false,false⟩) (R3:=⟨wb,⟨[],[⟨dr,2,0,2⟩],[⟨mH,7,3⟩]⟩,[],[],false,false,false⟩) rfl (L9 _ ⟨dr,2,0,2⟩ ⟨e4,2⟩ rfl rfl rfl rfl) (by rw [Se _ _ _ _ ⟨e4,2⟩ rfl];rfl) rfl rfl d4 (L8 _ _ ⟨dr,3,0,3⟩ ⟨e4,2⟩ rfl rfl rfl rfl)
abbrev Dp:bD:=⟨3,[⟨e4,2⟩],false,false,false,[-1],0,0,0,3,9,99,99,[],true⟩
theorem acv:bD.lU cQ wb 3 4621256167635550208 4636666922610458624 4636666922610458624 [] true=(Dp,0):=aH
abbrev Ij:bD:=⟨4,[],true,false,false,[4],0,0,0,3,9,99,99,[],true⟩
abbrev zb:bA:=⟨[],[⟨dr,4,0,4⟩],[⟨mH,7,4⟩]⟩
abbrev rf:List cP:=[⟨6,iI,0,0⟩]
abbrev o0 (ax:List bj) (o:bA) (ev:List cP):Rd:=⟨{ Ij with ax:=ax },o,ev,[true],true,false,false⟩
theorem aV:Rd.signals cQ ⟨{ Dp with rd:=Dp.rd+1 },za,[],[],false,false,false⟩=o0 [⟨e4,2⟩] za rf:=aH
abbrev rh:bA:=⟨[],[⟨dr,3,0,3⟩],[⟨mH,7,4⟩]⟩
theorem cG:(o0 [⟨e4,2⟩] rh rf).j9=o0 [⟨e4,3⟩] rh (rf++[⟨5,dr,0,0⟩]):=by
 have hf:firstT (j4 0 [⟨e4,2⟩] [])=(dr,true):=aH;have he:hasEnd [⟨e4,2⟩]=false:=aH;unfold Rd.j9;rw [bp (show ¬ hasEnd (o0 [⟨e4,2⟩] rh rf).a.ax=true by rw [show hasEnd (o0 [⟨e4,2⟩] rh rf).a.ax=false from he];simp)];have h1:(o0 [⟨e4,2⟩] rh rf).oe 0=some (o0 [⟨e4,3⟩] rh (rf++[⟨5,dr,0,0⟩])):=by
  rw [Rd.Ik (f:=dr) hf];have ah:og [(⟨e4,2⟩:bj)] (dQ [⟨e4,2⟩] dr) = [⟨e4,3⟩]:=by
   rw [(E4 ⟨e4,2⟩ rfl).2]
   show fZ [⟨e4,2⟩] ⟨e4,3⟩=_
   exact Sa _ _ rfl rfl
  show some (o0 (og [⟨e4,2⟩] (dQ [⟨e4,2⟩] dr)) rh _)=_
  rw [ah]
 rw [bB rfl,h1]
theorem acw (e:bj) (h:e.aa.id=dr):im [e] dr = []:=by
 unfold im;rw [(E4 e h).1,bB rfl,(E4 e h).2]
 rfl
theorem po:Rd.ax cQ (o0 [⟨e4,3⟩] rh (rf++[⟨5,dr,0,0⟩]))=o0 [] zb (rf++[⟨5,dr,0,0⟩]++[⟨12,dr,0,0⟩]):=by
 rw [Ii _ _ ⟨e4,3⟩ rfl];unfold Rd.aa;rw [bB rfl];unfold Rd.ending;have h1:hY ((o0 [⟨e4,3⟩] rh (rf++[⟨5,dr,0,0⟩])).o.at_ (⟨e4,3⟩:bj).aa.id)=3:=by
  rw [show (o0 [⟨e4,3⟩] rh (rf++[⟨5,dr,0,0⟩])).o.at_ (⟨e4,3⟩:bj).aa.id=some ⟨dr,3,0,3⟩ from Bq _ rfl _ _]
  rfl
 rw [bB h1];have ah:(o0 [⟨e4,3⟩] rh (rf++[⟨5,dr,0,0⟩])).o.ask (⟨e4,3⟩:bj).aa.id 3 cQ.ret (o0 [⟨e4,3⟩] rh (rf++[⟨5,dr,0,0⟩])).a.rd=(true,zb):=Sd 3 3 3 cQ.ret 4 [⟨mH,7,4⟩] ak ak ak;rw [ah];simp only;have aw:hY (zb.at_ (⟨e4,3⟩:bj).aa.id)=4:=by
  rw [show zb.at_ (⟨e4,3⟩:bj).aa.id=some ⟨dr,4,0,4⟩ from Bq _ rfl _ _]
  rfl
 rw [bp (by rw [aw];decide)];unfold Rd.leave;simp only [acw ⟨e4,3⟩ rfl]
theorem sj (ev:List cP):Rd.lost cQ (o0 [] zb ev)=o0 [] zb ev:=by
 rfl
theorem acx:bD.tick cQ Dp za=({ Ij with fresh:=false },zb,[⟨6,iI,0,0⟩,⟨5,dr,0,0⟩,⟨12,dr,0,0⟩]) :=
 Ie aV (L9 _ ⟨dr,3,0,3⟩ ⟨e4,2⟩ rfl rfl rfl rfl) (by rw [show bA.lv za (hE [⟨e4,2⟩]) 4=rh from (Se _ _ _ _ ⟨e4,2⟩ rfl).trans aH]) rfl cG po (sj _)
def rD (cL:List TypeId) (S cn:Nat->Prop) (w:World):Prop:=∀ k,k<w.heap.size->S k->¬ nL cL w k->cn k
section
variable {S cn:Nat->Prop} {ts cL:List TypeId} {w w':World} {pn ay aJ ps bH v:Nat} {q:bL} {z:rj} {n:fO} {x:oh} {y:uk} {r:jB} {a:bD} {o:bA} {fs:di} {ret:Int}
theorem cW.hg {g:Nat} {t:TypeId} {cs:Array Value} (h:cW w S g t cs) (hr:rD cL S cn w) (ht:t∉cL):cW w cn g t cs:=⟨h.ab,hr g (w5.1 h.ab).1 h.ins fun hx=>by
 rcases hx with ⟨_,es,c,h1⟩|⟨xG,t',fr,h1,ah⟩
 ·exact h.ab.pM h1 rfl
 ·have aw:=h.ab
  unfold ar at aw
  rw [aw] at h1
  injection h1 with h1
  injection h1 with _ h1
  exact ht (h1 ▸ ah)⟩
theorem b7.hg {α:Type} {size:Nat} {E:cu α size} {e:TypeId} {u:Value} {l:List α} (h:b7 w S e E u l) (hr:rD cL S cn w) (he:e∉cL):b7 w cn e E u l:=⟨h.own,fun k hk=>hr k (h.own.iw k hk).2 (h.ins k hk) (h.own.wx he k hk)⟩
theorem iY.hg {A:Option Addr} {c:Nat} {l:List Bool} (h:iY S w A c l) (hr:rD cL S cn w) (he:4∉cL):iY cn w A c l:=h.k1 fun _ _ hx=>hx.hg hr he
theorem hV.hg {aN:Nat} (h:hV S w aN fs) (hr:rD cL S cn w) (hm:wo∉cL) (hu:5∉cL):hV cn w aN fs:=by
 obtain ⟨⟨es,c,h1,ah⟩,aw⟩:=h;refine ⟨⟨es,c,h1,ah.k1 fun A d l hl=>hl.hg hr hu⟩,hr aN (w5.1 h1).1 aw fun hx=>?_⟩
 rcases hx with ⟨bn,_⟩|⟨cs,t,fr,bn,_⟩
 ·exact hm bn
 ·rw [h1] at bn;cases bn
theorem jn.hg (h:jn S w aJ fs) (hr:rD cL S cn w) (h1:161∉cL) (ah:wo∉cL) (aw:5∉cL) (bn:190∉cL):jn cn w aJ fs:=by
 obtain ⟨aN,hd⟩:=h;exact ⟨aN,hd.ab.hg hr h1,hd.map.hg hr ah aw,trivial,hd.row.hg hr bn⟩
theorem jC.hg (h:jC S w ps aJ fs v) (hr:rD cL S cn w) (hd:∀ t∈DD,t∉cL):jC cn w ps aJ fs v:=⟨h.st.hg hr (hd _ ak),h.d.hg hr (hd _ ak) (hd _ ak) (hd _ ak) (hd _ ak)⟩
theorem eO.hg (h:eO S w bH ret o) (hr:rD cL S cn w) (hd:∀ t∈DD,t∉cL):eO cn w bH ret o:=by
 obtain ⟨cQ,gK,fh,e7,eG,fj,h⟩:=h;exact ⟨cQ,gK,fh,e7,eG,fj,h.ab.hg hr (hd _ ak),h.o3.hg hr (hd _ ak),h.box.hg hr (hd _ ak),h.rE.hg hr (hd _ ak)⟩
theorem eY.hg (h:eY S w ay q r a) (hr:rD cL S cn w) (hd:∀ t∈DD,t∉cL):eY cn w ay q r a :=
 ⟨h.ab.hg hr (hd _ ak),h.rows.kj.hg hr (hd _ ak),h.rows.ax.hg hr (hd _ ak),h.rows.since.hg hr (hd _ ak),h.rows.uses.hg hr (hd _ ak)⟩
theorem l'.hg (h:l' S w ay aJ q r a o fs v) (hr:rD cL S cn w) (hd:∀ t∈DD,t∉cL):l' cn w ay aJ q r a o fs v:=⟨h.au.hg hr hd,h.eh.hg hr hd,h.st.hg hr hd⟩
theorem uF.hg {u:Value} {t:Option (Int×List Int)} (h:uF S w u t) (hr:rD cL S cn w) (aI:94∉cL) (h1:3∉cL):uF cn w u t:=by
 cases t with
 | none=>exact h
 | some y =>
  obtain ⟨cx,A,c,aV,bE,cG,po⟩:=h;exact ⟨cx,A,c,aV,bE.hg hr aI,cG.hg hr h1,po⟩
theorem hG.hg (h:hG S w pn q z n) (hr:rD cL S cn w) (hd:∀ t∈DD,t∉cL) (aI:99∉cL) (h1:94∉cL):hG cn w pn q z n :=
 ⟨h.ab.hg hr aI,h.text.hg hr (hd _ ak),h.zF.hg hr hd,h.uA,h.dd,h.BM,h.note.hg hr h1 (hd _ ak)⟩
abbrev Tu:List TypeId:=[51]
def iJ (S:Nat->Prop) (w:World):Nat->Prop:=fun k=>S k/\¬ nL Tu w k
theorem iJ.sub (S:Nat->Prop) (w:World):rD Tu S (iJ S w) w:=fun _ _ h1 ah=>⟨h1,ah⟩
theorem iJ.back (S:Nat->Prop) (w w':World):rD [] (iJ S w) S w':=fun _ _ h _=>h.1
theorem iJ.sup (hs:dw S w):dw (iJ S w) w:=⟨fun k hk=>⟨hs.gJ k hk,fun hx=>by
 rcases hx with ⟨h,_⟩|⟨cs,t,fr,h1,_⟩
 ·exact absurd h ak
 ·have:=(w5.1 h1).1;omega⟩,fun k hk h=>hs.kF k hk h.1⟩
theorem bh.iJ (h:bh (iJ S w) ts w w'):bh S ts w w':=cB.mono h fun _ hk=>⟨hk.1.1,hk.2⟩
theorem b7.old {u:Value} {l:List cP} (h:b7 w S 51 dA u l) (hc:bh (iJ S w) ts w w'):b7 w' S 51 dA u l:=⟨h.own.only hc fun k hk hx=>hx.1.2 (h.own.kind av k hk),h.ins⟩
theorem ol.sub {α:Type} {size:Nat} {E:cu α size} {A:Option Addr} {l:List α} (h:ol S w E A l) (hS:∀ k,cn k->S k):ol cn w E A l:=⟨h.1,fun hl b off hA hx=>h.2 hl b off hA (hS _ hx)⟩
theorem kE.sub (h:kE S w x y) (hS:∀ k,cn k->S k):kE cn w x y:=⟨h.p,h.f0,h.f1,h.f2,h.t,h.us.sub hS,h.yM,h.IU,h.uG,h.uc,h.ok,h.we.sub hS,h.wp,h.wl,h.MT.sub hS,h.Fx,h.MU⟩
def Ip (S:Nat->Prop) (pn:Nat) (q:bL) (m:fO) (err:Int) (ev:List cP) (w:World) (e:Ending) (w':World):Prop :=
 ∃ (z':rj) (E:Option Addr) (c:Nat) (A:Option Addr) (ca:Nat),e=.returned (.agg #[.i err,.slice E ev.length c,.i m.a.rd,.slice A m.a.ax.length ca,.bool m.a.aU,.bool m.a.aL,.bool m.a.aS])/\hG S w' pn q z' m/\b7 w' S 51 dA (.slice E ev.length c) ev/\b7 w' S 66 cR (.slice A m.a.ax.length ca) m.a.ax/\bh (iJ S w) nJ w w'
theorem DG.aes {m:fO} {err:Int} {ev:List cP} {e:Ending} (h:DG (iJ S w) pn q m err ev w e w'):Ip S pn q m err ev w e w':=by
 obtain ⟨z',E,c,A,ca,he,h1,ah,aw,bn⟩:=h;exact ⟨z',E,c,A,ca,he,h1.hg (iJ.back S w w') av av av,ah.hg (iJ.back S w w') av,aw.hg (iJ.back S w w') av,bn⟩
theorem Bu (hs:dw S w) (bd:q.Ok) (h:hG S w pn q z n) (h0:n.pN=none) (ha:kE S w x y) {N V:Nat} (bi:jo q N V n) (b8:N<=80000) (h2:V<=100000) (hk:x.kind=1\/x.kind=3\/x.kind=4) (nl:x.kind=3->IL q n.a n.o) :
  Calls prog 11 #[.pointer (some ⟨pn,0,none⟩),.agg (jq x y)] w (Ip S pn q (n.act q x).1 (n.act q x).2.1 (n.act q x).2.2 w):=by
 have fY:=iJ.sup hs;have mJ:=h.hg (iJ.sub S w) ak ak ak;have qd:=ha.sub (cn:=iJ S w) fun _ hk=>hk.1
 have hd:=Tv bd bi.a bi.o (by have:=bi.rd;simp only [nk];omega) af af ha;have sN:(fu q n.a n.o x).a.ax.length<=100000:=by have:=hd.au.r.len;omega
 have akC:jo q N V { n with pN:=none }:=⟨bi.a,bi.o,bi.sv,bi.v,bi.rd⟩
 refine rk ?_ fun e w' hp=>DG.aes hp
 rcases hk with hk|hk|hk
 ·exact aep hk bd fY mJ h0 qd bi b8 h2 sN
 ·exact aeq hk bd fY mJ h0 qd bi b8 h2 sN (nl hk)
 ·exact aer hk bd fY mJ h0 qd bi b8 h2 sN
end
abbrev E6:aQ:=⟨⟨#[]⟩,0,false,0,0,0,0,0,0,⟨#[]⟩,0⟩
abbrev E7:oh:=⟨1,e4,⟨#[]⟩,0,0,0,0,[],true,[],0,[]⟩
abbrev ri:oh:=⟨3,E6,⟨#[]⟩,0,0,0,0,[],true,[],0,[]⟩
abbrev wg:oh:=⟨4,E6,⟨#[]⟩,3,4621256167635550208,4636666922610458624,4636666922610458624,[],true,[],0,[]⟩
abbrev oY:uk:=⟨none,0,none,0,none,0⟩
section
variable {S:Nat->Prop} {w:World}
theorem Il (k:Int) (p:aQ) (hp:p.fe) (t:Int) (ht:c' t) (f0 f1 f2:Nat) (aI:f0<18446744073709551616) (h1:f1<18446744073709551616) (ah:f2<18446744073709551616) (hk:vU f0 f1 f2):kE S w ⟨k,p,⟨#[]⟩,t,f0,f1,f2,[],true,[],0,[]⟩ oY :=
 ⟨hp,aI,h1,ah,ht,ol.e8 _ _ _ _,av,av,av,av,⟨fun _=>⟨av,hk,fun i hi=>by simp at hi⟩,fun _=>rfl⟩,ol.e8 _ _ _ _,.inl rfl,av,ol.e8 _ _ _ _,.inl rfl,av⟩
theorem acy:e4.fe:=⟨by unfold c';decide,by unfold c';decide,by unfold c';decide,by unfold c';decide,by unfold c';decide,by unfold c';decide,by unfold c';decide,by unfold c';decide,ak,ak⟩
theorem Sg:E6.fe:=⟨by unfold c';decide,by unfold c';decide,by unfold c';decide,by unfold c';decide,by unfold c';decide,by unfold c';decide,by unfold c';decide,by unfold c';decide,ak,ak⟩
theorem Sh:kE S w E7 oY:=Il 1 e4 acy 0 (by unfold c';decide) 0 0 0 ak ak ak ⟨ak,ak,ak⟩
theorem Br:kE S w ri oY:=Il 3 E6 Sg 0 (by unfold c';decide) 0 0 0 ak ak ak ⟨ak,ak,ak⟩
theorem Si:kE S w wg oY:=Il 4 E6 Sg 3 (by unfold c';decide) _ _ _ ak ak ak ⟨ak,ak,ak⟩
end
abbrev m0:fO:=fO.new cQ
abbrev m1:fO:=⟨re,⟨[],[],[]⟩,some re.sv,1,none⟩
abbrev m2:fO:=⟨Bp,y9,some Bp.sv,2,none⟩
abbrev m3:fO:=⟨xA,E5,some xA.sv,3,none⟩
abbrev m4:fO:=⟨wb,za,some wb.sv,4,none⟩
abbrev m5:fO:=⟨Dp,za,some wb.sv,4,none⟩
abbrev m6:fO:=⟨{ Ij with fresh:=false },zb,some ({ Ij with fresh:=false }:bD).sv,5,none⟩
theorem r1:m0.act cQ E7=(m1,0,[⟨1,dr,0,0⟩]):=by
 rw [zd rfl ak ak,Im rfl]
 show (_,_,_)=_
 have h:bD.CV cQ m0.a E7.aa=(re,[⟨1,⟨#[112]⟩,0,0⟩],0,true):=s1;rw [h]
 rfl
theorem Io {m:fO} {a:bD} {o:bA} {ev:List cP} (h0:m.pN=none) (h:m.a.tick cQ m.o=(a,o,ev)):m.act cQ ri=(⟨a,o,some a.sv,m.ew+1,none⟩,0,ev):=by
 rw [zd h0 ak ak,L' rfl,h]
 rfl
theorem r2:m1.act cQ ri=(m2,0,[⟨8,dr,0,0⟩]):=Io rfl s2
theorem pg:m2.act cQ ri=(m3,0,[⟨9,mH,0,7⟩]):=Io rfl qX
theorem vq:m3.act cQ ri=(m4,0,[⟨10,dr,0,0⟩]):=Io rfl Sf
theorem Gw:m4.act cQ wg=(m5,0,[]):=by
 rw [zd rfl ak ak,Ma rfl];have h:bD.lU cQ m4.a wg.t wg.f0 wg.f1 wg.f2 wg.uses wg.ok=(Dp,0):=acv;rw [h]
 rfl
theorem J6:m5.act cQ ri=(m6,0,[⟨6,iI,0,0⟩,⟨5,dr,0,0⟩,⟨12,dr,0,0⟩]):=Io rfl acx
theorem qq:cQ.Ok:=Sj 10 ak
theorem cz:jo cQ 0 0 m0:=jo.new qq
theorem dv:jo cQ 64 1 m1:=by
 have:=(jo.Bs (x:=E7) (S:=fun _=>True) (w:=default) qq cz ak rfl ak ak Sh).1
 rwa [r1] at this
theorem ed:jo cQ 128 2 m2:=by
 have:=(jo.Bs (x:=ri) (S:=fun _=>True) (w:=default) qq dv ak rfl ak ak Br).1
 rwa [r2] at this
theorem fP:jo cQ 192 3 m3:=by
 have:=(jo.Bs (x:=ri) (S:=fun _=>True) (w:=default) qq ed ak rfl ak ak Br).1
 rwa [pg] at this
theorem kz:jo cQ 256 4 m4:=by
 have:=(jo.Bs (x:=ri) (S:=fun _=>True) (w:=default) qq fP ak rfl ak ak Br).1
 rwa [vq] at this
theorem Mb:jo cQ 320 5 m5:=by
 have:=(jo.Bs (x:=wg) (S:=fun _=>True) (w:=default) qq kz ak rfl ak ak Si).1
 rwa [Gw] at this
section
variable {S:Nat->Prop} {w:World} {pn:Nat} {z:rj}
def Bt (S:Nat->Prop) (pn:Nat) (m:fO) (ev:List cP) (k:Nat) (rd:Int) (pl:Nat) (b:Bool) (w:World) (e:Ending) (w':World):Prop :=
 ∃ (z':rj) (E:Option Addr) (c:Nat) (A:Option Addr) (ca:Nat),e=.returned (.agg #[.i 0,.slice E k c,.i rd,.slice A pl ca,.bool b,.bool false,.bool false])/\hG S w' pn cQ z' m/\b7 w' S 51 dA (.slice E k c) ev/\bh (iJ S w) nJ w w'
theorem Ip.Dq {m:fO} {ev:List cP} {e:Ending} {w':World} (h:Ip S pn cQ m 0 ev w e w'):Bt S pn m ev ev.length m.a.rd m.a.ax.length m.a.aU w e w'\/m.a.aL=true\/m.a.aS=true:=by
 cases h1:m.a.aL
 ·cases ah:m.a.aS
  ·left
   obtain ⟨z',E,c,A,ca,he,aw,bn,_,dk⟩:=h;rw [h1,ah] at he
   exact ⟨z',E,c,A,ca,he,aw,bn,dk⟩
  ·exact .inr (.inr rfl)
 ·exact .inr (.inl rfl)
theorem acz (hs:dw S w) (h:hG S w pn cQ z m0):Calls prog 11 #[.pointer (some ⟨pn,0,none⟩),.agg #[.i 1,.string ⟨#[112]⟩,.i 0,.bool false,.i 4,.i 4,.i 4,.i 0,.i 0,.i 0,.string ⟨#[119,101,98]⟩,.i 7,.string ⟨#[]⟩,.i 0,.float .f64 0,.float .f64 0,.float .f64 0,.slice none 0 0,.slice none 0 0,.i 0,.slice none 0 0]] w (Bt S pn m1 [⟨1,dr,0,0⟩] 1 0 1 false w):=by
 have hd:=Bu (x:=E7) (y:=oY) hs qq h rfl Sh cz ak ak ak (fun h=>absurd h ak);rw [r1] at hd
 refine rk (show Calls prog 11 #[.pointer (some ⟨pn,0,none⟩),.agg #[.i 1,.string ⟨#[112]⟩,.i 0,.bool false,.i 4,.i 4,.i 4,.i 0,.i 0,.i 0,.string ⟨#[119,101,98]⟩,.i 7,.string ⟨#[]⟩,.i 0,.float .f64 0,.float .f64 0,.float .f64 0,.slice none 0 0,.slice none 0 0,.i 0,.slice none 0 0]] w _ from hd) fun e w' hp=>?_
 rcases hp.Dq with hp|hp|hp
 ·exact hp
 ·cases hp
 ·cases hp
theorem acA (hs:dw S w) (h:hG S w pn cQ z m1):Calls prog 11 #[.pointer (some ⟨pn,0,none⟩),.agg #[.i 3,.string ⟨#[]⟩,.i 0,.bool false,.i 0,.i 0,.i 0,.i 0,.i 0,.i 0,.string ⟨#[]⟩,.i 0,.string ⟨#[]⟩,.i 0,.float .f64 0,.float .f64 0,.float .f64 0,.slice none 0 0,.slice none 0 0,.i 0,.slice none 0 0]] w (Bt S pn m2 [⟨8,dr,0,0⟩] 1 1 1 false w):=by
 have hd:=Bu (x:=ri) (y:=oY) hs qq h rfl Br dv ak ak ak (fun _=>rfl);rw [r2] at hd
 refine rk (show Calls prog 11 #[.pointer (some ⟨pn,0,none⟩),.agg #[.i 3,.string ⟨#[]⟩,.i 0,.bool false,.i 0,.i 0,.i 0,.i 0,.i 0,.i 0,.string ⟨#[]⟩,.i 0,.string ⟨#[]⟩,.i 0,.float .f64 0,.float .f64 0,.float .f64 0,.slice none 0 0,.slice none 0 0,.i 0,.slice none 0 0]] w _ from hd) fun e w' hp=>?_
 rcases hp.Dq with hp|hp|hp
 ·exact hp
 ·cases hp
 ·cases hp
theorem acB (hs:dw S w) (h:hG S w pn cQ z m2):Calls prog 11 #[.pointer (some ⟨pn,0,none⟩),.agg #[.i 3,.string ⟨#[]⟩,.i 0,.bool false,.i 0,.i 0,.i 0,.i 0,.i 0,.i 0,.string ⟨#[]⟩,.i 0,.string ⟨#[]⟩,.i 0,.float .f64 0,.float .f64 0,.float .f64 0,.slice none 0 0,.slice none 0 0,.i 0,.slice none 0 0]] w (Bt S pn m3 [⟨9,mH,0,7⟩] 1 2 1 false w):=by
 have hd:=Bu (x:=ri) (y:=oY) hs qq h rfl Br ed ak ak ak (fun _=>rfl);rw [pg] at hd
 refine rk (show Calls prog 11 #[.pointer (some ⟨pn,0,none⟩),.agg #[.i 3,.string ⟨#[]⟩,.i 0,.bool false,.i 0,.i 0,.i 0,.i 0,.i 0,.i 0,.string ⟨#[]⟩,.i 0,.string ⟨#[]⟩,.i 0,.float .f64 0,.float .f64 0,.float .f64 0,.slice none 0 0,.slice none 0 0,.i 0,.slice none 0 0]] w _ from hd) fun e w' hp=>?_
 rcases hp.Dq with hp|hp|hp
 ·exact hp
 ·cases hp
 ·cases hp
theorem acC (hs:dw S w) (h:hG S w pn cQ z m3):Calls prog 11 #[.pointer (some ⟨pn,0,none⟩),.agg #[.i 3,.string ⟨#[]⟩,.i 0,.bool false,.i 0,.i 0,.i 0,.i 0,.i 0,.i 0,.string ⟨#[]⟩,.i 0,.string ⟨#[]⟩,.i 0,.float .f64 0,.float .f64 0,.float .f64 0,.slice none 0 0,.slice none 0 0,.i 0,.slice none 0 0]] w (Bt S pn m4 [⟨10,dr,0,0⟩] 1 3 1 false w):=by
 have hd:=Bu (x:=ri) (y:=oY) hs qq h rfl Br fP ak ak ak (fun _=>rfl);rw [vq] at hd
 refine rk (show Calls prog 11 #[.pointer (some ⟨pn,0,none⟩),.agg #[.i 3,.string ⟨#[]⟩,.i 0,.bool false,.i 0,.i 0,.i 0,.i 0,.i 0,.i 0,.string ⟨#[]⟩,.i 0,.string ⟨#[]⟩,.i 0,.float .f64 0,.float .f64 0,.float .f64 0,.slice none 0 0,.slice none 0 0,.i 0,.slice none 0 0]] w _ from hd) fun e w' hp=>?_
 rcases hp.Dq with hp|hp|hp
 ·exact hp
 ·cases hp
 ·cases hp
theorem acD (hs:dw S w) (h:hG S w pn cQ z m4):Calls prog 11 #[.pointer (some ⟨pn,0,none⟩),.agg #[.i 4,.string ⟨#[]⟩,.i 0,.bool false,.i 0,.i 0,.i 0,.i 0,.i 0,.i 0,.string ⟨#[]⟩,.i 0,.string ⟨#[]⟩,.i 3,.float .f64 4621256167635550208,.float .f64 4636666922610458624,.float .f64 4636666922610458624,.slice none 0 0,.slice none 0 0,.i 0,.slice none 0 0]] w (Bt S pn m5 [] 0 3 1 false w):=by
 have hd:=Bu (x:=wg) (y:=oY) hs qq h rfl Si kz ak ak ak (fun h=>absurd h ak);rw [Gw] at hd
 refine rk (show Calls prog 11 #[.pointer (some ⟨pn,0,none⟩),.agg #[.i 4,.string ⟨#[]⟩,.i 0,.bool false,.i 0,.i 0,.i 0,.i 0,.i 0,.i 0,.string ⟨#[]⟩,.i 0,.string ⟨#[]⟩,.i 3,.float .f64 4621256167635550208,.float .f64 4636666922610458624,.float .f64 4636666922610458624,.slice none 0 0,.slice none 0 0,.i 0,.slice none 0 0]] w _ from hd) fun e w' hp=>?_
 rcases hp.Dq with hp|hp|hp
 ·exact hp
 ·cases hp
 ·cases hp
theorem acE (hs:dw S w) (h:hG S w pn cQ z m5):Calls prog 11 #[.pointer (some ⟨pn,0,none⟩),.agg #[.i 3,.string ⟨#[]⟩,.i 0,.bool false,.i 0,.i 0,.i 0,.i 0,.i 0,.i 0,.string ⟨#[]⟩,.i 0,.string ⟨#[]⟩,.i 0,.float .f64 0,.float .f64 0,.float .f64 0,.slice none 0 0,.slice none 0 0,.i 0,.slice none 0 0]] w (Bt S pn m6 [⟨6,iI,0,0⟩,⟨5,dr,0,0⟩,⟨12,dr,0,0⟩] 3 4 0 true w):=by
 have hd:=Bu (x:=ri) (y:=oY) hs qq h rfl Br Mb ak ak ak (fun _=>rfl);rw [J6] at hd
 refine rk (show Calls prog 11 #[.pointer (some ⟨pn,0,none⟩),.agg #[.i 3,.string ⟨#[]⟩,.i 0,.bool false,.i 0,.i 0,.i 0,.i 0,.i 0,.i 0,.string ⟨#[]⟩,.i 0,.string ⟨#[]⟩,.i 0,.float .f64 0,.float .f64 0,.float .f64 0,.slice none 0 0,.slice none 0 0,.i 0,.slice none 0 0]] w _ from hd) fun e w' hp=>?_
 rcases hp.Dq with hp|hp|hp
 ·exact hp
 ·cases hp
 ·cases hp
theorem acF (h:hG S w pn cQ z m6):Calls prog 16 #[.pointer (some ⟨pn,0,none⟩)] w fun e w'=>∃ (A:Option Addr) (c:Nat),e=.returned (.agg #[.i 4,.slice A 0 c,.bool true,.bool false,.bool false])/\Below w.heap.size w w':=by
 refine rk (Iq h ak) fun e w' hp=>?_
 obtain ⟨A,c,he,_,hb⟩:=hp;exact ⟨A,c,he,hb⟩
end
theorem rm {S:Nat->Prop} {w:World} {E:Option Addr} {k c:Nat} {ev:List cP} (h:b7 w S 51 dA (.slice E k c) ev) (i:Nat) (hi:i<ev.length):∃ b,E=some ⟨b,0,none⟩/\w.cell? ⟨b,i*4,none⟩=some (.i ev[i].kind)/\w.cell? ⟨b,i*4+1,none⟩=some (.string ev[i].id)/\w.cell? ⟨b,i*4+2,none⟩=some (.i ev[i].sig)/\w.cell? ⟨b,i*4+3,none⟩=some (.i ev[i].n):=by
 rcases h.own.2 with ⟨_,ah⟩|⟨g,cap,cur,h1,_⟩
 ·simp at ah;subst ah;simp at hi
 ·injection h1 with h1 _ _
  obtain ⟨b,off,hA,_,hc⟩:=h.cZ.at_ hi;rw [h1] at hA
  injection hA with hA
  injection hA with aV bE
  subst aV bE;have bt:=hc 0 (.i ev[i].kind) rfl;have c1:=hc 1 (.string ev[i].id) rfl;have c2:=hc 2 (.i ev[i].sig) rfl;have c3:=hc 3 (.i ev[i].n) rfl;simp only [fw,vw] at bt c1 c2 c3
  exact ⟨g,h1,bt,c1,c2,c3⟩
theorem Dr (w:World) (dE:iH w) (bI:11<=w.heap.size):Calls prog 8 #[] w fun e w'=>e=.returned (.bool true)/\Below w.heap.size w w':=by
 have aP:=J (show dw (fun k=>w.heap.size<=k) w from ⟨fun k hk=>hk,fun k hk h=>af⟩);have b4:=J dE;clear dE bI
 go_enter func8,ntmps8
 go_wp2_with fail;refine (E8 w).mono ?_;rintro e aC ⟨A,c,rfl,hr,bV⟩;have df:=J bV;have ze:=J (show Calls prog 32 #[.agg #[.i 100,.i 100,.i 100,.i 10,.i 10,.i 10,.slice A 1 c,.i 1,.i 1,.i 2,.i 1]] aC (Sk cQ aC) from Sl cQ qq A c aC hr);clear hr bV;go_wp2_with fail;refine ze.mono ?_;rintro e aM ⟨A2,c2,rfl,E9,zf,bY⟩;have cA:=J (df.trans (bY.mono df.size));have Sm:=J (Sn (aP.size cA.size) qq (b4.a6 aP.kF (bh.dL _ [] cA)) A2 c2 E9 zf);clear bY E9 zf;go_wp2_with fail;refine Sm.mono ?_;rintro e w3 ⟨pn,z,rfl,hm,bu⟩;have ag:=J hm;have aq:=J (bh.dL (fun k=>w.heap.size<=k) nJ (cA.trans (bu.mono cA.size)));clear hm bu Sm ze df cA b4;go_wp2_with fail;refine (acz (aP.size aq.size) ag).mono ?_;rintro e eD ⟨gu,ft,c1,Sp,d1,rfl,hm,he,hc⟩;have ag:=J hm;have aq:=J (aq.trans hc.iJ);have e5:=J he;clear hm he hc;have bX:Below eD.heap.size eD (eD.alloc (.cells #[.i 0,.slice none 0 0,.i 0,.slice none 0 0,.bool false,.bool false,.bool false] 37)):=(aO _ _).alloc aF _;have hx:=ar.new eD 37 #[.i 0,.slice none 0 0,.i 0,.slice none 0 0,.bool false,.bool false,.bool false];have cH:=aq.size
 go_wp2_with (refine ch rfl 37 (.tmp 3) (.tmp 22) rfl eD.heap.size 37 #[.i 0,.slice none 0 0,.i 0,.slice none 0 0,.bool false,.bool false,.bool false] #[.i 0,.slice ft 1 c1,.i 0,.slice Sp 1 d1,.bool false,.bool false,.bool false] rfl rfl hx rfl ai cc ?_;intro xB hR az jF;have eM:=J (show cW xB (fun k=>w.heap.size<=k) eD.heap.size 37 #[.i 0,.slice ft 1 c1,.i 0,.slice Sp 1 d1,.bool false,.bool false,.bool false] from ⟨hR,cH⟩);have aA:=J (bX.grown az bX.size (by intro k hk;cases hk;exact e3 _));clear hR az jF hx bX cH)
 have ag:=J (ag.below aA);have aq:=J (aq.below aA);have e5:=J (e5.below aA);obtain ⟨pO,ly⟩:=aE eD.heap.size;rw [ly] at eM ⊢
 clear aA ly;go_wp2_with fail;refine (acA (aP.size aq.size) ag).mono ?_;rintro e bc ⟨z2,fN,c2,rp,d2,rfl,hm,he,hc⟩;have ag:=J hm;have aq:=J (aq.trans hc.iJ);have eM:=J (eM.a6 hc ak);have e5:=J (e5.old hc);clear hm he hc;go_wp2_with fail;refine (acB (aP.size aq.size) ag).mono ?_;rintro e bm ⟨z3,akq,c3,akr,d3,rfl,hm,he,hc⟩;have ag:=J hm;have aq:=J (aq.trans hc.iJ);have eM:=J (eM.a6 hc ak);have e5:=J (e5.old hc);clear hm he hc;go_wp2_with fail;refine (acC (aP.size aq.size) ag).mono ?_;rintro e bU ⟨z4,Mc,fA,Sq,d4,rfl,hm,he,hc⟩;have ag:=J hm;have aq:=J (aq.trans hc.iJ);have eM:=J (eM.a6 hc ak);have e5:=J (e5.old hc);have sz:=J he;clear hm he hc;have bX:Below bU.heap.size bU (bU.alloc (.cells #[.i 0,.slice none 0 0,.i 0,.slice none 0 0,.bool false,.bool false,.bool false] 37)):=(aO _ _).alloc aF _;have hx:=ar.new bU 37 #[.i 0,.slice none 0 0,.i 0,.slice none 0 0,.bool false,.bool false,.bool false];have cH:=aq.size
 go_wp2_with (refine ch rfl 37 (.tmp 4) (.tmp 31) rfl bU.heap.size 37 #[.i 0,.slice none 0 0,.i 0,.slice none 0 0,.bool false,.bool false,.bool false] #[.i 0,.slice Mc 1 fA,.i 3,.slice Sq 1 d4,.bool false,.bool false,.bool false] rfl rfl hx rfl ai cc ?_;intro acG hR az jF;have pJ:=J (show cW acG (fun k=>w.heap.size<=k) bU.heap.size 37 #[.i 0,.slice Mc 1 fA,.i 3,.slice Sq 1 d4,.bool false,.bool false,.bool false] from ⟨hR,cH⟩);have aA:=J (bX.grown az bX.size (by intro k hk;cases hk;exact e3 _));clear hR az jF hx bX cH)
 have ag:=J (ag.below aA);have aq:=J (aq.below aA);have eM:=J (eM.below aA);have e5:=J (e5.below aA);have sz:=J (sz.below aA);obtain ⟨Bv,Bw⟩:=aE bU.heap.size;rw [Bw] at pJ ⊢
 clear aA Bw;go_wp2_with fail;refine (acD (aP.size aq.size) ag).mono ?_;rintro e b3 ⟨z5,aks,c5,akt,d5,rfl,hm,he,hc⟩;have ag:=J hm;have aq:=J (aq.trans hc.iJ);have eM:=J (eM.a6 hc ak);have pJ:=J (pJ.a6 hc ak);have e5:=J (e5.old hc);have sz:=J (sz.old hc);clear hm he hc;go_wp2_with fail;refine (acE (aP.size aq.size) ag).mono ?_;rintro e dy ⟨aku,Md,dG,Sr,d6,rfl,hm,he,hc⟩;have ag:=J hm;have aq:=J (aq.trans hc.iJ);have eM:=J (eM.a6 hc ak);have pJ:=J (pJ.a6 hc ak);have e5:=J (e5.old hc);have sz:=J (sz.old hc);have qo:=J he;clear hm he hc;have bX:Below dy.heap.size dy (dy.alloc (.cells #[.i 0,.slice none 0 0,.i 0,.slice none 0 0,.bool false,.bool false,.bool false] 37)):=(aO _ _).alloc aF _;have hx:=ar.new dy 37 #[.i 0,.slice none 0 0,.i 0,.slice none 0 0,.bool false,.bool false,.bool false];have cH:=aq.size
 go_wp2_with (refine ch rfl 37 (.tmp 5) (.tmp 39) rfl dy.heap.size 37 #[.i 0,.slice none 0 0,.i 0,.slice none 0 0,.bool false,.bool false,.bool false] #[.i 0,.slice Md 3 dG,.i 4,.slice Sr 0 d6,.bool true,.bool false,.bool false] rfl rfl hx rfl ai cc ?_;intro Ir hR az jF;have j2:=J (show cW Ir (fun k=>w.heap.size<=k) dy.heap.size 37 #[.i 0,.slice Md 3 dG,.i 4,.slice Sr 0 d6,.bool true,.bool false,.bool false] from ⟨hR,cH⟩);have aA:=J (bX.grown az bX.size (by intro k hk;cases hk;exact e3 _));clear hR az jF hx bX cH;have ag:=J (ag.below aA);have aq:=J (aq.below aA);have eM:=J (eM.below aA);have pJ:=J (pJ.below aA);have e5:=J (e5.below aA);have sz:=J (sz.below aA);have qo:=J (qo.below aA);have c8:Ir.cell? ⟨pO,1,none⟩=some (.slice ft 1 c1):=eM.ab.cell 1;have jt:Ir.cell? ⟨Bv,1,none⟩=some (.slice Mc 1 fA):=pJ.ab.cell 1;have oD:Ir.cell? ⟨dy.heap.size,1,none⟩=some (.slice Md 3 dG):=j2.ab.cell 1;obtain ⟨bX,h1,wh,_⟩:=rm e5.out 0 av;obtain ⟨yp,bn,acH,_⟩:=rm sz.out 0 av;obtain ⟨mY,iT,acI,_⟩:=rm qo.out 0 av;obtain ⟨iK,kB,acJ,acK,acL,acM⟩:=rm qo.out 1 av;obtain ⟨pP,zg,acN,_⟩:=rm qo.out 2 av;simp only [yJ,K7,w4,w2,Nat.reduceMul,Nat.reduceAdd] at wh acH acI acJ acK acL acM acN;subst h1 bn iT;injection kB with kB;injection kB with kB;subst kB;injection zg with zg;injection zg with zg;subst zg)
 refine (acF ag).mono ?_;rintro e cN ⟨vZ,fU,rfl,hb⟩;have gf:=J (show Below w.heap.size w cN from (cB.below aq aF fun k hk hx=>absurd hx.1 af).trans (hb.mono aq.size));clear hb;go_wp2_with fail;go_ret;exact ⟨rfl,gf.out⟩
end Go.Proofs.YtmmchlfoplcnbaaGreatDoor
