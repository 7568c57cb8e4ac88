/- A part of the walk. -/
import Derived.Test.YtmmchlfoplcnbaaGreatDoorME0
namespace Go.Proofs.YtmmchlfoplcnbaaGreatDoor
open Go Go.RowKit Tryz
set_option linter.all false
set_option maxRecDepth 100000
set_option maxHeartbeats 4000000
section
variable {S cn:Nat->Prop} {ts:List TypeId} {w w':World} {ay aJ v:Nat} {q:bL} {r r':jB} {a a':bD} {o:bA} {fs:di}
theorem abS {room:cr} {l:List bj} {x y z:Bool} {k s qk:Int} {O:List ByteArray} {p:aQ} (hl:l.length<=64) (h:Gu room p l x y z k s O qk):O.length<=100000:=by
 rcases h with ⟨_,_,_,h,_⟩|⟨_,_,_,_,h,_⟩|⟨_,_,_,_,_,h,_⟩|⟨_,_,_,_,_,_,h,_⟩|⟨_,_,_,_,_,_,eQ,h,_⟩
 all_goals first|(subst h;simp)|skip
 have h1:=h.len;rw [O0] at h1
 omega
theorem abT (hs:dw S w) (h:l' S w ay aJ q r a o fs v) (bi:fG q a) (hv:v<=100000000) (hf:r.gX = -1\/∃ k:Nat,k<=4/\r.gX=k) (lu:r.dead=false) (p:aQ) (hp:p.fe) :
  Calls prog 56 #[.pointer (some ⟨ay,0,none⟩),.agg #[.string p.id,.i p.prio,.bool p.bo,.i p.bg,.i p.aX,.i p.ba,.i p.bk,.i p.bl,.i p.aW,.string p.bb,.i p.size]] w (oV S ay aJ q r fs v (a.CV q p) o w):=by
 have mixed:prog.follows Departure.mixedOrders=true:=ai;have bX:Below w.heap.size w (w.alloc (.cells #[.string p.id,.i p.prio,.bool p.bo,.i p.bg,.i p.aX,.i p.ba,.i p.bk,.i p.bl,.i p.aW,.string p.bb,.i p.size] 40)):=(aO _ _).alloc aF _;have aB:=J (h.below bX);have aq:=J (bh.dL S jc bX);have b1:=J (show cW (w.alloc (.cells #[.string p.id,.i p.prio,.bool p.bo,.i p.bg,.i p.aX,.i p.ba,.i p.bk,.i p.bl,.i p.aW,.string p.bb,.i p.size] 40)) S w.heap.size 40 #[.string p.id,.i p.prio,.bool p.bo,.i p.bg,.i p.aX,.i p.ba,.i p.bk,.i p.bl,.i p.aW,.string p.bb,.i p.size] from ⟨ar.new w 40 #[.string p.id,.i p.prio,.bool p.bo,.i p.bg,.i p.aX,.i p.ba,.i p.bk,.i p.bl,.i p.aW,.string p.bb,.i p.size],hs.gJ _ aF⟩);have aP:=J hs;have cj:=J bi;have bF:=J (ae hv (ae hf lu));have vo:=J hp;have EY:(w.alloc (.cells #[.string p.id,.i p.prio,.bool p.bo,.i p.bg,.i p.aX,.i p.ba,.i p.bk,.i p.bl,.i p.aW,.string p.bb,.i p.size] 40)).cell? ⟨ay,29,none⟩=some (.bool false):=by have:=aB.au.ab.ab.cell 29;rw [this];simp [lu]
 clear h hs bi hv hf lu hp bX
 go_enter func56,ntmps56
 go_wp2_with fail;clear EY;obtain ⟨aC,cU⟩:=aE (w.alloc (.cells #[.string p.id,.i p.prio,.bool p.bo,.i p.bg,.i p.aX,.i p.ba,.i p.bk,.i p.bl,.i p.aW,.string p.bb,.i p.size] 40));rw [cU] at aB aq b1 ⊢
 clear cU
 go_cut [6,7] (fun v6 abU W=>∃ (N:Nat) (eJ:World) (k s:Int) (O:List ByteArray) (qk:Int) (bz:Option Addr) (c1:Nat),W=eJ/\v6=.pointer (some ⟨N,0,none⟩)/\abU=.i qk/\l' S eJ ay aJ q r a o fs v/\cW eJ S w.heap.size 40 #[.string p.id,.i p.prio,.bool p.bo,.i p.bg,.i p.aX,.i p.ba,.i p.bk,.i p.bl,.i p.aW,.string p.bb,.i p.size]/\cW eJ S N 172 #[.i k,.i s,.slice bz O.length c1]/\b7 eJ S 9 encS (.slice bz O.length c1) O/\Gu q.ky p a.ax a.aU a.aL a.aS k s O qk/\bh S jc w eJ)
 case first =>
  obtain ⟨wd,aG⟩:=aE aC.drew;have bf:Below aC.heap.size aC wd:=by rw [<- aG];exact (aO _ _).drew
  have aB:=J (aB.below bf);have aq:=J (aq.below bf);have b1:=J (b1.below bf);clear bf;refine wp_region_held_drew (S:=fun w'=>w'.cell? ⟨ay,0,none⟩=some (.i q.bt)/\w'.cell? ⟨ay,1,none⟩=some (.i q.c1)/\w'.cell? ⟨ay,2,none⟩=some (.i q.c2)/\w'.cell? ⟨ay,3,none⟩=some (.i q.cw)/\w'.cell? ⟨ay,4,none⟩=some (.i q.r1)/\w'.cell? ⟨ay,5,none⟩=some (.i q.r2)/\w'.cell? ⟨ay,6,none⟩=some (.slice r.oW q.ts.length r.oX)/\w'.cell? ⟨ay,7,none⟩=some (.i q.b2)/\w'.cell? ⟨ay,8,none⟩=some (.i q.ret)/\w'.cell? ⟨ay,9,none⟩=some (.i q.c9)/\w'.cell? ⟨ay,10,none⟩=some (.i q.dead)/\w'.cell? ⟨ay,14,none⟩=some (.slice r.el a.ax.length r.cx)/\w'.cell? ⟨ay,15,none⟩=some (.bool a.aU)/\w'.cell? ⟨ay,16,none⟩=some (.bool a.aL)/\w'.cell? ⟨ay,17,none⟩=some (.bool a.aS)/\w'.cell? ⟨w.heap.size,0,none⟩=some (.string p.id)/\w'.cell? ⟨w.heap.size,1,none⟩=some (.i p.prio)/\w'.cell? ⟨w.heap.size,2,none⟩=some (.bool p.bo)/\w'.cell? ⟨w.heap.size,3,none⟩=some (.i p.bg)/\w'.cell? ⟨w.heap.size,4,none⟩=some (.i p.aX)/\w'.cell? ⟨w.heap.size,5,none⟩=some (.i p.ba)/\w'.cell? ⟨w.heap.size,6,none⟩=some (.i p.bk)/\w'.cell? ⟨w.heap.size,7,none⟩=some (.i p.bl)/\w'.cell? ⟨w.heap.size,8,none⟩=some (.i p.aW)/\w'.cell? ⟨w.heap.size,9,none⟩=some (.string p.bb)/\w'.cell? ⟨w.heap.size,10,none⟩=some (.i p.size)) ai (by rw [aG];exact (ae (aB.au.ab.ab.cell 0) (ae (aB.au.ab.ab.cell 1) (ae (aB.au.ab.ab.cell 2) (ae (aB.au.ab.ab.cell 3) (ae (aB.au.ab.ab.cell 4) (ae (aB.au.ab.ab.cell 5) (ae (aB.au.ab.ab.cell 6) (ae (aB.au.ab.ab.cell 7) (ae (aB.au.ab.ab.cell 8) (ae (aB.au.ab.ab.cell 9) (ae (aB.au.ab.ab.cell 10) (ae (aB.au.ab.ab.cell 14) (ae (aB.au.ab.ab.cell 15) (ae (aB.au.ab.ab.cell 16) (ae (aB.au.ab.ab.cell 17) (ae (b1.ab.cell 0) (ae (b1.ab.cell 1) (ae (b1.ab.cell 2) (ae (b1.ab.cell 3) (ae (b1.ab.cell 4) (ae (b1.ab.cell 5) (ae (b1.ab.cell 6) (ae (b1.ab.cell 7) (ae (b1.ab.cell 8) (ae (b1.ab.cell 9) (b1.ab.cell 10))))))))))))))))))))))))))) (fun hHeld=>?_);rw [aG] at hHeld ⊢
  clear aG;refine aj 0 ?_;refine aj 1 ?_;refine aj 2 ?_;refine aj 3 ?_;refine aj 4 ?_;refine aj 5 ?_;refine aj 6 ?_;refine aj 7 ?_;refine aj 8 ?_;refine aj 9 ?_;refine aj 10 ?_;refine aj 11 ?_;refine aj 12 ?_;refine aj 13 ?_;refine aj 14 ?_;refine HM 15 19 31 6 rfl rfl rfl rfl ai aH aH (fun K hK=>?_) (fun K hK=>?_)
  ·go_simp
   refine (O1 ⟨⟨q.bt,q.c1,q.c2⟩,⟨q.cw,q.r1,q.r2⟩,r.oW,q.ts,r.oX,q.b2,q.ret,q.c9,q.dead⟩ a.ax a.aU a.aL a.aS p r.el r.cx wd aB.au.rows.ax.cZ cj.w (by have:=cj.r.len;omega) vo).mono ?_;rintro e w3 ⟨k,s,O,qk,bz,c1,rfl,hv,ee,bu⟩;have LL:=J hv;have bJ:=J (b7.jU (aP.size aq.size) ee aF);have aB:=J (aB.below bu);have aq:=J (aq.below bu);have b1:=J (b1.below bu);clear hv ee bu;have hHeld:=(ae (aB.au.ab.ab.cell 0) (ae (aB.au.ab.ab.cell 1) (ae (aB.au.ab.ab.cell 2) (ae (aB.au.ab.ab.cell 3) (ae (aB.au.ab.ab.cell 4) (ae (aB.au.ab.ab.cell 5) (ae (aB.au.ab.ab.cell 6) (ae (aB.au.ab.ab.cell 7) (ae (aB.au.ab.ab.cell 8) (ae (aB.au.ab.ab.cell 9) (ae (aB.au.ab.ab.cell 10) (ae (aB.au.ab.ab.cell 14) (ae (aB.au.ab.ab.cell 15) (ae (aB.au.ab.ab.cell 16) (ae (aB.au.ab.ab.cell 17) (ae (b1.ab.cell 0) (ae (b1.ab.cell 1) (ae (b1.ab.cell 2) (ae (b1.ab.cell 3) (ae (b1.ab.cell 4) (ae (b1.ab.cell 5) (ae (b1.ab.cell 6) (ae (b1.ab.cell 7) (ae (b1.ab.cell 8) (ae (b1.ab.cell 9) (b1.ab.cell 10))))))))))))))))))))))))))
   refine hK _ _ hHeld ?_;clear hK K;simp only [Act.put,aY,aZ,a1];refine aj 16 ?_;refine aj 17 ?_;refine aj 18 ?_;refine dR 19 6 rfl rfl ai aH (fun K hK=>?_);go_simp;have ia:Below w3.heap.size w3 (w3.alloc (.cells #[.i 0,.i 0,.slice none 0 0] 172)):=(aO _ _).alloc aF _;have bG:=J (show cW (w3.alloc (.cells #[.i 0,.i 0,.slice none 0 0] 172)) S w3.heap.size 172 #[.i 0,.i 0,.slice none 0 0] from ⟨ar.new w3 172 #[.i 0,.i 0,.slice none 0 0],aP.gJ _ aq.size⟩);have iu:=J aq.size;have aB:=J (aB.below ia);have aq:=J (aq.below ia);have b1:=J (b1.below ia);have bJ:=J (bJ.below ia);clear ia;obtain ⟨N,b8⟩:=aE w3.heap.size;obtain ⟨vS,mC⟩:=aE (w3.alloc (.cells #[.i 0,.i 0,.slice none 0 0] 172));rw [mC] at aB aq b1 bG bJ ⊢
   rw [b8] at bG iu ⊢
   clear b8 mC;have hHeld:=(ae (aB.au.ab.ab.cell 0) (ae (aB.au.ab.ab.cell 1) (ae (aB.au.ab.ab.cell 2) (ae (aB.au.ab.ab.cell 3) (ae (aB.au.ab.ab.cell 4) (ae (aB.au.ab.ab.cell 5) (ae (aB.au.ab.ab.cell 6) (ae (aB.au.ab.ab.cell 7) (ae (aB.au.ab.ab.cell 8) (ae (aB.au.ab.ab.cell 9) (ae (aB.au.ab.ab.cell 10) (ae (aB.au.ab.ab.cell 14) (ae (aB.au.ab.ab.cell 15) (ae (aB.au.ab.ab.cell 16) (ae (aB.au.ab.ab.cell 17) (ae (b1.ab.cell 0) (ae (b1.ab.cell 1) (ae (b1.ab.cell 2) (ae (b1.ab.cell 3) (ae (b1.ab.cell 4) (ae (b1.ab.cell 5) (ae (b1.ab.cell 6) (ae (b1.ab.cell 7) (ae (b1.ab.cell 8) (ae (b1.ab.cell 9) (b1.ab.cell 10))))))))))))))))))))))))))
   refine hK _ _ hHeld ?_;clear hK K;simp only [Act.put,aY,aZ,a1];refine iC 20 rfl ai aH (fun K hK=>?_);refine Dg 172 (.tmp 6) (.tmp 32) rfl N 0 172 _ #[.i k,.i s,.slice bz O.length c1] rfl rfl bG.ab av ai cc ?_;intro b3 cp bT dm;have fF:=bh.box bG.out bT;have aB:=J (aB.a6 fF ak);have aq:=J (aq.ql bT iu);have b1:=J (b1.a6 fF ak);have bJ:=J (bJ.a6 fF ak);have bG:=J (show cW b3 S N 172 #[.i k,.i s,.slice bz O.length c1] from ⟨cp,bG.ins⟩);clear fF cp bT dm;have hHeld:=(ae (aB.au.ab.ab.cell 0) (ae (aB.au.ab.ab.cell 1) (ae (aB.au.ab.ab.cell 2) (ae (aB.au.ab.ab.cell 3) (ae (aB.au.ab.ab.cell 4) (ae (aB.au.ab.ab.cell 5) (ae (aB.au.ab.ab.cell 6) (ae (aB.au.ab.ab.cell 7) (ae (aB.au.ab.ab.cell 8) (ae (aB.au.ab.ab.cell 9) (ae (aB.au.ab.ab.cell 10) (ae (aB.au.ab.ab.cell 14) (ae (aB.au.ab.ab.cell 15) (ae (aB.au.ab.ab.cell 16) (ae (aB.au.ab.ab.cell 17) (ae (b1.ab.cell 0) (ae (b1.ab.cell 1) (ae (b1.ab.cell 2) (ae (b1.ab.cell 3) (ae (b1.ab.cell 4) (ae (b1.ab.cell 5) (ae (b1.ab.cell 6) (ae (b1.ab.cell 7) (ae (b1.ab.cell 8) (ae (b1.ab.cell 9) (b1.ab.cell 10))))))))))))))))))))))))))
   refine hK undef _ hHeld ?_;clear hK K;simp only [Act.put,aY,aZ,a1];refine aj 21 ?_;refine wpAnyH_done ai ?_ _;clear hHeld;go_wp2_with fail
   go_meet
   exact ⟨N,b3,k,s,O,qk,bz,c1,rfl,rfl,rfl,aB.out,b1.out,bG.out,bJ.out,LL.out,aq.out⟩
  ·go_simp
   have ia:Below wd.heap.size wd (wd.alloc (.cells #[.i 0,.i 0,.slice none 0 0] 172)):=(aO _ _).alloc aF _;have bG:=J (show cW (wd.alloc (.cells #[.i 0,.i 0,.slice none 0 0] 172)) S wd.heap.size 172 #[.i 0,.i 0,.slice none 0 0] from ⟨ar.new wd 172 #[.i 0,.i 0,.slice none 0 0],aP.gJ _ aq.size⟩);have iu:=J aq.size;have aB:=J (aB.below ia);have aq:=J (aq.below ia);have b1:=J (b1.below ia);clear ia;obtain ⟨N,b8⟩:=aE wd.heap.size;obtain ⟨vS,mC⟩:=aE (wd.alloc (.cells #[.i 0,.i 0,.slice none 0 0] 172));rw [mC] at aB aq b1 bG ⊢
   rw [b8] at bG iu ⊢
   clear b8 mC;have hHeld:=(ae (aB.au.ab.ab.cell 0) (ae (aB.au.ab.ab.cell 1) (ae (aB.au.ab.ab.cell 2) (ae (aB.au.ab.ab.cell 3) (ae (aB.au.ab.ab.cell 4) (ae (aB.au.ab.ab.cell 5) (ae (aB.au.ab.ab.cell 6) (ae (aB.au.ab.ab.cell 7) (ae (aB.au.ab.ab.cell 8) (ae (aB.au.ab.ab.cell 9) (ae (aB.au.ab.ab.cell 10) (ae (aB.au.ab.ab.cell 14) (ae (aB.au.ab.ab.cell 15) (ae (aB.au.ab.ab.cell 16) (ae (aB.au.ab.ab.cell 17) (ae (b1.ab.cell 0) (ae (b1.ab.cell 1) (ae (b1.ab.cell 2) (ae (b1.ab.cell 3) (ae (b1.ab.cell 4) (ae (b1.ab.cell 5) (ae (b1.ab.cell 6) (ae (b1.ab.cell 7) (ae (b1.ab.cell 8) (ae (b1.ab.cell 9) (b1.ab.cell 10))))))))))))))))))))))))))
   refine hK _ _ hHeld ?_;clear hK K;simp only [Act.put,aY,aZ,a1];refine dR 15 31 rfl rfl ai aH (fun K hK=>?_);go_simp;refine (O1 ⟨⟨q.bt,q.c1,q.c2⟩,⟨q.cw,q.r1,q.r2⟩,r.oW,q.ts,r.oX,q.b2,q.ret,q.c9,q.dead⟩ a.ax a.aU a.aL a.aS p r.el r.cx vS aB.au.rows.ax.cZ cj.w (by have:=cj.r.len;omega) vo).mono ?_;rintro e w3 ⟨k,s,O,qk,bz,c1,rfl,hv,ee,bu⟩;have LL:=J hv;have bJ:=J (b7.jU (aP.size aq.size) ee aF);have aB:=J (aB.below bu);have aq:=J (aq.below bu);have b1:=J (b1.below bu);have bG:=J (bG.below bu);clear hv ee bu;have hHeld:=(ae (aB.au.ab.ab.cell 0) (ae (aB.au.ab.ab.cell 1) (ae (aB.au.ab.ab.cell 2) (ae (aB.au.ab.ab.cell 3) (ae (aB.au.ab.ab.cell 4) (ae (aB.au.ab.ab.cell 5) (ae (aB.au.ab.ab.cell 6) (ae (aB.au.ab.ab.cell 7) (ae (aB.au.ab.ab.cell 8) (ae (aB.au.ab.ab.cell 9) (ae (aB.au.ab.ab.cell 10) (ae (aB.au.ab.ab.cell 14) (ae (aB.au.ab.ab.cell 15) (ae (aB.au.ab.ab.cell 16) (ae (aB.au.ab.ab.cell 17) (ae (b1.ab.cell 0) (ae (b1.ab.cell 1) (ae (b1.ab.cell 2) (ae (b1.ab.cell 3) (ae (b1.ab.cell 4) (ae (b1.ab.cell 5) (ae (b1.ab.cell 6) (ae (b1.ab.cell 7) (ae (b1.ab.cell 8) (ae (b1.ab.cell 9) (b1.ab.cell 10))))))))))))))))))))))))))
   refine hK _ _ hHeld ?_;clear hK K;simp only [Act.put,aY,aZ,a1];refine aj 16 ?_;refine aj 17 ?_;refine aj 18 ?_;refine iC 20 rfl ai aH (fun K hK=>?_);refine Dg 172 (.tmp 6) (.tmp 32) rfl N 0 172 _ #[.i k,.i s,.slice bz O.length c1] rfl rfl bG.ab av ai cc ?_;intro b3 cp bT dm;have fF:=bh.box bG.out bT;have aB:=J (aB.a6 fF ak);have aq:=J (aq.ql bT iu);have b1:=J (b1.a6 fF ak);have bJ:=J (bJ.a6 fF ak);have bG:=J (show cW b3 S N 172 #[.i k,.i s,.slice bz O.length c1] from ⟨cp,bG.ins⟩);clear fF cp bT dm;have hHeld:=(ae (aB.au.ab.ab.cell 0) (ae (aB.au.ab.ab.cell 1) (ae (aB.au.ab.ab.cell 2) (ae (aB.au.ab.ab.cell 3) (ae (aB.au.ab.ab.cell 4) (ae (aB.au.ab.ab.cell 5) (ae (aB.au.ab.ab.cell 6) (ae (aB.au.ab.ab.cell 7) (ae (aB.au.ab.ab.cell 8) (ae (aB.au.ab.ab.cell 9) (ae (aB.au.ab.ab.cell 10) (ae (aB.au.ab.ab.cell 14) (ae (aB.au.ab.ab.cell 15) (ae (aB.au.ab.ab.cell 16) (ae (aB.au.ab.ab.cell 17) (ae (b1.ab.cell 0) (ae (b1.ab.cell 1) (ae (b1.ab.cell 2) (ae (b1.ab.cell 3) (ae (b1.ab.cell 4) (ae (b1.ab.cell 5) (ae (b1.ab.cell 6) (ae (b1.ab.cell 7) (ae (b1.ab.cell 8) (ae (b1.ab.cell 9) (b1.ab.cell 10))))))))))))))))))))))))))
   refine hK undef _ hHeld ?_;clear hK K;simp only [Act.put,aY,aZ,a1];refine aj 21 ?_;refine wpAnyH_done ai ?_ _;clear hHeld;go_wp2_with fail
   go_meet
   exact ⟨N,b3,k,s,O,qk,bz,c1,rfl,rfl,rfl,aB.out,b1.out,bG.out,bJ.out,LL.out,aq.out⟩
 case rest =>
  obtain ⟨N,eJ,k,s,O,qk,bz,c1,rfl,rfl,rfl,hx,EZ,RS,ho,LM,hc⟩:=hcut;have aB:=J hx;have b1:=J EZ;have LN:=J RS;have bJ:=J ho;have aq:=J hc;have E0:=abV cj.r.iq LM;have LO:=J E0;have x8:=J (show O.length<=100000 from abS cj.r.len LM);clear hx EZ RS ho hc LM E0
  by_cases he:qk=0
  ·subst he
   have v0:wc.cell? ⟨N,0,none⟩=some (.i k):=LN.ab.cell 0;have v1:wc.cell? ⟨N,1,none⟩=some (.i s):=LN.ab.cell 1;have v2:wc.cell? ⟨N,2,none⟩=some (.slice bz O.length c1):=LN.ab.cell 2;have oY:wc.cell? ⟨w.heap.size,0,none⟩=some (.string p.id):=b1.ab.cell 0
   by_cases hk:k=3\/k=4
   ·have Dh:Hid (a.CV q p=(a,[⟨3,p.id,s,k⟩],0,false)):=by show _=_;unfold bD.CV;rw [LO.out];simp only [ne_eq,not_true_eq_false,ml,hk,ll]
    have yp:Below wc.heap.size wc (wc.alloc (.cells #[.i 3,.string p.id,.i s,.i k] 51)):=(aO _ _).alloc aF _;have sz:=J (b7.jU (aP.size aq.size) (Own.made wc wc.heap.size 51 dA [⟨3,p.id,s,k⟩] #[.i 3,.string p.id,.i s,.i k] rfl aF av) aF);have pJ:=J (aB.below yp);have ud:=J (aq.below yp);clear yp
    rcases hk with rfl|rfl
    ·go_wp2_with fail
     refine cS (v:=.tuple #[.slice (some ⟨wc.heap.size,0,none⟩) 1 1,.i 0]) (by simp [results,results56,go_sem]) rfl ?_;exact oV.no pJ.out bF.2.2 ud.out 0 Dh.out sz.out
    ·go_wp2_with fail
     refine cS (v:=.tuple #[.slice (some ⟨wc.heap.size,0,none⟩) 1 1,.i 0]) (by simp [results,results56,go_sem]) rfl ?_;exact oV.no pJ.out bF.2.2 ud.out 0 Dh.out sz.out
   ·have Dh:Hid (a.CV q p=({ a with ax:=fZ (lR a.ax O) ⟨p,1⟩ },LP O p.id,0,true)):=by show _=_;unfold bD.CV;rw [LO.out];simp only [ne_eq,not_true_eq_false,ml,hk]
    have fP:(k==3)=false:=by simp;omega
    have kz:(k==4)=false:=by simp;omega
    clear hk oY v1;go_wp2_with fail;clear v0 v2 fP kz
    go_loopw [8,56] (fun abW ii wr=>∃ (i:Nat) (el:Option Addr) (cx:Nat) (LQ:Option Addr) (ce:Nat),i<=O.length/\ii=.i i/\abW=.slice LQ i ce/\l' S wr ay aJ q { r with el:=el,cx:=cx } { a with ax:=(lR a.ax (O.take i)) } o fs v/\b7 wr S 51 dA (.slice LQ i ce) ((O.take i).map fun x=>(⟨2,x,0,0⟩:cP))/\cW wr S w.heap.size 40 #[.string p.id,.i p.prio,.bool p.bo,.i p.bg,.i p.aX,.i p.ba,.i p.bk,.i p.bl,.i p.aW,.string p.bb,.i p.size]/\b7 wr S 9 encS (.slice bz O.length c1) O/\bh S jc w wr) (fun _ ii _=>O.length-(intOf ii).toNat)
    case atStart=>exact ⟨0,r.el,r.cx,none,0,af,rfl,rfl,aB.out,b7.e8 _ _ _ _,b1.out,bJ.out,aq.out⟩
    case round =>
     clear aB aq b1 bJ;have fM:=x8.out;obtain ⟨i,el,cx,LQ,ce,hi,rfl,rfl,hx,he,EZ,ho,hc⟩:=hrel;have aB:=J hx;have bC:=J he;have b1:=J EZ;have bJ:=J ho;have aq:=J hc;have nG:=J (show (lR a.ax (O.take i)).length<=100000/\fB (lR a.ax (O.take i)) from ⟨by have h1:=(RT (O.take i) a.ax).length_le;have:=cj.r.len;omega,(LR (O.take i) cj.r).iq⟩);obtain ⟨vY,Di⟩:=aE (lR a.ax (O.take i));rw [Di] at aB nG
     have y2:((O.take i).map fun x=>(⟨2,x,0,0⟩:cP)).length=i:=by simp;omega
     obtain ⟨y5,Dj⟩:=aE ((O.take i).map fun x=>(⟨2,x,0,0⟩:cP));rw [Dj] at bC y2
     have iW:=J y2;clear hx he EZ ho hc y2
     by_cases aT:i<O.length
     ·have cg:decide ((i:Int)<(O.length:Int))=true:=bO af
      have kA:(i:Int)<(O.length:Int):=af;obtain ⟨id,hid⟩:=aE O[i];have H0:Hid (lR a.ax (O.take (i+1))=im vY id):=by show _=_;rw [gS aT,<- Di,<- hid];unfold lR;rw [vL];rfl
      have H2:Hid (((O.take (i+1)).map fun x=>(⟨2,x,0,0⟩:cP))=y5++[⟨2,id,0,0⟩]):=by show _=_;rw [gS aT,nQ,Dj,hid];rfl
      obtain ⟨j8,os,qm,_,hsc⟩:=bJ.cZ.at_ aT;have iv:=hsc 0 (.string id) (by rw [<- hid];rfl);rw [nW,vw] at iv
      rw [qm] at bJ ⊢
      clear hid qm hsc Di Dj;have abX:wr.cell? ⟨ay,13,none⟩=some (.i a.rd):=aB.au.ab.ab.cell 13;have xx:wr.cell? ⟨ay,14,none⟩=some (.slice el vY.length cx):=aB.au.ab.ab.cell 14;have abY:wr.cell? ⟨ay,15,none⟩=some (.bool a.aU):=aB.au.ab.ab.cell 15;have abZ:wr.cell? ⟨ay,16,none⟩=some (.bool a.aL):=aB.au.ab.ab.cell 16;have ab0:wr.cell? ⟨ay,17,none⟩=some (.bool a.aS):=aB.au.ab.ab.cell 17;go_wp2_with fail;refine (Hg a.rd vY id el cx a.aU a.aL a.aS wr aB.au.rows.ax.cZ nG.1 nG.2).mono ?_;rintro e w3 ⟨b5,fR,rfl,ee,bu⟩;have iD:=J (b7.jU (aP.size aq.size) ee aF);have aB:=J (aB.below bu);have bC:=J (bC.below bu);have b1:=J (b1.below bu);have bJ:=J (bJ.below bu);have aq:=J (aq.below bu);clear ee bu abX xx abY abZ ab0 iv
      go_wp2_with (first|(refine RU rfl 35 (.tmp 68) (.tmp 66) rfl ay 13 138 _ #[.i a.rd,.slice b5 (im vY id).length fR,.bool a.aU,.bool a.aL,.bool a.aS] rfl rfl aB.au.ab.ab av ai cc ?_;intro bc bS bP dx;have fH:=aB.put (r':={ r with el:=b5,cx:=fR }) (a':={ a with ax:=im vY id }) ⟨rfl,rfl⟩ (aB.au.rows.Ba iD.out) bS bP;have mY:Below bc.heap.size bc (bc.alloc (.cells #[.i 2,.string id,.i 0,.i 0] 51)):=(aO _ _).alloc aF _;have j2:=J (fH.1.below mY);have qo:=J ((bC.a6 fH.2 ak).below mY);have ab1:=J ((b1.a6 fH.2 ak).below mY);have nF:=J ((bJ.a6 fH.2 ak).below mY);have H3:=J ((aq.trans (fH.2.mono (by simp [jc]))).below mY);have vX:=J (show a7 (bc.alloc (.cells #[.i 2,.string id,.i 0,.i 0] 51)) dA (some ⟨bc.heap.size,0,none⟩) [⟨2,id,0,0⟩] from a7.made bc dA [⟨2,id,0,0⟩] 51 #[.i 2,.string id,.i 0,.i 0] (0,0) rfl);clear bS bP dx fH mY)|(at_builtin;refine hW sA dA rfl (.tmp 69) (.tmp 72) rfl 0 _ y5 rfl qo.own _ [⟨2,id,0,0⟩] 1 rfl vX.out (by have:=iW.out;have:=x8.out;simp;omega) (by have:=iW.out;have:=x8.out;simp;omega) (p3 _) ?_;intro vZ fU bU lr eS v7;rw [iW.out] at lr v7 ⊢))
      have ma:bh S [51] (bc.alloc (.cells #[.i 2,.string id,.i 0,.i 0] 51)) bU:=bh.grown eS fun k hk aT=>qo.kind av k hk
      have E1:=J (qo.od (aP.size H3.size) aF lr v7);have E2:=J (j2.a6 ma ak);have ab2:=J (ab1.a6 ma ak);have jS:=J (nF.a6 ma ak);have v8:=J (H3.trans (ma.mono (by simp [jc])));clear ma lr eS v7;go_wp2_with fail
      go_roundw
      case rel =>
       refine ⟨i+1,b5,fR,vZ,fU,af,cm,rfl,?_,?_,ab2.out,jS.out,v8.out⟩
       ·rw [H0.out];exact E2.out
       ·rw [H2.out];exact E1.out
      case measure=>exact c4
     ·obtain rfl:i=O.length:=by omega
      have cg:decide ((O.length:Int)<(O.length:Int))=false:=av;rw [kn] at Di Dj
      have Bb:=J Di;have ab3:=J Dj;clear Di Dj hi aT;go_wp2_with fail;obtain ⟨wd,aG⟩:=aE wr.drew;have bf:Below wr.heap.size wr wd:=by rw [<- aG];exact (aO _ _).drew
      have aB:=J (aB.below bf);have bC:=J (bC.below bf);have b1:=J (b1.below bf);have aq:=J (aq.below bf);clear bf;refine nH 10 (S:=fun w'=>w'.cell? ⟨ay,13,none⟩=some (.i a.rd)/\w'.cell? ⟨ay,14,none⟩=some (.slice el vY.length cx)/\w'.cell? ⟨ay,15,none⟩=some (.bool a.aU)/\w'.cell? ⟨ay,16,none⟩=some (.bool a.aL)/\w'.cell? ⟨ay,17,none⟩=some (.bool a.aS)/\w'.cell? ⟨w.heap.size,0,none⟩=some (.string p.id)/\w'.cell? ⟨w.heap.size,1,none⟩=some (.i p.prio)/\w'.cell? ⟨w.heap.size,2,none⟩=some (.bool p.bo)/\w'.cell? ⟨w.heap.size,3,none⟩=some (.i p.bg)/\w'.cell? ⟨w.heap.size,4,none⟩=some (.i p.aX)/\w'.cell? ⟨w.heap.size,5,none⟩=some (.i p.ba)/\w'.cell? ⟨w.heap.size,6,none⟩=some (.i p.bk)/\w'.cell? ⟨w.heap.size,7,none⟩=some (.i p.bl)/\w'.cell? ⟨w.heap.size,8,none⟩=some (.i p.aW)/\w'.cell? ⟨w.heap.size,9,none⟩=some (.string p.bb)/\w'.cell? ⟨w.heap.size,10,none⟩=some (.i p.size)) ai (by rw [aG];exact (ae (aB.au.ab.ab.cell 13) (ae (aB.au.ab.ab.cell 14) (ae (aB.au.ab.ab.cell 15) (ae (aB.au.ab.ab.cell 16) (ae (aB.au.ab.ab.cell 17) (ae (b1.ab.cell 0) (ae (b1.ab.cell 1) (ae (b1.ab.cell 2) (ae (b1.ab.cell 3) (ae (b1.ab.cell 4) (ae (b1.ab.cell 5) (ae (b1.ab.cell 6) (ae (b1.ab.cell 7) (ae (b1.ab.cell 8) (ae (b1.ab.cell 9) (b1.ab.cell 10))))))))))))))))) (fun hHeld=>?_);rw [aG] at hHeld ⊢
      clear aG;refine aK 0 ?_;refine aK 1 ?_;refine aK 2 ?_;refine aK 3 ?_;refine aK 4 ?_;refine aK 5 ?_;refine aK 6 ?_;refine nI 7 82 rfl rfl ai aH (fun K hK=>?_);go_simp;refine (KZ a.rd vY ⟨p,1⟩ el cx a.aU a.aL a.aS wd aB.au.rows.ax.cZ nG.1 nG.2).mono ?_;rintro e w3 ⟨b5,fR,rfl,ee,bu⟩;have iD:=J (b7.jU (aP.size aq.size) ee aF);have aB:=J (aB.below bu);have bC:=J (bC.below bu);have b1:=J (b1.below bu);have aq:=J (aq.below bu);clear ee bu;have hHeld:=(ae (aB.au.ab.ab.cell 13) (ae (aB.au.ab.ab.cell 14) (ae (aB.au.ab.ab.cell 15) (ae (aB.au.ab.ab.cell 16) (ae (aB.au.ab.ab.cell 17) (ae (b1.ab.cell 0) (ae (b1.ab.cell 1) (ae (b1.ab.cell 2) (ae (b1.ab.cell 3) (ae (b1.ab.cell 4) (ae (b1.ab.cell 5) (ae (b1.ab.cell 6) (ae (b1.ab.cell 7) (ae (b1.ab.cell 8) (ae (b1.ab.cell 9) (b1.ab.cell 10))))))))))))))))
      refine hK _ _ hHeld ?_;clear hK K;simp only [Act.put,aY,aZ,a1];refine aK 8 ?_;refine aK 9 ?_;refine ue 10 rfl ai aH rfl ai 35 (.tmp 84) (.tmp 82) rfl ay 13 138 _ #[.i a.rd,.slice b5 (fZ vY ⟨p,1⟩).length fR,.bool a.aU,.bool a.aL,.bool a.aS] rfl rfl aB.au.ab.ab av ai cc ?_;intro b3 cp bT dm;have fH:=aB.put (r':={ r with el:=b5,cx:=fR }) (a':={ a with ax:=(fZ vY ⟨p,1⟩) }) ⟨rfl,rfl⟩ (aB.au.rows.Ba iD) cp bT;have H4:Below b3.heap.size b3 (b3.alloc (.cells #[.i 1,.string p.id,.i 0,.i 0] 51)):=(aO _ _).alloc aF _;have ab4:=J (fH.1.below H4);have LS:=J ((bC.a6 fH.2 ak).below H4);have RV:=J ((aq.trans (fH.2.mono (by simp [jc]))).below H4);have ab5:=J (show a7 (b3.alloc (.cells #[.i 1,.string p.id,.i 0,.i 0] 51)) dA (some ⟨b3.heap.size,0,none⟩) [⟨1,p.id,0,0⟩] from a7.made b3 dA [⟨1,p.id,0,0⟩] 51 #[.i 1,.string p.id,.i 0,.i 0] (0,0) rfl);have oY:b3.cell? ⟨w.heap.size,0,none⟩=some (.string p.id):=(b1.a6 fH.2 ak).ab.cell 0;clear fH cp bT dm H4
      go_wp2_with (at_builtin;refine hW sA dA rfl (.tmp 86) (.tmp 90) rfl 0 _ y5 rfl LS.own _ [⟨1,p.id,0,0⟩] 1 rfl ab5 (by have:=iW.out;have:=x8.out;simp;omega) (by have:=iW.out;have:=x8.out;simp;omega) (p3 _) ?_;intro vZ fU bU lr eS v7)
      have ma:bh S [51] (b3.alloc (.cells #[.i 1,.string p.id,.i 0,.i 0] 51)) bU:=bh.grown eS fun k hk aT=>LS.kind av k hk
      have E2:=J (ab4.a6 ma ak);have v8:=J (RV.trans (ma.mono (by simp [jc])));have hlen:(y5++[(⟨1,p.id,0,0⟩:cP)]).length=y5.length + [(⟨1,p.id,0,0⟩:cP)].length:=av;have E1:=J (show b7 bU S 51 dA (.slice vZ (y5++[(⟨1,p.id,0,0⟩:cP)]).length fU) (y5++[⟨1,p.id,0,0⟩]) by rw [hlen];exact LS.od (aP.size RV.size) aF lr v7);have RW:Hid (a.CV q p=({ a with ax:=fZ vY ⟨p,1⟩ },y5++[⟨1,p.id,0,0⟩],0,true)):=by show _=_;rw [Dh.out,Bb.out];unfold LP;rw [ab3.out]
      have LU:=cj.CV vo.out;rw [RW.out] at LU
      have xy:=RX (aP.size v8.size) E2.au E2.st E2.eh LU bF.1 bF.2.1 bF.2.2 E1.out 0;rw [hlen] at xy
      have LV:=J xy;clear ma lr eS v7 LU xy oY hlen;refine LV.mono ?_;intro e dy sB;have LW:=sB.H5 v8.out (g':=r) ⟨rfl,rfl,rfl⟩;obtain ⟨jV,jw,a8,ki,r',rfl,h1,ah,aw,bn,dk⟩:=LW;have bN:=J (ae h1 (ae ah (ae aw (ae bn dk))));clear sB h1 ah aw bn dk;go_wp2_with fail;refine cS (v:=.tuple #[.slice jV jw a8,.i ki]) (by simp [results,results56,go_sem]) rfl ?_;rw [RW.out];exact ⟨jV,jw,a8,ki,r',rfl,bN.1,bN.2.1,bN.2.2.1,bN.2.2.2.1,bN.2.2.2.2⟩
  ·have d0:(qk==0)=false:=by simpa using he
   have Dh:Hid (a.CV q p=(a,[],qk,false)):=by show _=_;unfold bD.CV;rw [LO.out];simp only [ne_eq,he,not_false_eq_true,ll]
   clear he;go_wp2_with fail;refine cS (v:=.tuple #[.slice none 0 0,.i qk]) (by simp [results,results56,go_sem]) rfl ?_;exact oV.no (ev:=[]) aB.out bF.2.2 aq.out qk Dh.out (b7.e8 _ _ _ _)
end
theorem ae0 (l:List bj) (i:Nat) (hi:i<l.length):gh (l.take (i+1))=gh (l.take i)++[l[i].aa.id]:=by
 unfold gh;rw [gS hi,nQ];rfl
theorem ae1 (l:List bj) (i:Nat) (hi:i<l.length):hE (l.take (i+1))=hE (l.take i)++[l[i].aa.bb]:=by
 unfold hE;rw [gS hi,nQ];rfl
structure FO (bz:Option Addr) (c1:Nat) (A2:Option Addr) (c2:Nat) (n:Nat) (l m:List ByteArray) (w w':World):Prop where
 aL:Own w' w.heap.size 9 encS (.slice bz n c1) l
 aS:Own w' w.heap.size 9 encS (.slice A2 n c2) m
 ne:∀ k,(Value.slice bz n c1).ownBlock=some k->(Value.slice A2 n c2).ownBlock≠some k
 b:Below w.heap.size w w'
theorem FO.below {bz:Option Addr} {c1:Nat} {A2:Option Addr} {c2 n:Nat} {l m:List ByteArray} {w w' aM:World} (h:FO bz c1 A2 c2 n l m w w') (hb:Below w'.heap.size w' aM):FO bz c1 A2 c2 n l m w aM :=
 ⟨h.aL.below hb aF,h.aS.below hb aF,h.ne,h.b.trans (hb.mono h.b.size)⟩
theorem Own.apart {α:Type} {size base:Nat} {E:cu α size} {e:TypeId} {w w':World} {v:Value} {l:List α} {row:Option Nat} (h:Own w base e E v l) (az:w.grownBy w' row) (hn:∀ k,v.ownBlock=some k->row≠some k):Own w' base e E v l :=
 h.only (F:=fun j=>row=some j) (cB.Bj az fun k hk _=>hk) fun k hk hx=>hn k hk hx
section
variable {S cn:Nat->Prop} {ts:List TypeId} {w w':World} {pr:Nat} {q:bL} {x:fT} {r:Rd}
theorem MF (h:e6 S w pr q x r) (hl:r.a.ax.length<=100000) :
  Calls prog 136 #[.pointer (some ⟨pr,0,none⟩)] w fun e w'=>∃ bz c1 A2 c2,e=.returned (.tuple #[.slice bz r.a.ax.length c1,.slice A2 r.a.ax.length c2])/\FO bz c1 A2 c2 r.a.ax.length (gh r.a.ax) (hE r.a.ax) w w':=by
 obtain ⟨cz,_⟩:=h.cells;have xx:w.cell? ⟨x.ay,14,none⟩=some (.slice x.g.el r.a.ax.length x.g.cx):=h.au.ab.ab.cell 14;obtain ⟨l,xL⟩:=aE r.a.ax;have bx:=J (show a7 w cR x.g.el l by rw [<- xL];exact h.au.rows.ax.cZ);rw [xL] at xx hl ⊢
 clear xL h
 go_enter func136,ntmps136
 go_wp2_with fail;clear cz xx
 go_loopw [4,5,17] (fun Nl eQ ii wr=>∃ (i:Nat) (bz:Option Addr) (c1:Nat) (A2:Option Addr) (c2:Nat),i<=l.length/\ii=.i i/\Nl=.slice bz i c1/\eQ=.slice A2 i c2/\FO bz c1 A2 c2 i (gh (l.take i)) (hE (l.take i)) w wr) (fun _ _ ii _=>l.length-(intOf ii).toNat)
 case atStart=>exact ⟨0,none,0,none,0,af,rfl,rfl,rfl,Own.e8 _ _ _ _,Own.e8 _ _ _ _,fun k hk=>by simp [Value.ownBlock] at hk,aO _ _⟩
 case round =>
  obtain ⟨i,bz,c1,A2,c2,hi,rfl,rfl,rfl,bd⟩:=hrel;have ao:=J bd;clear bd
  by_cases aT:i<l.length
  ·have cg:decide ((i:Int)<(l.length:Int))=true:=bO af
   have kA:(i:Int)<(l.length:Int):=af;obtain ⟨b,off,hA,hcell⟩:=(bx.below ao.b).jM aT;obtain ⟨e,zT⟩:=aE l[i];rw [zT] at hcell
   obtain ⟨_,bg,aX,ba,nD,sg,xk,Bd,Be,Bf,Bg,Bh,Bi⟩:=hcell;have H0:=J (zT ▸ ae0 l i aT);have H2:=J (zT ▸ ae1 l i aT);rw [hA];have ja:(gh (l.take i)).length=i:=by unfold gh;simp;omega
   have jh:(hE (l.take i)).length=i:=by unfold hE;simp;omega
   have cT:=J (ae ja jh);obtain ⟨ct,eB⟩:=aE (gh (l.take i));obtain ⟨dX,eU⟩:=aE (hE (l.take i));rw [eB] at ao H0 cT
   rw [eU] at ao H2 cT
   have bX:Below wr.heap.size wr (wr.alloc (.cells #[.string ⟨#[]⟩,.i 0,.bool false,.i 0,.i 0,.i 0,.i 0,.i 0,.i 0,.string ⟨#[]⟩,.i 0,.i 0] 66)):=(aO _ _).alloc aF _;have df:=J bX;have E3:=J (ar.new wr 66 #[.string ⟨#[]⟩,.i 0,.bool false,.i 0,.i 0,.i 0,.i 0,.i 0,.i 0,.string ⟨#[]⟩,.i 0,.i 0]);clear hA zT ja jh eB eU bX
   go_wp2_with (first
    | (refine ch rfl 66 (.tmp 7) (.tmp 20) rfl wr.heap.size 66 #[.string ⟨#[]⟩,.i 0,.bool false,.i 0,.i 0,.i 0,.i 0,.i 0,.i 0,.string ⟨#[]⟩,.i 0,.i 0] #[.string e.aa.id,.i e.aa.prio,.bool e.aa.bo,.i e.aa.bg,.i e.aa.aX,.i e.aa.ba,.i e.aa.bk,.i e.aa.bl,.i e.aa.aW,.string e.aa.bb,.i e.aa.size,.i e.phase] rfl rfl E3.out rfl ai cc ?_;intro bc bS bP dx;have dp:=J (df.grown bP df.size (by intro k hk;cases hk;exact e3 _));have L0:=J bS;have h5:bc.cell? ⟨wr.heap.size,0,none⟩=some (.string e.aa.id):=bS.cell 0;have mY:Below bc.heap.size bc (bc.alloc (.cells #[.string e.aa.id] 9)):=(aO _ _).alloc aF _;have wJ:=J ((ao.below dp).below mY);have qo:=J (L0.bw mY);have vX:=J (show a7 (bc.alloc (.cells #[.string e.aa.id] 9)) encS (some ⟨bc.heap.size,0,none⟩) [e.aa.id] from a7.made bc encS [e.aa.id] 9 #[.string e.aa.id] (0,0) rfl);clear bS bP dx mY)
    | (at_builtin;refine hW En encS rfl (.tmp 21) (.tmp 25) rfl w.heap.size _ ct rfl wJ.aL _ [e.aa.id] 1 rfl vX (by have:=cT.1;simp;omega) (by have:=cT.1;simp;omega) wJ.b.size ?_;intro b5 c3 bU lr eS v7;rw [cT.1] at lr v7 ⊢;have k4:=J (show ∀ k,(Value.slice b5 (i+1) c3).ownBlock=some k->(Value.slice A2 i c2).ownBlock≠some k from fun k hk bE=>by (rcases v7 with aV|aV;exact wJ.ne k (aV.symm.trans hk) bE;have cG:=aV.symm.trans hk;injection cG with cG;have:=(wJ.aS.iw k bE).2;omega));have jS:=J (ae lr (ae (wJ.aS.apart eS fun k hk aV=>wJ.ne k aV hk) (wJ.aL.jX wJ.b eS aF wJ.b.size)));have E1:=J (qo.grown eS (wJ.aL.fK qo ak));have ae2:bU.cell? ⟨wr.heap.size,9,none⟩=some (.string e.aa.bb):=E1.cell 9;have pP:Below bU.heap.size bU (bU.alloc (.cells #[.string e.aa.bb] 9)):=(aO _ _).alloc aF _;have ep:=J pP;have BR:=J (show a7 (bU.alloc (.cells #[.string e.aa.bb] 9)) encS (some ⟨bU.heap.size,0,none⟩) [e.aa.bb] from a7.made bU encS [e.aa.bb] 9 #[.string e.aa.bb] (0,0) rfl);clear lr eS v7 pP h5)
    | (at_builtin;refine hW En encS rfl (.tmp 27) (.tmp 31) rfl w.heap.size _ dX rfl (jS.2.1.below ep aF) _ [e.aa.bb] 1 rfl BR (by have:=cT.2;simp;omega) (by have:=cT.2;simp;omega) (gT jS.2.2.size ep.size) ?_;intro oN fA dy DE B2 xC;rw [cT.2] at DE xC ⊢))
   have ae3:=J DE;have K0:=J ((jS.1.below ep aF).apart B2 fun k hk aV=>k4.out k hk aV);have ae4:=J ((jS.2.1.below ep aF).jX (jS.2.2.trans (ep.mono jS.2.2.size)) B2 aF (gT jS.2.2.size ep.size));have ae5:Hid (∀ k,(Value.slice b5 (i+1) c3).ownBlock=some k->(Value.slice oN (i+1) fA).ownBlock≠some k):=fun k hk bE=>by
    rcases xC with aV|aV
    ·exact k4.out k hk (aV.symm.trans bE)
    ·have cG:=aV.symm.trans bE
     injection cG with cG
     have h1:=(jS.1.iw k hk).2;have ah:=ep.size;omega
   clear DE B2 xC ae2;go_wp2_with fail
   go_roundw
   case rel =>
    refine ⟨i+1,b5,c3,oN,fA,af,cm,rfl,rfl,?_⟩;rw [H0.out,H2.out];exact ⟨K0.out,ae3.out,ae5.out,ae4.out⟩
   case measure=>exact c4
  ·obtain rfl:i=l.length:=by omega
   have cg:decide ((l.length:Int)<(l.length:Int))=false:=av;go_wp2_with fail;refine cS (v:=.tuple #[.slice bz l.length c1,.slice A2 l.length c2]) (by simp [results,results136,go_sem]) rfl ⟨bz,c1,A2,c2,rfl,?_⟩;have:=ao.out
   rwa [kn] at this
end
section
variable {S cn:Nat->Prop} {ts:List TypeId} {w w':World} {pr:Nat} {q:bL} {x:fT} {r:Rd}
theorem af9 (hs:dw S w) (h:e6 S w pr q x r) {N E:Nat} (bi:c0 q N E r) (b8:N<=100000) (ea:E<=700000) :
  Calls prog 93 #[.pointer (some ⟨pr,0,none⟩)] w (ni S pr q x (r.lost q) w):=by
 have mixed:prog.follows Departure.mixedOrders=true:=ai;have ag:=J h;have aP:=J hs;have BJ:=J bi;have bs:=J (ae b8 ea);have fE:=J (show r.a.ax.length<=100000 by have:=bi.a.r.len;omega);have gG:=J (show r.o.boxes.length<=100000 by have:=bi.o.pR;omega);clear h hs bi b8 ea
 go_enter func93,ntmps93
 go_wp2_with fail;refine (MF ag fE).mono ?_;rintro e aC ⟨bz,c1,A2,c2,rfl,bd⟩;have sJ:=J bd;have ag:=J (ag.below bd.b);clear bd;obtain ⟨cz,_⟩:=ag.cells;have ka:aC.cell? ⟨x.ay,11,none⟩=some (.pointer (some ⟨x.g.bH,0,none⟩)):=ag.au.ab.ab.cell 11;go_wp2_with fail;refine (MH ag.eh gG).mono ?_;rintro e aM ⟨b5,c3,rfl,ee,bu⟩;have ag:=J (ag.below bu);have sJ:=J (sJ.below bu);have kV:=J ee;clear ee bu cz ka;go_wp2_with fail;have NQ:(gh r.a.ax).length=r.a.ax.length:=by unfold gh;simp
 have FV:=X' r.o.boxes (gh r.a.ax) b5 bz c3 c1 aM kV.cZ sJ.aL.cZ gG.out (by rw [NQ];have:=fE.out;omega);rw [NQ] at FV
 have FV:=J FV;clear NQ;refine FV.mono ?_;rintro e wl ⟨DC,MI,rfl,fM,du⟩;have ag:=J (ag.below du);have aq:=J (bh.dL S iL (sJ.b.trans (du.mono sJ.b.size)));have qw:=J fM;have hZ:=J (show (mT (p' (gh r.a.ax)) r.o.boxes).length<=100000 from gT (PN _ _) gG.out);have qi:Hid (r.lost q=(mT (p' (gh r.a.ax)) r.o.boxes).foldl (Rd.gY q 3 15) r):=rfl;clear fM du FV kV;obtain ⟨L,eT⟩:=aE (mT (p' (gh r.a.ax)) r.o.boxes);rw [eT] at qw hZ qi ⊢
 clear eT;go_wp2_with fail;obtain ⟨cw,sw⟩:=aE r;rw [sw] at ag BJ
 have aga:Hid (r.lost q=L.foldl (Rd.gY q 3 15) cw):=by show _=_;rw [qi.out,sw]
 clear sw qi
 go_loopw [24] (fun ii wr=>∃ (i:Nat) (y:fT),i<=L.length/\ii=.i i/\x.same y/\e6 S wr pr q y ((L.take i).foldl (Rd.gY q 3 15) cw)/\bh S iL wl wr) (fun ii _=>L.length-(intOf ii).toNat)
 case atStart=>exact ⟨0,x,af,rfl,fT.same.refl x,ag.out,bh.refl _ _ _⟩
 case round =>
  clear ag;have xL:=hZ.out;obtain ⟨i,y,hi,rfl,mE,hm,bZ⟩:=hrel;have ib:=J mE;have dN:=J bZ;have aq:=J (aq.trans bZ);have mg:=J (BJ.Fm 3 15 (L.take i));obtain ⟨R,hR⟩:=aE ((L.take i).foldl (Rd.gY q 3 15) cw);rw [hR] at hm mg
  have ag:=J hm;clear mE bZ hm
  by_cases aT:i<L.length
  ·have cg:decide ((i:Int)<(L.length:Int))=true:=bO af
   have kA:(i:Int)<(L.length:Int):=af;obtain ⟨s,c7⟩:=aE L[i];have cC:Hid ((L.take (i+1)).foldl (Rd.gY q 3 15) cw=R.gY q 3 15 s):=by show _=_;rw [gS aT,vL,hR,c7];rfl
   have lA:=J (show R.ev.length<=1000000 by have h1:=mg.e;have ah:=hZ.out;have aw:=bs.2;rw [fv] at h1;omega);have ox:a7 wr encS DC L:=(qw.only dN fun k hk hx=>qw.wx ak k hk hx.2).cZ;obtain ⟨j8,os,qm,_,hsc⟩:=ox.at_ aT;have iv:=hsc 0 (.string s) (by rw [<- c7];rfl);rw [nW,vw] at iv
   rw [qm];clear hR c7 qm hsc ox;go_wp2_with fail;obtain ⟨wd,aG⟩:=aE wr.drew;have bf:Below wr.heap.size wr wd:=by rw [<- aG];exact (aO _ _).drew
   have ag:=J (ag.below bf);have aq:=J (aq.below bf);have dN:=J (dN.below bf);clear bf;refine wp_region_held_drew (S:=fun w'=>w'.cell? ⟨pr,0,none⟩=some (.pointer (some ⟨y.ay,0,none⟩))/\w'.cell? ⟨y.ay,11,none⟩=some (.pointer (some ⟨y.g.bH,0,none⟩))/\w'.cell? ⟨y.ay,13,none⟩=some (.i R.a.rd)) ai (by rw [aG];exact (ae (ag.ab.ab.cell 0) (ae (ag.au.ab.ab.cell 11) (ag.au.ab.ab.cell 13)))) (fun hHeld=>?_);rw [aG] at hHeld ⊢
   clear aG;refine aj 0 ?_;refine aj 1 ?_;refine aj 2 ?_;refine aj 3 ?_;refine aj 4 ?_;refine aj 5 ?_;refine aj 6 ?_;refine aj 7 ?_;refine aj 8 ?_;refine aj 9 ?_;refine aj 10 ?_;refine aj 11 ?_;refine aj 12 ?_;refine aj 13 ?_;refine aj 14 ?_;refine aj 15 ?_;refine dR 16 45 rfl rfl ai aH (fun K hK=>?_);go_simp;refine (zD (aP.size aq.size) ag.eh mg.o bs.1 s 3 R.a.rd).mono ?_;rintro e bc ⟨rfl,hD,eN⟩;have ag:=J (ag.world eN hD);have aq:=J (aq.trans (eN.mono av));have dN:=J (dN.trans (eN.mono av));clear hD eN;have hHeld:=(ae (ag.ab.ab.cell 0) (ae (ag.au.ab.ab.cell 11) (ag.au.ab.ab.cell 13)))
   refine hK _ _ hHeld ?_;clear hK K;simp only [Act.put,aY,aZ,a1];refine aj 17 ?_;refine aj 18 ?_;refine aj 19 ?_;refine aj 20 ?_;refine aj 21 ?_;refine wpAnyH_done ai ?_ _;clear hHeld iv;have fx:Hid (R.gY q 3 15 s=if (R.o.ask s 3 q.ret R.a.rd).1=true then { R with o:=(R.o.ask s 3 q.ret R.a.rd).2,ev:=R.ev++[⟨15,s,0,0⟩] } else { R with o:=(R.o.ask s 3 q.ret R.a.rd).2 }):=rfl;obtain ⟨aL,gV⟩:=aE ((R.o.ask s 3 q.ret R.a.rd).2);obtain ⟨bX,bV⟩:=aE ((R.o.ask s 3 q.ret R.a.rd).1);rw [gV] at ag fx
   rw [bV] at fx
   rw [bV];clear gV bV
   cases bX
   ·go_wp2_with fail
    go_roundw
    case rel =>
     refine ⟨i+1,y,af,cm,ib.out,?_,dN.out⟩;rw [cC.out,fx.out];exact ag.out
    case measure=>exact c4
   ·go_wp2_with fail
    refine (wz (aP.size aq.size) ag lA 15 s 0).mono ?_;rintro e dy ⟨rfl,⟨z,bI,hJ⟩,jH⟩;have cq:=J (ae bI (ae hJ (dN.trans jH)));clear bI hJ jH;go_wp2_with fail
    go_roundw
    case rel =>
     refine ⟨i+1,z,af,cm,ib.trans cq.1,?_,cq.2.2⟩;rw [cC.out,fx.out];exact cq.2.1
    case measure=>exact c4
  ·obtain rfl:i=L.length:=by omega
   have cg:decide ((L.length:Int)<(L.length:Int))=false:=av;rw [kn] at hR
   go_wp2_with fail
   go_end0
   rw [aga.out,hR];exact ⟨rfl,⟨y,ib.out,ag.out⟩,aq.out⟩
end
section
variable {S cn:Nat->Prop} {ts:List TypeId} {w w':World} {pr:Nat} {q:bL} {x:fT} {r:Rd}
theorem ad1 (hs:dw S w) (bd:q.Ok) (h:e6 S w pr q x r) {N E:Nat} (bi:c0 q N E r) (b8:N<=100000) (ea:E<=700000) :
  Calls prog 89 #[.pointer (some ⟨pr,0,none⟩)] w (ni S pr q x (r.mZ q) w):=by
 have mixed:prog.follows Departure.mixedOrders=true:=ai;have ag:=J h;have aP:=J hs;have cj:=J bi;have Tj:=J bd;have BJ:Hid (c0 q N E { r with o:=r.o.lv (hE r.a.ax) r.a.rd }):=bi.uy (bi.o.lv _ bi.rd);have bs:=J (ae b8 ea);have fE:=J (show r.a.ax.length<=100000 by have:=bi.a.r.len;omega);have gG:=J (show r.o.boxes.length<=100000 by have:=bi.o.pR;omega);have BK:=J (show (hE r.a.ax).length=r.a.ax.length by unfold hE;simp);have IK:=J (show (gh r.a.ax).length=r.a.ax.length by unfold gh;simp);clear h hs bd bi b8 ea
 go_enter func89,ntmps89
 go_wp2_with fail;refine (MF ag fE).mono ?_;rintro e aC ⟨bz,c1,A2,c2,rfl,bd⟩;have sJ:=J bd;have ag:=J (ag.below bd.b);have aq:=J (bh.dL S iL bd.b);clear bd;go_wp2_with fail;obtain ⟨wd,aG⟩:=aE aC.drew;have bf:Below aC.heap.size aC wd:=by rw [<- aG];exact (aO _ _).drew
 have ag:=J (ag.below bf);have aq:=J (aq.below bf);have sJ:=J (sJ.below bf);clear bf;refine wp_region_held_drew (S:=fun w'=>w'.cell? ⟨pr,0,none⟩=some (.pointer (some ⟨x.ay,0,none⟩))/\w'.cell? ⟨x.ay,11,none⟩=some (.pointer (some ⟨x.g.bH,0,none⟩))/\w'.cell? ⟨x.ay,13,none⟩=some (.i r.a.rd)) ai (by rw [aG];exact (ae (ag.ab.ab.cell 0) (ae (ag.au.ab.ab.cell 11) (ag.au.ab.ab.cell 13)))) (fun hHeld=>?_);rw [aG] at hHeld ⊢
 clear aG;refine aj 0 ?_;refine aj 1 ?_;refine aj 2 ?_;refine aj 3 ?_;refine aj 4 ?_;refine aj 5 ?_;refine aj 6 ?_;refine aj 7 ?_;refine aj 8 ?_;refine aj 9 ?_;refine aj 10 ?_;refine aj 11 ?_;refine aj 12 ?_;refine aj 13 ?_;refine aj 14 ?_;refine aj 15 ?_;refine dR 16 30 rfl rfl ai aH (fun K hK=>?_);go_simp;have MG:=ad2 (aP.size aq.size) ag.eh cj.o bs.1 sJ.aS.cZ (d:=c2) (by rw [BK.out];have:=fE.out;omega) r.a.rd;rw [BK.out] at MG
 refine MG.mono ?_;rintro e bc ⟨rfl,hD,eN⟩;clear MG;have ag:=J (ag.world (eN.mono av) hD);have aq:=J (aq.trans (eN.mono av));have yU:=J (sJ.aL.only eN fun k hk hx=>sJ.aL.wx ak k hk hx.2);clear hD eN;have hHeld:=(ae (ag.ab.ab.cell 0) (ae (ag.au.ab.ab.cell 11) (ag.au.ab.ab.cell 13)))
 refine hK _ _ hHeld ?_;clear hK K;simp only [Act.put,aY,aZ,a1];refine wpAnyH_done ai ?_ _;clear hHeld sJ;obtain ⟨cz,_,_,_,kz,_⟩:=ag.cells;have Tk:bc.cell? ⟨x.ay,10,none⟩=some (.i q.dead):=ag.au.ab.ab.cell 10;have ka:bc.cell? ⟨x.ay,11,none⟩=some (.pointer (some ⟨x.g.bH,0,none⟩)):=ag.au.ab.ab.cell 11
 cases hp:r.dc
 ·rw [hp] at kz
  go_wp2_with fail;refine (MH ag.eh gG).mono ?_;rintro e bm ⟨b5,c3,rfl,Fl,cV⟩;have ag:=J (ag.below cV);have aq:=J (aq.below cV);have yU:=J (yU.below cV aF);have nF:=J Fl;clear Fl cV cz kz Tk ka;go_wp2_with fail;have hex:=Py r.o.boxes (gh r.a.ax) (q.dead:Int) b5 bz c3 c1 bm nF.cZ yU.cZ gG.out (by rw [IK.out];have:=fE.out;omega) (by have:=Tj.d;unfold c';omega);rw [IK.out] at hex
  refine hex.mono ?_;rintro e wl ⟨m,lK,DC,MI,rfl,fM,du⟩;clear hex;have MJ:=Tl cj.o.j8 lK;subst MJ;have ag:=J (ag.below du);have aq:=J (aq.below du);have qw:=J fM;have hZ:=J (show ((na r.o.boxes (gh r.a.ax)).take (goes (na r.o.boxes (gh r.a.ax)).length (q.dead:Int))).length<=100000 from gT (MK r.o.boxes (gh r.a.ax) (q.dead:Int)) gG.out);have qi:Hid (r.mZ q=((na r.o.boxes (gh r.a.ax)).take (goes (na r.o.boxes (gh r.a.ax)).length (q.dead:Int))).foldl (Rd.gY q 4 13) { r with o:=r.o.lv (hE r.a.ax) r.a.rd }):=by show _=_;unfold Rd.mZ;rw [hp];rfl
  clear fM du lK nF hp;obtain ⟨L,eT⟩:=aE ((na r.o.boxes (gh r.a.ax)).take (goes (na r.o.boxes (gh r.a.ax)).length (q.dead:Int)));rw [eT] at qw hZ qi ⊢
  clear eT;obtain ⟨cw,sw⟩:∃ cw:Rd,{ r with o:=r.o.lv (hE r.a.ax) r.a.rd }=cw:=⟨_,rfl⟩
  rw [sw] at ag BJ qi
  clear sw;go_wp2_with fail
  go_loopw [56] (fun ii wr=>∃ (i:Nat) (y:fT),i<=L.length/\ii=.i i/\x.same y/\e6 S wr pr q y ((L.take i).foldl (Rd.gY q 4 13) cw)/\bh S iL wl wr) (fun ii _=>L.length-(intOf ii).toNat)
  case atStart=>exact ⟨0,x,af,rfl,fT.same.refl x,ag.out,bh.refl _ _ _⟩
  case round =>
   clear ag;have xL:=hZ.out;obtain ⟨i,y,hi,rfl,mE,hm,bZ⟩:=hrel;have ib:=J mE;have dN:=J bZ;have aq:=J (aq.trans bZ);have mg:=J (BJ.Fm 4 13 (L.take i));obtain ⟨R,hR⟩:=aE ((L.take i).foldl (Rd.gY q 4 13) cw);rw [hR] at hm mg
   have ag:=J hm;clear mE bZ hm
   by_cases aT:i<L.length
   ·have cg:decide ((i:Int)<(L.length:Int))=true:=bO af
    have kA:(i:Int)<(L.length:Int):=af;obtain ⟨s,c7⟩:=aE L[i];have cC:Hid ((L.take (i+1)).foldl (Rd.gY q 4 13) cw=R.gY q 4 13 s):=by show _=_;rw [gS aT,vL,hR,c7];rfl
    have lA:=J (show R.ev.length<=1000000 by have h1:=mg.e;have ah:=hZ.out;have aw:=bs.2;rw [fv] at h1;omega);have ox:a7 wr encS DC L:=(qw.only dN fun k hk hx=>qw.wx ak k hk hx.2).cZ;obtain ⟨j8,os,qm,_,hsc⟩:=ox.at_ aT;have iv:=hsc 0 (.string s) (by rw [<- c7];rfl);rw [nW,vw] at iv
    rw [qm];clear hR c7 qm hsc ox;go_wp2_with fail;obtain ⟨wd,aG⟩:=aE wr.drew;have bf:Below wr.heap.size wr wd:=by rw [<- aG];exact (aO _ _).drew
    have ag:=J (ag.below bf);have aq:=J (aq.below bf);have dN:=J (dN.below bf);clear bf;refine wp_region_held_drew (S:=fun w'=>w'.cell? ⟨pr,0,none⟩=some (.pointer (some ⟨y.ay,0,none⟩))/\w'.cell? ⟨y.ay,11,none⟩=some (.pointer (some ⟨y.g.bH,0,none⟩))/\w'.cell? ⟨y.ay,13,none⟩=some (.i R.a.rd)) ai (by rw [aG];exact (ae (ag.ab.ab.cell 0) (ae (ag.au.ab.ab.cell 11) (ag.au.ab.ab.cell 13)))) (fun hHeld=>?_);rw [aG] at hHeld ⊢
    clear aG;refine aj 0 ?_;refine aj 1 ?_;refine aj 2 ?_;refine aj 3 ?_;refine aj 4 ?_;refine aj 5 ?_;refine aj 6 ?_;refine aj 7 ?_;refine aj 8 ?_;refine aj 9 ?_;refine aj 10 ?_;refine aj 11 ?_;refine aj 12 ?_;refine aj 13 ?_;refine aj 14 ?_;refine aj 15 ?_;refine dR 16 77 rfl rfl ai aH (fun K hK=>?_);go_simp;refine (zD (aP.size aq.size) ag.eh mg.o bs.1 s 4 R.a.rd).mono ?_;rintro e bc ⟨rfl,hD,eN⟩;have ag:=J (ag.world eN hD);have aq:=J (aq.trans (eN.mono av));have dN:=J (dN.trans (eN.mono av));clear hD eN;have hHeld:=(ae (ag.ab.ab.cell 0) (ae (ag.au.ab.ab.cell 11) (ag.au.ab.ab.cell 13)))
    refine hK _ _ hHeld ?_;clear hK K;simp only [Act.put,aY,aZ,a1];refine aj 17 ?_;refine aj 18 ?_;refine aj 19 ?_;refine aj 20 ?_;refine aj 21 ?_;refine wpAnyH_done ai ?_ _;clear hHeld iv;have fx:Hid (R.gY q 4 13 s=if (R.o.ask s 4 q.ret R.a.rd).1=true then { R with o:=(R.o.ask s 4 q.ret R.a.rd).2,ev:=R.ev++[⟨13,s,0,0⟩] } else { R with o:=(R.o.ask s 4 q.ret R.a.rd).2 }):=rfl;obtain ⟨aL,gV⟩:=aE ((R.o.ask s 4 q.ret R.a.rd).2);obtain ⟨bX,bV⟩:=aE ((R.o.ask s 4 q.ret R.a.rd).1);rw [gV] at ag fx
    rw [bV] at fx
    rw [bV];clear gV bV
    cases bX
    ·go_wp2_with fail
     go_roundw
     case rel =>
      refine ⟨i+1,y,af,cm,ib.out,?_,dN.out⟩;rw [cC.out,fx.out];exact ag.out
     case measure=>exact c4
    ·go_wp2_with fail
     refine (wz (aP.size aq.size) ag lA 13 s 0).mono ?_;rintro e dy ⟨rfl,⟨z,bI,hJ⟩,jH⟩;have cq:=J (ae bI (ae hJ (dN.trans jH)));clear bI hJ jH;go_wp2_with fail
     go_roundw
     case rel =>
      refine ⟨i+1,z,af,cm,ib.trans cq.1,?_,cq.2.2⟩;rw [cC.out,fx.out];exact cq.2.1
     case measure=>exact c4
   ·obtain rfl:i=L.length:=by omega
    have cg:decide ((L.length:Int)<(L.length:Int))=false:=av;rw [kn] at hR
    go_wp2_with fail
    go_end0
    rw [qi.out,hR];exact ⟨rfl,⟨y,ib.out,ag.out⟩,aq.out⟩
 ·rw [hp] at kz
  go_wp2_with fail;refine (MH ag.eh gG).mono ?_;rintro e bm ⟨b5,c3,rfl,Fl,cV⟩;have ag:=J (ag.below cV);have aq:=J (aq.below cV);have yU:=J (yU.below cV aF);have nF:=J Fl;clear Fl cV cz kz Tk ka;go_wp2_with fail;have hex:=Py r.o.boxes (gh r.a.ax) 0 b5 bz c3 c1 bm nF.cZ yU.cZ gG.out (by rw [IK.out];have:=fE.out;omega) (by have:=Tj.d;unfold c';omega);rw [IK.out] at hex
  refine hex.mono ?_;rintro e wl ⟨m,lK,DC,MI,rfl,fM,du⟩;clear hex;have MJ:=Tl cj.o.j8 lK;subst MJ;have ag:=J (ag.below du);have aq:=J (aq.below du);have qw:=J fM;have hZ:=J (show ((na r.o.boxes (gh r.a.ax)).take (goes (na r.o.boxes (gh r.a.ax)).length 0)).length<=100000 from gT (MK r.o.boxes (gh r.a.ax) 0) gG.out);have qi:Hid (r.mZ q=((na r.o.boxes (gh r.a.ax)).take (goes (na r.o.boxes (gh r.a.ax)).length 0)).foldl (Rd.gY q 4 13) { r with o:=r.o.lv (hE r.a.ax) r.a.rd }):=by show _=_;unfold Rd.mZ;rw [hp];rfl
  clear fM du lK nF hp;obtain ⟨L,eT⟩:=aE ((na r.o.boxes (gh r.a.ax)).take (goes (na r.o.boxes (gh r.a.ax)).length 0));rw [eT] at qw hZ qi ⊢
  clear eT;obtain ⟨cw,sw⟩:∃ cw:Rd,{ r with o:=r.o.lv (hE r.a.ax) r.a.rd }=cw:=⟨_,rfl⟩
  rw [sw] at ag BJ qi
  clear sw;go_wp2_with fail
  go_loopw [56] (fun ii wr=>∃ (i:Nat) (y:fT),i<=L.length/\ii=.i i/\x.same y/\e6 S wr pr q y ((L.take i).foldl (Rd.gY q 4 13) cw)/\bh S iL wl wr) (fun ii _=>L.length-(intOf ii).toNat)
  case atStart=>exact ⟨0,x,af,rfl,fT.same.refl x,ag.out,bh.refl _ _ _⟩
  case round =>
   clear ag;have xL:=hZ.out;obtain ⟨i,y,hi,rfl,mE,hm,bZ⟩:=hrel;have ib:=J mE;have dN:=J bZ;have aq:=J (aq.trans bZ);have mg:=J (BJ.Fm 4 13 (L.take i));obtain ⟨R,hR⟩:=aE ((L.take i).foldl (Rd.gY q 4 13) cw);rw [hR] at hm mg
   have ag:=J hm;clear mE bZ hm
   by_cases aT:i<L.length
   ·have cg:decide ((i:Int)<(L.length:Int))=true:=bO af
    have kA:(i:Int)<(L.length:Int):=af;obtain ⟨s,c7⟩:=aE L[i];have cC:Hid ((L.take (i+1)).foldl (Rd.gY q 4 13) cw=R.gY q 4 13 s):=by show _=_;rw [gS aT,vL,hR,c7];rfl
    have lA:=J (show R.ev.length<=1000000 by have h1:=mg.e;have ah:=hZ.out;have aw:=bs.2;rw [fv] at h1;omega);have ox:a7 wr encS DC L:=(qw.only dN fun k hk hx=>qw.wx ak k hk hx.2).cZ;obtain ⟨j8,os,qm,_,hsc⟩:=ox.at_ aT;have iv:=hsc 0 (.string s) (by rw [<- c7];rfl);rw [nW,vw] at iv
    rw [qm];clear hR c7 qm hsc ox;go_wp2_with fail;obtain ⟨wd,aG⟩:=aE wr.drew;have bf:Below wr.heap.size wr wd:=by rw [<- aG];exact (aO _ _).drew
    have ag:=J (ag.below bf);have aq:=J (aq.below bf);have dN:=J (dN.below bf);clear bf;refine wp_region_held_drew (S:=fun w'=>w'.cell? ⟨pr,0,none⟩=some (.pointer (some ⟨y.ay,0,none⟩))/\w'.cell? ⟨y.ay,11,none⟩=some (.pointer (some ⟨y.g.bH,0,none⟩))/\w'.cell? ⟨y.ay,13,none⟩=some (.i R.a.rd)) ai (by rw [aG];exact (ae (ag.ab.ab.cell 0) (ae (ag.au.ab.ab.cell 11) (ag.au.ab.ab.cell 13)))) (fun hHeld=>?_);rw [aG] at hHeld ⊢
    clear aG;refine aj 0 ?_;refine aj 1 ?_;refine aj 2 ?_;refine aj 3 ?_;refine aj 4 ?_;refine aj 5 ?_;refine aj 6 ?_;refine aj 7 ?_;refine aj 8 ?_;refine aj 9 ?_;refine aj 10 ?_;refine aj 11 ?_;refine aj 12 ?_;refine aj 13 ?_;refine aj 14 ?_;refine aj 15 ?_;refine dR 16 77 rfl rfl ai aH (fun K hK=>?_);go_simp;refine (zD (aP.size aq.size) ag.eh mg.o bs.1 s 4 R.a.rd).mono ?_;rintro e bc ⟨rfl,hD,eN⟩;have ag:=J (ag.world eN hD);have aq:=J (aq.trans (eN.mono av));have dN:=J (dN.trans (eN.mono av));clear hD eN;have hHeld:=(ae (ag.ab.ab.cell 0) (ae (ag.au.ab.ab.cell 11) (ag.au.ab.ab.cell 13)))
    refine hK _ _ hHeld ?_;clear hK K;simp only [Act.put,aY,aZ,a1];refine aj 17 ?_;refine aj 18 ?_;refine aj 19 ?_;refine aj 20 ?_;refine aj 21 ?_;refine wpAnyH_done ai ?_ _;clear hHeld iv;have fx:Hid (R.gY q 4 13 s=if (R.o.ask s 4 q.ret R.a.rd).1=true then { R with o:=(R.o.ask s 4 q.ret R.a.rd).2,ev:=R.ev++[⟨13,s,0,0⟩] } else { R with o:=(R.o.ask s 4 q.ret R.a.rd).2 }):=rfl;obtain ⟨aL,gV⟩:=aE ((R.o.ask s 4 q.ret R.a.rd).2);obtain ⟨bX,bV⟩:=aE ((R.o.ask s 4 q.ret R.a.rd).1);rw [gV] at ag fx
    rw [bV] at fx
    rw [bV];clear gV bV
    cases bX
    ·go_wp2_with fail
     go_roundw
     case rel =>
      refine ⟨i+1,y,af,cm,ib.out,?_,dN.out⟩;rw [cC.out,fx.out];exact ag.out
     case measure=>exact c4
    ·go_wp2_with fail
     refine (wz (aP.size aq.size) ag lA 13 s 0).mono ?_;rintro e dy ⟨rfl,⟨z,bI,hJ⟩,jH⟩;have cq:=J (ae bI (ae hJ (dN.trans jH)));clear bI hJ jH;go_wp2_with fail
     go_roundw
     case rel =>
      refine ⟨i+1,z,af,cm,ib.trans cq.1,?_,cq.2.2⟩;rw [cC.out,fx.out];exact cq.2.1
     case measure=>exact c4
   ·obtain rfl:i=L.length:=by omega
    have cg:decide ((L.length:Int)<(L.length:Int))=false:=av;rw [kn] at hR
    go_wp2_with fail
    go_end0
    rw [qi.out,hR];exact ⟨rfl,⟨y,ib.out,ag.out⟩,aq.out⟩
end
end Go.Proofs.YtmmchlfoplcnbaaGreatDoor
