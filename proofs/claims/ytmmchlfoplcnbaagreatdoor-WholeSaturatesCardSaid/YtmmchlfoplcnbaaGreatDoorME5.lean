/- A part of the walk. -/
import Derived.WalkMore
import Derived.Test.YtmmchlfoplcnbaaGreatDoorME4
import Derived.Test.YtmmchlfoplcnbaaGreatDoorME3
namespace Go.Proofs.YtmmchlfoplcnbaaGreatDoor
open Go Go.RowKit Tryz
set_option linter.all false
set_option maxRecDepth 100000
set_option maxHeartbeats 4000000
section
variable {S cn:Nat->Prop} {ts:List TypeId} {w w':World} {pr:Nat} {q:bL} {x:fT} {r:Rd}
theorem eY.mono {ay:Nat} {g:jB} {a:bD} (h:eY S w ay q g a) (hS:∀ k,k<w.heap.size->S k->cn k):eY cn w ay q g a:=⟨h.ab.mono hS,⟨h.rows.kj.mono hS,h.rows.ax.mono hS,h.rows.since.mono hS,h.rows.uses.mono hS⟩⟩
theorem e6.mono (h:e6 S w pr q x r) (hS:∀ k,k<w.heap.size->S k->cn k):e6 cn w pr q x r:=⟨h.ab.mono hS,h.ev.mono hS,h.fM.mono hS,h.au.mono hS,h.eh.mono hS⟩
theorem e6.iG (h:e6 S w pr q x r) (hc:bh cn ts w w') (hd:∀ k,S k->¬ cn k):e6 S w' pr q x r:=⟨h.ab.iG hc hd,h.ev.iG hc hd,h.fM.iG hc hd,h.au.iG hc hd,h.eh.iG hc hd⟩
theorem agS (e:bj) (hs:dw S (w.alloc (.cells #[.string e.aa.id,.i e.aa.prio,.bool e.aa.bo,.i e.aa.bg,.i e.aa.aX,.i e.aa.ba,.i e.aa.bk,.i e.aa.bl,.i e.aa.aW,.string e.aa.bb,.i e.aa.size,.i e.phase] 66))) (h:e6 S w pr q x r) {N E:Nat} (bi:c0 q N E r) (b8:N<=90000) (ea:E<=700000) (aw:e.phase≠3) (dt:(r.o.at_ e.aa.id).isSome=false) (BU:¬ S w.heap.size) :
  Calls prog 92 #[.pointer (some ⟨pr,0,none⟩),.agg #[.string e.aa.id,.i e.aa.prio,.bool e.aa.bo,.i e.aa.bg,.i e.aa.aX,.i e.aa.ba,.i e.aa.bk,.i e.aa.bl,.i e.aa.aW,.string e.aa.bb,.i e.aa.size,.i e.phase]] w (ni S pr q x (r.aa q e) w):=by
 have mixed:prog.follows Departure.mixedOrders=true:=ai;have b0:Below w.heap.size w (w.alloc (.cells #[.string e.aa.id,.i e.aa.prio,.bool e.aa.bo,.i e.aa.bg,.i e.aa.aX,.i e.aa.ba,.i e.aa.bk,.i e.aa.bl,.i e.aa.aW,.string e.aa.bb,.i e.aa.size,.i e.phase] 66)):=(aO _ _).alloc aF _;have ag:=J (h.below b0);have b9:=J (ar.new w 66 #[.string e.aa.id,.i e.aa.prio,.bool e.aa.bo,.i e.aa.bg,.i e.aa.aX,.i e.aa.ba,.i e.aa.bk,.i e.aa.bl,.i e.aa.aW,.string e.aa.bb,.i e.aa.size,.i e.phase]);have aP:=J hs;have NG:=J BU;clear BU;have cj:=J bi;have bs:=J (show N<=100000/\E<=1000000 from ⟨af,af⟩);have aq:=J (bh.dL S iL b0);have fE:=J (show r.a.ax.length<=100000/\fB r.a.ax from ⟨by have:=bi.a.r.len;omega,bi.a.r.iq⟩);have iW:=J (show r.ev.length<=1000000 by have:=bi.e;omega);clear h hs bi b8 ea b0;have bq:Hid (r.aa q e = { r with o:=r.o.uM e.aa.id r.a.rd,a:={ r.a with ax:=fZ r.a.ax ⟨e.aa,2⟩ },ev:=r.ev++[⟨8,e.aa.id,0,0⟩] }):=by show _=_;simp only [Rd.aa];rw [bp aw,bB dt]
 have bG:=J (fun W (dZ:eO S W x.g.bH q.ret r.o)=>wE dZ cj.o bs.1 e.aa.id);have gq:=J (bA.wD r.o e.aa.id);have ig:=J (bA.xV r.o e.aa.id);obtain ⟨s1,c7⟩:=aE (hY (r.o.at_ e.aa.id));rw [c7] at gq
 try rw [c7] at bq
 have jJ:(r.o.at_ e.aa.id).isSome=false:=dt;rw [jJ] at ig
 clear dt jJ;have mK:(e.phase==3)=false:=by simpa using aw
 clear c7 aw
 go_enter func92,ntmps92
 go_wp2_with fail;obtain ⟨wd,aG⟩:=aE ((w.alloc (.cells #[.string e.aa.id,.i e.aa.prio,.bool e.aa.bo,.i e.aa.bg,.i e.aa.aX,.i e.aa.ba,.i e.aa.bk,.i e.aa.bl,.i e.aa.aW,.string e.aa.bb,.i e.aa.size,.i e.phase] 66)).drew);have bf:Below (w.alloc (.cells #[.string e.aa.id,.i e.aa.prio,.bool e.aa.bo,.i e.aa.bg,.i e.aa.aX,.i e.aa.ba,.i e.aa.bk,.i e.aa.bl,.i e.aa.aW,.string e.aa.bb,.i e.aa.size,.i e.phase] 66)).heap.size (w.alloc (.cells #[.string e.aa.id,.i e.aa.prio,.bool e.aa.bo,.i e.aa.bg,.i e.aa.aX,.i e.aa.ba,.i e.aa.bk,.i e.aa.bl,.i e.aa.aW,.string e.aa.bb,.i e.aa.size,.i e.phase] 66)) wd:=by rw [<- aG];exact (aO _ _).drew
 have ag:=J (ag.below bf);have aq:=J (aq.below bf);have b9:=J (b9.bw bf);clear bf;refine wp_region_held_drew (S:=fun w'=>w'.cell? ⟨w.heap.size,0,none⟩=some (.string e.aa.id)/\w'.cell? ⟨pr,0,none⟩=some (.pointer (some ⟨x.ay,0,none⟩))/\w'.cell? ⟨x.ay,13,none⟩=some (.i r.a.rd)) ai (by rw [aG];exact (ae (b9.cell 0) (ae (ag.ab.ab.cell 0) (ag.au.ab.ab.cell 13)))) (fun hHeld=>?_);rw [aG] at hHeld ⊢
 clear aG;refine aj 0 ?_;refine aj 1 ?_;refine aj 2 ?_;refine aj 3 ?_;refine aj 4 ?_;refine aj 5 ?_;refine aj 6 ?_;refine aj 7 ?_;refine aj 8 ?_;refine aj 9 ?_;refine aj 10 ?_;refine aj 11 ?_;refine aj 12 ?_;refine wpAnyH_done ai ?_ _;clear hHeld;obtain ⟨cz,_⟩:=ag.cells;have ka:wd.cell? ⟨x.ay,11,none⟩=some (.pointer (some ⟨x.g.bH,0,none⟩)):=ag.au.ab.ab.cell 11;go_wp2_with fail;refine (bG.out _ ag.eh).mono ?_;rintro pD bm ⟨rfl,cV⟩;rw [gq.out,ig.out];obtain ⟨t1,ic⟩:=aE ((r.o.box e.aa.id).2.1);rw [ic];have ag:=J (ag.below cV);have aq:=J (aq.below cV);have b9:=J (b9.bw cV);have iK:Below bm.heap.size bm (bm.alloc (.cells #[.i 0,.i 0] 73)):=(aO _ _).alloc aF _;have gf:=J iK;have k4:=J (ar.new bm 73 #[.i 0,.i 0]);clear cV ic iK cz ka bG gq ig
 go_wp2_with (refine ch rfl 73 (.tmp 6) (.tmp 34) rfl bm.heap.size 73 #[.i 0,.i 0] #[.i s1,.i t1] rfl rfl k4.out rfl ai cc ?_;intro bU gg eS j7;have m0:bU.cell? ⟨bm.heap.size,0,none⟩=some (.i s1):=gg.cell 0;have ep:=J (gf.grown eS gf.size dP);have ag:=J (ag.below ep);have aq:=J (aq.below ep);have b9:=J (b9.bw ep);have n11:bU.cell? ⟨w.heap.size,11,none⟩=some (.i e.phase):=b9.cell 11;have kk:bU.cell? ⟨pr,0,none⟩=some (.pointer (some ⟨x.ay,0,none⟩)):=ag.cells.1;have qH:bU.cell? ⟨x.ay,11,none⟩=some (.pointer (some ⟨x.g.bH,0,none⟩)):=ag.au.ab.ab.cell 11;clear gg eS j7)
 refine (agT (aP.size (by rw [sH];exact b9.lt)) ag.eh cj.o bs.1 e.aa.id r.a.rd).mono ?_;rintro l2 b3 ⟨rfl,nh,jI⟩;have FW:ar b3 w.heap.size 66 #[.string e.aa.id,.i e.aa.prio,.bool e.aa.bo,.i e.aa.bg,.i e.aa.aX,.i e.aa.ba,.i e.aa.bk,.i e.aa.bl,.i e.aa.aW,.string e.aa.bb,.i e.aa.size,.i e.phase]:=b9.only jI fun hx=>by
  rcases hx.2 with ⟨_,es,c,h1⟩|⟨cs,t,fr,h1,ah⟩
  ·exact b9.pM h1 rfl
  ·have aw:=b9.out
   unfold ar at aw
   rw [aw] at h1
   injection h1 with h1
   injection h1 with _ h1
   subst h1;simp at ah
 have b9:=J FW;have ag:=J (ag.world jI nh);have aq:=J (aq.trans (jI.mono av));clear nh jI FW kk qH n11 m0;have g11:b3.cell? ⟨w.heap.size,11,none⟩=some (.i e.phase):=b9.cell 11
 go_wp2_with (refine kZ rfl 3 (.tmp 58) (.const (.i 2)) rfl w.heap.size 11 66 #[.string e.aa.id,.i e.aa.prio,.bool e.aa.bo,.i e.aa.bg,.i e.aa.aX,.i e.aa.ba,.i e.aa.bk,.i e.aa.bl,.i e.aa.aW,.string e.aa.bb,.i e.aa.size,.i e.phase] (.i 2) rfl rfl b9.out av y7 rfl ?_;intro cN UZ ou wt;have e1:=J (show ar cN w.heap.size 66 #[.string e.aa.id,.i e.aa.prio,.bool e.aa.bo,.i e.aa.bg,.i e.aa.aX,.i e.aa.ba,.i e.aa.bk,.i e.aa.bl,.i e.aa.aW,.string e.aa.bb,.i e.aa.size,.i 2] from UZ);have U0:=J ou;clear UZ ou wt)
 have NY:bh (fun j=>j=w.heap.size) [66] b3 cN:=bh.grown U0.out fun k hk _=>by injection hk with hk;subst hk;exact ⟨rfl,.inr ⟨_,_,_,b9.out,av⟩⟩
 have ag:=J (ag.iG NY fun k hk e=>NG.out (e ▸ hk));have aq:Hid (bh S iL w cN):=cB.trans aq.out NY fun k hk hx=>by have:=hx.1;omega
 clear NY b9 U0 g11;obtain ⟨wd,aG⟩:=aE cN.drew;have bf:Below cN.heap.size cN wd:=by rw [<- aG];exact (aO _ _).drew
 have ag:=J (ag.below bf);have aq:=J (aq.below bf);have e1:=J (e1.bw bf);clear bf;refine nH 15 (S:=fun w'=>w'.cell? ⟨pr,0,none⟩=some (.pointer (some ⟨x.ay,0,none⟩))/\w'.cell? ⟨x.ay,13,none⟩=some (.i r.a.rd)/\w'.cell? ⟨x.ay,14,none⟩=some (.slice x.g.el r.a.ax.length x.g.cx)/\w'.cell? ⟨x.ay,15,none⟩=some (.bool r.a.aU)/\w'.cell? ⟨x.ay,16,none⟩=some (.bool r.a.aL)/\w'.cell? ⟨x.ay,17,none⟩=some (.bool r.a.aS)/\w'.cell? ⟨w.heap.size,0,none⟩=some (.string e.aa.id)/\w'.cell? ⟨w.heap.size,1,none⟩=some (.i e.aa.prio)/\w'.cell? ⟨w.heap.size,2,none⟩=some (.bool e.aa.bo)/\w'.cell? ⟨w.heap.size,3,none⟩=some (.i e.aa.bg)/\w'.cell? ⟨w.heap.size,4,none⟩=some (.i e.aa.aX)/\w'.cell? ⟨w.heap.size,5,none⟩=some (.i e.aa.ba)/\w'.cell? ⟨w.heap.size,6,none⟩=some (.i e.aa.bk)/\w'.cell? ⟨w.heap.size,7,none⟩=some (.i e.aa.bl)/\w'.cell? ⟨w.heap.size,8,none⟩=some (.i e.aa.aW)/\w'.cell? ⟨w.heap.size,9,none⟩=some (.string e.aa.bb)/\w'.cell? ⟨w.heap.size,10,none⟩=some (.i e.aa.size)/\w'.cell? ⟨w.heap.size,11,none⟩=some (.i 2)) ai (by rw [aG];exact (ae (ag.ab.ab.cell 0) (ae (ag.au.ab.ab.cell 13) (ae (ag.au.ab.ab.cell 14) (ae (ag.au.ab.ab.cell 15) (ae (ag.au.ab.ab.cell 16) (ae (ag.au.ab.ab.cell 17) (ae (e1.cell 0) (ae (e1.cell 1) (ae (e1.cell 2) (ae (e1.cell 3) (ae (e1.cell 4) (ae (e1.cell 5) (ae (e1.cell 6) (ae (e1.cell 7) (ae (e1.cell 8) (ae (e1.cell 9) (ae (e1.cell 10) (e1.cell 11))))))))))))))))))) (fun hHeld=>?_);rw [aG] at hHeld ⊢
 clear aG;refine aK 0 ?_;refine aK 1 ?_;refine aK 2 ?_;refine aK 3 ?_;refine aK 4 ?_;refine aK 5 ?_;refine aK 6 ?_;refine aK 7 ?_;refine aK 8 ?_;refine aK 9 ?_;refine aK 10 ?_;refine aK 11 ?_;refine nI 12 71 rfl rfl ai aH (fun K hK=>?_);go_simp;refine (KZ r.a.rd r.a.ax ⟨e.aa,2⟩ x.g.el x.g.cx r.a.aU r.a.aL r.a.aS wd ag.au.rows.ax.cZ fE.1 fE.2).mono ?_;rintro cG w3 ⟨b5,fR,rfl,ee,bu⟩;have iD:=J (b7.jU (aP.size (by rw [sH];exact e1.lt)) ee aF);have ag:=J (ag.below bu);have aq:=J (aq.below bu);have e1:=J (e1.bw bu);clear ee bu;have hHeld:=(ae (ag.ab.ab.cell 0) (ae (ag.au.ab.ab.cell 13) (ae (ag.au.ab.ab.cell 14) (ae (ag.au.ab.ab.cell 15) (ae (ag.au.ab.ab.cell 16) (ae (ag.au.ab.ab.cell 17) (ae (e1.cell 0) (ae (e1.cell 1) (ae (e1.cell 2) (ae (e1.cell 3) (ae (e1.cell 4) (ae (e1.cell 5) (ae (e1.cell 6) (ae (e1.cell 7) (ae (e1.cell 8) (ae (e1.cell 9) (ae (e1.cell 10) (e1.cell 11))))))))))))))))))
 refine hK _ _ hHeld ?_;clear hK K;simp only [Act.put,aY,aZ,a1];refine aK 13 ?_;refine aK 14 ?_;refine ue 15 rfl ai aH rfl ai 35 (.tmp 73) (.tmp 71) rfl x.ay 13 138 _ #[.i r.a.rd,.slice b5 (fZ r.a.ax ⟨e.aa,2⟩).length fR,.bool r.a.aU,.bool r.a.aL,.bool r.a.aS] rfl rfl ag.au.ab.ab av ai cc ?_;intro agU cp bT dm;obtain ⟨f1,f2⟩:=eY.put (r':={ x.g with el:=b5,cx:=fR }) (a':={ r.a with ax:=fZ r.a.ax ⟨e.aa,2⟩ }) ag.au.ab (ag.au.rows.Ba iD) cp bT;have BP:=J (ag.agent f2 f1 rfl);have rF:=J (aq.trans (f2.mono av));have cH:w.heap.size<agU.heap.size:=qb e1.lt f2.size;clear f1 f2 cp bT dm;go_wp2_with fail;refine (wz (aP.size (by rw [sH];exact cH)) BP iW 8 e.aa.id 0).mono ?_;rintro UY dy ⟨rfl,⟨y,hy,hJ⟩,jH⟩;have cq:=J (ae hy (ae hJ (rF.trans jH)));clear hy hJ jH;go_wp2_with fail
 go_end0
 rw [bq.out];exact ⟨rfl,⟨y,cq.1,cq.2.1⟩,cq.2.2⟩
theorem agV (hs:dw S w) (h:e6 S w pr q x r) {N E:Nat} (bi:c0 q N E r) (b8:N<=90000) (ea:E<=700000) (e:bj) (aw:e.phase≠3) (dt:(r.o.at_ e.aa.id).isSome=false) :
  Calls prog 92 #[.pointer (some ⟨pr,0,none⟩),.agg #[.string e.aa.id,.i e.aa.prio,.bool e.aa.bo,.i e.aa.bg,.i e.aa.aX,.i e.aa.ba,.i e.aa.bk,.i e.aa.bl,.i e.aa.aW,.string e.aa.bb,.i e.aa.size,.i e.phase]] w (ni S pr q x (r.aa q e) w):=by
 refine (agS (S:=fun k=>S k/\k≠w.heap.size) e ⟨fun k hk=>?_,fun k hk hx=>hs.kF k hk hx.1⟩ (h.mono fun k hk hS=>⟨hS,af⟩) bi b8 ea aw dt (fun hx=>hx.2 rfl)).mono ?_
 ·rw [sH] at hk
  exact ⟨hs.gJ k af,af⟩
 ·rintro e' w' ⟨he,⟨y,hy,hm⟩,hc⟩
  exact ⟨he,⟨y,hy,hm.mono fun k _ hS=>hS.1⟩,cB.mono hc fun k hk=>⟨hk.1.1,hk.2⟩⟩
theorem agW (hs:dw S w) (h:e6 S w pr q x r) {N E:Nat} (bi:c0 q N E r) (b8:N<=90000) (ea:E<=700000) (e:bj) :
  Calls prog 92 #[.pointer (some ⟨pr,0,none⟩),.agg #[.string e.aa.id,.i e.aa.prio,.bool e.aa.bo,.i e.aa.bg,.i e.aa.aX,.i e.aa.ba,.i e.aa.bk,.i e.aa.bl,.i e.aa.aW,.string e.aa.bb,.i e.aa.size,.i e.phase]] w (ni S pr q x (r.aa q e) w):=by
 by_cases aw:e.phase=3
 ·exact agJ hs h bi b8 ea e aw
 ·by_cases dt:(r.o.at_ e.aa.id).isSome=true
  ·by_cases h1:e.phase=1
   ·by_cases hx:hY (r.o.at_ e.aa.id)=3
    ·exact agK hs h bi b8 ea e aw dt h1 hx
    ·exact agL hs h bi b8 ea e aw dt h1 hx
   ·by_cases kL:hY (r.o.at_ e.aa.id)=4
    ·exact agM hs h bi b8 ea e aw dt h1 kL
    ·by_cases B8:hY (r.o.at_ e.aa.id)=1
     ·exact agN hs h bi b8 ea e aw dt h1 kL B8
     ·by_cases nn:hY (r.o.at_ e.aa.id)=2
      ·exact agP hs h bi b8 ea e aw dt h1 kL nn
      ·by_cases U1:hY (r.o.at_ e.aa.id)=6
       ·exact agQ hs h bi b8 ea e aw dt h1 kL U1
       ·exact agR hs h bi b8 ea e aw dt h1 kL B8 nn U1
  ·exact agV hs h bi b8 ea e aw (by simpa using dt)
end
theorem Tw (e:bj) (w:World):Calls prog 147 #[.agg #[.string e.aa.id,.i e.aa.prio,.bool e.aa.bo,.i e.aa.bg,.i e.aa.aX,.i e.aa.ba,.i e.aa.bk,.i e.aa.bl,.i e.aa.aW,.string e.aa.bb,.i e.aa.size,.i e.phase]] w fun jM w'=>jM=.returned (.bool (e.phase==3))/\Below w.heap.size w w':=by
 have n11:(w.alloc (.cells #[.string e.aa.id,.i e.aa.prio,.bool e.aa.bo,.i e.aa.bg,.i e.aa.aX,.i e.aa.ba,.i e.aa.bk,.i e.aa.bl,.i e.aa.aW,.string e.aa.bb,.i e.aa.size,.i e.phase] 66)).cell? ⟨w.heap.size,11,none⟩=some (.i e.phase):=(ar.new w 66 #[.string e.aa.id,.i e.aa.prio,.bool e.aa.bo,.i e.aa.bg,.i e.aa.aX,.i e.aa.ba,.i e.aa.bk,.i e.aa.bl,.i e.aa.aW,.string e.aa.bb,.i e.aa.size,.i e.phase]).cell 11;have aA:=J ((aO w.heap.size w).alloc aF (.cells #[.string e.aa.id,.i e.aa.prio,.bool e.aa.bo,.i e.aa.bg,.i e.aa.aX,.i e.aa.ba,.i e.aa.bk,.i e.aa.bl,.i e.aa.aW,.string e.aa.bb,.i e.aa.size,.i e.phase] 66))
 go_enter func147,ntmps147
 go_wp2_with fail;go_ret;exact ⟨rfl,aA.out⟩
theorem aeu (l:List bj) (k:Nat) (hk:k<l.length):hasEnd (l.take (k+1))=(hasEnd (l.take k)||(l[k].phase==3)):=by
 unfold hasEnd;rw [gS hk,Gt];simp
theorem aev {l:List bj} {k:Nat} (hk:k<l.length) (h:(l[k].phase==3)=true):hasEnd l=true:=Cw.2 ⟨l[k],iO hk,h⟩
def aew (l:List bj) (w:World) (e:Ending) (w':World):Prop:=∃ z:Int,e=.returned (.i z)/\decide (0<=z)=hasEnd l/\Below w.heap.size w w'
theorem aex (l:List bj) (A:Option Addr) (c:Nat) (w:World) (hr:a7 w cR A l) (hn:l.length<=9223372036854775807) :
  Calls prog 175 #[.slice A l.length c,.func (.func 147) #[] #[]] w (aew l w):=by
 have bx:=J hr;clear hr
 go_enter func175,ntmps175
 go_wp2_with fail
 go_loopw [5,8] (fun OX ii wr=>∃ i:Nat,i<=l.length/\ii=.i i/\hasEnd (l.take i)=false/\Below w.heap.size w wr) (fun _ ii _=>l.length-(intOf ii).toNat)
 case atStart=>exact ⟨0,af,rfl,rfl,aO _ _⟩
 case round =>
  obtain ⟨i,hi,rfl,h0,du⟩:=hrel;have lb:=J h0;have ap:=J du;clear h0 du
  by_cases aT:i<l.length
  ·have cg:decide ((i:Int)<(l.length:Int))=true:=bO af
   have lG:(i:Int)<(l.length:Int):=af;obtain ⟨b,off,hA,_⟩:=bx.jM aT;obtain rfl:A=some ⟨b,off,none⟩:=hA;have oC:=J (dF aT);have o7:=J (aeu l i aT);have J2:=J (aev aT);generalize l[i]=x at *
   obtain ⟨dK,c8,dT,hj,jt,o8,oD,o9,pa,pb,pc,vh⟩:=bx.wT ap.out oC.out;go_wp2_with fail
   cases hv:(x.phase==3)
   ·have bs:Hid (hasEnd (l.take (i+1))=false):=by show _=_;rw [o7.out,lb.out,hv];rfl
    refine (Tw x _).mono ?_;rintro e aM ⟨rfl,hb⟩;rw [hv];have ap:=J (vk ap hb);clear hb hv dK c8 dT hj jt o8 oD o9 pa pb pc vh;go_wp2_with fail
    go_roundw
    case rel=>exact ⟨i+1,af,cm,bs.out,ap.out⟩
    case measure=>exact c4
   ·have bs:Hid (hasEnd l=true):=J2.out hv
    refine (Tw x _).mono ?_;rintro e aM ⟨rfl,hb⟩;rw [hv];have ap:=J (vk ap hb);clear hb hv dK c8 dT hj jt o8 oD o9 pa pb pc vh;go_wp2_with fail;go_ret;exact ⟨(i:Int),rfl,by rw [bs.out];exact bO af,ap.out⟩
  ·obtain rfl:i=l.length:=by omega
   have cg:decide ((l.length:Int)<(l.length:Int))=false:=av;rw [kn] at lb
   go_wp2_with fail;go_ret;exact ⟨-1,rfl,by rw [lb.out];rfl,ap.out⟩
theorem aey (l:List bj) (A:Option Addr) (c:Nat) (w:World) {v:Bool} (hv:hasEnd l=v) (hr:a7 w cR A l) (hn:l.length<=9223372036854775807) :
  Calls prog 121 #[.slice A l.length c,.func (.func 147) #[] #[]] w fun e w'=>e=.returned (.bool v)/\Below w.heap.size w w':=by
 have bx:=J hr;have bF:=J hv;clear hr hv
 go_enter func121,ntmps121
 go_wp2_with fail;refine (aex l A c _ bx hn).mono ?_;rintro e aM ⟨z,rfl,bI,hb⟩;have aA:=J hb;rw [bF.out] at bI
 clear hb;go_wp2_with fail;go_ret;exact ⟨rfl,aA.out⟩
def Rd.BQ (r:Rd) (k:Nat):Bool:=if k=0 then r.h5 else if k=1 then r.dc else r.gl
def Rd.mh (r:Rd):Nat->Nat->Rd
 | 0,_=>r
 | n+1,k=>match (if r.BQ k=true then r.oe k else none) with|some r'=>r'|none=>r.mh n (k+1)
theorem Rd.MV (r:Rd):r.j9=if hasEnd r.a.ax=true then r else r.mh 3 0:=by
 unfold Rd.j9 Rd.mh
 rfl
theorem Rd.MW {r:Rd} {n k:Nat} (h:r.BQ k=false):r.mh (n+1) k=r.mh n (k+1):=by
 simp only [Rd.mh];rw [h];rfl
theorem Rd.MX {r:Rd} {n k:Nat} (h:r.BQ k=true) (ah:r.oe k=none):r.mh (n+1) k=r.mh n (k+1):=by
 simp only [Rd.mh];rw [h,bB rfl,ah]
theorem Rd.Ik {r:Rd} {k:Int} {f:ByteArray} (h:firstT (j4 k r.a.ax r.a.uses)=(f,true)):r.oe k=some { r with a:={ r.a with ax:=og r.a.ax (dQ r.a.ax f) },ev:=r.ev++[⟨5,f,k,0⟩] }:=by
 unfold Rd.oe;simp only [h,ll]
theorem Rd.MY {r r':Rd} {n k:Nat} (h:r.BQ k=true) (ah:r.oe k=some r'):r.mh (n+1) k=r':=by
 simp only [Rd.mh];rw [h,bB rfl,ah]
section
variable {S cn:Nat->Prop} {ts:List TypeId} {w w':World} {pr:Nat} {q:bL} {x:fT} {r:Rd}
theorem aez (hs:dw S w) (h:e6 S w pr q x r) {N E:Nat} (bi:c0 q N E r) (b8:N<=100000) (ea:E<=700000) :
  Calls prog 91 #[.pointer (some ⟨pr,0,none⟩)] w (ni S pr q x r.j9 w):=by
 have mixed:prog.follows Departure.mixedOrders=true:=ai;have ag:=J h;have aP:=J hs;have cj:=J bi;have aq:=J (bh.refl S iL w);have fE:=J (show r.a.ax.length<=100000/\fB r.a.ax from ⟨by have:=bi.a.r.len;omega,bi.a.r.iq⟩);have xQ:=J (show r.a.uses.length<=100000/\oR r.a.uses from ⟨by have:=bi.a.uG;omega,bi.a.us⟩);have iW:=J (show r.ev.length<=1000000 by have:=bi.e;omega);obtain ⟨cz,_⟩:=h.cells;have xx:w.cell? ⟨x.ay,14,none⟩=some (.slice x.g.el r.a.ax.length x.g.cx):=h.au.ab.ab.cell 14;clear h hs bi b8 ea
 go_enter func91,ntmps91
 go_wp2_with fail;refine wp_scope_straight ?_;go_wp2_with fail;refine (aey r.a.ax x.g.el x.g.cx w (v:=hasEnd r.a.ax) rfl ag.au.rows.ax.cZ (by have:=fE.1;omega)).mono ?_;rintro aV aC ⟨rfl,bV⟩;have ag:=J (ag.below bV);have aq:=J (aq.below bV);clear bV cz xx;obtain ⟨_,_,_,fP,kz,Mb⟩:=ag.cells
 cases he:hasEnd r.a.ax
 ·have bq:Hid (r.j9=r.mh 3 0):=by show _=_;rw [Rd.MV,he];rfl
  clear he;go_wp2_with fail
  go_step3
  go_wp2_with fail;clear fP kz Mb
  go_loopw [21] (fun ii wr=>∃ i:Nat,i<=3/\ii=.i i/\r.j9=r.mh (3-i) i/\e6 S wr pr q x r/\bh S iL w wr) (fun ii _=>3-(intOf ii).toNat)
  case atStart=>exact ⟨0,af,rfl,bq.out,ag.out,aq.out⟩
  case round =>
   clear ag aq bq;obtain ⟨i,hi,rfl,hd,hm,hc⟩:=hrel;have bq:=J hd;have ag:=J hm;have aq:=J hc;clear hd hm hc;have uu:i=0\/i=1\/i=2\/i=3:=af
   rcases uu with rfl|rfl|rfl|rfl
   ·cases hp:r.h5
    ·have iE:Hid (r.j9=r.mh 2 1):=by show _=_;rw [bq.out];exact Rd.MW hp
     clear hp;go_wp2_with fail
     go_roundw
     case rel=>exact ⟨1,af,cm,iE.out,ag.out,aq.out⟩
     case measure=>exact ef
    ·have zJ:Hid (r.BQ 0=true):=hp
     clear hp;go_wp2_with fail;obtain ⟨wd,aG⟩:=aE wr.drew;have bf:Below wr.heap.size wr wd:=by rw [<- aG];exact (aO _ _).drew
     have ag:=J (ag.below bf);have aq:=J (aq.below bf);clear bf;refine wp_region_held_drew (S:=fun w'=>w'.cell? ⟨pr,0,none⟩=some (.pointer (some ⟨x.ay,0,none⟩))/\w'.cell? ⟨x.ay,14,none⟩=some (.slice x.g.el r.a.ax.length x.g.cx)/\w'.cell? ⟨x.ay,22,none⟩=some (.i r.a.time)/\w'.cell? ⟨x.ay,23,none⟩=some (.i r.a.v0)/\w'.cell? ⟨x.ay,24,none⟩=some (.i r.a.v1)/\w'.cell? ⟨x.ay,25,none⟩=some (.i r.a.v2)/\w'.cell? ⟨x.ay,26,none⟩=some (.slice x.g.jW r.a.uses.length x.g.uc)) ai (by rw [aG];exact (ae (ag.ab.ab.cell 0) (ae (ag.au.ab.ab.cell 14) (ae (ag.au.ab.ab.cell 22) (ae (ag.au.ab.ab.cell 23) (ae (ag.au.ab.ab.cell 24) (ae (ag.au.ab.ab.cell 25) (ag.au.ab.ab.cell 26)))))))) (fun hHeld=>?_);rw [aG] at hHeld ⊢
     clear aG;refine aj 0 ?_;refine aj 1 ?_;refine aj 2 ?_;refine aj 3 ?_;refine aj 4 ?_;refine aj 5 ?_;refine aj 6 ?_;refine aj 7 ?_;refine aj 8 ?_;refine aj 9 ?_;refine aj 10 ?_;refine aj 11 ?_;refine aj 12 ?_;refine aj 13 ?_;refine aj 14 ?_;refine aj 15 ?_;refine dR 16 44 rfl rfl ai aH (fun K hK=>?_);go_simp;refine (Lh 0 ak r.a.ax x.g.el x.g.cx ⟨r.a.time,r.a.v0,r.a.v1,r.a.v2,x.g.jW,r.a.uses,x.g.uc⟩ wd ag.au.rows.uses.cZ xQ.1 xQ.2 ag.au.rows.ax.cZ fE.1 (fun z bI=>cj.a.MZ bI)).mono ?_;rintro sj bc ⟨f1,f2,zK,rfl,dI⟩;have qA:=J (M0 zK);have ag:=J (ag.below dI);have aq:=J (aq.below dI);clear dI zK;have hHeld:=(ae (ag.ab.ab.cell 0) (ae (ag.au.ab.ab.cell 14) (ae (ag.au.ab.ab.cell 22) (ae (ag.au.ab.ab.cell 23) (ae (ag.au.ab.ab.cell 24) (ae (ag.au.ab.ab.cell 25) (ag.au.ab.ab.cell 26)))))))
     refine hK _ _ hHeld ?_;clear hK K;simp only [Act.put,aY,aZ,a1];refine aj 17 ?_;refine aj 18 ?_;refine aj 19 ?_;refine aj 20 ?_;refine aj 21 ?_;refine wpAnyH_done ai ?_ _;clear hHeld
     cases f2
     ·have iE:Hid (r.j9=r.mh 2 1):=by show _=_;rw [bq.out];refine Rd.MX zJ.out ?_;show (if (firstT (j4 0 r.a.ax r.a.uses)).2=true then _ else none)=none;rw [qA.out];rfl
      go_wp2_with fail
      go_roundw
      case rel=>exact ⟨1,af,cm,iE.out,ag.out,aq.out⟩
      case measure=>exact ef
     ·have ha:ij r.a.ax f1=true:=by
       have h1:(firstT (j4 0 r.a.ax r.a.uses)).2=true:=by rw [qA.out]
       obtain ⟨e,he,ah,_⟩:=IV h1;rw [qA.out] at ah
       rw [<- show e.aa.id=f1 from ah];exact Fy cj.a.iq he
      have iE:Hid (r.j9 = { r with a:={ r.a with ax:=og r.a.ax (dQ r.a.ax f1) },ev:=r.ev++[⟨5,f1,0,0⟩] }):=by show _=_;rw [bq.out];exact Rd.MY zJ.out (Rd.Ik (k:=((0:Nat):Int)) qA)
      obtain ⟨rb,Fz⟩:=yG ha;have uH:Hid (og r.a.ax (dQ r.a.ax f1)=fZ r.a.ax ⟨r.a.ax[dQ r.a.ax f1].aa,3⟩):=by show _=_;unfold og;rw [dF rb]
      rw [uH.out] at iE
      have kk:=ag.cells.1;have q9:bc.cell? ⟨x.ay,13,none⟩=some (.i r.a.rd):=ag.au.ab.ab.cell 13;have sy:bc.cell? ⟨x.ay,14,none⟩=some (.slice x.g.el r.a.ax.length x.g.cx):=ag.au.ab.ab.cell 14;have tX:bc.cell? ⟨x.ay,15,none⟩=some (.bool r.a.aU):=ag.au.ab.ab.cell 15;have tY:bc.cell? ⟨x.ay,16,none⟩=some (.bool r.a.aL):=ag.au.ab.ab.cell 16;have tZ:bc.cell? ⟨x.ay,17,none⟩=some (.bool r.a.aS):=ag.au.ab.ab.cell 17;go_wp2_with fail;refine (KY (i:=dQ r.a.ax f1) (v:=true) (by unfold CR;rw [bB ha]) r.a.rd x.g.el x.g.cx r.a.aU r.a.aL r.a.aS bc ag.au.rows.ax.cZ (by have:=fE.1;omega) fE.2).mono ?_;rintro pD bm ⟨rfl,cV⟩;have ag:=J (ag.below cV);have aq:=J (aq.below cV);clear cV kk q9 sy tX tY tZ Fz;have kk:=ag.cells.1;go_wp2_with fail;refine (LZ (aP.size aq.size) ag.au cj.a (dQ r.a.ax f1) rb).mono ?_;rintro Tx bU ⟨rfl,⟨vZ,fU,zL⟩,ma⟩;have ag:=J (ag.agent ma zL rfl);have aq:=J (aq.trans (ma.mono av));clear zL ma kk;have zM:=ag.cells.2.1;have pP:Below bU.heap.size bU (bU.alloc (.cells #[.i 5,.string f1,.i 0,.i 0] 51)):=(aO _ _).alloc aF _;have ag:=J (ag.below pP);have aq:=J (aq.below pP);have BR:=J (show a7 (bU.alloc (.cells #[.i 5,.string f1,.i 0,.i 0] 51)) dA (some ⟨bU.heap.size,0,none⟩) [(⟨5,f1,0,0⟩:cP)] from a7.made bU dA [(⟨5,f1,0,0⟩:cP)] 51 #[.i 5,.string f1,.i 0,.i 0] (0,0) rfl);clear pP
      go_wp2_with (first|(at_builtin;refine hW sA dA rfl (.tmp 70) (.tmp 74) rfl 0 _ r.ev rfl ag.ev.own _ [(⟨5,f1,0,0⟩:cP)] 1 rfl BR.out (by have:=iW.out;simp;omega) (by have:=iW.out;simp;omega) (p3 _) ?_;intro bz ez w3 eX eF ot;have cD:=J (ae eX (ae eF ot));have lD:=J (show bh S [51] (bU.alloc (.cells #[.i 5,.string f1,.i 0,.i 0] 51)) w3 from bh.grown eF fun k hk aT=>ag.ev.kind av k hk);have e0:=J (ag.ab.a6 lD.out ak);clear eX eF ot)|(refine kZ rfl 31 (.tmp 77) (.tmp 75) rfl pr 1 180 _ (.slice bz (r.ev.length+1) ez) rfl rfl e0.ab av FA rfl ?_;intro uI bS bP dx))
      go_end0
      have eN:bh S [180] w3 uI:=bh.grown bP fun k hk _=>by injection hk with hk;subst hk;exact ⟨e0.ins,.inr ⟨_,_,_,e0.ab,av⟩⟩
      have hlen:(r.ev++[(⟨5,f1,0,0⟩:cP)]).length=r.ev.length+1:=av;have ee:b7 w3 S 51 dA (.slice bz (r.ev++[(⟨5,f1,0,0⟩:cP)]).length ez) (r.ev++[(⟨5,f1,0,0⟩:cP)]):=by
       rw [hlen];refine ⟨cD.1,fun k hk=>?_⟩;have gP:(Value.slice bz (r.ev.length + [(⟨5,f1,0,0⟩:cP)].length) ez).ownBlock=some k:=hk
       rcases cD.2.2 with e|e
       ·rw [e] at gP;exact ag.ev.ins k gP
       ·rw [e] at gP;injection gP with gP;subst gP;exact aP.gJ _ aq.size
      have BS:bh S iL (bU.alloc (.cells #[.i 5,.string f1,.i 0,.i 0] 51)) uI:=(lD.mono av).trans (eN.mono av);rw [iE.out];refine ⟨rfl,⟨{ ay:=x.ay,g:={ x.g with el:=vZ,cx:=fU },eA:=bz,ec:=ez,hA:=x.hA,hc:=x.hc },⟨rfl,rfl,rfl,rfl,rfl⟩,⟨⟨?_,e0.ins⟩,ee.a6 eN ak,(ag.fM.a6 lD ak).a6 eN ak,(ag.au.a6 lD ak ak ak ak ak).a6 eN ak ak ak ak ak,(ag.eh.a6 lD ak ak ak ak).a6 eN ak ak ak ak⟩⟩,aq.trans BS⟩
      show ar uI pr 180 #[_,.slice bz (r.ev++[(⟨5,f1,0,0⟩:cP)]).length ez,_,_,_,_]
      rw [hlen];exact bS
   ·cases hp:r.dc
    ·have iE:Hid (r.j9=r.mh 1 2):=by show _=_;rw [bq.out];exact Rd.MW hp
     clear hp;go_wp2_with fail
     go_roundw
     case rel=>exact ⟨2,af,cm,iE.out,ag.out,aq.out⟩
     case measure=>exact ef
    ·have zJ:Hid (r.BQ 1=true):=hp
     clear hp;go_wp2_with fail;obtain ⟨wd,aG⟩:=aE wr.drew;have bf:Below wr.heap.size wr wd:=by rw [<- aG];exact (aO _ _).drew
     have ag:=J (ag.below bf);have aq:=J (aq.below bf);clear bf;refine wp_region_held_drew (S:=fun w'=>w'.cell? ⟨pr,0,none⟩=some (.pointer (some ⟨x.ay,0,none⟩))/\w'.cell? ⟨x.ay,14,none⟩=some (.slice x.g.el r.a.ax.length x.g.cx)/\w'.cell? ⟨x.ay,22,none⟩=some (.i r.a.time)/\w'.cell? ⟨x.ay,23,none⟩=some (.i r.a.v0)/\w'.cell? ⟨x.ay,24,none⟩=some (.i r.a.v1)/\w'.cell? ⟨x.ay,25,none⟩=some (.i r.a.v2)/\w'.cell? ⟨x.ay,26,none⟩=some (.slice x.g.jW r.a.uses.length x.g.uc)) ai (by rw [aG];exact (ae (ag.ab.ab.cell 0) (ae (ag.au.ab.ab.cell 14) (ae (ag.au.ab.ab.cell 22) (ae (ag.au.ab.ab.cell 23) (ae (ag.au.ab.ab.cell 24) (ae (ag.au.ab.ab.cell 25) (ag.au.ab.ab.cell 26)))))))) (fun hHeld=>?_);rw [aG] at hHeld ⊢
     clear aG;refine aj 0 ?_;refine aj 1 ?_;refine aj 2 ?_;refine aj 3 ?_;refine aj 4 ?_;refine aj 5 ?_;refine aj 6 ?_;refine aj 7 ?_;refine aj 8 ?_;refine aj 9 ?_;refine aj 10 ?_;refine aj 11 ?_;refine aj 12 ?_;refine aj 13 ?_;refine aj 14 ?_;refine aj 15 ?_;refine dR 16 44 rfl rfl ai aH (fun K hK=>?_);go_simp;refine (Lh 1 ak r.a.ax x.g.el x.g.cx ⟨r.a.time,r.a.v0,r.a.v1,r.a.v2,x.g.jW,r.a.uses,x.g.uc⟩ wd ag.au.rows.uses.cZ xQ.1 xQ.2 ag.au.rows.ax.cZ fE.1 (fun z bI=>cj.a.MZ bI)).mono ?_;rintro sj bc ⟨f1,f2,zK,rfl,dI⟩;have qA:=J (M0 zK);have ag:=J (ag.below dI);have aq:=J (aq.below dI);clear dI zK;have hHeld:=(ae (ag.ab.ab.cell 0) (ae (ag.au.ab.ab.cell 14) (ae (ag.au.ab.ab.cell 22) (ae (ag.au.ab.ab.cell 23) (ae (ag.au.ab.ab.cell 24) (ae (ag.au.ab.ab.cell 25) (ag.au.ab.ab.cell 26)))))))
     refine hK _ _ hHeld ?_;clear hK K;simp only [Act.put,aY,aZ,a1];refine aj 17 ?_;refine aj 18 ?_;refine aj 19 ?_;refine aj 20 ?_;refine aj 21 ?_;refine wpAnyH_done ai ?_ _;clear hHeld
     cases f2
     ·have iE:Hid (r.j9=r.mh 1 2):=by show _=_;rw [bq.out];refine Rd.MX zJ.out ?_;show (if (firstT (j4 1 r.a.ax r.a.uses)).2=true then _ else none)=none;rw [qA.out];rfl
      go_wp2_with fail
      go_roundw
      case rel=>exact ⟨2,af,cm,iE.out,ag.out,aq.out⟩
      case measure=>exact ef
     ·have ha:ij r.a.ax f1=true:=by
       have h1:(firstT (j4 1 r.a.ax r.a.uses)).2=true:=by rw [qA.out]
       obtain ⟨e,he,ah,_⟩:=IV h1;rw [qA.out] at ah
       rw [<- show e.aa.id=f1 from ah];exact Fy cj.a.iq he
      have iE:Hid (r.j9 = { r with a:={ r.a with ax:=og r.a.ax (dQ r.a.ax f1) },ev:=r.ev++[⟨5,f1,1,0⟩] }):=by show _=_;rw [bq.out];exact Rd.MY zJ.out (Rd.Ik (k:=((1:Nat):Int)) qA)
      obtain ⟨rb,Fz⟩:=yG ha;have uH:Hid (og r.a.ax (dQ r.a.ax f1)=fZ r.a.ax ⟨r.a.ax[dQ r.a.ax f1].aa,3⟩):=by show _=_;unfold og;rw [dF rb]
      rw [uH.out] at iE
      have kk:=ag.cells.1;have q9:bc.cell? ⟨x.ay,13,none⟩=some (.i r.a.rd):=ag.au.ab.ab.cell 13;have sy:bc.cell? ⟨x.ay,14,none⟩=some (.slice x.g.el r.a.ax.length x.g.cx):=ag.au.ab.ab.cell 14;have tX:bc.cell? ⟨x.ay,15,none⟩=some (.bool r.a.aU):=ag.au.ab.ab.cell 15;have tY:bc.cell? ⟨x.ay,16,none⟩=some (.bool r.a.aL):=ag.au.ab.ab.cell 16;have tZ:bc.cell? ⟨x.ay,17,none⟩=some (.bool r.a.aS):=ag.au.ab.ab.cell 17;go_wp2_with fail;refine (KY (i:=dQ r.a.ax f1) (v:=true) (by unfold CR;rw [bB ha]) r.a.rd x.g.el x.g.cx r.a.aU r.a.aL r.a.aS bc ag.au.rows.ax.cZ (by have:=fE.1;omega) fE.2).mono ?_;rintro pD bm ⟨rfl,cV⟩;have ag:=J (ag.below cV);have aq:=J (aq.below cV);clear cV kk q9 sy tX tY tZ Fz;have kk:=ag.cells.1;go_wp2_with fail;refine (LZ (aP.size aq.size) ag.au cj.a (dQ r.a.ax f1) rb).mono ?_;rintro Tx bU ⟨rfl,⟨vZ,fU,zL⟩,ma⟩;have ag:=J (ag.agent ma zL rfl);have aq:=J (aq.trans (ma.mono av));clear zL ma kk;have zM:=ag.cells.2.1;have pP:Below bU.heap.size bU (bU.alloc (.cells #[.i 5,.string f1,.i 1,.i 0] 51)):=(aO _ _).alloc aF _;have ag:=J (ag.below pP);have aq:=J (aq.below pP);have BR:=J (show a7 (bU.alloc (.cells #[.i 5,.string f1,.i 1,.i 0] 51)) dA (some ⟨bU.heap.size,0,none⟩) [(⟨5,f1,1,0⟩:cP)] from a7.made bU dA [(⟨5,f1,1,0⟩:cP)] 51 #[.i 5,.string f1,.i 1,.i 0] (0,0) rfl);clear pP
      go_wp2_with (first|(at_builtin;refine hW sA dA rfl (.tmp 70) (.tmp 74) rfl 0 _ r.ev rfl ag.ev.own _ [(⟨5,f1,1,0⟩:cP)] 1 rfl BR.out (by have:=iW.out;simp;omega) (by have:=iW.out;simp;omega) (p3 _) ?_;intro bz ez w3 eX eF ot;have cD:=J (ae eX (ae eF ot));have lD:=J (show bh S [51] (bU.alloc (.cells #[.i 5,.string f1,.i 1,.i 0] 51)) w3 from bh.grown eF fun k hk aT=>ag.ev.kind av k hk);have e0:=J (ag.ab.a6 lD.out ak);clear eX eF ot)|(refine kZ rfl 31 (.tmp 77) (.tmp 75) rfl pr 1 180 _ (.slice bz (r.ev.length+1) ez) rfl rfl e0.ab av FA rfl ?_;intro uI bS bP dx))
      go_end0
      have eN:bh S [180] w3 uI:=bh.grown bP fun k hk _=>by injection hk with hk;subst hk;exact ⟨e0.ins,.inr ⟨_,_,_,e0.ab,av⟩⟩
      have hlen:(r.ev++[(⟨5,f1,1,0⟩:cP)]).length=r.ev.length+1:=av;have ee:b7 w3 S 51 dA (.slice bz (r.ev++[(⟨5,f1,1,0⟩:cP)]).length ez) (r.ev++[(⟨5,f1,1,0⟩:cP)]):=by
       rw [hlen];refine ⟨cD.1,fun k hk=>?_⟩;have gP:(Value.slice bz (r.ev.length + [(⟨5,f1,1,0⟩:cP)].length) ez).ownBlock=some k:=hk
       rcases cD.2.2 with e|e
       ·rw [e] at gP;exact ag.ev.ins k gP
       ·rw [e] at gP;injection gP with gP;subst gP;exact aP.gJ _ aq.size
      have BS:bh S iL (bU.alloc (.cells #[.i 5,.string f1,.i 1,.i 0] 51)) uI:=(lD.mono av).trans (eN.mono av);rw [iE.out];refine ⟨rfl,⟨{ ay:=x.ay,g:={ x.g with el:=vZ,cx:=fU },eA:=bz,ec:=ez,hA:=x.hA,hc:=x.hc },⟨rfl,rfl,rfl,rfl,rfl⟩,⟨⟨?_,e0.ins⟩,ee.a6 eN ak,(ag.fM.a6 lD ak).a6 eN ak,(ag.au.a6 lD ak ak ak ak ak).a6 eN ak ak ak ak ak,(ag.eh.a6 lD ak ak ak ak).a6 eN ak ak ak ak⟩⟩,aq.trans BS⟩
      show ar uI pr 180 #[_,.slice bz (r.ev++[(⟨5,f1,1,0⟩:cP)]).length ez,_,_,_,_]
      rw [hlen];exact bS
   ·cases hp:r.gl
    ·have iE:Hid (r.j9=r.mh 0 3):=by show _=_;rw [bq.out];exact Rd.MW hp
     clear hp;go_wp2_with fail
     go_roundw
     case rel=>exact ⟨3,af,cm,iE.out,ag.out,aq.out⟩
     case measure=>exact ef
    ·have zJ:Hid (r.BQ 2=true):=hp
     clear hp;go_wp2_with fail;obtain ⟨wd,aG⟩:=aE wr.drew;have bf:Below wr.heap.size wr wd:=by rw [<- aG];exact (aO _ _).drew
     have ag:=J (ag.below bf);have aq:=J (aq.below bf);clear bf;refine wp_region_held_drew (S:=fun w'=>w'.cell? ⟨pr,0,none⟩=some (.pointer (some ⟨x.ay,0,none⟩))/\w'.cell? ⟨x.ay,14,none⟩=some (.slice x.g.el r.a.ax.length x.g.cx)/\w'.cell? ⟨x.ay,22,none⟩=some (.i r.a.time)/\w'.cell? ⟨x.ay,23,none⟩=some (.i r.a.v0)/\w'.cell? ⟨x.ay,24,none⟩=some (.i r.a.v1)/\w'.cell? ⟨x.ay,25,none⟩=some (.i r.a.v2)/\w'.cell? ⟨x.ay,26,none⟩=some (.slice x.g.jW r.a.uses.length x.g.uc)) ai (by rw [aG];exact (ae (ag.ab.ab.cell 0) (ae (ag.au.ab.ab.cell 14) (ae (ag.au.ab.ab.cell 22) (ae (ag.au.ab.ab.cell 23) (ae (ag.au.ab.ab.cell 24) (ae (ag.au.ab.ab.cell 25) (ag.au.ab.ab.cell 26)))))))) (fun hHeld=>?_);rw [aG] at hHeld ⊢
     clear aG;refine aj 0 ?_;refine aj 1 ?_;refine aj 2 ?_;refine aj 3 ?_;refine aj 4 ?_;refine aj 5 ?_;refine aj 6 ?_;refine aj 7 ?_;refine aj 8 ?_;refine aj 9 ?_;refine aj 10 ?_;refine aj 11 ?_;refine aj 12 ?_;refine aj 13 ?_;refine aj 14 ?_;refine aj 15 ?_;refine dR 16 44 rfl rfl ai aH (fun K hK=>?_);go_simp;refine (Lh 2 ak r.a.ax x.g.el x.g.cx ⟨r.a.time,r.a.v0,r.a.v1,r.a.v2,x.g.jW,r.a.uses,x.g.uc⟩ wd ag.au.rows.uses.cZ xQ.1 xQ.2 ag.au.rows.ax.cZ fE.1 (fun z bI=>cj.a.MZ bI)).mono ?_;rintro sj bc ⟨f1,f2,zK,rfl,dI⟩;have qA:=J (M0 zK);have ag:=J (ag.below dI);have aq:=J (aq.below dI);clear dI zK;have hHeld:=(ae (ag.ab.ab.cell 0) (ae (ag.au.ab.ab.cell 14) (ae (ag.au.ab.ab.cell 22) (ae (ag.au.ab.ab.cell 23) (ae (ag.au.ab.ab.cell 24) (ae (ag.au.ab.ab.cell 25) (ag.au.ab.ab.cell 26)))))))
     refine hK _ _ hHeld ?_;clear hK K;simp only [Act.put,aY,aZ,a1];refine aj 17 ?_;refine aj 18 ?_;refine aj 19 ?_;refine aj 20 ?_;refine aj 21 ?_;refine wpAnyH_done ai ?_ _;clear hHeld
     cases f2
     ·have iE:Hid (r.j9=r.mh 0 3):=by show _=_;rw [bq.out];refine Rd.MX zJ.out ?_;show (if (firstT (j4 2 r.a.ax r.a.uses)).2=true then _ else none)=none;rw [qA.out];rfl
      go_wp2_with fail
      go_roundw
      case rel=>exact ⟨3,af,cm,iE.out,ag.out,aq.out⟩
      case measure=>exact ef
     ·have ha:ij r.a.ax f1=true:=by
       have h1:(firstT (j4 2 r.a.ax r.a.uses)).2=true:=by rw [qA.out]
       obtain ⟨e,he,ah,_⟩:=IV h1;rw [qA.out] at ah
       rw [<- show e.aa.id=f1 from ah];exact Fy cj.a.iq he
      have iE:Hid (r.j9 = { r with a:={ r.a with ax:=og r.a.ax (dQ r.a.ax f1) },ev:=r.ev++[⟨5,f1,2,0⟩] }):=by show _=_;rw [bq.out];exact Rd.MY zJ.out (Rd.Ik (k:=((2:Nat):Int)) qA)
      obtain ⟨rb,Fz⟩:=yG ha;have uH:Hid (og r.a.ax (dQ r.a.ax f1)=fZ r.a.ax ⟨r.a.ax[dQ r.a.ax f1].aa,3⟩):=by show _=_;unfold og;rw [dF rb]
      rw [uH.out] at iE
      have kk:=ag.cells.1;have q9:bc.cell? ⟨x.ay,13,none⟩=some (.i r.a.rd):=ag.au.ab.ab.cell 13;have sy:bc.cell? ⟨x.ay,14,none⟩=some (.slice x.g.el r.a.ax.length x.g.cx):=ag.au.ab.ab.cell 14;have tX:bc.cell? ⟨x.ay,15,none⟩=some (.bool r.a.aU):=ag.au.ab.ab.cell 15;have tY:bc.cell? ⟨x.ay,16,none⟩=some (.bool r.a.aL):=ag.au.ab.ab.cell 16;have tZ:bc.cell? ⟨x.ay,17,none⟩=some (.bool r.a.aS):=ag.au.ab.ab.cell 17;go_wp2_with fail;refine (KY (i:=dQ r.a.ax f1) (v:=true) (by unfold CR;rw [bB ha]) r.a.rd x.g.el x.g.cx r.a.aU r.a.aL r.a.aS bc ag.au.rows.ax.cZ (by have:=fE.1;omega) fE.2).mono ?_;rintro pD bm ⟨rfl,cV⟩;have ag:=J (ag.below cV);have aq:=J (aq.below cV);clear cV kk q9 sy tX tY tZ Fz;have kk:=ag.cells.1;go_wp2_with fail;refine (LZ (aP.size aq.size) ag.au cj.a (dQ r.a.ax f1) rb).mono ?_;rintro Tx bU ⟨rfl,⟨vZ,fU,zL⟩,ma⟩;have ag:=J (ag.agent ma zL rfl);have aq:=J (aq.trans (ma.mono av));clear zL ma kk;have zM:=ag.cells.2.1;have pP:Below bU.heap.size bU (bU.alloc (.cells #[.i 5,.string f1,.i 2,.i 0] 51)):=(aO _ _).alloc aF _;have ag:=J (ag.below pP);have aq:=J (aq.below pP);have BR:=J (show a7 (bU.alloc (.cells #[.i 5,.string f1,.i 2,.i 0] 51)) dA (some ⟨bU.heap.size,0,none⟩) [(⟨5,f1,2,0⟩:cP)] from a7.made bU dA [(⟨5,f1,2,0⟩:cP)] 51 #[.i 5,.string f1,.i 2,.i 0] (0,0) rfl);clear pP
      go_wp2_with (first|(at_builtin;refine hW sA dA rfl (.tmp 70) (.tmp 74) rfl 0 _ r.ev rfl ag.ev.own _ [(⟨5,f1,2,0⟩:cP)] 1 rfl BR.out (by have:=iW.out;simp;omega) (by have:=iW.out;simp;omega) (p3 _) ?_;intro bz ez w3 eX eF ot;have cD:=J (ae eX (ae eF ot));have lD:=J (show bh S [51] (bU.alloc (.cells #[.i 5,.string f1,.i 2,.i 0] 51)) w3 from bh.grown eF fun k hk aT=>ag.ev.kind av k hk);have e0:=J (ag.ab.a6 lD.out ak);clear eX eF ot)|(refine kZ rfl 31 (.tmp 77) (.tmp 75) rfl pr 1 180 _ (.slice bz (r.ev.length+1) ez) rfl rfl e0.ab av FA rfl ?_;intro uI bS bP dx))
      go_end0
      have eN:bh S [180] w3 uI:=bh.grown bP fun k hk _=>by injection hk with hk;subst hk;exact ⟨e0.ins,.inr ⟨_,_,_,e0.ab,av⟩⟩
      have hlen:(r.ev++[(⟨5,f1,2,0⟩:cP)]).length=r.ev.length+1:=av;have ee:b7 w3 S 51 dA (.slice bz (r.ev++[(⟨5,f1,2,0⟩:cP)]).length ez) (r.ev++[(⟨5,f1,2,0⟩:cP)]):=by
       rw [hlen];refine ⟨cD.1,fun k hk=>?_⟩;have gP:(Value.slice bz (r.ev.length + [(⟨5,f1,2,0⟩:cP)].length) ez).ownBlock=some k:=hk
       rcases cD.2.2 with e|e
       ·rw [e] at gP;exact ag.ev.ins k gP
       ·rw [e] at gP;injection gP with gP;subst gP;exact aP.gJ _ aq.size
      have BS:bh S iL (bU.alloc (.cells #[.i 5,.string f1,.i 2,.i 0] 51)) uI:=(lD.mono av).trans (eN.mono av);rw [iE.out];refine ⟨rfl,⟨{ ay:=x.ay,g:={ x.g with el:=vZ,cx:=fU },eA:=bz,ec:=ez,hA:=x.hA,hc:=x.hc },⟨rfl,rfl,rfl,rfl,rfl⟩,⟨⟨?_,e0.ins⟩,ee.a6 eN ak,(ag.fM.a6 lD ak).a6 eN ak,(ag.au.a6 lD ak ak ak ak ak).a6 eN ak ak ak ak ak,(ag.eh.a6 lD ak ak ak ak).a6 eN ak ak ak ak⟩⟩,aq.trans BS⟩
      show ar uI pr 180 #[_,.slice bz (r.ev++[(⟨5,f1,2,0⟩:cP)]).length ez,_,_,_,_]
      rw [hlen];exact bS
   ·go_wp2_with fail
    go_end0
    rw [bq.out];exact ⟨rfl,⟨x,fT.same.refl x,ag.out⟩,aq.out⟩
 ·have bq:Hid (r.j9=r):=by show _=_;rw [Rd.MV,he];rfl
  clear he;go_wp2_with fail
  go_end0
  rw [bq.out];exact ⟨rfl,⟨x,fT.same.refl x,ag.out⟩,aq.out⟩
end
end Go.Proofs.YtmmchlfoplcnbaaGreatDoor
