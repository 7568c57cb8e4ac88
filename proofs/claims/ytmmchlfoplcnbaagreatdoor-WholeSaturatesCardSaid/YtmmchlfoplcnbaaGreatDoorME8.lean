/- A part of the walk. -/
import Derived.Test.YtmmchlfoplcnbaaGreatDoorME7
import Derived.Test.YtmmchlfoplcnbaaGreatDoorME1
import Derived.Test.YtmmchlfoplcnbaaGreatDoorME5
namespace Go.Proofs.YtmmchlfoplcnbaaGreatDoor
open Go Go.RowKit Tryz
set_option linter.all false
set_option maxRecDepth 100000
set_option maxHeartbeats 4000000
section
variable {S cn:Nat->Prop} {ts:List TypeId} {w w':World} {ay aJ v:Nat} {q:bL} {r r':jB} {a a':bD} {o:bA} {fs:di}
theorem fG.fresh (h:fG q a):fG q { a with fresh:=false }:=⟨h.r,h.w,h.f,h.sl,h.s,h.k,h.t,h.v,h.uG,h.us,h.DH⟩
theorem V3 (what kind:Int):∀ (l:List ByteArray) (r:Rd),(l.foldl (Rd.gY q what kind) r).dc=r.dc/\(l.foldl (Rd.gY q what kind) r).holds=r.holds
 | [],r=>⟨rfl,rfl⟩
 | x :: l,r=>by
  rw [oP];obtain ⟨h1,ah⟩:=V3 what kind l (r.gY q what kind x);rw [h1,ah];unfold Rd.gY;simp only
  split <;> exact ⟨rfl,rfl⟩
theorem ajf (r:Rd):(r.mZ q).dc=r.dc/\(r.mZ q).holds=r.holds:=by
 unfold Rd.mZ;obtain ⟨h1,ah⟩:=V3 (q:=q) 4 13 (Bn ({ r with o:=r.o.lv (hE r.a.ax) r.a.rd }:Rd).o.boxes (gh r.a.ax) (if r.dc=true then 0 else q.dead)) ({ r with o:=r.o.lv (hE r.a.ax) r.a.rd }:Rd);exact ⟨h1,ah⟩
theorem ajg (h:eY S w ay q r a) (hw:eO S w r.bH q.ret o) (hs:dw S w):e6 S (w.alloc (.cells #[.pointer (some ⟨ay,0,none⟩),.slice none 0 0,.slice none 0 0,.bool false,.bool false,.bool false] 180)) w.heap.size q ⟨ay,r,none,0,none,0⟩ ⟨a,o,[],[],false,false,false⟩/\Below w.heap.size w (w.alloc (.cells #[.pointer (some ⟨ay,0,none⟩),.slice none 0 0,.slice none 0 0,.bool false,.bool false,.bool false] 180)):=by
 have bX:Below w.heap.size w (w.alloc (.cells #[.pointer (some ⟨ay,0,none⟩),.slice none 0 0,.slice none 0 0,.bool false,.bool false,.bool false] 180)):=(aO _ _).alloc aF _;exact ⟨⟨⟨ar.new w 180 #[.pointer (some ⟨ay,0,none⟩),.slice none 0 0,.slice none 0 0,.bool false,.bool false,.bool false],hs.gJ _ aF⟩,b7.e8 _ _ _ _,b7.e8 _ _ _ _,h.below bX,hw.below bX⟩,bX⟩
def IL (q:bL) (a:bD) (o:bA):Prop:=((⟨{ a with rd:=a.rd+1 },o,[],[],false,false,false⟩:Rd).signals q).dc=false
theorem ad7 (hs:dw S w) (bd:q.Ok) (h:eY S w ay q r a) (hd:jC S w r.ps aJ fs v) (hw:eO S w r.bH q.ret o) (bi:fG q a) {N:Nat} (DT:e2 N o) (b8:N<=80000) (gC:a.rd<nk) (hv:v<=100000000) (hf:r.gX = -1\/∃ k:Nat,k<=4/\r.gX=k) (lu:r.dead=false) (nl:IL q a o) :
  Calls prog 60 #[.pointer (some ⟨ay,0,none⟩)] w (oV S ay aJ q r fs v ((a.tick q o).1,(a.tick q o).2.2,0,true) (a.tick q o).2.1 w):=by
 have q9:w.cell? ⟨ay,13,none⟩=some (.i a.rd):=h.ab.ab.cell 13;have EY:w.cell? ⟨ay,29,none⟩=some (.bool false):=by have:=h.ab.ab.cell 29;rw [this];simp [lu]
 have ag:=J (ae h (ae hw hd));have gb:=J h.ab;have aP:=J hs;have ao:=J bd;have bF:=J (ae hv (ae hf lu));have V4:=J (c0.start bi DT gC);have alt:=J bi;have ow:=J b8;have cw:0<=a.rd:=bi.r.lI;have r1:a.rd<1099511627776:=gC;have kW:=J (ae cw r1);have ajh:decide (1099511627776<=a.rd)=false:=cX af;have V5:wrap64 (a.rd+1)=a.rd+1:=by unfold wrap64;omega
 clear h hs bd hd hw bi DT b8 gC hv hf lu
 go_enter func60,ntmps60
 go_wp2_with (refine kZ rfl 3 (.tmp 27) (.tmp 24) rfl ay 13 138 _ (.i (a.rd+1)) rfl (by simp [Act.eval,V5]) gb.ab av y7 rfl ?_;intro bc bS bP dx;have aq:=J (bh.box gb bP);have fH:=eY.put (r':=r) (a':={ a with rd:=a.rd+1 }) gb.out ⟨ag.1.rows.kj,ag.1.rows.ax,ag.1.rows.since,ag.1.rows.uses⟩ bS bP;have JU:=ajg fH.1 (ag.2.1.a6 aq ak ak ak ak) (aP.size aq.size);have V6:=J JU.1;have hT:=J ((ag.2.2.a6 aq ak ak ak ak ak).below JU.2);have lq:=J ((aq.mono (sI:=jc) (by simp [jc])).below JU.2);clear fH JU bS bP dx)
 clear q9 EY ajh V5;have ag:=V6;have aq:=lq;have ib:=J (fT.same.refl (⟨ay,r,none,0,none,0⟩:fT));clear V6 lq gb;obtain ⟨pr,eV⟩:=aE bc.heap.size;obtain ⟨w0,r4⟩:=aE (bc.alloc (.cells #[.pointer (some ⟨ay,0,none⟩),.slice none 0 0,.slice none 0 0,.bool false,.bool false,.bool false] 180));rw [r4] at ag aq hT ⊢
 rw [eV] at ag ⊢
 clear eV r4;obtain ⟨R1,lM⟩:=aE ((⟨{ a with rd:=a.rd+1 },o,[],[],false,false,false⟩:Rd).signals q);have OK:=J (V4.signals ao);rw [lM] at OK
 have bZ:=aiv (aP.size aq.size) ao.out ag.out V4.out (by simp only;have:=kW.out;omega);rw [lM] at bZ
 refine bZ.mono ?_;rintro e bm ⟨rfl,⟨um,hy,hm⟩,hc⟩;clear bZ;have ib:=J (ib.trans hy);have ag:=J hm;have aq:=J (aq.trans (hc.mono (by simp [jc])));have hT:=J (hT.a6 hc ak ak ak ak ak);have Ix:=J lM;clear hy hm hc lM;go_wp2_with fail;obtain ⟨V7,Cj⟩:=aE (R1.mZ q);have V8:=J (OK.mZ);rw [Cj] at V8
 have bZ:=ad1 (aP.size aq.size) ao.out ag.out OK.out (by have:=ow.out;omega) af;rw [Cj] at bZ
 refine bZ.mono ?_;rintro e bU ⟨rfl,⟨alu,hy,hm⟩,hc⟩;clear bZ;have ib:=J (ib.trans hy);have ag:=J hm;have aq:=J (aq.trans (hc.mono (by simp [jc])));have hT:=J (hT.a6 hc ak ak ak ak ak);have V9:=J Cj;clear hy hm hc Cj;go_wp2_with fail;have zf:V7.dc=false:=by rw [<- V9.out,(ajf R1).1,<- Ix.out];exact nl
 obtain ⟨R3,y1⟩:=aE (V7.nN q);have OL:=J (V8.nN);rw [y1] at OL
 have bZ:=afk (q:=q) ag.out zf;rw [y1] at bZ
 refine bZ.mono ?_;rintro e b3 ⟨rfl,⟨y3,hy,hm⟩,hc⟩;clear bZ;have ib:=J (ib.trans hy);have ag:=J hm;have aq:=J (aq.trans (hc.mono (by simp [jc])));have hT:=J (hT.a6 hc ak ak ak ak ak);have qL:=J y1;clear hy hm hc y1;clear zf;go_wp2_with fail;obtain ⟨xz,rC⟩:=aE R3.j9;have JV:=J (OL.j9);rw [rC] at JV
 have bZ:=aez (aP.size aq.size) ag.out OL.out (by have:=ow.out;omega) (by have:=ow.out;omega);rw [rC] at bZ
 refine bZ.mono ?_;rintro e dy ⟨rfl,⟨y4,hy,hm⟩,hc⟩;clear bZ;have ib:=J (ib.trans hy);have ag:=J hm;have aq:=J (aq.trans (hc.mono (by simp [jc])));have hT:=J (hT.a6 hc ak ak ak ak ak);have aji:=J rC;clear hy hm hc rC;have V':y4.ay=ay:=ib.1;have xx:dy.cell? ⟨ay,14,none⟩=some (.slice y4.g.el xz.a.ax.length y4.g.cx):=by rw [<- V'];exact ag.au.ab.ab.cell 14
 have hZ:=J JV.a.r.len;obtain ⟨L,eT⟩:=aE xz.a.ax;have n1:=J eT;rw [eT] at xx hZ
 clear V';go_wp2_with fail;refine (GK L y4.g.el y4.g.cx dy (by rw [<- eT];exact ag.au.rows.ax.cZ) (by have:=hZ.out;omega)).mono ?_;rintro e wl ⟨DC,MI,rfl,fM,du⟩;have qw:=J fM;have ag:=J (ag.below du);have aq:=J (aq.below du);have hT:=J (hT.below du);clear fM du xx eT;go_wp2_with fail
 go_loopw [46] (fun ii wr=>∃ (i:Nat) (y:fT),i<=L.length/\ii=.i i/\fT.same ⟨ay,r,none,0,none,0⟩ y/\e6 S wr pr q y ((L.take i).foldl (Rd.aa q) xz)/\bh S iL wl wr) (fun ii _=>L.length-(intOf ii).toNat)
 case atStart=>exact ⟨0,y4,af,rfl,ib.out,ag.out,bh.refl _ _ _⟩
 case round =>
  clear ag ib;have xL:=hZ.out;obtain ⟨i,y,hi,rfl,mE,hm,bZ⟩:=hrel;have ib:=J mE;have dN:=J bZ;have aq:=J (aq.trans (bZ.mono (by simp [jc])));have hT:=J (hT.a6 bZ ak ak ak ak ak);have DI:∀ e∈L,e∈xz.a.ax:=fun e he=>by rw [n1.out];exact he
  have tN:L.Pairwise fun x y=>x.aa.id≠y.aa.id:=by rw [<- n1.out];exact Uo JV.a.iq
  have mg:=J (c0.ND (q:=q) (L.take i) JV (fun e he=>DI e (Ez he)) (tN.sublist (List.take_sublist i L)));obtain ⟨R,hR⟩:=aE ((L.take i).foldl (Rd.aa q) xz);rw [hR] at hm mg
  have ag:=J hm;clear mE bZ hm DI tN
  by_cases aT:i<L.length
  ·have cg:decide ((i:Int)<(L.length:Int))=true:=bO af
   have kA:(i:Int)<(L.length:Int):=af;obtain ⟨b,off,hA,hcell⟩:=((qw.only dN fun k hk hx=>qw.wx ak k hk hx.2).cZ).jM aT;obtain ⟨e,zT⟩:=aE L[i];rw [zT] at hcell
   obtain ⟨_,bg,aX,ba,nD,sg,xk,Bd,Be,Bf,Bg,Bh,Bi⟩:=hcell;have cC:Hid ((L.take (i+1)).foldl (Rd.aa q) xz=R.aa q e):=by show _=_;rw [gS aT,vL,hR,zT];rfl
   rw [hA];have bX:Below wr.heap.size wr (wr.alloc (.cells #[.string ⟨#[]⟩,.i 0,.bool false,.i 0,.i 0,.i 0,.i 0,.i 0,.i 0,.string ⟨#[]⟩,.i 0,.i 0] 66)):=(aO _ _).alloc aF _;have df:=J bX;have E3:=J (ar.new wr 66 #[.string ⟨#[]⟩,.i 0,.bool false,.i 0,.i 0,.i 0,.i 0,.i 0,.i 0,.string ⟨#[]⟩,.i 0,.i 0]);clear hA zT bX hR
   go_wp2_with (refine ch rfl 66 (.tmp 6) (.tmp 49) rfl wr.heap.size 66 #[.string ⟨#[]⟩,.i 0,.bool false,.i 0,.i 0,.i 0,.i 0,.i 0,.i 0,.string ⟨#[]⟩,.i 0,.i 0] #[.string e.aa.id,.i e.aa.prio,.bool e.aa.bo,.i e.aa.bg,.i e.aa.aX,.i e.aa.ba,.i e.aa.bk,.i e.aa.bl,.i e.aa.aW,.string e.aa.bb,.i e.aa.size,.i e.phase] rfl rfl E3.out rfl ai cc ?_;intro bc bS bP dx;have dp:=J (df.grown bP df.size (by intro k hk;cases hk;exact e3 _));have ag:=J (ag.below dp);have aq:=J (aq.below dp);have dN:=J (dN.below dp);have h5:=bS.cell;clear bS bP dx bg aX ba nD sg xk Bd Be Bf Bg Bh Bi)
   clear h5;have HZ:=agW (aP.size aq.size) ag.out mg.out (by have:=ow.out;rw [fv];omega) (by have:=ow.out;rw [fv];omega) e;refine HZ.mono ?_;rintro bE bU ⟨rfl,⟨z,bI,N7⟩,Wa⟩;have cq:=J (ae bI (ae N7 (dN.trans Wa)));clear HZ bI N7 Wa;go_wp2_with fail
   go_roundw
   case rel =>
    refine ⟨i+1,z,af,cm,ib.trans cq.1,?_,cq.2.2⟩;rw [cC.out];exact cq.2.1
   case measure=>exact c4
  ·obtain rfl:i=L.length:=by omega
   have cg:decide ((L.length:Int)<(L.length:Int))=false:=av;rw [kn] at hR mg
   have Ds:=J hR;clear hR hi aT;go_wp2_with fail;obtain ⟨Cv,qj⟩:∃ R',R.lost q=R':=⟨_,rfl⟩
   have Wb:=J mg.lost;have bZ:=af9 (aP.size aq.size) ag.out mg.out (by have:=ow.out;omega) (by have:=ow.out;omega);rw [qj] at bZ Wb
   refine bZ.mono ?_;rintro e bU ⟨rfl,⟨y6,hy,hm⟩,hc⟩;have ib:=J (ib.trans hy);have ag:=J hm;have aq:=J (aq.trans (hc.mono (by simp [jc])));have hT:=J (hT.a6 hc ak ak ak ak ak);have vX:=J qj;have kW:Hid (a.round q o=Cv):=by
    show _=_
    unfold bD.round Rd.ax;rw [Ix.out,V9.out,qL.out,aji.out,n1.out,Ds.out,vX.out]
   clear bZ hy hm hc qj;have gb:Hid (cW bU S ay 138 (y6.g.cells q Cv.a)):=by show cW _ _ _ _ _;rw [show ay=y6.ay from ib.1.symm];exact ag.au.ab
   go_wp2_with (refine kZ rfl 4 (.tmp 58) (.const (.bool false)) rfl ay 27 138 _ (.bool false) rfl rfl gb.ab av DM rfl ?_;intro b3 cp bT dm;have fH:=eY.put (r':=y6.g) (a':={ Cv.a with fresh:=false }) gb.out ⟨ag.au.rows.kj,ag.au.rows.ax,ag.au.rows.since,ag.au.rows.uses⟩ cp bT;have Gl:=J fH;have dv:b3.cell? ⟨pr,1,none⟩=some (.slice y6.eA Cv.ev.length y6.ec):=(ag.ab.a6 fH.2 ak).ab.cell 1;clear cp bT dm fH)
   have ajj:=J (ag.ev.a6 Gl.2 ak);have ajk:=J (ag.eh.a6 Gl.2 ak ak ak ak);have ajl:=J (hT.a6 Gl.2 ak ak ak ak ak);have rF:=J (aq.trans (Gl.2.mono (by simp [jc])));have mW:y6.g.bH=r.bH/\y6.g.ps=r.ps/\y6.g.gX=r.gX/\y6.g.dead=r.dead:=ib.2;have xy:=RX (aP.size rF.size) Gl.1 (mW.2.1 ▸ ajl.out) ajk.out (fG.fresh Wb.a) bF.1 (mW.2.2.1 ▸ bF.2.1) (mW.2.2.2.trans bF.2.2) ajj.out 0;have LV:=J xy;have EK:=J mW;clear xy mW dv;refine LV.mono ?_;intro e dy sB;have LW:=sB.H5 rF.out ⟨EK.1,EK.2.1,EK.2.2.1⟩;obtain ⟨jV,jw,a8,ki,r',rfl,h1,ah,aw,bn,dk⟩:=LW;have bN:=J (ae h1 (ae ah (ae aw (ae bn dk))));clear sB h1 ah aw bn dk;go_wp2_with fail;refine cS (v:=.tuple #[.slice jV jw a8,.i ki]) (by simp [results,results60,go_sem]) rfl ?_;have ajm:a.tick q o=({ Cv.a with fresh:=false },Cv.o,Cv.ev):=by unfold bD.tick;rw [kW.out]
   rw [ajm];exact ⟨jV,jw,a8,ki,r',rfl,bN.1,bN.2.1,bN.2.2.1,bN.2.2.2.1,bN.2.2.2.2⟩
end
def ol {α:Type} {size:Nat} (S:Nat->Prop) (w:World) (E:cu α size) (A:Option Addr) (l:List α):Prop:=a7 w E A l/\(l≠[]->∀ b off,A=some ⟨b,off,none⟩->¬ S b)
section
variable {α:Type} {size:Nat} {E:cu α size} {S:Nat->Prop} {ts:List TypeId} {w w':World} {A:Option Addr} {l:List α}
theorem ol.below (h:ol S w E A l) (hb:Below w.heap.size w w'):ol S w' E A l:=⟨h.1.below hb,h.2⟩
theorem ol.a6 (h:ol S w E A l) (hc:bh S ts w w'):ol S w' E A l:=by
 refine ⟨fun hl=>?_,h.2⟩;obtain ⟨b,off,hA,aT,hcell⟩:=h.1 hl;have hn:=h.2 hl b off hA;exact ⟨b,off,hA,qb aT hc.size,fun j u hu=>(cB.cell hc aT fun hx=>hn hx.1).trans (hcell j u hu)⟩
theorem ol.e8 (S:Nat->Prop) (w:World) (E:cu α size) (A:Option Addr):ol S w E A ([]:List α):=⟨fun h=>absurd rfl h,fun h=>absurd rfl h⟩
end
structure uk where
 jW:Option Addr
 uc:Nat
 xN:Option Addr
 wc:Nat
 xO:Option Addr
 BN:Nat
abbrev jq (x:oh) (y:uk):Array Value:=#[.i x.kind,.string x.aa.id,.i x.aa.prio,.bool x.aa.bo,.i x.aa.bg,.i x.aa.aX,.i x.aa.ba,.i x.aa.bk,.i x.aa.bl,.i x.aa.aW,.string x.aa.bb,.i x.aa.size,.string x.id,.i x.t,.float .f64 x.f0,.float .f64 x.f1,.float .f64 x.f2,.slice y.jW x.uses.length y.uc,.slice y.xN x.dS.length y.wc,.i x.steps,.slice y.xO x.keep.length y.BN]
structure kE (S:Nat->Prop) (w:World) (x:oh) (y:uk):Prop where
 p:x.aa.fe
 f0:x.f0<18446744073709551616
 f1:x.f1<18446744073709551616
 f2:x.f2<18446744073709551616
 t:c' x.t
 us:ol S w yL y.jW x.uses
 yM:∀ g∈x.uses,g.fe
 IU:∀ g∈x.uses,g.id.size<=9223372036854775807
 uG:x.uses.length<=y.uc
 uc:y.uc<=9223372036854775807
 ok:x.ok=true↔q5 ⟨x.t,x.f0,x.f1,x.f2,y.jW,x.uses,y.uc⟩
 we:ol S w xe y.xN x.dS
 wp:Plain y.xN
 wl:x.dS.length<=1000000000
 MT:ol S w qP y.xO x.keep
 Fx:Plain y.xO
 MU:x.keep.length<=1000
section
variable {S:Nat->Prop} {ts:List TypeId} {w w':World} {x:oh} {y:uk}
theorem kE.below (h:kE S w x y) (hb:Below w.heap.size w w'):kE S w' x y:=⟨h.p,h.f0,h.f1,h.f2,h.t,h.us.below hb,h.yM,h.IU,h.uG,h.uc,h.ok,h.we.below hb,h.wp,h.wl,h.MT.below hb,h.Fx,h.MU⟩
theorem kE.a6 (h:kE S w x y) (hc:bh S ts w w'):kE S w' x y:=⟨h.p,h.f0,h.f1,h.f2,h.t,h.us.a6 hc,h.yM,h.IU,h.uG,h.uc,h.ok,h.we.a6 hc,h.wp,h.wl,h.MT.a6 hc,h.Fx,h.MU⟩
theorem kE.raw (h:kE S w x y):gH.fe ⟨x.t,x.f0,x.f1,x.f2,y.jW,x.uses,y.uc⟩ w:=⟨h.f0,h.f1,h.f2,h.t,h.us.1,h.yM,h.IU,h.uG,h.uc⟩
end
def wB (fs:di) (s:Option o4) (ew:Nat):Prop:=fs qp=none/\fs uf=s.map fun s=>k0 ew (AO s.rd s.aU s.aL s.aS s.ax)
def uF (S:Nat->Prop) (w:World) (v:Value):Option (Int×List Int)->Prop
 | none=>v=.pointer none
 | some (s,k)=>∃ cx A c,v=.pointer (some ⟨cx,0,none⟩)/\cW w S cx 94 #[.int .i64 s,.slice A k.length c]/\b7 w S 3 qP (.slice A k.length c) k/\k.length<=1000
structure rj where
 xP:Option Addr
 tc:Nat
 aJ:Nat
 ay:Nat
 g:jB
 fs:di
 note:Value
abbrev uz (q:bL) (z:rj):Array Value:=#[.slice z.xP q.text.length z.tc,.pointer (some ⟨z.aJ,0,none⟩),.pointer (some ⟨z.g.bH,0,none⟩),.pointer (some ⟨z.ay,0,none⟩),z.note]
structure hG (S:Nat->Prop) (w:World) (pn:Nat) (q:bL) (z:rj) (n:fO):Prop where
 ab:cW w S pn 99 (uz q z)
 text:b7 w S 5 cO (.slice z.xP q.text.length z.tc) q.text
 zF:l' S w z.ay z.aJ q z.g n.a n.o z.fs n.ew
 uA:z.g.gX = -1
 dd:z.g.dead=false
 BM:wB z.fs n.sv n.ew
 note:uF S w z.note n.pN
structure jo (q:bL) (N V:Nat) (n:fO):Prop where
 a:fG q n.a
 o:e2 N n.o
 sv:n.a.sv=NV n.sv
 v:n.ew<=V
 rd:n.a.rd<=V
abbrev nJ:List TypeId:=[180,138,51,131,75,161,187,4,99,wo]
section
variable {S cn:Nat->Prop} {ts:List TypeId} {w w':World} {pn:Nat} {q:bL} {z:rj} {n:fO}
theorem uF.below {v:Value} {o:Option (Int×List Int)} (h:uF S w v o) (hb:Below w.heap.size w w'):uF S w' v o:=by
 cases o with
 | none=>exact h
 | some x =>
  obtain ⟨cx,A,c,h1,ah,aw,bn⟩:=h;exact ⟨cx,A,c,h1,ah.below hb,aw.below hb,bn⟩
theorem uF.a6 {v:Value} {o:Option (Int×List Int)} (h:uF S w v o) (hc:bh cn ts w w') (aI:94∉ts) (h1:3∉ts):uF S w' v o:=by
 cases o with
 | none=>exact h
 | some x =>
  obtain ⟨cx,A,c,aV,bE,cG,po⟩:=h;exact ⟨cx,A,c,aV,bE.a6 hc aI,cG.a6 hc h1,po⟩
theorem hG.below (h:hG S w pn q z n) (hb:Below w.heap.size w w'):hG S w' pn q z n:=⟨h.ab.below hb,h.text.below hb,h.zF.below hb,h.uA,h.dd,h.BM,h.note.below hb⟩
theorem hG.cells (h:hG S w pn q z n):w.cell? ⟨pn,0,none⟩=some (.slice z.xP q.text.length z.tc)/\w.cell? ⟨pn,1,none⟩=some (.pointer (some ⟨z.aJ,0,none⟩))/\w.cell? ⟨pn,2,none⟩=some (.pointer (some ⟨z.g.bH,0,none⟩))/\w.cell? ⟨pn,3,none⟩=some (.pointer (some ⟨z.ay,0,none⟩))/\w.cell? ⟨pn,4,none⟩=some z.note:=⟨h.ab.ab.cell 0,h.ab.ab.cell 1,h.ab.ab.cell 2,h.ab.ab.cell 3,h.ab.ab.cell 4⟩
theorem hG.MS (h:hG S w pn q z n) {v:Value} {o:Option (Int×List Int)} (hn:uF S w v o) (hb:ar w' pn 99 (uz q { z with note:=v })) (az:w.grownBy w' (some pn)):hG S w' pn q { z with note:=v } { n with pN:=o }/\bh S [99] w w':=by
 have hc:=bh.box h.ab az;exact ⟨⟨⟨hb,h.ab.ins⟩,h.text.a6 hc ak,h.zF.a6 hc ak,h.uA,h.dd,h.BM,hn.a6 hc ak ak⟩,hc⟩
end
theorem wB.start:wB (fun _=>none) none 0:=⟨rfl,rfl⟩
theorem wB.save (fs:di) (ew:Nat) (a:bD):wB (lS fs (k0 (ew+1) a.bytes) 4).1 (some a.sv) (ew+1):=by
 have ht:qp≠uf:=ak;unfold wB lS nb;simp [IM,Bk,di.put,bD.bytes,bD.sv,ht]
structure sK (S:Nat->Prop) (w:World) (lB ey pn:Nat) (q:bL) (z:rj) (x:oh) (y:uk):Prop where
 lB:cW w S lB 28 #[.pointer (some ⟨pn,0,none⟩)]
 ey:cW w S ey 49 (jq x y)
 sL:cW w S pn 99 (uz q z)
section
variable {S cn:Nat->Prop} {ts:List TypeId} {w w':World} {lB ey pn ay aJ v:Nat} {q:bL} {z:rj} {n:fO} {x:oh} {y:uk} {r:jB} {a:bD} {o:bA} {fs:di}
theorem sK.below (h:sK S w lB ey pn q z x y) (hb:Below w.heap.size w w'):sK S w' lB ey pn q z x y:=⟨h.lB.below hb,h.ey.below hb,h.sL.below hb⟩
theorem sK.a6 (h:sK S w lB ey pn q z x y) (hc:bh cn ts w w') (h1:28∉ts) (ah:49∉ts) (aw:99∉ts):sK S w' lB ey pn q z x y:=⟨h.lB.a6 hc h1,h.ey.a6 hc ah,h.sL.a6 hc aw⟩
theorem Im (h:x.kind=1):fu q n.a n.o x=⟨(n.a.CV q x.aa).1,n.o,(n.a.CV q x.aa).2.1,(n.a.CV q x.aa).2.2.1,(n.a.CV q x.aa).2.2.2⟩:=by unfold fu;rw [bB h]
theorem ad3 (h:x.kind=2):fu q n.a n.o x=⟨(n.a.delete x.id).1,n.o,(n.a.delete x.id).2.1,(n.a.delete x.id).2.2.1,(n.a.delete x.id).2.2.2⟩:=by unfold fu;rw [bp af,bB h]
theorem L' (h:x.kind=3):fu q n.a n.o x=⟨(n.a.tick q n.o).1,(n.a.tick q n.o).2.1,(n.a.tick q n.o).2.2,0,true⟩:=by unfold fu;rw [bp af,bp af,bB h]
theorem Ma (h:x.kind=4):fu q n.a n.o x=⟨(n.a.lU q x.t x.f0 x.f1 x.f2 x.uses x.ok).1,n.o,[],(n.a.lU q x.t x.f0 x.f1 x.f2 x.uses x.ok).2,false⟩:=by unfold fu;rw [bp af,bp af,bp af,bB h]
theorem ad4 (h:x.kind=5):fu q n.a n.o x=if 4096<n.o.q.length+x.dS.length then ⟨n.a,n.o,[],6,false⟩ else ⟨n.a,{ n.o with q:=n.o.q++x.dS },[],0,false⟩:=by unfold fu;rw [bp af,bp af,bp af,bp af]
theorem oV.a6 {x:bD×List cP×Int×Bool} {e:Ending} (h:oV S ay aJ q r fs v x o w e w'):bh S jc w w':=by
 obtain ⟨_,_,_,_,_,_,_,_,_,h,_⟩:=h;exact h
theorem ad5 (hk:x.kind=1) (hs:dw S w) (bd:q.Ok) (hb:sK S w lB ey pn q z x y) (hx:l' S w z.ay z.aJ q z.g n.a n.o z.fs n.ew) (ha:kE S w x y) {N V:Nat} (bi:jo q N V n) (b8:N<=80000) (h2:V<=100000) (hf:z.g.gX = -1\/∃ k:Nat,k<=4/\z.g.gX=k) (lu:z.g.dead=false) :
  Calls prog 55 #[.pointer (some ⟨lB,0,none⟩),.pointer (some ⟨ey,0,none⟩)] w (oV S z.ay z.aJ q z.g z.fs n.ew ((fu q n.a n.o x).a,(fu q n.a n.o x).ev,(fu q n.a n.o x).err,(fu q n.a n.o x).nj) (fu q n.a n.o x).o w):=by
 have mixed:prog.follows Departure.mixedOrders=true:=ai;have aA:=J hb;have aB:=J hx;have dC:=J ha;have aP:=J hs;have ao:=J bd;have cj:=J bi;have wA:=J (show n.ew<=100000000/\(z.g.gX = -1\/∃ k:Nat,k<=4/\z.g.gX=k)/\z.g.dead=false from ⟨by have:=bi.v;omega,hf,lu⟩);have kW:=J (show n.a.rd<nk/\N<=80000 by have:=bi.rd;simp only [nk];omega);have bq:=J (Im (q:=q) (n:=n) hk);have aq:=J (bh.refl S jc w);clear hk hs bd hb hx ha bi b8 h2 hf lu
 go_enter func55,ntmps55
 go_wp2_with fail;obtain ⟨wd,aG⟩:=aE w.drew;have bf:Below w.heap.size w wd:=by rw [<- aG];exact (aO _ _).drew
 have aA:=J (aA.below bf);have aB:=J (aB.below bf);have dC:=J (dC.below bf);have aq:=J (aq.below bf);clear bf;refine wp_region_held_drew (S:=fun w'=>w'.cell? ⟨lB,0,none⟩=some (.pointer (some ⟨pn,0,none⟩))/\w'.cell? ⟨pn,3,none⟩=some (.pointer (some ⟨z.ay,0,none⟩))/\w'.cell? ⟨ey,1,none⟩=some (.string x.aa.id)/\w'.cell? ⟨ey,2,none⟩=some (.i x.aa.prio)/\w'.cell? ⟨ey,3,none⟩=some (.bool x.aa.bo)/\w'.cell? ⟨ey,4,none⟩=some (.i x.aa.bg)/\w'.cell? ⟨ey,5,none⟩=some (.i x.aa.aX)/\w'.cell? ⟨ey,6,none⟩=some (.i x.aa.ba)/\w'.cell? ⟨ey,7,none⟩=some (.i x.aa.bk)/\w'.cell? ⟨ey,8,none⟩=some (.i x.aa.bl)/\w'.cell? ⟨ey,9,none⟩=some (.i x.aa.aW)/\w'.cell? ⟨ey,10,none⟩=some (.string x.aa.bb)/\w'.cell? ⟨ey,11,none⟩=some (.i x.aa.size)) ai (by rw [aG];exact (ae (aA.lB.ab.cell 0) (ae (aA.sL.ab.cell 3) (ae (aA.ey.ab.cell 1) (ae (aA.ey.ab.cell 2) (ae (aA.ey.ab.cell 3) (ae (aA.ey.ab.cell 4) (ae (aA.ey.ab.cell 5) (ae (aA.ey.ab.cell 6) (ae (aA.ey.ab.cell 7) (ae (aA.ey.ab.cell 8) (ae (aA.ey.ab.cell 9) (ae (aA.ey.ab.cell 10) (aA.ey.ab.cell 11)))))))))))))) (fun hHeld=>?_);rw [aG] at hHeld ⊢
 clear aG;refine aj 0 ?_;refine aj 1 ?_;refine aj 2 ?_;refine aj 3 ?_;refine aj 4 ?_;refine aj 5 ?_;refine dR 6 10 rfl rfl ai aH (fun K hK=>?_);go_simp;refine (abT (aP.size aq.size) aB cj.a wA.1 wA.2.1 wA.2.2 x.aa dC.p).mono ?_;intro e w3 sB;have kd:=sB.a6;obtain ⟨jV,jw,a8,ki,r',rfl,h1,ah,aw,bn,dk⟩:=sB.H5 aq.out ⟨rfl,rfl,rfl⟩;have bN:=J (ae h1 (ae ah (ae aw (ae bn dk))));have aA:=J (aA.a6 kd ak ak ak);clear sB kd h1 ah aw bn dk;have hHeld:=(ae (aA.lB.ab.cell 0) (ae (aA.sL.ab.cell 3) (ae (aA.ey.ab.cell 1) (ae (aA.ey.ab.cell 2) (ae (aA.ey.ab.cell 3) (ae (aA.ey.ab.cell 4) (ae (aA.ey.ab.cell 5) (ae (aA.ey.ab.cell 6) (ae (aA.ey.ab.cell 7) (ae (aA.ey.ab.cell 8) (ae (aA.ey.ab.cell 9) (ae (aA.ey.ab.cell 10) (aA.ey.ab.cell 11)))))))))))))
 refine hK _ _ hHeld ?_;clear hK K;simp only [Act.put,aY,aZ,a1];refine aj 7 ?_;refine aj 8 ?_;refine aj 9 ?_;refine aj 10 ?_;refine wpAnyH_done ai ?_ _;clear hHeld;go_wp2_with fail;refine cS (v:=.tuple #[.slice jV jw a8,.i ki]) (by simp [results,results55,go_sem]) rfl ?_;rw [bq.out];exact ⟨jV,jw,a8,ki,r',rfl,bN.1,bN.2.1,bN.2.2.1,bN.2.2.2.1,bN.2.2.2.2⟩
theorem ad6 (hk:x.kind=3) (hs:dw S w) (bd:q.Ok) (hb:sK S w lB ey pn q z x y) (hx:l' S w z.ay z.aJ q z.g n.a n.o z.fs n.ew) (ha:kE S w x y) {N V:Nat} (bi:jo q N V n) (b8:N<=80000) (h2:V<=100000) (hf:z.g.gX = -1\/∃ k:Nat,k<=4/\z.g.gX=k) (lu:z.g.dead=false) (nl:IL q n.a n.o) :
  Calls prog 59 #[.pointer (some ⟨lB,0,none⟩)] w (oV S z.ay z.aJ q z.g z.fs n.ew ((fu q n.a n.o x).a,(fu q n.a n.o x).ev,(fu q n.a n.o x).err,(fu q n.a n.o x).nj) (fu q n.a n.o x).o w):=by
 have mixed:prog.follows Departure.mixedOrders=true:=ai;have aA:=J hb;have aB:=J hx;have dC:=J ha;have aP:=J hs;have ao:=J bd;have cj:=J bi;have wA:=J (show n.ew<=100000000/\(z.g.gX = -1\/∃ k:Nat,k<=4/\z.g.gX=k)/\z.g.dead=false from ⟨by have:=bi.v;omega,hf,lu⟩);have kW:=J (show n.a.rd<nk/\N<=80000 by have:=bi.rd;simp only [nk];omega);have bq:=J (L' (q:=q) (n:=n) hk);have aq:=J (bh.refl S jc w);clear hk hs bd hb hx ha bi b8 h2 hf lu
 go_enter func59,ntmps59
 have cz:w.cell? ⟨lB,0,none⟩=some (.pointer (some ⟨pn,0,none⟩)):=aA.lB.ab.cell 0;have fP:w.cell? ⟨pn,3,none⟩=some (.pointer (some ⟨z.ay,0,none⟩)):=aA.sL.ab.cell 3;go_wp2_with fail;refine (ad7 aP ao aB.au aB.st aB.eh cj.a cj.o kW.2 kW.1 wA.1 wA.2.1 wA.2.2 nl).mono ?_;intro e w3 sB;obtain ⟨jV,jw,a8,ki,r',rfl,h1,ah,aw,bn,dk⟩:=sB.H5 aq.out ⟨rfl,rfl,rfl⟩;have bN:=J (ae h1 (ae ah (ae aw (ae bn dk))));clear sB h1 ah aw bn dk cz fP
 skip
 go_wp2_with fail;refine cS (v:=.tuple #[.slice jV jw a8,.i ki]) (by simp [results,results59,go_sem]) rfl ?_;rw [bq.out];exact ⟨jV,jw,a8,ki,r',rfl,bN.1,bN.2.1,bN.2.2.1,bN.2.2.2.1,bN.2.2.2.2⟩
theorem ad8 (hk:x.kind=4) (hs:dw S w) (bd:q.Ok) (hb:sK S w lB ey pn q z x y) (hx:l' S w z.ay z.aJ q z.g n.a n.o z.fs n.ew) (ha:kE S w x y) {N V:Nat} (bi:jo q N V n) (b8:N<=80000) (h2:V<=100000) (hf:z.g.gX = -1\/∃ k:Nat,k<=4/\z.g.gX=k) (lu:z.g.dead=false) :
  Calls prog 61 #[.pointer (some ⟨lB,0,none⟩),.pointer (some ⟨ey,0,none⟩)] w (oV S z.ay z.aJ q z.g z.fs n.ew ((fu q n.a n.o x).a,(fu q n.a n.o x).ev,(fu q n.a n.o x).err,(fu q n.a n.o x).nj) (fu q n.a n.o x).o w):=by
 have mixed:prog.follows Departure.mixedOrders=true:=ai;have aA:=J hb;have aB:=J hx;have dC:=J ha;have aP:=J hs;have ao:=J bd;have cj:=J bi;have wA:=J (show n.ew<=100000000/\(z.g.gX = -1\/∃ k:Nat,k<=4/\z.g.gX=k)/\z.g.dead=false from ⟨by have:=bi.v;omega,hf,lu⟩);have kW:=J (show n.a.rd<nk/\N<=80000 by have:=bi.rd;simp only [nk];omega);have bq:=J (Ma (q:=q) (n:=n) hk);have aq:=J (bh.refl S jc w);clear hk hs bd hb hx ha bi b8 h2 hf lu
 go_enter func61,ntmps61
 go_wp2_with fail;obtain ⟨wd,aG⟩:=aE w.drew;have bf:Below w.heap.size w wd:=by rw [<- aG];exact (aO _ _).drew
 have aA:=J (aA.below bf);have aB:=J (aB.below bf);have dC:=J (dC.below bf);have aq:=J (aq.below bf);clear bf;refine wp_region_held_drew (S:=fun w'=>w'.cell? ⟨lB,0,none⟩=some (.pointer (some ⟨pn,0,none⟩))/\w'.cell? ⟨pn,3,none⟩=some (.pointer (some ⟨z.ay,0,none⟩))/\w'.cell? ⟨ey,13,none⟩=some (.i x.t)/\w'.cell? ⟨ey,14,none⟩=some (.float .f64 x.f0)/\w'.cell? ⟨ey,15,none⟩=some (.float .f64 x.f1)/\w'.cell? ⟨ey,16,none⟩=some (.float .f64 x.f2)/\w'.cell? ⟨ey,17,none⟩=some (.slice y.jW x.uses.length y.uc)) ai (by rw [aG];exact (ae (aA.lB.ab.cell 0) (ae (aA.sL.ab.cell 3) (ae (aA.ey.ab.cell 13) (ae (aA.ey.ab.cell 14) (ae (aA.ey.ab.cell 15) (ae (aA.ey.ab.cell 16) (aA.ey.ab.cell 17)))))))) (fun hHeld=>?_);rw [aG] at hHeld ⊢
 clear aG;refine aj 0 ?_;refine aj 1 ?_;refine aj 2 ?_;refine aj 3 ?_;refine aj 4 ?_;refine aj 5 ?_;refine dR 6 10 rfl rfl ai aH (fun K hK=>?_);go_simp;refine (ad9 (aP.size aq.size) aB.au cj.a ao wA.2.2 (by have:=kW.1;simp only [nk] at this;omega) dC.ok dC.raw).mono ?_;rintro e w3 ⟨rfl,⟨jW,uc,hm⟩,kd⟩;obtain ⟨ki,rA⟩:=aE ((n.a.lU q x.t x.f0 x.f1 x.f2 x.uses x.ok).2);have bN:=J (show eY S w3 z.ay q { z.g with jW:=jW,uc:=uc } (n.a.lU q x.t x.f0 x.f1 x.f2 x.uses x.ok).1/\eO S w3 z.g.bH q.ret n.o/\bh S jc w w3/\jC S w3 z.g.ps z.aJ z.fs n.ew from ⟨hm,aB.eh.a6 kd ak ak ak ak,aq.trans (kd.mono (by simp [jc])),aB.st.a6 kd ak ak ak ak ak⟩);rw [rA];have BL:=J rA;have aA:=J (aA.a6 kd ak ak ak);clear hm kd rA;have hHeld:=(ae (aA.lB.ab.cell 0) (ae (aA.sL.ab.cell 3) (ae (aA.ey.ab.cell 13) (ae (aA.ey.ab.cell 14) (ae (aA.ey.ab.cell 15) (ae (aA.ey.ab.cell 16) (aA.ey.ab.cell 17)))))))
 refine hK _ _ hHeld ?_;clear hK K;simp only [Act.put,aY,aZ,a1];refine aj 7 ?_;refine aj 8 ?_;refine wpAnyH_done ai ?_ _;clear hHeld;go_wp2_with fail;refine cS (v:=.tuple #[.slice none 0 0,.i ki]) (by simp [results,results61,go_sem]) rfl ?_;rw [bq.out];exact ⟨none,0,0,ki,_,rfl,bN.1,⟨rfl,rfl,rfl⟩,bN.2.1,bN.2.2.1,.inl ⟨rfl,BL.symm,wA.2.2,bN.2.2.2,rfl,b7.e8 _ _ _ _⟩⟩
end
section
variable {S cn:Nat->Prop} {ts:List TypeId} {w w':World} {pn:Nat} {q:bL} {z:rj} {n:fO} {x:oh} {y:uk}
theorem Iq (h:hG S w pn q z n) (hl:n.a.ax.length<=100000):Calls prog 16 #[.pointer (some ⟨pn,0,none⟩)] w (Hf n.a.rd n.a.aU n.a.aL n.a.aS n.a.ax w):=by
 have bX:Below w.heap.size w (w.alloc (.cells #[.i 0,.slice none 0 0,.bool false,.bool false,.bool false] 35)):=(aO _ _).alloc aF _;have ag:=J (ae (h.below bX) bX);have cT:=J hl;have bR:=J (ar.new w 35 #[.i 0,.slice none 0 0,.bool false,.bool false,.bool false]);have c3:(w.alloc (.cells #[.i 0,.slice none 0 0,.bool false,.bool false,.bool false] 35)).cell? ⟨pn,3,none⟩=some (.pointer (some ⟨z.ay,0,none⟩)):=ag.1.cells.2.2.2.1;clear h hl bX
 go_enter func16,ntmps16
 go_wp2_with fail;refine (abR ag.1.zF.au cT).mono ?_;rintro e w3 ⟨hQ,iV,rfl,hD,dI⟩;have ra:=J hD;have EW:=J (bR.bw dI);have dp:=J (ag.2.trans (dI.mono ag.2.size));clear hD dI c3
 go_wp2_with (refine ch rfl 35 (.tmp 2) (.tmp 7) rfl w.heap.size 35 #[.i 0,.slice none 0 0,.bool false,.bool false,.bool false] #[.i n.a.rd,.slice hQ n.a.ax.length iV,.bool n.a.aU,.bool n.a.aL,.bool n.a.aS] rfl rfl EW.out rfl ai cc ?_;intro bU gg eS j7)
 have ub:=gg.cell;have nT:Below w.heap.size w bU:=dp.grown eS dp.size (by intro k hk;cases hk;exact e3 _);have lr:Own bU w.heap.size 66 cR (.slice hQ n.a.ax.length iV) n.a.ax:=(ra.grown eS (.inr fun e=>ra.fK EW ak e.symm)).mono ag.2.size;exact cS (v:=.agg #[.i n.a.rd,.slice hQ n.a.ax.length iV,.bool n.a.aU,.bool n.a.aL,.bool n.a.aS]) (by simp [results,results16,go_sem,ub]) rfl ⟨hQ,iV,rfl,lr,nT⟩
theorem funcNil_any (f:FuncId) (cap:Array Value) (w:World):(binOp .eql 100 (.func (.func f) #[] cap) Value.nilFunc).run prog w=.ok (.bool false) w:=ai
theorem MP:(prog.info? 49).map (·.size)=some 21:=ai
theorem MQ:(prog.info? 91).map (·.size)=some 1:=ai
theorem hG.box (h:hG S w pn q z n) (hc:bh cn [37] w w'):hG S w' pn q z n:=⟨h.ab.a6 hc ak,h.text.a6 hc ak,h.zF.a6 hc ak,h.uA,h.dd,h.BM,h.note.a6 hc ak ak⟩
abbrev k3 (w:World) (pn:Nat) (x:oh) (y:uk):World:=(w.alloc (.cells #[.pointer (some ⟨pn,0,none⟩)] 28)).alloc (.cells (jq x y) 49)
theorem aem (hk:x.kind=1) (w:World):Calls prog 34 #[.pointer (some ⟨pn,0,none⟩),.agg (jq x y)] w fun e w'=>e=.returned (.func (.func 55) #[] #[.pointer (some ⟨w.heap.size,0,none⟩),.pointer (some ⟨w.heap.size+1,0,none⟩)])/\w'=k3 w pn x y:=by
 have J3:∀ (fn:Fn) (first cap:Array Value) (w:World),(Instr.makeFunc fn first cap).run prog w=.ok (.func fn first cap) w:=fun _ _ _ _=>rfl
 have n0:(k3 w pn x y).cell? ⟨w.heap.size+1,0,none⟩=some (.i x.kind):=by have:=(ar.new (w.alloc (.cells #[.pointer (some ⟨pn,0,none⟩)] 28)) 49 (jq x y)).cell 0;simpa using this
 rw [hk] at n0
 go_enter func34,ntmps34
 go_wp2_with fail;go_ret;exact ⟨rfl,rfl⟩
theorem aen (hk:x.kind=3) (w:World):Calls prog 34 #[.pointer (some ⟨pn,0,none⟩),.agg (jq x y)] w fun e w'=>e=.returned (.func (.func 59) #[] #[.pointer (some ⟨w.heap.size,0,none⟩)])/\w'=k3 w pn x y:=by
 have J3:∀ (fn:Fn) (first cap:Array Value) (w:World),(Instr.makeFunc fn first cap).run prog w=.ok (.func fn first cap) w:=fun _ _ _ _=>rfl
 have n0:(k3 w pn x y).cell? ⟨w.heap.size+1,0,none⟩=some (.i x.kind):=by have:=(ar.new (w.alloc (.cells #[.pointer (some ⟨pn,0,none⟩)] 28)) 49 (jq x y)).cell 0;simpa using this
 rw [hk] at n0
 go_enter func34,ntmps34
 go_wp2_with fail;go_ret;exact ⟨rfl,rfl⟩
theorem aeo (hk:x.kind=4) (w:World):Calls prog 34 #[.pointer (some ⟨pn,0,none⟩),.agg (jq x y)] w fun e w'=>e=.returned (.func (.func 61) #[] #[.pointer (some ⟨w.heap.size,0,none⟩),.pointer (some ⟨w.heap.size+1,0,none⟩)])/\w'=k3 w pn x y:=by
 have J3:∀ (fn:Fn) (first cap:Array Value) (w:World),(Instr.makeFunc fn first cap).run prog w=.ok (.func fn first cap) w:=fun _ _ _ _=>rfl
 have n0:(k3 w pn x y).cell? ⟨w.heap.size+1,0,none⟩=some (.i x.kind):=by have:=(ar.new (w.alloc (.cells #[.pointer (some ⟨pn,0,none⟩)] 28)) 49 (jq x y)).cell 0;simpa using this
 rw [hk] at n0
 go_enter func34,ntmps34
 go_wp2_with fail;go_ret;exact ⟨rfl,rfl⟩
def DG (S:Nat->Prop) (pn:Nat) (q:bL) (m:fO) (err:Int) (ev:List cP) (w:World) (e:Ending) (w':World):Prop :=
 ∃ (z':rj) (E:Option Addr) (c:Nat) (A:Option Addr) (ca:Nat),e=.returned (.agg #[.i err,.slice E ev.length c,.i m.a.rd,.slice A m.a.ax.length ca,.bool m.a.aU,.bool m.a.aL,.bool m.a.aS])/\hG S w' pn q z' m/\b7 w' S 51 dA (.slice E ev.length c) ev/\b7 w' S 66 cR (.slice A m.a.ax.length ca) m.a.ax/\bh S nJ w w'
theorem MR (q:bL) (a:bD) (o:bA) (x:oh) (h:(fu q a o x).nj=true):(fu q a o x).err=0:=by
 unfold fu at h ⊢
 split
 ·rename_i h1
  rw [bB h1] at h
  simp only at h ⊢
  unfold bD.CV at h ⊢
  simp only at h ⊢
  split
  ·rename_i ah;rw [bB ah] at h;try (simp at h)
  ·rename_i ah
   rw [bp ah] at h
   split
   ·rename_i aw;rw [bB aw] at h;try (simp at h)
   ·rfl
 ·rename_i h1
  rw [bp h1] at h
  split
  ·rename_i ah
   rw [bB ah] at h
   simp only at h ⊢
   unfold bD.delete at h ⊢
   split
   ·rename_i aw
    rw [bB aw] at h
    split
    ·rename_i e he
     rw [he] at h
     simp only at h ⊢
     split
     ·rename_i bn;rw [bB bn] at h;try (simp at h)
     ·rfl
    ·rename_i he;rw [he] at h;try (simp at h)
   ·rename_i aw;rw [bp aw] at h;try (simp at h)
  ·rename_i ah
   rw [bp ah] at h
   split
   ·rfl
   ·rename_i aw
    rw [bp aw] at h
    split
    ·rename_i bn;rw [bB bn] at h;try (simp at h)
    ·rename_i bn
     rw [bp bn] at h
     split
     ·rename_i dk;rw [bB dk] at h;try (simp at h)
     ·rfl
theorem zd (h:n.pN=none) (h1:1<=x.kind) (ah:x.kind<=5):n.act q x=(⟨(fu q n.a n.o x).a,(fu q n.a n.o x).o,if (fu q n.a n.o x).nj=true then some (fu q n.a n.o x).a.sv else n.sv,if (fu q n.a n.o x).nj=true then n.ew+1 else n.ew,none⟩,(fu q n.a n.o x).err,(fu q n.a n.o x).ev):=by
 unfold fO.act;rw [bp af,bp af];simp only [h]
theorem aep (hk:x.kind=1) (bd:q.Ok) (hs:dw S w) (h:hG S w pn q z n) (h0:n.pN=none) (ha:kE S w x y) {N V:Nat} (bi:jo q N V n) (b8:N<=80000) (h2:V<=100000) (sN:(fu q n.a n.o x).a.ax.length<=100000) :
  Calls prog 11 #[.pointer (some ⟨pn,0,none⟩),.agg (jq x y)] w (DG S pn q (n.act q x).1 (n.act q x).2.1 (n.act q x).2.2 w):=by
 have uB:=J (zd (q:=q) (x:=x) h0 af af);have bX:Below w.heap.size w (w.alloc (.cells #[.i x.kind,.string x.aa.id,.i x.aa.prio,.bool x.aa.bo,.i x.aa.bg,.i x.aa.aX,.i x.aa.ba,.i x.aa.bk,.i x.aa.bl,.i x.aa.aW,.string x.aa.bb,.i x.aa.size,.string x.id,.i x.t,.float .f64 x.f0,.float .f64 x.f1,.float .f64 x.f2,.slice y.jW x.uses.length y.uc,.slice y.xN x.dS.length y.wc,.i x.steps,.slice y.xO x.keep.length y.BN] 49)):=(aO _ _).alloc aF _;obtain ⟨aC,cU⟩:=aE (w.alloc (.cells #[.i x.kind,.string x.aa.id,.i x.aa.prio,.bool x.aa.bo,.i x.aa.bg,.i x.aa.aX,.i x.aa.ba,.i x.aa.bk,.i x.aa.bl,.i x.aa.aW,.string x.aa.bb,.i x.aa.size,.string x.id,.i x.t,.float .f64 x.f0,.float .f64 x.f1,.float .f64 x.f2,.slice y.jW x.uses.length y.uc,.slice y.xN x.dS.length y.wc,.i x.steps,.slice y.xO x.keep.length y.BN] 49));have cH:aC.heap.size=w.heap.size+1:=by rw [<- cU];simp
 have nn:ar aC w.heap.size 49 (jq x y):=by rw [<- cU];exact ar.new w 49 (jq x y)
 rw [cU] at bX
 have cY:Below aC.heap.size aC (aC.alloc (.cells #[.i 0,.slice none 0 0,.i 0,.slice none 0 0,.bool false,.bool false,.bool false] 37)):=(aO _ _).alloc aF _;have qy:=ar.new aC 37 #[.i 0,.slice none 0 0,.i 0,.slice none 0 0,.bool false,.bool false,.bool false];obtain ⟨aM,gx⟩:=aE (aC.alloc (.cells #[.i 0,.slice none 0 0,.i 0,.slice none 0 0,.bool false,.bool false,.bool false] 37));rw [gx] at cY qy
 have zG:aM.heap.size=aC.heap.size+1:=by rw [<- gx];simp
 have cA:=J (bX.trans (cY.mono bX.size));have ag:=J ((h.below bX).below cY);have dC:=J ((ha.below bX).below cY);have aq:=J (bh.dL S nJ cA);have bR:=J (show cW aM S aC.heap.size 37 #[.i 0,.slice none 0 0,.i 0,.slice none 0 0,.bool false,.bool false,.bool false] from ⟨qy,hs.gJ _ af⟩);have iR:=J cH;obtain ⟨L,eT⟩:=aE ((jq x y).toList);have hz:=J (show aM.rangeAt w.heap.size 0 L/\(prog.info? 49).map (·.size)=some L.length from ⟨by rw [<- eT];exact (nn.bw cY).range,by rw [<- eT];exact MP⟩);have Fq:aM.cell? ⟨w.heap.size,0,none⟩=some (.i x.kind):=(nn.bw cY).cell 0;have aP:=J hs;have cj:=J bi;have nG:=J sN;have BO:=J (fun W=>aem (pn:=pn) (y:=y) hk W);have ao:=J bd;have su:=J hk;have zH:=J (ae b8 h2);have lb:=J h0;have d6:(x.kind==6)=false:=by simp;omega
 clear h h0 ha bi sN hk bd b8 h2 bX cH nn cY qy zG hs
 go_enter func11,ntmps11
 go_wp2_with (refine wpList_load_mid rfl 49 (.tmp 3) rfl w.heap.size 0 rfl L _ hz.1 underlying49 rfl hz.2 ?_)
 clear Fq d6 cU gx;subst eT;refine (BO.out aM).mono ?_;rintro e w3 ⟨rfl,rfl⟩;have bf:Below aM.heap.size aM (k3 aM pn x y):=((aO aM.heap.size aM).alloc aF _).alloc av _;have uC:ar (k3 aM pn x y) aM.heap.size 28 #[.pointer (some ⟨pn,0,none⟩)]:=(ar.new aM 28 #[.pointer (some ⟨pn,0,none⟩)]).alloc _;have mj:ar (k3 aM pn x y) (aM.heap.size+1) 49 (jq x y):=by have:=ar.new (aM.alloc (.cells #[.pointer (some ⟨pn,0,none⟩)] 28)) 49 (jq x y);simpa using this
 have zI:=cA.size;have kb:=J (show cW (k3 aM pn x y) S aM.heap.size 28 #[.pointer (some ⟨pn,0,none⟩)] from ⟨uC,aP.gJ _ zI⟩);have bG:=J (show cW (k3 aM pn x y) S (aM.heap.size+1) 49 (jq x y) from ⟨mj,aP.gJ _ af⟩);have ag:=J (ag.below bf);have dC:=J (dC.below bf);have aq:=J (aq.below bf);have bR:=J (bR.below bf);clear bf uC mj zI;obtain ⟨w3,np⟩:=aE (k3 aM pn x y);obtain ⟨B,bM⟩:=aE aM.heap.size;rw [np] at kb bG ag dC aq bR ⊢
 rw [bM] at kb bG ⊢
 clear np bM;obtain ⟨pO,ly⟩:=aE aC.heap.size;rw [ly] at bR iR ⊢
 clear ly;have kz:w3.cell? ⟨pn,4,none⟩=some (.pointer none):=by rw [ag.cells.2.2.2.2];have hn:=ag.note;rw [lb.out] at hn;rw [show z.note=.pointer none from hn]
 have Fs:(binOp .eql 100 (.func (.func 55) #[] #[.pointer (some ⟨B,0,none⟩),.pointer (some ⟨B+1,0,none⟩)]) Value.nilFunc).run prog w3=.ok (.bool false) w3:=funcNil_any _ _ _
 go_wp2_with (refine kZ rfl 91 (.tmp 39) (.const (.pointer none)) rfl pn 4 99 _ (.pointer none) rfl rfl ag.ab.ab av MQ rfl ?_;intro eD rC mM AJ;have fH:=ag.MS (v:=.pointer none) (o:=none) rfl rC mM;have lC:=J fH.1;have Ft:=J (dC.a6 fH.2);have ud:=J (aq.trans (fH.2.mono (by simp [nJ])));have Fu:=J (bR.a6 fH.2 ak);have Fv:=J (show sK S eD B (B+1) pn q { z with note:=.pointer none } x y from ⟨kb.a6 fH.2 ak,bG.a6 fH.2 ak,fH.1.ab⟩);clear rC mM AJ fH)
 clear kz Fs;have bZ:=ad5 (n:=n) su.out (aP.size ud.size) ao.out Fv.out lC.zF Ft.out cj.out zH.1 zH.2 (.inl lC.uA) lC.dd;have dN:=J bZ;clear bZ;refine dN.mono ?_;rintro e bc ⟨jV,jw,a8,ki,r',rfl,g1,g2,g3,g4,g5⟩;have bR:=J (Fu.a6 g4 ak);have aq:=J (ud.trans (g4.mono (by simp [jc,nJ])));have bN:=J (ae g1 (ae g2 (ae g3 (ae g4 g5))));clear g1 g2 g3 g4 g5;obtain ⟨d,hd⟩:=aE (fu q n.a n.o x);have uD:=MR q n.a n.o x;rw [hd] at bN nG uB uD
 obtain ⟨m,hm⟩:=aE (⟨d.a,d.o,if d.nj=true then some d.a.sv else n.sv,if d.nj=true then n.ew+1 else n.ew,none⟩:fO);have vC:m.a=d.a:=by rw [<- hm]
 have bC:Hid (∃ z',ki=d.err/\hG S bc pn q z' m/\jw=d.ev.length/\b7 bc S 51 dA (.slice jV d.ev.length a8) d.ev):=by
  as_aux_lemma =>
   show _
   obtain ⟨g1,⟨aV,bE,cG⟩,g3,g4,g5⟩:=bN.out;have oE:z.g.gX = -1:=lC.uA;have uE:=lC.text.a6 g4 ak;have qz:=lC.ab.a6 g4 ak
   rcases g5 with ⟨h1,ah,aw,bn,dk,iT⟩|⟨h1,ah,aw,bn,dk,iT,kB⟩|⟨_,k,_,ah,_⟩
   ·simp only at h1 ah
    refine ⟨⟨z.xP,z.tc,z.aJ,z.ay,r',z.fs,.pointer none⟩,ah,?_,dk,iT⟩;rw [<- hm,h1];exact ⟨by simp only [uz];rw [aV];exact qz,uE,⟨g1,by rw [aV];exact g3,by rw [bE];exact bn⟩,cG.trans oE,aw,lC.BM,rfl⟩
   ·simp only at h1
    refine ⟨⟨z.xP,z.tc,z.aJ,z.ay,r',(lS z.fs (k0 (n.ew+1) d.a.bytes) 4).1,.pointer none⟩,aw.trans (uD h1).symm,?_,iT,kB⟩;rw [<- hm,h1];exact ⟨by simp only [uz];rw [aV];exact qz,uE,⟨g1,by rw [aV];exact g3,by rw [bE];exact dk⟩,cG.trans oE,bn,wB.save _ _ _,rfl⟩
   ·exact absurd (oE.symm.trans ah) af
 have wC:=J (show m.a.ax.length<=100000 by rw [vC];exact nG.out);rw [hm] at uB
 clear hd hm vC uD;go_wp2_with fail;obtain ⟨z',h1,ah,aw,bn⟩:=bC.out;subst aw;have cq:=J ah;have lA:=J bn;have BL:=J h1;clear h1 ah bn bC bN;refine (Iq cq wC).mono ?_;rintro e bU ⟨hQ,iV,rfl,hD,dI⟩;have ra:=J (b7.jU (aP.size aq.size) hD aF);have cq:=J (cq.below dI);have lA:=J (lA.below dI);have aq:=J (aq.below dI);have bR:=J (bR.below dI);clear hD dI
 go_wp2_with (refine ch rfl 37 (.tmp 4) (.tmp 71) rfl pO 37 #[.i 0,.slice none 0 0,.i 0,.slice none 0 0,.bool false,.bool false,.bool false] #[.i ki,.slice jV d.ev.length a8,.i m.a.rd,.slice hQ m.a.ax.length iV,.bool m.a.aU,.bool m.a.aL,.bool m.a.aS] rfl rfl bR.ab rfl ai cc ?_;intro b3 cp bT dm)
 have Fw:=cp.cell;have fF:=bh.box bR.out bT;refine cS (v:=.agg #[.i ki,.slice jV d.ev.length a8,.i m.a.rd,.slice hQ m.a.ax.length iV,.bool m.a.aU,.bool m.a.aL,.bool m.a.aS]) (by simp [results,results11,go_sem,Fw]) rfl ?_;rw [uB.out];refine ⟨z',jV,a8,hQ,iV,?_,cq.box fF,lA.a6 fF ak,ra.a6 fF ak,aq.ql bT (by have:=iR.out;omega)⟩;rw [BL.out]
theorem aeq (hk:x.kind=3) (bd:q.Ok) (hs:dw S w) (h:hG S w pn q z n) (h0:n.pN=none) (ha:kE S w x y) {N V:Nat} (bi:jo q N V n) (b8:N<=80000) (h2:V<=100000) (sN:(fu q n.a n.o x).a.ax.length<=100000) (nl:IL q n.a n.o) :
  Calls prog 11 #[.pointer (some ⟨pn,0,none⟩),.agg (jq x y)] w (DG S pn q (n.act q x).1 (n.act q x).2.1 (n.act q x).2.2 w):=by
 have uB:=J (zd (q:=q) (x:=x) h0 af af);have bX:Below w.heap.size w (w.alloc (.cells #[.i x.kind,.string x.aa.id,.i x.aa.prio,.bool x.aa.bo,.i x.aa.bg,.i x.aa.aX,.i x.aa.ba,.i x.aa.bk,.i x.aa.bl,.i x.aa.aW,.string x.aa.bb,.i x.aa.size,.string x.id,.i x.t,.float .f64 x.f0,.float .f64 x.f1,.float .f64 x.f2,.slice y.jW x.uses.length y.uc,.slice y.xN x.dS.length y.wc,.i x.steps,.slice y.xO x.keep.length y.BN] 49)):=(aO _ _).alloc aF _;obtain ⟨aC,cU⟩:=aE (w.alloc (.cells #[.i x.kind,.string x.aa.id,.i x.aa.prio,.bool x.aa.bo,.i x.aa.bg,.i x.aa.aX,.i x.aa.ba,.i x.aa.bk,.i x.aa.bl,.i x.aa.aW,.string x.aa.bb,.i x.aa.size,.string x.id,.i x.t,.float .f64 x.f0,.float .f64 x.f1,.float .f64 x.f2,.slice y.jW x.uses.length y.uc,.slice y.xN x.dS.length y.wc,.i x.steps,.slice y.xO x.keep.length y.BN] 49));have cH:aC.heap.size=w.heap.size+1:=by rw [<- cU];simp
 have nn:ar aC w.heap.size 49 (jq x y):=by rw [<- cU];exact ar.new w 49 (jq x y)
 rw [cU] at bX
 have cY:Below aC.heap.size aC (aC.alloc (.cells #[.i 0,.slice none 0 0,.i 0,.slice none 0 0,.bool false,.bool false,.bool false] 37)):=(aO _ _).alloc aF _;have qy:=ar.new aC 37 #[.i 0,.slice none 0 0,.i 0,.slice none 0 0,.bool false,.bool false,.bool false];obtain ⟨aM,gx⟩:=aE (aC.alloc (.cells #[.i 0,.slice none 0 0,.i 0,.slice none 0 0,.bool false,.bool false,.bool false] 37));rw [gx] at cY qy
 have zG:aM.heap.size=aC.heap.size+1:=by rw [<- gx];simp
 have cA:=J (bX.trans (cY.mono bX.size));have ag:=J ((h.below bX).below cY);have dC:=J ((ha.below bX).below cY);have aq:=J (bh.dL S nJ cA);have bR:=J (show cW aM S aC.heap.size 37 #[.i 0,.slice none 0 0,.i 0,.slice none 0 0,.bool false,.bool false,.bool false] from ⟨qy,hs.gJ _ af⟩);have iR:=J cH;obtain ⟨L,eT⟩:=aE ((jq x y).toList);have hz:=J (show aM.rangeAt w.heap.size 0 L/\(prog.info? 49).map (·.size)=some L.length from ⟨by rw [<- eT];exact (nn.bw cY).range,by rw [<- eT];exact MP⟩);have Fq:aM.cell? ⟨w.heap.size,0,none⟩=some (.i x.kind):=(nn.bw cY).cell 0;have aP:=J hs;have cj:=J bi;have nG:=J sN;have BO:=J (fun W=>aen (pn:=pn) (y:=y) hk W);have ao:=J bd;have su:=J hk;have zH:=J (ae b8 h2);have lb:=J h0;have d6:(x.kind==6)=false:=by simp;omega
 clear h h0 ha bi sN hk bd b8 h2 bX cH nn cY qy zG hs
 go_enter func11,ntmps11
 go_wp2_with (refine wpList_load_mid rfl 49 (.tmp 3) rfl w.heap.size 0 rfl L _ hz.1 underlying49 rfl hz.2 ?_)
 clear Fq d6 cU gx;subst eT;refine (BO.out aM).mono ?_;rintro e w3 ⟨rfl,rfl⟩;have bf:Below aM.heap.size aM (k3 aM pn x y):=((aO aM.heap.size aM).alloc aF _).alloc av _;have uC:ar (k3 aM pn x y) aM.heap.size 28 #[.pointer (some ⟨pn,0,none⟩)]:=(ar.new aM 28 #[.pointer (some ⟨pn,0,none⟩)]).alloc _;have mj:ar (k3 aM pn x y) (aM.heap.size+1) 49 (jq x y):=by have:=ar.new (aM.alloc (.cells #[.pointer (some ⟨pn,0,none⟩)] 28)) 49 (jq x y);simpa using this
 have zI:=cA.size;have kb:=J (show cW (k3 aM pn x y) S aM.heap.size 28 #[.pointer (some ⟨pn,0,none⟩)] from ⟨uC,aP.gJ _ zI⟩);have bG:=J (show cW (k3 aM pn x y) S (aM.heap.size+1) 49 (jq x y) from ⟨mj,aP.gJ _ af⟩);have ag:=J (ag.below bf);have dC:=J (dC.below bf);have aq:=J (aq.below bf);have bR:=J (bR.below bf);clear bf uC mj zI;obtain ⟨w3,np⟩:=aE (k3 aM pn x y);obtain ⟨B,bM⟩:=aE aM.heap.size;rw [np] at kb bG ag dC aq bR ⊢
 rw [bM] at kb bG ⊢
 clear np bM;obtain ⟨pO,ly⟩:=aE aC.heap.size;rw [ly] at bR iR ⊢
 clear ly;have kz:w3.cell? ⟨pn,4,none⟩=some (.pointer none):=by rw [ag.cells.2.2.2.2];have hn:=ag.note;rw [lb.out] at hn;rw [show z.note=.pointer none from hn]
 have Fs:(binOp .eql 100 (.func (.func 59) #[] #[.pointer (some ⟨B,0,none⟩)]) Value.nilFunc).run prog w3=.ok (.bool false) w3:=funcNil_any _ _ _
 go_wp2_with (refine kZ rfl 91 (.tmp 39) (.const (.pointer none)) rfl pn 4 99 _ (.pointer none) rfl rfl ag.ab.ab av MQ rfl ?_;intro eD rC mM AJ;have fH:=ag.MS (v:=.pointer none) (o:=none) rfl rC mM;have lC:=J fH.1;have Ft:=J (dC.a6 fH.2);have ud:=J (aq.trans (fH.2.mono (by simp [nJ])));have Fu:=J (bR.a6 fH.2 ak);have Fv:=J (show sK S eD B (B+1) pn q { z with note:=.pointer none } x y from ⟨kb.a6 fH.2 ak,bG.a6 fH.2 ak,fH.1.ab⟩);clear rC mM AJ fH)
 clear kz Fs;have bZ:=ad6 (n:=n) su.out (aP.size ud.size) ao.out Fv.out lC.zF Ft.out cj.out zH.1 zH.2 (.inl lC.uA) lC.dd nl;have dN:=J bZ;clear bZ;refine dN.mono ?_;rintro e bc ⟨jV,jw,a8,ki,r',rfl,g1,g2,g3,g4,g5⟩;have bR:=J (Fu.a6 g4 ak);have aq:=J (ud.trans (g4.mono (by simp [jc,nJ])));have bN:=J (ae g1 (ae g2 (ae g3 (ae g4 g5))));clear g1 g2 g3 g4 g5;obtain ⟨d,hd⟩:=aE (fu q n.a n.o x);have uD:=MR q n.a n.o x;rw [hd] at bN nG uB uD
 obtain ⟨m,hm⟩:=aE (⟨d.a,d.o,if d.nj=true then some d.a.sv else n.sv,if d.nj=true then n.ew+1 else n.ew,none⟩:fO);have vC:m.a=d.a:=by rw [<- hm]
 have bC:Hid (∃ z',ki=d.err/\hG S bc pn q z' m/\jw=d.ev.length/\b7 bc S 51 dA (.slice jV d.ev.length a8) d.ev):=by
  as_aux_lemma =>
   show _
   obtain ⟨g1,⟨aV,bE,cG⟩,g3,g4,g5⟩:=bN.out;have oE:z.g.gX = -1:=lC.uA;have uE:=lC.text.a6 g4 ak;have qz:=lC.ab.a6 g4 ak
   rcases g5 with ⟨h1,ah,aw,bn,dk,iT⟩|⟨h1,ah,aw,bn,dk,iT,kB⟩|⟨_,k,_,ah,_⟩
   ·simp only at h1 ah
    refine ⟨⟨z.xP,z.tc,z.aJ,z.ay,r',z.fs,.pointer none⟩,ah,?_,dk,iT⟩;rw [<- hm,h1];exact ⟨by simp only [uz];rw [aV];exact qz,uE,⟨g1,by rw [aV];exact g3,by rw [bE];exact bn⟩,cG.trans oE,aw,lC.BM,rfl⟩
   ·simp only at h1
    refine ⟨⟨z.xP,z.tc,z.aJ,z.ay,r',(lS z.fs (k0 (n.ew+1) d.a.bytes) 4).1,.pointer none⟩,aw.trans (uD h1).symm,?_,iT,kB⟩;rw [<- hm,h1];exact ⟨by simp only [uz];rw [aV];exact qz,uE,⟨g1,by rw [aV];exact g3,by rw [bE];exact dk⟩,cG.trans oE,bn,wB.save _ _ _,rfl⟩
   ·exact absurd (oE.symm.trans ah) af
 have wC:=J (show m.a.ax.length<=100000 by rw [vC];exact nG.out);rw [hm] at uB
 clear hd hm vC uD;go_wp2_with fail;obtain ⟨z',h1,ah,aw,bn⟩:=bC.out;subst aw;have cq:=J ah;have lA:=J bn;have BL:=J h1;clear h1 ah bn bC bN;refine (Iq cq wC).mono ?_;rintro e bU ⟨hQ,iV,rfl,hD,dI⟩;have ra:=J (b7.jU (aP.size aq.size) hD aF);have cq:=J (cq.below dI);have lA:=J (lA.below dI);have aq:=J (aq.below dI);have bR:=J (bR.below dI);clear hD dI
 go_wp2_with (refine ch rfl 37 (.tmp 4) (.tmp 71) rfl pO 37 #[.i 0,.slice none 0 0,.i 0,.slice none 0 0,.bool false,.bool false,.bool false] #[.i ki,.slice jV d.ev.length a8,.i m.a.rd,.slice hQ m.a.ax.length iV,.bool m.a.aU,.bool m.a.aL,.bool m.a.aS] rfl rfl bR.ab rfl ai cc ?_;intro b3 cp bT dm)
 have Fw:=cp.cell;have fF:=bh.box bR.out bT;refine cS (v:=.agg #[.i ki,.slice jV d.ev.length a8,.i m.a.rd,.slice hQ m.a.ax.length iV,.bool m.a.aU,.bool m.a.aL,.bool m.a.aS]) (by simp [results,results11,go_sem,Fw]) rfl ?_;rw [uB.out];refine ⟨z',jV,a8,hQ,iV,?_,cq.box fF,lA.a6 fF ak,ra.a6 fF ak,aq.ql bT (by have:=iR.out;omega)⟩;rw [BL.out]
theorem aer (hk:x.kind=4) (bd:q.Ok) (hs:dw S w) (h:hG S w pn q z n) (h0:n.pN=none) (ha:kE S w x y) {N V:Nat} (bi:jo q N V n) (b8:N<=80000) (h2:V<=100000) (sN:(fu q n.a n.o x).a.ax.length<=100000) :
  Calls prog 11 #[.pointer (some ⟨pn,0,none⟩),.agg (jq x y)] w (DG S pn q (n.act q x).1 (n.act q x).2.1 (n.act q x).2.2 w):=by
 have uB:=J (zd (q:=q) (x:=x) h0 af af);have bX:Below w.heap.size w (w.alloc (.cells #[.i x.kind,.string x.aa.id,.i x.aa.prio,.bool x.aa.bo,.i x.aa.bg,.i x.aa.aX,.i x.aa.ba,.i x.aa.bk,.i x.aa.bl,.i x.aa.aW,.string x.aa.bb,.i x.aa.size,.string x.id,.i x.t,.float .f64 x.f0,.float .f64 x.f1,.float .f64 x.f2,.slice y.jW x.uses.length y.uc,.slice y.xN x.dS.length y.wc,.i x.steps,.slice y.xO x.keep.length y.BN] 49)):=(aO _ _).alloc aF _;obtain ⟨aC,cU⟩:=aE (w.alloc (.cells #[.i x.kind,.string x.aa.id,.i x.aa.prio,.bool x.aa.bo,.i x.aa.bg,.i x.aa.aX,.i x.aa.ba,.i x.aa.bk,.i x.aa.bl,.i x.aa.aW,.string x.aa.bb,.i x.aa.size,.string x.id,.i x.t,.float .f64 x.f0,.float .f64 x.f1,.float .f64 x.f2,.slice y.jW x.uses.length y.uc,.slice y.xN x.dS.length y.wc,.i x.steps,.slice y.xO x.keep.length y.BN] 49));have cH:aC.heap.size=w.heap.size+1:=by rw [<- cU];simp
 have nn:ar aC w.heap.size 49 (jq x y):=by rw [<- cU];exact ar.new w 49 (jq x y)
 rw [cU] at bX
 have cY:Below aC.heap.size aC (aC.alloc (.cells #[.i 0,.slice none 0 0,.i 0,.slice none 0 0,.bool false,.bool false,.bool false] 37)):=(aO _ _).alloc aF _;have qy:=ar.new aC 37 #[.i 0,.slice none 0 0,.i 0,.slice none 0 0,.bool false,.bool false,.bool false];obtain ⟨aM,gx⟩:=aE (aC.alloc (.cells #[.i 0,.slice none 0 0,.i 0,.slice none 0 0,.bool false,.bool false,.bool false] 37));rw [gx] at cY qy
 have zG:aM.heap.size=aC.heap.size+1:=by rw [<- gx];simp
 have cA:=J (bX.trans (cY.mono bX.size));have ag:=J ((h.below bX).below cY);have dC:=J ((ha.below bX).below cY);have aq:=J (bh.dL S nJ cA);have bR:=J (show cW aM S aC.heap.size 37 #[.i 0,.slice none 0 0,.i 0,.slice none 0 0,.bool false,.bool false,.bool false] from ⟨qy,hs.gJ _ af⟩);have iR:=J cH;obtain ⟨L,eT⟩:=aE ((jq x y).toList);have hz:=J (show aM.rangeAt w.heap.size 0 L/\(prog.info? 49).map (·.size)=some L.length from ⟨by rw [<- eT];exact (nn.bw cY).range,by rw [<- eT];exact MP⟩);have Fq:aM.cell? ⟨w.heap.size,0,none⟩=some (.i x.kind):=(nn.bw cY).cell 0;have aP:=J hs;have cj:=J bi;have nG:=J sN;have BO:=J (fun W=>aeo (pn:=pn) (y:=y) hk W);have ao:=J bd;have su:=J hk;have zH:=J (ae b8 h2);have lb:=J h0;have d6:(x.kind==6)=false:=by simp;omega
 clear h h0 ha bi sN hk bd b8 h2 bX cH nn cY qy zG hs
 go_enter func11,ntmps11
 go_wp2_with (refine wpList_load_mid rfl 49 (.tmp 3) rfl w.heap.size 0 rfl L _ hz.1 underlying49 rfl hz.2 ?_)
 clear Fq d6 cU gx;subst eT;refine (BO.out aM).mono ?_;rintro e w3 ⟨rfl,rfl⟩;have bf:Below aM.heap.size aM (k3 aM pn x y):=((aO aM.heap.size aM).alloc aF _).alloc av _;have uC:ar (k3 aM pn x y) aM.heap.size 28 #[.pointer (some ⟨pn,0,none⟩)]:=(ar.new aM 28 #[.pointer (some ⟨pn,0,none⟩)]).alloc _;have mj:ar (k3 aM pn x y) (aM.heap.size+1) 49 (jq x y):=by have:=ar.new (aM.alloc (.cells #[.pointer (some ⟨pn,0,none⟩)] 28)) 49 (jq x y);simpa using this
 have zI:=cA.size;have kb:=J (show cW (k3 aM pn x y) S aM.heap.size 28 #[.pointer (some ⟨pn,0,none⟩)] from ⟨uC,aP.gJ _ zI⟩);have bG:=J (show cW (k3 aM pn x y) S (aM.heap.size+1) 49 (jq x y) from ⟨mj,aP.gJ _ af⟩);have ag:=J (ag.below bf);have dC:=J (dC.below bf);have aq:=J (aq.below bf);have bR:=J (bR.below bf);clear bf uC mj zI;obtain ⟨w3,np⟩:=aE (k3 aM pn x y);obtain ⟨B,bM⟩:=aE aM.heap.size;rw [np] at kb bG ag dC aq bR ⊢
 rw [bM] at kb bG ⊢
 clear np bM;obtain ⟨pO,ly⟩:=aE aC.heap.size;rw [ly] at bR iR ⊢
 clear ly;have kz:w3.cell? ⟨pn,4,none⟩=some (.pointer none):=by rw [ag.cells.2.2.2.2];have hn:=ag.note;rw [lb.out] at hn;rw [show z.note=.pointer none from hn]
 have Fs:(binOp .eql 100 (.func (.func 61) #[] #[.pointer (some ⟨B,0,none⟩),.pointer (some ⟨B+1,0,none⟩)]) Value.nilFunc).run prog w3=.ok (.bool false) w3:=funcNil_any _ _ _
 go_wp2_with (refine kZ rfl 91 (.tmp 39) (.const (.pointer none)) rfl pn 4 99 _ (.pointer none) rfl rfl ag.ab.ab av MQ rfl ?_;intro eD rC mM AJ;have fH:=ag.MS (v:=.pointer none) (o:=none) rfl rC mM;have lC:=J fH.1;have Ft:=J (dC.a6 fH.2);have ud:=J (aq.trans (fH.2.mono (by simp [nJ])));have Fu:=J (bR.a6 fH.2 ak);have Fv:=J (show sK S eD B (B+1) pn q { z with note:=.pointer none } x y from ⟨kb.a6 fH.2 ak,bG.a6 fH.2 ak,fH.1.ab⟩);clear rC mM AJ fH)
 clear kz Fs;have bZ:=ad8 (n:=n) su.out (aP.size ud.size) ao.out Fv.out lC.zF Ft.out cj.out zH.1 zH.2 (.inl lC.uA) lC.dd;have dN:=J bZ;clear bZ;refine dN.mono ?_;rintro e bc ⟨jV,jw,a8,ki,r',rfl,g1,g2,g3,g4,g5⟩;have bR:=J (Fu.a6 g4 ak);have aq:=J (ud.trans (g4.mono (by simp [jc,nJ])));have bN:=J (ae g1 (ae g2 (ae g3 (ae g4 g5))));clear g1 g2 g3 g4 g5;obtain ⟨d,hd⟩:=aE (fu q n.a n.o x);have uD:=MR q n.a n.o x;rw [hd] at bN nG uB uD
 obtain ⟨m,hm⟩:=aE (⟨d.a,d.o,if d.nj=true then some d.a.sv else n.sv,if d.nj=true then n.ew+1 else n.ew,none⟩:fO);have vC:m.a=d.a:=by rw [<- hm]
 have bC:Hid (∃ z',ki=d.err/\hG S bc pn q z' m/\jw=d.ev.length/\b7 bc S 51 dA (.slice jV d.ev.length a8) d.ev):=by
  as_aux_lemma =>
   show _
   obtain ⟨g1,⟨aV,bE,cG⟩,g3,g4,g5⟩:=bN.out;have oE:z.g.gX = -1:=lC.uA;have uE:=lC.text.a6 g4 ak;have qz:=lC.ab.a6 g4 ak
   rcases g5 with ⟨h1,ah,aw,bn,dk,iT⟩|⟨h1,ah,aw,bn,dk,iT,kB⟩|⟨_,k,_,ah,_⟩
   ·simp only at h1 ah
    refine ⟨⟨z.xP,z.tc,z.aJ,z.ay,r',z.fs,.pointer none⟩,ah,?_,dk,iT⟩;rw [<- hm,h1];exact ⟨by simp only [uz];rw [aV];exact qz,uE,⟨g1,by rw [aV];exact g3,by rw [bE];exact bn⟩,cG.trans oE,aw,lC.BM,rfl⟩
   ·simp only at h1
    refine ⟨⟨z.xP,z.tc,z.aJ,z.ay,r',(lS z.fs (k0 (n.ew+1) d.a.bytes) 4).1,.pointer none⟩,aw.trans (uD h1).symm,?_,iT,kB⟩;rw [<- hm,h1];exact ⟨by simp only [uz];rw [aV];exact qz,uE,⟨g1,by rw [aV];exact g3,by rw [bE];exact dk⟩,cG.trans oE,bn,wB.save _ _ _,rfl⟩
   ·exact absurd (oE.symm.trans ah) af
 have wC:=J (show m.a.ax.length<=100000 by rw [vC];exact nG.out);rw [hm] at uB
 clear hd hm vC uD;go_wp2_with fail;obtain ⟨z',h1,ah,aw,bn⟩:=bC.out;subst aw;have cq:=J ah;have lA:=J bn;have BL:=J h1;clear h1 ah bn bC bN;refine (Iq cq wC).mono ?_;rintro e bU ⟨hQ,iV,rfl,hD,dI⟩;have ra:=J (b7.jU (aP.size aq.size) hD aF);have cq:=J (cq.below dI);have lA:=J (lA.below dI);have aq:=J (aq.below dI);have bR:=J (bR.below dI);clear hD dI
 go_wp2_with (refine ch rfl 37 (.tmp 4) (.tmp 71) rfl pO 37 #[.i 0,.slice none 0 0,.i 0,.slice none 0 0,.bool false,.bool false,.bool false] #[.i ki,.slice jV d.ev.length a8,.i m.a.rd,.slice hQ m.a.ax.length iV,.bool m.a.aU,.bool m.a.aL,.bool m.a.aS] rfl rfl bR.ab rfl ai cc ?_;intro b3 cp bT dm)
 have Fw:=cp.cell;have fF:=bh.box bR.out bT;refine cS (v:=.agg #[.i ki,.slice jV d.ev.length a8,.i m.a.rd,.slice hQ m.a.ax.length iV,.bool m.a.aU,.bool m.a.aL,.bool m.a.aS]) (by simp [results,results11,go_sem,Fw]) rfl ?_;rw [uB.out];refine ⟨z',jV,a8,hQ,iV,?_,cq.box fF,lA.a6 fF ak,ra.a6 fF ak,aq.ql bT (by have:=iR.out;omega)⟩;rw [BL.out]
end
end Go.Proofs.YtmmchlfoplcnbaaGreatDoor
