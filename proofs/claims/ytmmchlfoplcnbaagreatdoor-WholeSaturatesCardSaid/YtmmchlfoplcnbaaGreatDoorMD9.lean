/- A part of the walk. -/
import Derived.Test.YtmmchlfoplcnbaaGreatDoorMD8
namespace Go.Proofs.YtmmchlfoplcnbaaGreatDoor
open Go Go.RowKit Tryz
set_option linter.all false
set_option maxRecDepth 100000
set_option maxHeartbeats 4000000
theorem OP:(prog.info? 70).map (·.size)=some 1:=ai
section
variable {S cn:Nat->Prop} {ts:List TypeId} {w w':World} {bH:Nat} {ret:Int} {cQ gK fh:Option Addr} {e7 eG fj:Nat} {o:bA}
def bA.Gn (o:bA) (id:ByteArray):Int:=if kD o.boxes id=true then 5 else 0
theorem agT (hs:dw S w) (h:eO S w bH ret o) {N:Nat} (bi:e2 N o) (b8:N<=100000) (id:ByteArray) (rd:Int):Calls prog 151 #[.pointer (some ⟨bH,0,none⟩),.string id,.i rd] w fun e w'=>e=.returned (.i (o.Gn id))/\eO S w' bH ret (o.uM id rd)/\bh S [131,75] w w':=by
 have mixed:prog.follows Departure.mixedOrders=true:=ai;obtain ⟨cQ,gK,fh,e7,eG,fj,h⟩:=h;have ag:=J h;have cj:=J (ae bi b8);have aP:=J hs;clear h bi b8 hs
 go_enter func151,ntmps151
 go_wp2_with fail;refine (OM ⟨cQ,gK,fh,e7,eG,fj,ag.out⟩ cj.1 cj.2 id).mono ?_;rintro e aC ⟨rfl,hb⟩;have aB:=J (ae (ag.below hb) hb);clear hb
 cases dz:kD o.boxes id
 ·have aq:Hid (o.Gn id=0):=by show _=_;unfold bA.Gn;rw [dz];rfl
  have bC:Hid (o.uM id rd = { o with boxes:=oq o.boxes (iX o.boxes id) ⟨id,1,0,rd⟩ }):=by show _=_;unfold bA.uM;rw [dz];rfl
  have hi:iX o.boxes id<=o.boxes.length:=Kk;have cj:=J (show iX o.boxes id<=o.boxes.length/\o.boxes.length<=100000 from ⟨hi,by have:=cj.1.pR;have:=cj.2;omega⟩);obtain ⟨i,qT⟩:=aE (iX o.boxes id);rw [qT] at cj bC ⊢
  clear dz hi qT;go_wp2_with fail;obtain ⟨wd,aG⟩:=aE aC.drew;have ap:Hid (mP S wd bH ret cQ gK fh e7 eG fj o/\Below w.heap.size w wd):=by
   have h1:Below aC.heap.size aC aC.drew:=(aO _ _).drew;rw [<- aG];exact ⟨aB.1.below h1,aB.2.trans (h1.mono aB.2.size)⟩
  have aA:=J ap.1.ab;refine nH 14 (S:=fun w'=>w'.cell? ⟨bH,2,none⟩=some (.slice gK o.boxes.length eG)) ai (by rw [aG];exact (aA.ab.cell 2)) (fun hHeld=>?_);rw [aG] at hHeld ⊢
  clear aG;refine aK 0 ?_;refine aK 1 ?_;refine aK 2 ?_;refine aK 3 ?_;refine aK 4 ?_;refine aK 5 ?_;refine aK 6 ?_;refine aK 8 ?_;refine nI 7 23 rfl rfl ai aH (fun K hK=>?_);go_simp;refine (acX wd).mono ?_;rintro e dy ⟨rfl,fD⟩;have ap:=J (ae (ap.1.below fD) (ap.2.trans (fD.mono ap.2.size)));have aA:=J ap.1.ab;clear fD;have hHeld:=(aA.ab.cell 2)
  refine hK _ _ hHeld ?_;clear hK K;simp only [Act.put,aY,aZ,a1];refine aK 9 ?_;refine nI 10 26 rfl rfl ai aH (fun K hK=>?_);go_simp;have bF:=J (ar.new dy 75 #[.string id,.i 1,.i 0,.i rd]);have OQ:Below dy.heap.size dy (dy.alloc (.cells #[.string id,.i 1,.i 0,.i rd] 75)):=(aO _ _).alloc aF _;have Wi:=J (show some dy.heap.size≠(Value.slice gK o.boxes.length eG).ownBlock from fun e=>by have:=(ap.1.box.own.iw _ e.symm).2;omega);have ap:=J (ae (ap.1.below OQ) (ap.2.trans (OQ.mono ap.2.size)));have aA:=J ap.1.ab;clear OQ;have hHeld:=(aA.ab.cell 2)
  refine hK _ _ hHeld ?_;clear hK K;simp only [Act.put,aY,aZ,a1];refine nI 11 27 rfl rfl ai aH (fun K hK=>?_);go_simp;refine (adp (x:=⟨id,1,0,rd⟩) ap.1.box.own bF Wi (p3 _) cj.2 cj.1).mono ?_;rintro e wi ⟨br,a8,rfl,ho,az,hn⟩;have yn:bh S [75] (dy.alloc (.cells #[.string id,.i 1,.i 0,.i rd] 75)) wi:=bh.grown az fun k hk aT=>ap.1.box.kind av k hk
  have hX:=J (show b7 wi S 75 cK (.slice br (o.boxes.length+1) a8) (oq o.boxes i ⟨id,1,0,rd⟩) from ⟨ho,fun k hk=>by
   rcases hn k hk with e|e
   ·exact ap.1.box.ins k e
   ·exact aP.gJ k (gT ap.2.size e)⟩)
  have aA:=J (ap.1.ab.a6 yn ak);have ao:=J (ae (ap.1.o3.a6 yn ak) (ae (ap.1.rE.a6 yn ak) ((bh.dL S [75] ap.2).trans yn)));clear ho az hn yn ap bF Wi;have hHeld:=(aA.ab.cell 2)
  refine hK _ _ hHeld ?_;clear hK K;simp only [Act.put,aY,aZ,a1];refine aK 12 ?_;refine aK 13 ?_;refine FM 14 rfl ai aH rfl ai 70 (.tmp 29) (.tmp 27) rfl bH 2 131 _ (.slice br (o.boxes.length+1) a8) rfl rfl aA.ab av OP rfl ?_;intro bc bS bP dx;go_wp2_with fail;go_ret;have eN:bh S [131] wi bc:=bh.grown bP fun k hk _=>by injection hk with hk;subst hk;exact ⟨aA.ins,.inr ⟨_,_,_,aA.ab,av⟩⟩
  have hlen:(oq o.boxes i ⟨id,1,0,rd⟩).length=o.boxes.length+1:=Mr _ _ _ cj.1;rw [bC.out,aq.out];refine ⟨rfl,⟨cQ,br,fh,e7,a8,fj,⟨⟨?_,aA.ins⟩,ao.1.a6 eN ak,?_,ao.2.1.a6 eN ak⟩⟩,(ao.2.2.mono av).trans (eN.mono av)⟩
  ·show ar bc bH 131 #[_,_,.slice br (oq o.boxes i ⟨id,1,0,rd⟩).length a8,_]
   rw [hlen];exact bS
  ·show b7 bc S 75 cK (.slice br (oq o.boxes i ⟨id,1,0,rd⟩).length a8) _
   rw [hlen];exact hX.a6 eN ak
 ·have aq:Hid (o.Gn id=5):=by show _=_;unfold bA.Gn;rw [bB dz]
  have bC:Hid (o.uM id rd=o):=by show _=_;unfold bA.uM;rw [bB dz]
  clear dz;go_wp2_with fail;go_ret;exact ⟨by rw [aq.out];rfl,by rw [bC.out];exact ⟨cQ,gK,fh,e7,eG,fj,aB.1⟩,bh.dL _ _ aB.2⟩
theorem ajB (x:cv) (what:Int) (dS:Bool) (ret rd:Int):oZ x what dS ret rd=⟨x.id,(sC x.state x.il what dS ret).1,(sC x.state x.il what dS ret).2,if dS=true then rd else x.last⟩:=by
 unfold oZ sC
 cases dS
 ·simp only [oQ,ml]
  split <;> rfl
 ·rfl
theorem y7:(prog.info? 3).map (·.size)=some 1:=ai
theorem ajC:(prog.info? 73).map (·.size)=some 2:=ai
section
variable {P:Program} {ops:Array Oper} {Q:Exit->Act->World->Prop} {S:World->Prop} {md:Region.Mode} {fuel last:Nat} {listed:Array Bool} {a:Act} {w:World}
theorem ajD (i:Nat) {oi:Oper} (hi:ops[i]? = some oi) (hr:Region.ready md ops listed = [i]) (hw:Region.wanted oi (yielded ops a.tmps)=true) (hl:(i==last)=true) (hd:Region.ready md ops (listed.setIfInBounds i true) = []) (ty:TypeId) (x y:Operand) (ho:oi.op=.store ty x y)
  (g off:Nat) (vs:List Value) (hx:a.eval x=.pointer (some ⟨g,off,none⟩)) (hy:a.eval y=.agg vs.toArray)
  (ht:w.there g off vs.length) (hn:(P.info? ty).map (·.size)=some vs.length) (h1:vs.toArray.all (·.oneCell')=true)
  (h:Q .normal (a.put oi.dst undef) (w.setCells g off vs)):kR P md ops Q S last (fuel+1) listed a w :=
 Nk i hi hr hw hl hd fun K hK=>wp_store_mid ty x y ho g off vs.toArray hx hy ht hn h1 (hK undef _ h)
end
section
variable {P:Program} {ops:Array Oper} {Q:Exit->Act->World->Prop} {a:Act} {w:World} {α:Type} {size:Nat} {E:cu α size} {base:Nat} {e:TypeId} {l:List α}
theorem Wj {rest:List Oper} {op:Oper} (kq:op.guard=none) (ty:TypeId) (x y:Operand) (ho:op.op=.store ty x y) {g n c i j:Nat} (hown:Own w base e E (.slice (some ⟨g,0,none⟩) n c) l) (hn:l.length=n) (hi:i<l.length) (aD:j<size) (z:α) (v:Value) (bI:E.enc z=(E.enc l[i]).set j v)
  (hx:a.eval x=.pointer (some ⟨g,i*size+j,none⟩)) (hy:a.eval y=v) (cH:(P.info? ty).map (·.size)=some 1) (h1:v.oneCell'=true)
  (h:∀ w',Own w' base e E (.slice (some ⟨g,0,none⟩) n c) (l.set i z)->w.grownBy w' (some g)->wpList P ops Q rest (a.put op.dst undef) w'):wpList P ops Q (op :: rest) a w:=by
 subst hy;have dt:w.there g (i*size+j) 1:=fun k hk=>by
  subst hn;have:=KK hown hi (j+k) af
  rwa [<- D4] at this
 obtain ⟨ah,aw⟩:=Ei hown hn hi aD z (a.eval y) bI;exact Ap kq fun _ hK=>FN ty x y ho g _ hx h1 dt cH (hK _ _ (h _ ah aw))
end
theorem mP.Wk {g i:Nat} {z:cv} (h:mP S w bH ret cQ (some ⟨g,0,none⟩) fh e7 eG fj o) (hn:(o.boxes.set i z).length=o.boxes.length) (ho:Own w' 0 75 cK (.slice (some ⟨g,0,none⟩) o.boxes.length eG) (o.boxes.set i z)) (az:w.grownBy w' (some g)) :
  mP S w' bH ret cQ (some ⟨g,0,none⟩) fh e7 eG fj { o with boxes:=o.boxes.set i z }/\bh S [75] w w':=by
 have hc:bh S [75] w w':=bh.grown az fun k hk aT=>h.box.kind av k hk
 have hb:=h.ab.a6 hc ak;refine ⟨⟨?_,h.o3.a6 hc ak,⟨?_,fun k hk=>h.box.ins k hk⟩,h.rE.a6 hc ak⟩,hc⟩
 ·show cW w' S bH 131 #[_,_,.slice _ (o.boxes.set i z).length eG,_]
  rw [hn];exact hb
 ·show Own w' 0 75 cK (.slice _ (o.boxes.set i z).length eG) _
  rw [hn];exact ho
theorem ajE (l:List cv) (i:Nat) (z:cv):rv (l.set i z) i=rv l i:=by
 unfold rv;rw [List.take_set,List.drop_set_of_lt af,List.set_eq_of_length_le (by simp;omega)]
theorem JX (hs:dw S w) (h:eO S w bH ret o) {N:Nat} (bi:e2 N o) (b8:N<=100000) (i:Nat) (hi:i<o.boxes.length) (what:Int) (dS:Bool) (rd:Int) (hb:j' o.boxes[i].state what≠0) :
  Calls prog 193 #[.pointer (some ⟨bH,0,none⟩),.i i,.i what,.bool dS,.i rd] w fun e w'=>e=.returned (.tuple #[])/\eO S w' bH ret { o with boxes:=uj o.boxes i (oZ o.boxes[i] what dS ret rd) }/\bh S [131,75] w w':=by
 have mixed:prog.follows Departure.mixedOrders=true:=ai;obtain ⟨cQ,gK,fh,e7,eG,fj,h⟩:=h;have xc:=bi.wK _ (iO hi);have aB:=J (ae hb (show c' o.boxes[i].il by have:=xc.t;unfold c';unfold mx at this;omega));have kS:=J (show o.boxes.length<=100000 by have:=bi.pR;omega);obtain ⟨g,cap,cur,hv,_,_,_,_,_,_⟩:=th h.box.own (by intro e;rw [e] at hi;simp at hi);injection hv with hA _ jO
 subst hA;subst jO;have Wl:∀ W,mP S W bH ret cQ (some ⟨g,0,none⟩) fh e7 eG fj o->W.there g (i*4+1) 2:=fun W dZ j aD=>by
  have:=KK dZ.box.own hi (j+1) af
  rwa [show i*4+(j+1)=i*4+1+j from af] at this
 have Wm:=J Wl;obtain ⟨x,hx⟩:=aE o.boxes[i];have Wn:∀ W,mP S W bH ret cQ (some ⟨g,0,none⟩) fh e7 eG fj o->W.cell? ⟨g,i*4+1,none⟩=some (.i x.state)/\W.cell? ⟨g,i*4+2,none⟩=some (.i x.il)/\W.cell? ⟨bH,1,none⟩=some (.i ret):=fun W dZ=>by
  obtain ⟨b,off,e,_,_,aX,ba,_⟩:=dZ.box.cZ.ks hi;injection e with e
  injection e with aV bE
  subst aV;subst bE;rw [hx] at aX ba
  exact ⟨by rw [fw] at aX;exact aX,by rw [fw] at ba;exact ba,dZ.cells.2.1⟩
 have OR:=J Wn;have qg:=J (ajB x what dS ret rd);rw [hx] at aB ⊢
 have ajF:=J hx;obtain ⟨s2,fY⟩:=aE ((sC x.state x.il what dS ret).1);obtain ⟨t2,xi⟩:=aE ((sC x.state x.il what dS ret).2);rw [fY,xi] at qg
 have ag:=J h;have aP:=J hs;have rb:(i:Int)<(o.boxes.length:Int):=af;obtain ⟨_,_,c2,_⟩:=h.cells;have Aj:=J hi;clear h bi b8 hs Wl Wn hx xc hb
 go_enter func193,ntmps193
 go_wp2_with fail;obtain ⟨wd,aG⟩:=aE w.drew;have ap:Hid (mP S wd bH ret cQ (some ⟨g,0,none⟩) fh e7 eG fj o/\Below w.heap.size w wd):=by
  have h1:Below w.heap.size w w.drew:=(aO _ _).drew;rw [<- aG];exact ⟨ag.below h1,h1⟩
 have ao:=J (OR.out wd ap.1);refine nH 17 (S:=fun w'=>w'.cell? ⟨g,i*4+1,none⟩=some (.i x.state)/\w'.cell? ⟨g,i*4+2,none⟩=some (.i x.il)/\w'.cell? ⟨bH,1,none⟩=some (.i ret)) ai (by rw [aG];exact (ae (ao.1) (ae (ao.2.1) (ao.2.2)))) (fun hHeld=>?_);rw [aG] at hHeld ⊢
 clear aG;refine aK 0 ?_;refine aK 1 ?_;refine aK 2 ?_;refine aK 3 ?_;refine aK 4 ?_;refine aK 5 ?_;refine aK 6 ?_;refine aK 7 ?_;refine aK 8 ?_;refine aK 9 ?_;refine aK 10 ?_;refine nI 11 29 rfl rfl ai aH (fun K hK=>?_);go_simp;refine (ac0 x.state x.il what dS ret aB.1 aB.2 wd).mono ?_;rintro e dy ⟨rfl,fD⟩;rw [fY,xi];have ap:=J (ae (ap.1.below fD) (ap.2.trans (fD.mono ap.2.size)));have ao:=J (OR.out dy ap.1);clear fD fY xi;have hHeld:=(ae (ao.1) (ae (ao.2.1) (ao.2.2)))
 refine hK _ _ hHeld ?_;clear hK K;simp only [Act.put,aY,aZ,a1];refine aK 12 ?_;refine aK 13 ?_;refine I5 14 31 (.i 0) rfl rfl ai ai ai (fun _ _ _ h=>h) aH ai (by intro w';go_simp;(try (with_reducible rfl))) As ?_;simp only [Act.put,aY,aZ,a1];refine aK 15 ?_;refine aK 16 ?_;refine ajD 17 rfl ai aH rfl ai 73 (.tmp 33) (.tmp 30) rfl g (i*4+1) [.i s2,.i t2] rfl rfl (Wm.out dy ap.1) ajC cc ?_;have h1:=Ei ap.1.box.own rfl Aj.out (j:=1) ak ⟨x.id,s2,x.il,x.last⟩ (.i s2) (by rw [ajF.out];rfl);have ah:=Ei h1.1 av (by simpa using Aj.out) (j:=2) ak ⟨x.id,s2,t2,x.last⟩ (.i t2) (by rw [List.getElem_set_self];rfl);rw [List.set_set] at ah
 have fL:dy.grownBy (dy.setCells g (i*4+1) [.i s2,.i t2]) (some g):=⟨ah.2.os.trans h1.2.os,ah.2.tape.trans h1.2.tape,ah.2.output.trans h1.2.output,gT h1.2.size ah.2.size,fun k hk bW=>(ah.2.block k (qb hk h1.2.size) bW).trans (h1.2.block k hk bW)⟩
 have aw:Own (dy.setCells g (i*4+1) [.i s2,.i t2]) 0 75 cK (.slice (some ⟨g,0,none⟩) o.boxes.length eG) (o.boxes.set i ⟨x.id,s2,t2,x.last⟩):=ah.1;obtain ⟨Wo,Wp⟩:=aE (dy.setCells g (i*4+1) [.i s2,.i t2]);rw [Wp] at fL aw ⊢
 obtain ⟨Gp,Ak⟩:∃ F:World->cv->Prop,∀ W z,F W z↔(mP S W bH ret cQ (some ⟨g,0,none⟩) fh e7 eG fj { o with boxes:=o.boxes.set i z }/\bh S [75] w W/\Own W 0 75 cK (.slice (some ⟨g,0,none⟩) o.boxes.length eG) (o.boxes.set i z)):=⟨_,fun _ _=>Iff.rfl⟩
 have JY:Gp Wo ⟨x.id,s2,t2,x.last⟩:=(Ak _ _).2 (by
  have bn:=ap.1.Wk av aw fL;exact ⟨bn.1,(bh.dL S [75] ap.2).trans bn.2,aw⟩)
 have Wq:∀ W,Own W 0 75 cK (.slice (some ⟨g,0,none⟩) o.boxes.length eG) ((o.boxes.set i ⟨x.id,s2,t2,x.last⟩).set i ⟨x.id,s2,t2,rd⟩)->Wo.grownBy W (some g)->Gp W ⟨x.id,s2,t2,rd⟩:=fun W dk iT=>(Ak _ _).2 (by
  have kB:=((Ak _ _).1 JY).1.Wk (i:=i) (z:=⟨x.id,s2,t2,rd⟩) av (by simpa using dk) iT;rw [List.set_set] at dk
  have zg:=kB.1;simp only [List.set_set] at zg
  exact ⟨zg,((Ak _ _).1 JY).2.1.trans kB.2,dk⟩)
 have hcell:∀ W z,Gp W z->W.cell? ⟨g,i*4+1,none⟩=some (.i z.state)/\W.cell? ⟨bH,2,none⟩=some (.slice (some ⟨g,0,none⟩) o.boxes.length eG):=fun W z bI=>by
  obtain ⟨f1,_,f3⟩:=(Ak _ _).1 bI;obtain ⟨b,off,e,_,_,aX,_,_⟩:=f1.box.cZ.ks (i:=i) (by simpa using Aj.out);injection e with e
  injection e with aV bE
  subst aV;subst bE;rw [fw] at aX
  refine ⟨by simpa using aX,?_⟩;have:=f1.cells.2.2.1
  simpa using this
 have Wr:∀ W z,Gp W z->z.state≠5->oZ x what dS ret rd=z->eO S W bH ret { o with boxes:=uj o.boxes i (oZ x what dS ret rd) }/\bh S [131,75] w W:=fun W z bI dk hb=>by
  obtain ⟨f1,f2,_⟩:=(Ak _ _).1 bI;rw [hb];unfold uj;rw [bp dk];exact ⟨⟨_,_,_,_,_,_,f1⟩,f2.mono av⟩
 have Ic:∀ W z,Gp W z->z.state=5->oZ x what dS ret rd=z->Calls prog 249 #[.slice (some ⟨g,0,none⟩) o.boxes.length eG,.i i,.i ((i:Int)+1)] W fun e eJ=>∃ br a8,e=.returned (.slice br (o.boxes.length-1) a8)/\cW eJ S bH 131 #[.slice cQ o.q.length e7,.i ret,.slice (some ⟨g,0,none⟩) o.boxes.length eG,.slice fh o.eC.length fj]/\(∀ gU,ar gU bH 131 #[.slice cQ o.q.length e7,.i ret,.slice br (o.boxes.length-1) a8,.slice fh o.eC.length fj]->eJ.grownBy gU (some bH)->eO S gU bH ret { o with boxes:=uj o.boxes i (oZ x what dS ret rd) }/\bh S [131,75] w gU):=fun W z bI dk hb=>by
  obtain ⟨f1,f2,f3⟩:=(Ak _ _).1 bI;have f4:Own W 0 75 cK (.slice (some ⟨g,0,none⟩) (o.boxes.set i z).length eG) (o.boxes.set i z):=by simpa using f3
  have hd:=adj (l:=o.boxes.set i z) (i:=i) f4 (by simpa using kS.out) (by simpa using Aj.out);rw [tA] at hd
  refine hd.mono ?_;rintro e eJ ⟨br,a8,rfl,ho,az,hn⟩;rw [tA] at ho
  rw [ajE] at ho
  have hc:bh S [75] W eJ:=bh.grown az fun k hk aT=>f1.box.kind av k hk
  have qz:=f1.ab.a6 hc ak;simp only [tA] at qz
  refine ⟨br,a8,by rw [tA],qz,fun gU bu er=>?_⟩;have kd:bh S [131] eJ gU:=bh.grown er fun k hk _=>by injection hk with hk;subst hk;exact ⟨qz.ins,.inr ⟨_,_,_,qz.ab,av⟩⟩
  rw [hb];unfold uj;rw [bB dk];have dH:(rv o.boxes i).length=o.boxes.length-1:=SN _ _ Aj.out;refine ⟨⟨cQ,br,fh,e7,a8,fj,⟨⟨?_,qz.ins⟩,(f1.o3.a6 hc ak).a6 kd ak,b7.a6 ⟨?_,fun k hk=>?_⟩ kd ak,(f1.rE.a6 hc ak).a6 kd ak⟩⟩,((f2.trans hc).mono av).trans (kd.mono av)⟩
  ·show ar gU bH 131 #[_,_,.slice br (rv o.boxes i).length a8,_]
   rw [dH];exact bu
  ·show Own eJ 0 75 cK (.slice br (rv o.boxes i).length a8) (rv o.boxes i)
   rw [dH];exact ho
  ·have gP:(Value.slice br (o.boxes.length-1) a8).ownBlock=some k:=by rw [<- dH];exact hk
   exact f1.box.ins k (hn k (by rw [tA];exact gP))
 have Ws:=J JY;have Wt:=J Wq;have JZ:=J hcell;have Wu:=J Wr;have Wv:=J Ic;clear h1 ah fL Wp hHeld c2 JY Wq hcell Wr Ic;have rz:=J aw;clear aw Ak ap Wm OR ag aP ao;have aC:IntKind.i64.wrap ((i:Int)+1)=(i:Int)+1:=by have:=kS.out;have:=Aj.out;rw [mS];omega
 cases dS
 ·by_cases dk:s2=5
  ·have sj:(s2==5)=true:=by simpa using dk
   have Fo:=J dk;clear dk;have bN:=J Ws.out;obtain ⟨c1,c2⟩:=JZ.out _ _ bN.out;go_wp2_with fail;have OS:=Wv.out _ _ bN.out Fo.out (by rw [qg.out];rfl);refine OS.mono ?_;rintro e bm ⟨br,a8,rfl,z1⟩;have bq:=J z1;clear z1;obtain ⟨_,_,c3,_⟩:bm.cell? ⟨bH,0,none⟩=some (.slice cQ o.q.length e7)/\bm.cell? ⟨bH,1,none⟩=some (.i ret)/\bm.cell? ⟨bH,2,none⟩=some (.slice (some ⟨g,0,none⟩) o.boxes.length eG)/\bm.cell? ⟨bH,3,none⟩=some (.slice fh o.eC.length fj):=⟨bq.1.ab.cell 0,bq.1.ab.cell 1,bq.1.ab.cell 2,bq.1.ab.cell 3⟩
   go_wp2_with (refine kZ rfl 70 (.tmp 55) (.tmp 53) rfl bH 2 131 _ (.slice br (o.boxes.length-1) a8) rfl rfl bq.1.ab av OP rfl ?_;intro bc bS bP dx)
   go_end0
   exact ⟨rfl,bq.2 bc bS bP⟩
  ·have sj:(s2==5)=false:=by simpa using dk
   have bN:=J Ws.out;obtain ⟨c1,c2⟩:=JZ.out _ _ bN.out;go_wp2_with fail
   go_end0
   exact ⟨rfl,Wu.out _ _ bN.out dk (by rw [qg.out];rfl)⟩
 ·by_cases dk:s2=5
  ·have sj:(s2==5)=true:=by simpa using dk
   have Fo:=J dk;clear dk
   go_wp2_with (refine Wj rfl 3 (.tmp 38) (.tmp 36) rfl (i:=i) (j:=3) rz.out av (by simpa using Aj.out) ak ⟨x.id,s2,t2,rd⟩ (.i rd) (by rw [Kd];rfl) rfl rfl y7 rfl ?_;intro wn ho az;have bN:=J (Wt.out wn ho az);clear ho az;obtain ⟨c1,c2⟩:=JZ.out _ _ bN.out)
   have OS:=Wv.out _ _ bN.out Fo.out (by rw [qg.out];rfl);refine OS.mono ?_;rintro e bm ⟨br,a8,rfl,z1⟩;have bq:=J z1;clear z1;obtain ⟨_,_,c3,_⟩:bm.cell? ⟨bH,0,none⟩=some (.slice cQ o.q.length e7)/\bm.cell? ⟨bH,1,none⟩=some (.i ret)/\bm.cell? ⟨bH,2,none⟩=some (.slice (some ⟨g,0,none⟩) o.boxes.length eG)/\bm.cell? ⟨bH,3,none⟩=some (.slice fh o.eC.length fj):=⟨bq.1.ab.cell 0,bq.1.ab.cell 1,bq.1.ab.cell 2,bq.1.ab.cell 3⟩
   go_wp2_with (refine kZ rfl 70 (.tmp 55) (.tmp 53) rfl bH 2 131 _ (.slice br (o.boxes.length-1) a8) rfl rfl bq.1.ab av OP rfl ?_;intro bc bS bP dx)
   go_end0
   exact ⟨rfl,bq.2 bc bS bP⟩
  ·have sj:(s2==5)=false:=by simpa using dk
   go_wp2_with (refine Wj rfl 3 (.tmp 38) (.tmp 36) rfl (i:=i) (j:=3) rz.out av (by simpa using Aj.out) ak ⟨x.id,s2,t2,rd⟩ (.i rd) (by rw [Kd];rfl) rfl rfl y7 rfl ?_;intro wn ho az;have bN:=J (Wt.out wn ho az);clear ho az;obtain ⟨c1,c2⟩:=JZ.out _ _ bN.out)
   go_end0
   exact ⟨rfl,Wu.out _ _ bN.out dk (by rw [qg.out];rfl)⟩
end
theorem OT:(prog.info? 79).map (·.size)=some 1:=ai
section
variable {S cn:Nat->Prop} {ts:List TypeId} {w w':World} {bH:Nat} {ret:Int} {cQ gK fh:Option Addr} {e7 eG fj:Nat} {o:bA}
def bA.ve (o:bA) (id:ByteArray) (what:Int):Int:=if o.err id what=0/\what=1 then 7 else o.err id what
theorem bA.Ww {id:ByteArray} {what:Int} (h:o.err id what=0):∃ hi:iX o.boxes id<o.boxes.length,o.at_ id=some o.boxes[iX o.boxes id]/\j' o.boxes[iX o.boxes id].state what≠0/\o.idx id what=iX o.boxes id:=by
 have hm:=bA.x4.1 h;have dz:kD o.boxes id=true:=by
  unfold bA.err at h
  by_cases bQ:kD o.boxes id=true
  ·exact bQ
  ·rw [bp bQ] at h;exact absurd h ak
 obtain ⟨hi,e⟩:=bA.OO dz;refine ⟨hi,e,?_,by unfold bA.idx;rw [bB h]⟩;unfold bA.may at hm
 rw [e] at hm
 simpa using hm
theorem bA.J0 {id:ByteArray} {what rd:Int} {dS:Bool} {x:cv} (h:o.at_ id=some x):o.act id what dS ret rd = { o with boxes:=uj o.boxes (iX o.boxes id) (oZ x what dS ret rd) }:=by
 unfold bA.act;rw [h]
theorem bA.ajG {id:ByteArray} {what rd:Int} (h:o.ve id what≠0):o.ask id what ret rd=(false,o):=by
 unfold bA.ask;rw [bp];rintro ⟨h1,ah⟩;refine h ?_;unfold bA.ve;rw [bA.x4.2 h1,bp (by simp [ah])]
theorem bA.ajH {id:ByteArray} {what rd:Int} (h:o.err id what=0) (ah:what≠1):o.ask id what ret rd=(pV o.q,({ o with q:=o.q.tail }:bA).act id what (pV o.q) ret rd):=by
 unfold bA.ask;rw [bB ⟨bA.x4.1 h,ah⟩]
theorem mP.OU {br:Option Addr} {a8:Nat} {l:List cf} (h:cW w S bH 131 #[.slice cQ o.q.length e7,.i ret,.slice gK o.boxes.length eG,.slice fh o.eC.length fj]) (bd:iY S w cQ e7 o.q) (hx:b7 w S 75 cK (.slice gK o.boxes.length eG) o.boxes) (hi:b7 w S 146 encI (.slice br l.length a8) l) (hb:ar w' bH 131 #[.slice cQ o.q.length e7,.i ret,.slice gK o.boxes.length eG,.slice br l.length a8]) (az:w.grownBy w' (some bH)):eO S w' bH ret { o with eC:=l }/\bh S [131] w w':=by
 have hc:bh S [131] w w':=bh.grown az fun k hk _=>by injection hk with hk;subst hk;exact ⟨h.ins,.inr ⟨_,_,_,h.ab,av⟩⟩
 exact ⟨⟨_,_,_,_,_,_,⟨⟨hb,h.ins⟩,bd.a6 hc ak,hx.a6 hc ak,hi.a6 hc ak⟩⟩,hc⟩
theorem zD (hs:dw S w) (h:eO S w bH ret o) {N:Nat} (bi:e2 N o) (b8:N<=100000) (id:ByteArray) (what rd:Int):Calls prog 139 #[.pointer (some ⟨bH,0,none⟩),.string id,.i what,.i rd] w fun e w'=>e=.returned (.tuple #[.bool (o.ask id what ret rd).1,.i (o.ve id what)])/\eO S w' bH ret (o.ask id what ret rd).2/\bh S [131,75] w w':=by
 have ag:=J h;have cj:=J (ae bi b8);have aP:=J hs;clear h bi b8 hs;have leaf:∀ (ec:Int) (aC:World),o.ve id what=ec->ec≠0->eO S aC bH ret o->Below w.heap.size w aC->Ending.returned (.tuple #[.bool false,.i ec])=.returned (.tuple #[.bool (o.ask id what ret rd).1,.i (o.ve id what)])/\eO S aC bH ret (o.ask id what ret rd).2/\bh S [131,75] w aC:=fun ec aC he bW hw hb=>by
  rw [bA.ajG (by rw [he];exact bW),he];exact ⟨rfl,hw,bh.dL _ _ hb⟩
 have cT:=J leaf;clear leaf
 go_enter func139,ntmps139
 go_wp2_with fail;refine (Wh ag cj.1 cj.2 id what).mono ?_;rintro e aC ⟨rfl,hb⟩;have aB:=J (ae (ag.below hb) hb);clear hb
 by_cases aI:o.err id what=0
 ·by_cases h1:what=1
  ·have bC:Hid (o.ve id what=7):=by show _=_;unfold bA.ve;rw [bB ⟨aI,h1⟩]
   subst h1;rw [aI];clear aI;go_wp2_with fail;exact cS (v:=.tuple #[.bool false,.i 7]) (by simp [results,results139,go_sem]) rfl (cT.out 7 aC bC ak aB.1 aB.2)
  ·obtain ⟨hi,dz,tV,DP⟩:=bA.Ww aI
   have fx:=J (ae dz tV);have uH:Hid (o.ve id what=0):=by show _=_;unfold bA.ve;rw [bp (by simp [h1]),aI]
   have cJ:=J (bA.ajH (ret:=ret) (rd:=rd) aI h1);have d1:(what==1)=false:=by simpa using h1
   rw [aI,DP];clear aI h1 dz tV DP;go_wp2_with fail;refine (Wg aB.1).mono ?_;rintro e aM ⟨rfl,gx,kt⟩;have nC:=J (ae gx ((bh.dL S [131] aB.2).trans kt));clear gx kt;go_wp2_with fail;refine (JX (aP.size nC.2.size) nC.1 cj.1.B3 cj.2 _ hi what _ rd fx.2).mono ?_;rintro e w3 ⟨rfl,np,kd⟩;have cD:=J (ae np ((nC.2.mono (sI:=[131,75]) av).trans kd));clear np kd;go_wp2_with fail;refine cS (v:=.tuple #[.bool (pV o.q),.i 0]) (by simp [results,results139,go_sem]) rfl ?_;rw [cJ.out,uH.out];refine ⟨rfl,?_,cD.2⟩;have e:({ o with q:=o.q.tail }:bA).act id what (pV o.q) ret rd=_:=bA.J0 (o:={ o with q:=o.q.tail }) fx.1;rw [e];exact cD.1
 ·obtain ⟨ec,rA⟩:=aE (o.err id what)
  have bW:ec≠0:=by rw [<- rA];exact aI
  have bC:Hid (o.ve id what=ec):=by show _=_;unfold bA.ve;rw [bp (by rintro ⟨h,_⟩;exact aI h),rA]
  have d0:(ec==0)=false:=by simpa using bW
  have d1:(ec != 0)=true:=by simpa using bW
  have py:=J bW;rw [rA];clear aI rA bW;go_wp2_with fail;exact cS (v:=.tuple #[.bool false,.i ec]) (by simp [results,results139,go_sem]) rfl (cT.out ec aC bC py aB.1 aB.2)
def bA.x5 (o:bA) (id name:ByteArray):Bool:=o.may id 1&&(h6 o.eC name||pV o.q)
theorem agO (hs:dw S w) (h:eO S w bH ret o) {N:Nat} (bi:e2 N o) (b8:N<=100000) (id name:ByteArray) (size rd:Int):Calls prog 152 #[.pointer (some ⟨bH,0,none⟩),.string id,.string name,.i size,.i rd] w fun e w'=>e=.returned (.tuple #[.bool (o.x5 id name),.bool (o.lx id name size ret rd).1,.i (o.err id 1)])/\eO S w' bH ret (o.lx id name size ret rd).2/\bh S [131,75] w w':=by
 have ag:=J h;have cj:=J (ae bi b8);have x6:=J (ae (VQ.2 bi.is) (show o.eC.length<=100000 by have:=bi.pS;omega));have aP:=J hs;clear h bi b8 hs
 go_enter func152,ntmps152
 go_wp2_with fail;refine (Wh ag cj.1 cj.2 id 1).mono ?_;rintro e aC ⟨rfl,hb⟩;have aB:=J (ae (ag.below hb) hb);clear hb
 by_cases aI:o.err id 1=0
 ·obtain ⟨hi,dz,tV,DP⟩:=bA.Ww aI
  have fx:=J (ae dz tV);have uH:=J aI;rw [aI,DP];clear dz tV DP;obtain ⟨cQ,gK,fh,e7,eG,fj,h1⟩:=aB.1;obtain ⟨_,_,_,c1⟩:=h1.cells;have sG:=J h1;clear h1;go_wp2_with fail;refine (XR o.eC name fh fj aC sG.rE.cZ x6.2 x6.1).mono ?_;rintro e aM ⟨rfl,hb⟩;have nC:=J (ae (aB.1.below hb) (aB.2.trans (hb.mono aB.2.size)));clear hb
  by_cases dt:h6 o.eC name=true
  ·have cJ:Hid (o.lx id name size ret rd=(false,{ (o.act id 1 true ret rd) with eC:=nX o.eC name size rd })):=by show _=_;unfold bA.lx;rw [bB (bA.x4.1 aI),bB dt]
   have Gq:Hid (o.x5 id name=true):=by show _=_;unfold bA.x5;rw [bA.x4.1 aI,dt];rfl
   rw [dt];clear dt aI
   go_wp2_with (refine ch rfl 146 (.tmp 15) (.tmp 34) rfl aM.heap.size 146 p9.cells (yu o.eC name).cells rfl rfl (ar.new aM 146 p9.cells) rfl GX (GW _) ?_;intro bc bS bP dx;have xj:=J (show eO S bc bH ret o/\bh S [131] w bc from by
        have dI:Below aM.heap.size aM bc:=((aO aM.heap.size aM).alloc aF _).grown bP av dP;exact ⟨nC.1.below dI,(bh.dL S [131] nC.2).below dI⟩);clear bS bP dx)
   go_wp2_with fail;refine (JX (aP.size xj.2.size) xj.1 cj.1 cj.2 _ hi 1 true rd fx.2).mono ?_;rintro e bm ⟨rfl,uV,rI⟩;have j2:=J (ae uV ((xj.2.mono (sI:=[131,75]) av).trans rI));clear uV rI;obtain ⟨cQ,gK,fh,e7,eG,fj,iT⟩:=j2.1;obtain ⟨_,_,_,dG⟩:=iT.cells;have Gr:=J iT;clear iT;go_wp2_with fail;refine (PD o.eC name size rd fh fj _ Gr.rE.cZ x6.2 x6.1).mono ?_;rintro e bU ⟨br,a8,rfl,lr,nT⟩;have oB:=J (Gr.below nT);have jS:=J (b7.jU (aP.size j2.2.size) lr aF);have v8:=J (j2.2.below nT);have gb:=J oB.ab.ab;clear lr nT;obtain ⟨_,_,_,fU⟩:=oB.cells
   go_wp2_with (refine kZ rfl 79 (.tmp 59) (.tmp 57) rfl bH 3 131 _ (.slice br (nX o.eC name size rd).length a8) rfl rfl gb.out av OT rfl ?_;intro b3 cp bT dm)
   refine cS (v:=.tuple #[.bool true,.bool false,.i 0]) (by simp [results,results152,go_sem]) rfl ?_;obtain ⟨f1,f2⟩:=mP.OU oB.ab oB.o3 oB.box jS.out cp bT;rw [uH.out,cJ.out,Gq.out];rw [bA.J0 (o:=o) fx.1];exact ⟨rfl,f1,(v8.mono av).trans (f2.mono av)⟩
  ·have jJ:h6 o.eC name=false:=by simpa using dt
   rw [jJ]
   go_wp2_with (refine ch rfl 146 (.tmp 15) (.tmp 34) rfl aM.heap.size 146 p9.cells (yu o.eC name).cells rfl rfl (ar.new aM 146 p9.cells) rfl GX (GW _) ?_;intro bc bS bP dx;have xj:=J (show eO S bc bH ret o/\bh S [131] w bc from by
        have dI:Below aM.heap.size aM bc:=((aO aM.heap.size aM).alloc aF _).grown bP av dP;exact ⟨nC.1.below dI,(bh.dL S [131] nC.2).below dI⟩);clear bS bP dx)
   refine (Wg xj.1).mono ?_;rintro e w3 ⟨rfl,np,kd⟩;have cD:=J (ae np (xj.2.trans kd));clear np kd
   by_cases kJ:pV o.q=true
   ·have cJ:Hid (o.lx id name size ret rd=(true,{ (({ o with q:=o.q.tail }:bA).act id 1 true ret rd) with eC:=nX o.eC name size rd })):=by show _=_;unfold bA.lx;rw [bB (bA.x4.1 aI),bp dt,bB kJ]
    have Gq:Hid (o.x5 id name=true):=by show _=_;unfold bA.x5;rw [bA.x4.1 aI,jJ,kJ];rfl
    rw [kJ];clear dt jJ kJ aI;go_wp2_with fail;refine (JX (aP.size cD.2.size) cD.1 cj.1.B3 cj.2 _ hi 1 true rd fx.2).mono ?_;rintro e bm ⟨rfl,uV,rI⟩;have j2:=J (ae uV ((cD.2.mono (sI:=[131,75]) av).trans rI));clear uV rI;obtain ⟨cQ,gK,fh,e7,eG,fj,iT⟩:=j2.1;obtain ⟨_,_,_,dG⟩:=iT.cells;have Gr:=J iT;clear iT;go_wp2_with fail;refine (PD o.eC name size rd fh fj _ Gr.rE.cZ x6.2 x6.1).mono ?_;rintro e bU ⟨br,a8,rfl,lr,nT⟩;have oB:=J (Gr.below nT);have jS:=J (b7.jU (aP.size j2.2.size) lr aF);have v8:=J (j2.2.below nT);have gb:=J oB.ab.ab;clear lr nT;obtain ⟨_,_,_,fU⟩:=oB.cells
    go_wp2_with (refine kZ rfl 79 (.tmp 59) (.tmp 57) rfl bH 3 131 _ (.slice br (nX o.eC name size rd).length a8) rfl rfl gb.out av OT rfl ?_;intro b3 cp bT dm)
    refine cS (v:=.tuple #[.bool true,.bool true,.i 0]) (by simp [results,results152,go_sem]) rfl ?_;obtain ⟨f1,f2⟩:=mP.OU oB.ab oB.o3 oB.box jS.out cp bT;rw [uH.out,cJ.out,Gq.out];rw [bA.J0 (o:={ o with q:=o.q.tail }) fx.1];exact ⟨rfl,f1,(v8.mono av).trans (f2.mono av)⟩
   ·have OV:pV o.q=false:=by simpa using kJ
    have cJ:Hid (o.lx id name size ret rd=(false,({ o with q:=o.q.tail }:bA).act id 1 false ret rd)):=by show _=_;unfold bA.lx;rw [bB (bA.x4.1 aI),bp dt,bp kJ]
    have Gq:Hid (o.x5 id name=false):=by show _=_;unfold bA.x5;rw [jJ,OV];simp
    rw [OV];clear dt jJ kJ OV aI;go_wp2_with fail;refine (JX (aP.size cD.2.size) cD.1 cj.1.B3 cj.2 _ hi 1 false rd fx.2).mono ?_;rintro e bm ⟨rfl,uV,rI⟩;have j2:=J (ae uV ((cD.2.mono (sI:=[131,75]) av).trans rI));clear uV rI;go_wp2_with fail;refine cS (v:=.tuple #[.bool false,.bool false,.i 0]) (by simp [results,results152,go_sem]) rfl ?_;rw [uH.out,cJ.out,Gq.out];refine ⟨rfl,?_,(j2.2.mono av)⟩;rw [bA.J0 (o:={ o with q:=o.q.tail }) fx.1];exact j2.1
 ·obtain ⟨ec,rA⟩:=aE (o.err id 1)
  have bW:ec≠0:=by rw [<- rA];exact aI
  have bC:=J rA;have d1:(ec != 0)=true:=by simpa using bW
  have Wx:o.may id 1=false:=by
   cases hm:o.may id 1
   ·rfl
   ·exact absurd (bA.x4.2 hm) aI
  have Wy:=J Wx;rw [rA];clear aI rA bW Wx;go_wp2_with fail;refine cS (v:=.tuple #[.bool false,.bool false,.i ec]) (by simp [results,results152,go_sem]) rfl ?_;have aV:o.lx id name size ret rd=(false,o):=by unfold bA.lx;rw [Wy.out,bp ak]
  have bE:o.x5 id name=false:=by unfold bA.x5;rw [Wy.out];rfl
  rw [aV,bE,bC.out];exact ⟨rfl,aB.1,bh.dL _ _ aB.2⟩
theorem ad2 (hs:dw S w) (h:eO S w bH ret o) {N:Nat} (bi:e2 N o) (b8:N<=100000) {us:List ByteArray} {B:Option Addr} {d:Nat} (hu:a7 w encS B us) (hm:us.length<=9223372036854775807) (rd:Int):Calls prog 137 #[.pointer (some ⟨bH,0,none⟩),.slice B us.length d,.i rd] w fun e w'=>e=.returned (.tuple #[])/\eO S w' bH ret (o.lv us rd)/\bh S [131] w w':=by
 obtain ⟨cQ,gK,fh,e7,eG,fj,h⟩:=h;obtain ⟨_,_,_,c1⟩:=h.cells;have ag:=J h;have hP:=J hu;have x6:=J (ae (VQ.2 bi.is) (show o.eC.length<=100000 by have:=bi.pS;omega));have aP:=J hs;clear h bi b8 hs hu
 go_enter func137,ntmps137
 go_wp2_with fail;refine (X1 o.eC us rd fh B fj d w ag.rE.cZ hP x6.2 hm x6.1).mono ?_;rintro e bU ⟨br,a8,rfl,lr,nT⟩;have oB:=J (ag.below nT);have jS:=J (b7.jU aP lr aF);have v8:=J (bh.dL S [131] nT);have gb:=J oB.ab.ab;clear lr nT;obtain ⟨_,_,_,fU⟩:=oB.cells
 go_wp2_with (refine kZ rfl 79 (.tmp 15) (.tmp 13) rfl bH 3 131 _ (.slice br (kT o.eC us rd).length a8) rfl rfl gb.out av OT rfl ?_;intro b3 cp bT dm)
 go_end0
 obtain ⟨f1,f2⟩:=mP.OU oB.ab oB.o3 oB.box jS.out cp bT;exact ⟨rfl,f1,v8.trans f2⟩
end
structure jB where
 oW:Option Addr
 oX:Nat
 el:Option Addr
 cx:Nat
 wa:Option Addr
 sc:Nat
 jW:Option Addr
 uc:Nat
 bH:Nat
 ps:Nat
 gX:Int
 dead:Bool
abbrev jB.cells (r:jB) (q:bL) (a:bD):Array Value:=#[.i q.bt,.i q.c1,.i q.c2,.i q.cw,.i q.r1,.i q.r2,.slice r.oW q.ts.length r.oX,.i q.b2,.i q.ret,.i q.c9,.i q.dead,.pointer (some ⟨r.bH,0,none⟩),.pointer (some ⟨r.ps,0,none⟩),.i a.rd,.slice r.el a.ax.length r.cx,.bool a.aU,.bool a.aL,.bool a.aS,.slice r.wa a.since.length r.sc,.i a.cz,.i a.dv,.i a.ed,.i a.time,.i a.v0,.i a.v1,.i a.v2,.slice r.jW a.uses.length r.uc,.bool a.fresh,.i r.gX,.bool r.dead]
structure pK (S:Nat->Prop) (w:World) (q:bL) (r:jB) (a:bD):Prop where
 kj:b7 w S 90 i7 (.slice r.oW q.ts.length r.oX) q.ts
 ax:b7 w S 66 cR (.slice r.el a.ax.length r.cx) a.ax
 since:b7 w S 3 qP (.slice r.wa a.since.length r.sc) a.since
 uses:b7 w S 318 jA (.slice r.jW a.uses.length r.uc) a.uses
structure eY (S:Nat->Prop) (w:World) (ay:Nat) (q:bL) (r:jB) (a:bD):Prop where
 ab:cW w S ay 138 (r.cells q a)
 rows:pK S w q r a
section
variable {S cn:Nat->Prop} {ts:List TypeId} {w w':World} {ay:Nat} {q:bL} {r r':jB} {a a':bD}
theorem pK.below (h:pK S w q r a) (hb:Below w.heap.size w w'):pK S w' q r a:=⟨h.kj.below hb,h.ax.below hb,h.since.below hb,h.uses.below hb⟩
theorem pK.a6 (h:pK S w q r a) (hc:bh cn ts w w') (h1:90∉ts) (ah:66∉ts) (aw:3∉ts) (bn:318∉ts):pK S w' q r a:=⟨h.kj.a6 hc h1,h.ax.a6 hc ah,h.since.a6 hc aw,h.uses.a6 hc bn⟩
theorem pK.iG (h:pK S w q r a) (hc:bh cn ts w w') (hd:∀ k,S k->¬ cn k):pK S w' q r a:=⟨h.kj.iG hc hd,h.ax.iG hc hd,h.since.iG hc hd,h.uses.iG hc hd⟩
theorem eY.below (h:eY S w ay q r a) (hb:Below w.heap.size w w'):eY S w' ay q r a:=⟨h.ab.below hb,h.rows.below hb⟩
theorem eY.a6 (h:eY S w ay q r a) (hc:bh cn ts w w') (aI:138∉ts) (h1:90∉ts) (ah:66∉ts) (aw:3∉ts) (bn:318∉ts):eY S w' ay q r a:=⟨h.ab.a6 hc aI,h.rows.a6 hc h1 ah aw bn⟩
theorem eY.iG (h:eY S w ay q r a) (hc:bh cn ts w w') (hd:∀ k,S k->¬ cn k):eY S w' ay q r a:=⟨h.ab.iG hc hd,h.rows.iG hc hd⟩
theorem eY.put {cur:Array Value} (h:cW w S ay 138 cur) (hr:pK S w q r' a') (hb:ar w' ay 138 (r'.cells q a')) (az:w.grownBy w' (some ay)):eY S w' ay q r' a'/\bh S [138] w w':=by
 have hc:bh S [138] w w':=bh.grown az fun k hk _=>by injection hk with hk;subst hk;exact ⟨h.ins,.inr ⟨_,_,_,h.ab,av⟩⟩
 exact ⟨⟨⟨hb,h.ins⟩,hr.a6 hc ak ak ak ak⟩,hc⟩
abbrev ab6:List TypeId:=[138,161,187]
end
theorem Dk.a6 {S cn:Nat->Prop} {w w':World} {ps aJ:Nat} {fs:di} {l:List jd} (h:Dk S w ps aJ fs l) (hc:bh cn [138] w w'):Dk S w' ps aJ fs l:=by
 obtain ⟨⟨v,hv⟩,aN,A,c,R,hd⟩:=h;exact ⟨⟨v,hv.a6 hc ak⟩,aN,A,c,R,hd.a6 hc ak ak ak ak⟩
abbrev bD.bytes (a:bD):List UInt8:=AO a.rd a.aU a.aL a.aS a.ax
section
variable {S cn:Nat->Prop} {ts:List TypeId} {w w':World} {ay aJ v:Nat} {q:bL} {r r':jB} {a a':bD} {fs:di}
theorem ab7 (hs:dw S w) (h:eY S w ay q r a) (hd:jC S w r.ps aJ fs v) (bi:fG q a) (hv:v<=100000000) (hf:r.gX = -1) (E:Option Addr) (jM ec:Nat) :
  Calls prog 85 #[.pointer (some ⟨ay,0,none⟩),.slice E jM ec] w fun e w'=>e=.returned (.tuple #[.slice E jM ec,.i 0])/\eY S w' ay q r a/\jC S w' r.ps aJ (lS fs (k0 (v+1) a.bytes) 4).1 (v+1)/\bh S Bc w w':=by
 have q9:w.cell? ⟨ay,13,none⟩=some (.i a.rd):=h.ab.ab.cell 13;have sy:w.cell? ⟨ay,14,none⟩=some (.slice r.el a.ax.length r.cx):=h.ab.ab.cell 14;have tX:w.cell? ⟨ay,15,none⟩=some (.bool a.aU):=h.ab.ab.cell 15;have tY:w.cell? ⟨ay,16,none⟩=some (.bool a.aL):=h.ab.ab.cell 16;have tZ:w.cell? ⟨ay,17,none⟩=some (.bool a.aS):=h.ab.ab.cell 17;have ag:=J (ae h hd);have aP:=J hs;have bF:=J hv;have cT:=J (show a.bytes.length<=1048576 from gT (Qg bi.r).2 ak);have LX:=J (Qr a.rd a.ax bi.r r.el r.cx a.aU a.aL a.aS w h.rows.ax.cZ bi.w);clear h hs hd bi hv
 go_enter func85,ntmps85
 go_wp2_with fail;refine LX.mono ?_;rintro e aC ⟨bz,ez,rfl,ho,hb⟩;have aB:=J (ae (ag.1.below hb) (ae (ag.2.below hb) hb));have tL:=J ho.cZ;clear ho hb q9 sy tX tY tZ;have ab8:aC.cell? ⟨ay,12,none⟩=some (.pointer (some ⟨r.ps,0,none⟩)):=aB.1.ab.ab.cell 12;have LY:aC.cell? ⟨ay,28,none⟩=some (.i (-1)):=by have:=aB.1.ab.ab.cell 28;rw [this];simp [hf]
 go_wp2_with fail;refine (ab9 (aP.size aB.2.2.size) aB.2.1 bF _ cT bz ez tL).mono ?_;rintro e aM ⟨rfl,mF,kt⟩;have cJ:=J (ae (aB.1.a6 kt ak ak ak ak ak) (ae mF ((bh.dL S Bc aB.2.2).trans kt)));clear mF kt ab8 LY;go_wp2_with fail;exact cS (v:=.tuple #[.slice E jM ec,.i 0]) (by simp [results,results85,go_sem]) rfl ⟨rfl,cJ.1,cJ.2.1,cJ.2.2⟩
theorem aca (hs:dw S w) (h:eY S w ay q r a) (hd:jC S w r.ps aJ fs v) (bi:fG q a) (hv:v<=100000000) (k:Nat) (hk:k<=4) (hf:r.gX=k) (E:Option Addr) (jM ec:Nat) :
  Calls prog 85 #[.pointer (some ⟨ay,0,none⟩),.slice E jM ec] w fun e w'=>e=.returned (.tuple #[.slice none 0 0,.i 7])/\eY S w' ay q { r with dead:=true } a/\Dk S w' r.ps aJ (lS fs (k0 (v+1) a.bytes) k).1 (lS fs (k0 (v+1) a.bytes) k).2/\bh S ab6 w w':=by
 have mixed:prog.follows Departure.mixedOrders=true:=ai;have q9:w.cell? ⟨ay,13,none⟩=some (.i a.rd):=h.ab.ab.cell 13;have sy:w.cell? ⟨ay,14,none⟩=some (.slice r.el a.ax.length r.cx):=h.ab.ab.cell 14;have tX:w.cell? ⟨ay,15,none⟩=some (.bool a.aU):=h.ab.ab.cell 15;have tY:w.cell? ⟨ay,16,none⟩=some (.bool a.aL):=h.ab.ab.cell 16;have tZ:w.cell? ⟨ay,17,none⟩=some (.bool a.aS):=h.ab.ab.cell 17;have ag:=J (ae h hd);have aP:=J hs;have bF:=J hv;have dl:=J hk;have cT:=J (show a.bytes.length<=1048576 from gT (Qg bi.r).2 ak);have LX:=J (Qr a.rd a.ax bi.r r.el r.cx a.aU a.aL a.aS w h.rows.ax.cZ bi.w);clear h hs hd bi hv hk
 go_enter func85,ntmps85
 go_wp2_with fail;refine LX.mono ?_;rintro e aC ⟨bz,ez,rfl,ho,hb⟩;have aB:=J (ae (ag.1.below hb) (ae (ag.2.below hb) hb));have tL:=J ho.cZ;clear ho hb q9 sy tX tY tZ;have d1:(r.gX != -1)=true:=by rw [hf];simp
 have bN:=J hf;have LY:aC.cell? ⟨ay,28,none⟩=some (.i r.gX):=aB.1.ab.ab.cell 28;clear hf;go_wp2_with fail;obtain ⟨wd,aG⟩:=aE aC.drew;have aB:Hid (eY S wd ay q r a/\jC S wd r.ps aJ fs v/\Below w.heap.size w wd):=by
  have h1:Below aC.heap.size aC aC.drew:=(aO _ _).drew;rw [<- aG];exact ⟨aB.1.below h1,aB.2.1.below h1,aB.2.2.trans (h1.mono aB.2.2.size)⟩
 have tL:Hid (a7 wd cO bz a.bytes):=by rw [<- aG];exact tL.below ((aO _ _).drew)
 have gb:=J aB.1.ab.ab;clear LY d1;refine wp_region_held_drew (S:=fun w'=>w'.cell? ⟨ay,12,none⟩=some (.pointer (some ⟨r.ps,0,none⟩))/\w'.cell? ⟨ay,28,none⟩=some (.i r.gX)) ai (by rw [aG];exact (ae (gb.cell 12) (gb.cell 28))) (fun hHeld=>?_);rw [aG] at hHeld ⊢
 clear aG;refine aj 0 ?_;refine aj 1 ?_;refine aj 2 ?_;refine aj 3 ?_;refine aj 4 ?_;refine aj 5 ?_;refine aj 6 ?_;refine aj 7 ?_;refine aj 8 ?_;refine dR 9 30 rfl rfl ai aH (fun K hK=>?_);go_simp;have hp:=acb (aP.size aB.2.2.size) aB.2.1 bF.out _ cT.out bz ez k dl.out tL.out;rw [<- bN.out] at hp
 refine hp.mono ?_;rintro e w3 ⟨rfl,RY,kd⟩;clear hp;have cD:=J (ae (aB.1.a6 kd ak ak ak ak ak) (ae RY ((bh.dL S Bc aB.2.2).trans kd)));have gb:=J cD.1.ab.ab;clear RY kd;have hHeld:=(ae (gb.cell 12) (gb.cell 28))
 refine hK _ _ hHeld ?_;clear hK K;simp only [Act.put,aY,aZ,a1];refine wpAnyH_done ai ?_ _;clear hHeld
 go_wp2_with (refine kZ rfl 4 (.tmp 33) (.const (.bool true)) rfl ay 29 138 _ (.bool true) rfl rfl gb.out av acd rfl ?_;intro b3 cp bT dm)
 obtain ⟨f1,f2⟩:=eY.put (r':={ r with dead:=true }) (a':=a) cD.1.ab ⟨cD.1.rows.kj,cD.1.rows.ax,cD.1.rows.since,cD.1.rows.uses⟩ cp bT;refine cS (v:=.tuple #[.slice none 0 0,.i 7]) (by simp [results,results85,go_sem]) rfl ⟨rfl,f1,cD.2.1.a6 f2,(cD.2.2.mono av).trans (f2.mono av)⟩
end
section
variable {S cn:Nat->Prop} {ts:List TypeId} {w w':World} {ay aJ v:Nat} {q:bL} {r r':jB} {a a':bD} {fs:di}
theorem pK.Ba (h:pK S w q r a) {A:Option Addr} {c:Nat} {l:List bj} (ho:b7 w S 66 cR (.slice A l.length c) l):pK S w q { r with el:=A,cx:=c } { a with ax:=l }:=⟨h.kj,ho,h.since,h.uses⟩
theorem LZ (hs:dw S w) (h:eY S w ay q r a) (bi:fG q a) (i:Nat) (hi:i<a.ax.length) :
  Calls prog 87 #[.pointer (some ⟨ay,0,none⟩),.i i] w fun e w'=>e=.returned (.tuple #[])/\(∃ A c,eY S w' ay q { r with el:=A,cx:=c } { a with ax:=fZ a.ax ⟨a.ax[i].aa,3⟩ })/\bh S [138] w w':=by
 have mixed:prog.follows Departure.mixedOrders=true:=ai;have q9:w.cell? ⟨ay,13,none⟩=some (.i a.rd):=h.ab.ab.cell 13;have sy:w.cell? ⟨ay,14,none⟩=some (.slice r.el a.ax.length r.cx):=h.ab.ab.cell 14;have tX:w.cell? ⟨ay,15,none⟩=some (.bool a.aU):=h.ab.ab.cell 15;have tY:w.cell? ⟨ay,16,none⟩=some (.bool a.aL):=h.ab.ab.cell 16;have tZ:w.cell? ⟨ay,17,none⟩=some (.bool a.aS):=h.ab.ab.cell 17;obtain ⟨b,off,hA,_,bg,aX,ba,nD,sg,xk,Bd,Be,Bf,Bg,Bh,Bi⟩:=h.rows.ax.cZ.jM hi;have rb:(i:Int)<(a.ax.length:Int):=af;obtain ⟨x,hx⟩:=aE a.ax[i];rw [hx] at bg aX ba nD sg xk Bd Be Bf Bg Bh Bi ⊢
 rw [hA] at sy
 have fE:=J (ae (show a.ax.length<=100000 by have:=bi.r.len;omega) bi.r.iq);have ag:=J h;have aP:=J hs;have bX:Below w.heap.size w (w.alloc (.cells #[.string ⟨#[]⟩,.i 0,.bool false,.i 0,.i 0,.i 0,.i 0,.i 0,.i 0,.string ⟨#[]⟩,.i 0,.i 0] 66)):=(aO _ _).alloc aF _;have df:=J bX;have E3:=J (ar.new w 66 #[.string ⟨#[]⟩,.i 0,.bool false,.i 0,.i 0,.i 0,.i 0,.i 0,.i 0,.string ⟨#[]⟩,.i 0,.i 0]);clear h hs bi hi bX hx hA
 go_enter func87,ntmps87
 go_wp2_with (first|(refine ch rfl 66 (.tmp 4) (.tmp 12) rfl w.heap.size 66 #[.string ⟨#[]⟩,.i 0,.bool false,.i 0,.i 0,.i 0,.i 0,.i 0,.i 0,.string ⟨#[]⟩,.i 0,.i 0] #[.string x.aa.id,.i x.aa.prio,.bool x.aa.bo,.i x.aa.bg,.i x.aa.aX,.i x.aa.ba,.i x.aa.bk,.i x.aa.bl,.i x.aa.aW,.string x.aa.bb,.i x.aa.size,.i x.phase] rfl rfl E3.out rfl ai cc ?_;intro bc bS bP dx;have L0:=J bS;have dp:=J (df.grown bP df.size dP);clear bS bP dx)|(refine kZ rfl 3 (.tmp 13) (.const (.i 3)) rfl w.heap.size 11 66 #[.string x.aa.id,.i x.aa.prio,.bool x.aa.bo,.i x.aa.bg,.i x.aa.aX,.i x.aa.ba,.i x.aa.bk,.i x.aa.bl,.i x.aa.aW,.string x.aa.bb,.i x.aa.size,.i x.phase] (.i 3) rfl rfl L0.out av y7 rfl ?_;intro bm qj ua EX;have qo:=J (show ar bm w.heap.size 66 #[.string x.aa.id,.i x.aa.prio,.bool x.aa.bo,.i x.aa.bg,.i x.aa.aX,.i x.aa.ba,.i x.aa.bk,.i x.aa.bl,.i x.aa.aW,.string x.aa.bb,.i x.aa.size,.i 3] from qj);have tM:=J (dp.grown ua dp.size dP);clear qj ua EX))
 obtain ⟨wd,aG⟩:=aE bm.drew;have aB:Hid (eY S wd ay q r a/\Below w.heap.size w wd):=by
  have h1:Below w.heap.size w bm.drew:=tM.trans ((aO _ _).drew.mono tM.size);rw [<- aG];exact ⟨ag.below h1,h1⟩
 have b9:Hid (ar wd w.heap.size 66 #[.string x.aa.id,.i x.aa.prio,.bool x.aa.bo,.i x.aa.bg,.i x.aa.aX,.i x.aa.ba,.i x.aa.bk,.i x.aa.bl,.i x.aa.aW,.string x.aa.bb,.i x.aa.size,.i 3]):=by rw [<- aG];exact qo.drew
 have gb:=J aB.1.ab.ab;refine nH 9 (S:=fun w'=>w'.cell? ⟨ay,13,none⟩=some (.i a.rd)/\w'.cell? ⟨ay,14,none⟩=some (.slice r.el a.ax.length r.cx)/\w'.cell? ⟨ay,15,none⟩=some (.bool a.aU)/\w'.cell? ⟨ay,16,none⟩=some (.bool a.aL)/\w'.cell? ⟨ay,17,none⟩=some (.bool a.aS)/\w'.cell? ⟨w.heap.size,0,none⟩=some (.string x.aa.id)/\w'.cell? ⟨w.heap.size,1,none⟩=some (.i x.aa.prio)/\w'.cell? ⟨w.heap.size,2,none⟩=some (.bool x.aa.bo)/\w'.cell? ⟨w.heap.size,3,none⟩=some (.i x.aa.bg)/\w'.cell? ⟨w.heap.size,4,none⟩=some (.i x.aa.aX)/\w'.cell? ⟨w.heap.size,5,none⟩=some (.i x.aa.ba)/\w'.cell? ⟨w.heap.size,6,none⟩=some (.i x.aa.bk)/\w'.cell? ⟨w.heap.size,7,none⟩=some (.i x.aa.bl)/\w'.cell? ⟨w.heap.size,8,none⟩=some (.i x.aa.aW)/\w'.cell? ⟨w.heap.size,9,none⟩=some (.string x.aa.bb)/\w'.cell? ⟨w.heap.size,10,none⟩=some (.i x.aa.size)/\w'.cell? ⟨w.heap.size,11,none⟩=some (.i 3)) ai (by rw [aG];exact (ae (gb.cell 13) (ae (gb.cell 14) (ae (gb.cell 15) (ae (gb.cell 16) (ae (gb.cell 17) (ae (b9.cell 0) (ae (b9.cell 1) (ae (b9.cell 2) (ae (b9.cell 3) (ae (b9.cell 4) (ae (b9.cell 5) (ae (b9.cell 6) (ae (b9.cell 7) (ae (b9.cell 8) (ae (b9.cell 9) (ae (b9.cell 10) (b9.cell 11)))))))))))))))))) (fun hHeld=>?_);rw [aG] at hHeld ⊢
 clear aG;refine aK 0 ?_;refine aK 1 ?_;refine aK 2 ?_;refine aK 3 ?_;refine aK 4 ?_;refine aK 5 ?_;refine nI 6 20 rfl rfl ai aH (fun K hK=>?_);go_simp;refine (KZ a.rd a.ax ⟨x.aa,3⟩ r.el r.cx a.aU a.aL a.aS wd aB.1.rows.ax.cZ fE.1 fE.2).mono ?_;rintro e w3 ⟨bz,ez,rfl,ee,bu⟩;have cD:=J (ae (aB.1.below bu) (aB.2.trans (bu.mono aB.2.size)));have iD:=J (b7.jU (aP.size aB.2.size) ee aF);have b9:=J (b9.bw bu);have gb:=J cD.1.ab.ab;clear ee bu;have hHeld:=(ae (gb.cell 13) (ae (gb.cell 14) (ae (gb.cell 15) (ae (gb.cell 16) (ae (gb.cell 17) (ae (b9.cell 0) (ae (b9.cell 1) (ae (b9.cell 2) (ae (b9.cell 3) (ae (b9.cell 4) (ae (b9.cell 5) (ae (b9.cell 6) (ae (b9.cell 7) (ae (b9.cell 8) (ae (b9.cell 9) (ae (b9.cell 10) (b9.cell 11)))))))))))))))))
 refine hK _ _ hHeld ?_;clear hK K;simp only [Act.put,aY,aZ,a1];refine aK 7 ?_;refine aK 8 ?_;refine ue 9 rfl ai aH rfl ai 35 (.tmp 22) (.tmp 20) rfl ay 13 138 _ #[.i a.rd,.slice bz (fZ a.ax ⟨x.aa,3⟩).length ez,.bool a.aU,.bool a.aL,.bool a.aS] rfl rfl gb.out av ai cc ?_;intro b3 cp bT dm;go_wp2_with fail
 go_end0
 obtain ⟨f1,f2⟩:=eY.put (r':={ r with el:=bz,cx:=ez }) (a':={ a with ax:=fZ a.ax ⟨x.aa,3⟩ }) cD.1.ab (cD.1.rows.Ba iD) cp bT;exact ⟨rfl,⟨_,_,f1⟩,(bh.dL S [138] cD.2).trans f2⟩
end
section
variable {S cn:Nat->Prop} {ts:List TypeId} {w w':World} {ay aJ v:Nat} {q:bL} {r r':jB} {a a':bD} {fs:di}
end
section
variable {S cn:Nat->Prop} {ts:List TypeId} {w w':World} {ay aJ bH v:Nat} {q:bL} {r r':jB} {a a':bD} {fs:di}
theorem H6.own {l:List Int} {e:Ending} (h:H6 l w e w') (hl:l.length<=100000):∃ A c,e=.returned (.slice A l.length c)/\Own w' w.heap.size 3 qP (.slice A l.length c) l/\Below w.heap.size w w':=by
 obtain ⟨g,rfl,az,hb,Dl⟩:=h;exact ⟨_,_,rfl,Own.RZ hb (by rw [ace]) az af,Dl⟩
theorem H7.own {l:List Bool} {e:Ending} (h:H7 l w e w') (hl:l.length<=100000):∃ A c,e=.returned (.slice A l.length c)/\Own w' w.heap.size 4 xe (.slice A l.length c) l/\Below w.heap.size w w':=by
 obtain ⟨g,rfl,az,hb,Dl⟩:=h;exact ⟨_,_,rfl,Own.RZ hb (by rw [L1]) az af,Dl⟩
def acf (S:Nat->Prop) (q:bL) (aJ bH:Nat) (fs:di) (v:Nat) (a:bD) (w:World) (e:Ending) (w':World):Prop :=
 ∃ ay r,e=.returned (.tuple #[.pointer (some ⟨ay,0,none⟩),.i 0])/\eY S w' ay q r a/\r.bH=bH/\r.gX = -1/\r.dead=false/\jC S w' r.ps aJ fs v/\Below w.heap.size w w'
theorem acg (hs:dw S w) (bd:q.Ok) (dE:iH w) (hd:jn S w aJ fs) (aI:fs qp=none) (h1:fs uf=none) (A:Option Addr) (c:Nat) (hr:a7 w cO A q.text) :
  Calls prog 53 #[.slice A q.text.length c,.pointer (some ⟨aJ,0,none⟩),.pointer (some ⟨bH,0,none⟩)] w (acf S q aJ bH fs 0 (bD.new q 0 [] false false false) w):=by
 have mixed:prog.follows Departure.mixedOrders=true:=ai;have ao:=J bd;have aP:=J hs;have bq:=J hd;have bN:=J (ae aI h1);have aq:=J (R0 q bd A c w dE hr);clear hs bd dE hd aI h1 hr
 go_enter func53,ntmps53
 go_wp2_with fail;refine aq.mono ?_;rintro e aC ⟨bz,ez,rfl,ho,hb⟩;have bX:Below aC.heap.size aC (aC.alloc (.cells #[.i 0,.i 0,.i 0,.i 0,.i 0,.i 0,.slice none 0 0,.i 0,.i 0,.i 0,.i 0] 26)):=(aO _ _).alloc aF _;have df:=J bX;have mA:=J (ar.new aC 26 #[.i 0,.i 0,.i 0,.i 0,.i 0,.i 0,.slice none 0 0,.i 0,.i 0,.i 0,.i 0]);have eM:=J (ae (b7.jU aP ho aF) (ae (bq.below hb) hb));clear ho hb bX
 go_wp2_with (refine ch rfl 26 (.tmp 8) (.tmp 17) rfl aC.heap.size 26 #[.i 0,.i 0,.i 0,.i 0,.i 0,.i 0,.slice none 0 0,.i 0,.i 0,.i 0,.i 0] #[.i q.bt,.i q.c1,.i q.c2,.i q.cw,.i q.r1,.i q.r2,.slice bz q.ts.length ez,.i q.b2,.i q.ret,.i q.c9,.i q.dead] rfl rfl mA.out rfl ai cc ?_;intro bc bS bP dx;have lq:=J bS;have dp:=J (df.grown bP df.size dP);clear bS bP dx)
 refine (ach (aP.size (gT eM.2.2.size dp.size)) (eM.2.1.below dp) bN.1 bN.2).mono ?_;rintro e bm ⟨ps,rfl,dU,cV,_⟩;have j2:=J (ae ((eM.1.below dp).below cV) (ae dU (eM.2.2.trans ((dp.trans (cV.mono dp.size)).mono eM.2.2.size))));have H3:=J (lq.bw cV);clear dU cV;go_wp2_with fail;obtain ⟨wd,aG⟩:=aE bm.drew;have kB:Below bm.heap.size bm wd:=by rw [<- aG];exact (aO _ _).drew
 have aB:=J (ae (j2.1.below kB) (ae (j2.2.1.below kB) (j2.2.2.trans (kB.mono j2.2.2.size))));have eR:=J (H3.bw kB);clear kB;refine wp_region_held_drew (S:=fun w'=>w'.cell? ⟨aC.heap.size,0,none⟩=some (.i q.bt)/\w'.cell? ⟨aC.heap.size,1,none⟩=some (.i q.c1)/\w'.cell? ⟨aC.heap.size,2,none⟩=some (.i q.c2)/\w'.cell? ⟨aC.heap.size,3,none⟩=some (.i q.cw)/\w'.cell? ⟨aC.heap.size,4,none⟩=some (.i q.r1)/\w'.cell? ⟨aC.heap.size,5,none⟩=some (.i q.r2)/\w'.cell? ⟨aC.heap.size,6,none⟩=some (.slice bz q.ts.length ez)/\w'.cell? ⟨aC.heap.size,7,none⟩=some (.i q.b2)/\w'.cell? ⟨aC.heap.size,8,none⟩=some (.i q.ret)/\w'.cell? ⟨aC.heap.size,9,none⟩=some (.i q.c9)/\w'.cell? ⟨aC.heap.size,10,none⟩=some (.i q.dead)) ai (by rw [aG];exact (ae (eR.cell 0) (ae (eR.cell 1) (ae (eR.cell 2) (ae (eR.cell 3) (ae (eR.cell 4) (ae (eR.cell 5) (ae (eR.cell 6) (ae (eR.cell 7) (ae (eR.cell 8) (ae (eR.cell 9) (eR.cell 10)))))))))))) (fun hHeld=>?_);rw [aG] at hHeld ⊢
 clear aG;refine aj 0 ?_;refine aj 1 ?_;refine aj 2 ?_;refine aj 3 ?_;refine aj 5 ?_;refine dR 4 33 rfl rfl ai aH (fun K hK=>?_);go_simp;refine (R2 q ao.n bz ez wd).mono ?_;intro e w3 ug;obtain ⟨b5,fR,y8,ee,bu⟩:=ug.own (by have:=ao.n;rw [H8];omega);rw [H8] at y8 ee
 subst y8;clear ug;have cD:=J (ae (aB.1.below bu) (ae (aB.2.1.below bu) (aB.2.2.trans (bu.mono aB.2.2.size))));have L2:=J (b7.jU (aP.size aB.2.2.size) ee aF);have eR:=J (eR.bw bu);clear ee bu;have hHeld:=(ae (eR.cell 0) (ae (eR.cell 1) (ae (eR.cell 2) (ae (eR.cell 3) (ae (eR.cell 4) (ae (eR.cell 5) (ae (eR.cell 6) (ae (eR.cell 7) (ae (eR.cell 8) (ae (eR.cell 9) (eR.cell 10)))))))))))
 refine hK _ _ hHeld ?_;clear hK K;simp only [Act.put,aY,aZ,a1];refine aj 6 ?_;refine dR 7 36 rfl rfl ai aH (fun K hK=>?_);go_simp;have jD:=J (ar.new w3 138 #[.i q.bt,.i q.c1,.i q.c2,.i q.cw,.i q.r1,.i q.r2,.slice bz q.ts.length ez,.i q.b2,.i q.ret,.i q.c9,.i q.dead,.pointer (some ⟨bH,0,none⟩),.pointer (some ⟨ps,0,none⟩),.i 0,.slice none 0 0,.bool false,.bool false,.bool false,.slice b5 q.ts.length fR,.i 0,.i 0,.i 0,.i (-1),.i 0,.i 0,.i 0,.slice none 0 0,.bool false,.i (-1),.bool false]);have iA:Below w3.heap.size w3 (w3.alloc (.cells #[.i q.bt,.i q.c1,.i q.c2,.i q.cw,.i q.r1,.i q.r2,.slice bz q.ts.length ez,.i q.b2,.i q.ret,.i q.c9,.i q.dead,.pointer (some ⟨bH,0,none⟩),.pointer (some ⟨ps,0,none⟩),.i 0,.slice none 0 0,.bool false,.bool false,.bool false,.slice b5 q.ts.length fR,.i 0,.i 0,.i 0,.i (-1),.i 0,.i 0,.i 0,.slice none 0 0,.bool false,.i (-1),.bool false] 138)):=(aO _ _).alloc aF _;have pJ:=J (ae (cD.1.below iA) (ae (cD.2.1.below iA) (cD.2.2.trans (iA.mono cD.2.2.size))));have aci:=J (L2.below iA);have eR:=J (eR.bw iA);clear iA;have hHeld:=(ae (eR.cell 0) (ae (eR.cell 1) (ae (eR.cell 2) (ae (eR.cell 3) (ae (eR.cell 4) (ae (eR.cell 5) (ae (eR.cell 6) (ae (eR.cell 7) (ae (eR.cell 8) (ae (eR.cell 9) (eR.cell 10)))))))))))
 refine hK _ _ hHeld ?_;clear hK K;simp only [Act.put,aY,aZ,a1];refine aj 8 ?_;refine wpAnyH_done ai ?_ _;clear hHeld;go_wp2_with fail;refine cS (v:=.tuple #[.pointer (some ⟨w3.heap.size,0,none⟩),.i 0]) (by simp [results,results53,go_sem]) rfl ?_;have he:(List.replicate q.ts.length (-1:Int))=q.ts.map fun _=>(-1:Int):=by rw [List.map_const']
 refine ⟨_,⟨bz,ez,none,0,b5,fR,none,0,bH,ps,-1,false⟩,rfl,⟨⟨?_,aP.gJ _ cD.2.2.size⟩,⟨pJ.1,b7.e8 _ _ _ _,?_,b7.e8 _ _ _ _⟩⟩,rfl,rfl,rfl,pJ.2.1,pJ.2.2⟩
 ·simp only [jB.cells,bD.new,lJ,dD]
  exact jD.out
 ·simp only [bD.new,lJ]
  rw [<- he];exact aci.out
end
structure fT where
 ay:Nat
 g:jB
 eA:Option Addr
 ec:Nat
 hA:Option Addr
 hc:Nat
structure e6 (S:Nat->Prop) (w:World) (pr:Nat) (q:bL) (x:fT) (r:Rd):Prop where
 ab:cW w S pr 180 #[.pointer (some ⟨x.ay,0,none⟩),.slice x.eA r.ev.length x.ec,.slice x.hA r.holds.length x.hc,.bool r.h5,.bool r.dc,.bool r.gl]
 ev:b7 w S 51 dA (.slice x.eA r.ev.length x.ec) r.ev
 fM:b7 w S 4 xe (.slice x.hA r.holds.length x.hc) r.holds
 au:eY S w x.ay q x.g r.a
 eh:eO S w x.g.bH q.ret r.o
def fT.same (x y:fT):Prop:=y.ay=x.ay/\y.g.bH=x.g.bH/\y.g.ps=x.g.ps/\y.g.gX=x.g.gX/\y.g.dead=x.g.dead
theorem fT.same.refl (x:fT):x.same x:=⟨rfl,rfl,rfl,rfl,rfl⟩
theorem fT.same.trans {x y z:fT} (h:x.same y) (cI:y.same z):x.same z:=⟨cI.1.trans h.1,cI.2.1.trans h.2.1,cI.2.2.1.trans h.2.2.1,cI.2.2.2.1.trans h.2.2.2.1,cI.2.2.2.2.trans h.2.2.2.2⟩
abbrev iL:List TypeId:=[180,138,51,131,75]
def ni (S:Nat->Prop) (pr:Nat) (q:bL) (x:fT) (r':Rd) (w:World) (e:Ending) (w':World):Prop:=e=.returned (.tuple #[])/\(∃ y,x.same y/\e6 S w' pr q y r')/\bh S iL w w'
theorem FA:(prog.info? 31).map (·.size)=some 1:=ai
section
variable {S cn:Nat->Prop} {ts:List TypeId} {w w':World} {pr:Nat} {q:bL} {x:fT} {r:Rd}
theorem e6.below (h:e6 S w pr q x r) (hb:Below w.heap.size w w'):e6 S w' pr q x r:=⟨h.ab.below hb,h.ev.below hb,h.fM.below hb,h.au.below hb,h.eh.below hb⟩
theorem e6.world (h:e6 S w pr q x r) (hc:bh S [131,75] w w') {o:bA} (ho:eO S w' x.g.bH q.ret o):e6 S w' pr q x { r with o:=o } :=
 ⟨h.ab.a6 hc ak,h.ev.a6 hc ak,h.fM.a6 hc ak,h.au.a6 hc ak ak ak ak ak,ho⟩
theorem e6.agent (h:e6 S w pr q x r) (hc:bh S [138] w w') {g:jB} {a:bD} (ha:eY S w' x.ay q g a) (az:g.bH=x.g.bH):e6 S w' pr q { x with g:=g } { r with a:=a } :=
 ⟨h.ab.a6 hc ak,h.ev.a6 hc ak,h.fM.a6 hc ak,ha,by
  show eO S w' g.bH q.ret r.o
  rw [az];exact h.eh.a6 hc ak ak ak ak⟩
theorem e6.cells (h:e6 S w pr q x r):w.cell? ⟨pr,0,none⟩=some (.pointer (some ⟨x.ay,0,none⟩))/\w.cell? ⟨pr,1,none⟩=some (.slice x.eA r.ev.length x.ec)/\w.cell? ⟨pr,2,none⟩=some (.slice x.hA r.holds.length x.hc)/\w.cell? ⟨pr,3,none⟩=some (.bool r.h5)/\w.cell? ⟨pr,4,none⟩=some (.bool r.dc)/\w.cell? ⟨pr,5,none⟩=some (.bool r.gl):=⟨h.ab.ab.cell 0,h.ab.ab.cell 1,h.ab.ab.cell 2,h.ab.ab.cell 3,h.ab.ab.cell 4,h.ab.ab.cell 5⟩
theorem wz (hs:dw S w) (h:e6 S w pr q x r) (hl:r.ev.length<=1000000) (kind:Int) (id:ByteArray) (n:Int) :
  Calls prog 140 #[.pointer (some ⟨pr,0,none⟩),.i kind,.string id,.i n] w (ni S pr q x (r.tell kind id n) w):=by
 obtain ⟨_,c1,_⟩:=h.cells;have bX:Below w.heap.size w (w.alloc (.cells #[.i kind,.string id,.i 0,.i n] 51)):=(aO _ _).alloc aF _;have ag:=J (ae (h.below bX) bX);have aP:=J hs;have bx:=J (show a7 (w.alloc (.cells #[.i kind,.string id,.i 0,.i n] 51)) dA (some ⟨w.heap.size,0,none⟩) [⟨kind,id,0,n⟩] from a7.made w dA [⟨kind,id,0,n⟩] 51 #[.i kind,.string id,.i 0,.i n] (0,0) rfl);clear h hs bX
 go_enter func140,ntmps140
 go_wp2_with (first
  | (at_builtin;refine hW sA dA rfl (.tmp 12) (.tmp 17) rfl 0 _ r.ev rfl ag.1.ev.own _ [⟨kind,id,0,n⟩] 1 rfl bx (by simp;omega) (by simp;omega) (p3 _) ?_;intro bz ez w3 eX eF ot;have cD:=J (ae eX (ae eF ot));have lD:=J (show bh S [51] (w.alloc (.cells #[.int .i64 kind,.string id,.int .i64 0,.int .i64 n] 51)) w3 from bh.grown eF fun k hk aT=>ag.1.ev.kind av k hk);have e0:=J (ag.1.ab.a6 lD ak);clear eX eF ot)
  | (refine kZ rfl 31 (.tmp 20) (.tmp 18) rfl pr 1 180 _ (.slice bz (r.ev.length+1) ez) rfl rfl e0.ab av FA rfl ?_;intro bc bS bP dx))
 go_end0
 have eN:bh S [180] w3 bc:=bh.grown bP fun k hk _=>by injection hk with hk;subst hk;exact ⟨e0.ins,.inr ⟨_,_,_,e0.ab,av⟩⟩
 have hlen:(r.ev++[(⟨kind,id,0,n⟩:cP)]).length=r.ev.length+1:=av;have ee:b7 w3 S 51 dA (.slice bz (r.ev++[(⟨kind,id,0,n⟩:cP)]).length ez) (r.ev++[⟨kind,id,0,n⟩]):=by
  rw [hlen];refine ⟨cD.1,fun k hk=>?_⟩;have gP:(Value.slice bz (r.ev.length + [(⟨kind,id,0,n⟩:cP)].length) ez).ownBlock=some k:=hk
  rcases cD.2.2 with e|e
  ·rw [e] at gP;exact ag.1.ev.ins k gP
  ·rw [e] at gP;injection gP with gP;subst gP;exact aP.gJ _ av
 have BS:bh S iL (w.alloc (.cells #[.i kind,.string id,.i 0,.i n] 51)) bc:=(lD.mono av).trans (eN.mono av);refine ⟨rfl,⟨{ x with eA:=bz,ec:=ez },fT.same.refl _,⟨⟨?_,e0.ins⟩,ee.a6 eN ak,(ag.1.fM.a6 lD ak).a6 eN ak,(ag.1.au.a6 lD ak ak ak ak ak).a6 eN ak ak ak ak ak,(ag.1.eh.a6 lD ak ak ak ak).a6 eN ak ak ak ak⟩⟩,(bh.dL S iL ag.2).trans BS⟩
 show ar bc pr 180 #[_,.slice bz (r.ev++[(⟨kind,id,0,n⟩:cP)]).length ez,_,_,_,_]
 rw [hlen];exact bS
end
section
variable {P:Program} {ops:Array Oper} {Q:Exit->Act->World->Prop} {S:World->Prop} {md:Region.Mode}
theorem VH {last:Nat}:∀ (fuel:Nat) (listed:Array Bool) (a:Act) (w:World),listed.getD last false=true->wpAnyH P md ops Q (fun _=>True) fuel listed a w->kR P md ops Q S last fuel listed a w
 | 0,_,_,_,_,h=>h
 | fuel+1,listed,a,w,hl,h=>⟨h.1,fun i hi=>wpOp_mono (fun a' w' cI=>by
   have Gc:(listed.setIfInBounds i true).getD last false=true:=by
    by_cases e:i=last
    ·subst e
     have aI:=(mem_ready.1 hi).1;have aT:i<listed.size:=by
      rcases gB i listed.size with h1|h1
      ·exact h1
      ·simp [vr h1] at aI
     simp [aT]
    ·rw [NS,Array.getElem?_setIfInBounds_ne e,<- NS];exact hl
   exact ⟨fun hn=>absurd Gc (by rw [hn];simp),VH fuel _ a' w' Gc cI.2⟩) (h.2 i hi)⟩
variable {fuel last:Nat} {listed:Array Bool} {a:Act} {w:World}
theorem ahX (i:Nat) {oi:Oper} (hi:ops[i]? = some oi) (hr:Region.ready md ops listed = [i]) (hw:Region.wanted oi (yielded ops a.tmps)=true) (hl:(i==last)=true)
  (h:∀ K:Act->World->Prop,(∀ v w',wpAnyH P md ops Q (fun _=>True) fuel (listed.setIfInBounds i true) (a.put oi.dst v) w'->K (a.put oi.dst v) w')->Oper.wp P oi a w K Q):kR P md ops Q S last (fuel+1) listed a w:=by
 refine ⟨fun aI=>(by rw [hr] at aI;cases aI),fun j aD=>?_⟩;have ahY:=aD;rw [hr] at aD
 obtain rfl:j=i:=by simpa using aD
 refine wpOp_step hi fun oc hK=>?_
 rw [bB hw];obtain rfl:j=last:=by simpa using hl
 have aI:=(mem_ready.1 ahY).1;have aT:j<listed.size:=by
  rcases gB j listed.size with h1|h1
  ·exact h1
  ·simp [vr h1] at aI
 have Gc:(listed.setIfInBounds j true).getD j false=true:=by simp [aT]
 exact h oc fun v w' bQ=>hK _ _ ⟨fun hn=>absurd Gc (by rw [hn];simp),VH fuel _ _ _ Gc bQ⟩
theorem ahZ (i:Nat) {oi:Oper} (hi:ops[i]? = some oi) (hr:Region.ready md ops listed = [i]) (hw:Region.wanted oi (yielded ops a.tmps)=true) (hl:(i==last)=true) (ty:TypeId) (x y:Operand) (ho:oi.op=.store ty x y)
  (g off:Nat) (t:TypeId) (cur cells:Array Value) (hx:a.eval x=.pointer (some ⟨g,off,none⟩)) (hy:a.eval y=.agg cells)
  (hb:ar w g t cur) (hs:off+cells.size<=cur.size) (hn:(P.info? ty).map (·.size)=some cells.size) (h1:cells.all (·.oneCell')=true)
  (h:∀ w',ar w' g t (cur.toList.take off++cells.toList++cur.toList.drop (off+cells.size)).toArray->w.grownBy w' (some g)->w'.heap.size=w.heap.size->wpAnyH P md ops Q (fun _=>True) fuel (listed.setIfInBounds i true) (a.put oi.dst undef) w'):kR P md ops Q S last (fuel+1) listed a w:=by
 have dt:w.there g off cells.size:=fun j aD=>⟨by rw [hb.cell,s4 af];rfl,hb.frozen _⟩
 obtain ⟨ah,aw,bn⟩:=rS g t cells.toList off w cur.toList (by simp;omega) (by simpa using hb);rw [mm] at ah
 exact ahX i hi hr hw hl fun K hK=>wp_store_mid ty x y ho g off cells hx hy dt hn h1 (hK undef _ (h _ ah aw bn))
end
section
variable {P:Program} {md:Region.Mode} {ops:Array Oper} {Q:Exit->Act->World->Prop} {S:World->Prop} {fuel:Nat} {listed:Array Bool} {a:Act} {w:World}
theorem DS {op:Oper} {K:Act->World->Prop} (ty:TypeId) (x y:Operand) (ho:op.op=.store ty x y)
  (g off:Nat) (t:TypeId) (cur:Array Value) (v:Value) (hx:a.eval x=.pointer (some ⟨g,off,none⟩)) (hy:a.eval y=v)
  (hb:ar w g t cur) (hs:off<cur.size) (hn:(P.info? ty).map (·.size)=some 1) (h1:v.oneCell'=true)
  (h:∀ w',ar w' g t (cur.setIfInBounds off v)->w.grownBy w' (some g)->w'.heap.size=w.heap.size->K (a.put op.dst undef) w'):op.wp P a w K Q:=by
 subst hy;obtain ⟨dt,ah,aw,bn⟩:=I6 (v:=a.eval y) hb hs;exact FN ty x y ho g off hx h1 dt hn (h _ ah aw bn)
theorem ah0 (i:Nat) {oi:Oper} (hi:ops[i]? = some oi) (hr:Region.ready md ops listed = [i]) (hw:Region.wanted oi (yielded ops a.tmps)=true) (hd:Region.ready md ops (listed.setIfInBounds i true) = []) (ty:TypeId) (x y:Operand) (ho:oi.op=.store ty x y)
  (g off:Nat) (t:TypeId) (cur:Array Value) (v:Value) (hx:a.eval x=.pointer (some ⟨g,off,none⟩)) (hy:a.eval y=v)
  (hb:ar w g t cur) (hs:off<cur.size) (hn:(P.info? ty).map (·.size)=some 1) (h1:v.oneCell'=true)
  (h:∀ w',ar w' g t (cur.setIfInBounds off v)->w.grownBy w' (some g)->w'.heap.size=w.heap.size->Q .normal (a.put oi.dst undef) w'):wpAnyH P md ops Q (fun _=>True) (fuel+1) listed a w :=
 ah1 i hi hr hw ty x y ho g off t cur v hx hy hb hs hn h1 fun w' h1 ah aw=>⟨trivial,wpAnyH_done hd (h w' h1 ah aw) _⟩
theorem ah2 {g off:Nat} {t:TypeId} {cur cells:Array Value} (hb:ar w g t cur) (hs:off+cells.size<=cur.size):w.there g off cells.size/\ar (w.setCells g off cells.toList) g t (cur.toList.take off++cells.toList++cur.toList.drop (off+cells.size)).toArray/\w.grownBy (w.setCells g off cells.toList) (some g)/\(w.setCells g off cells.toList).heap.size=w.heap.size:=by
 have dt:w.there g off cells.size:=fun j aD=>⟨by rw [hb.cell,s4 af];rfl,hb.frozen _⟩
 obtain ⟨ah,aw,bn⟩:=rS g t cells.toList off w cur.toList (by simp;omega) (by simpa using hb);rw [mm] at ah
 exact ⟨dt,ah,aw,bn⟩
theorem Dg {op:Oper} {K:Act->World->Prop} (ty:TypeId) (x y:Operand) (ho:op.op=.store ty x y)
  (g off:Nat) (t:TypeId) (cur cells:Array Value) (hx:a.eval x=.pointer (some ⟨g,off,none⟩)) (hy:a.eval y=.agg cells)
  (hb:ar w g t cur) (hs:off+cells.size<=cur.size) (hn:(P.info? ty).map (·.size)=some cells.size) (h1:cells.all (·.oneCell')=true)
  (h:∀ w',ar w' g t (cur.toList.take off++cells.toList++cur.toList.drop (off+cells.size)).toArray->w.grownBy w' (some g)->w'.heap.size=w.heap.size->K (a.put op.dst undef) w'):op.wp P a w K Q:=by
 obtain ⟨dt,ah,aw,bn⟩:=ah2 hb hs;exact wp_store_mid ty x y ho g off cells hx hy dt hn h1 (h _ ah aw bn)
end
section
variable {S cn:Nat->Prop} {ts:List TypeId} {w w' sU:World} {pr:Nat} {q:bL} {x:fT} {r:Rd}
theorem bh.ql {k:Nat} (h:bh S ts w w') (az:w'.grownBy sU (some k)) (hk:w.heap.size<=k):bh S ts w sU :=
 cB.trans h (cB.Bj (F:=fun j=>j=k) az fun j aD _=>by injection aD with aD;exact aD.symm) fun j aD e=>absurd aD af
abbrev ah3:List TypeId:=[180,138,51,4,90,66,3,318,131,75,146]
theorem e6.a6 (h:e6 S w pr q x r) (hc:bh cn ts w w') (hd:∀ t∈ah3,t∉ts):e6 S w' pr q x r :=
 ⟨h.ab.a6 hc (hd _ ak),h.ev.a6 hc (hd _ ak),h.fM.a6 hc (hd _ ak),h.au.a6 hc (hd _ ak) (hd _ ak) (hd _ ak) (hd _ ak) (hd _ ak),h.eh.a6 hc (hd _ ak) (hd _ ak) (hd _ ak) (hd _ ak)⟩
theorem bh.box {g:Nat} {t:TypeId} {cs:Array Value} (hb:cW w S g t cs) (az:w.grownBy w' (some g)):bh S [t] w w':=bh.grown az fun k hk _=>by injection hk with hk;subst hk;exact ⟨hb.ins,.inr ⟨_,_,_,hb.ab,av⟩⟩
theorem e6.put (h:e6 S w pr q x r) {eA hA:Option Addr} {ec hc:Nat} {r':Rd} (ha:r'.a=r.a) (ho:r'.o=r.o) (he:b7 w S 51 dA (.slice eA r'.ev.length ec) r'.ev) (bQ:b7 w S 4 xe (.slice hA r'.holds.length hc) r'.holds)
  (hb:ar w' pr 180 #[.pointer (some ⟨x.ay,0,none⟩),.slice eA r'.ev.length ec,.slice hA r'.holds.length hc,.bool r'.h5,.bool r'.dc,.bool r'.gl]) (az:w.grownBy w' (some pr)):e6 S w' pr q ⟨x.ay,x.g,eA,ec,hA,hc⟩ r'/\bh S [180] w w':=by
 have Gd:bh S [180] w w':=bh.box h.ab az;refine ⟨⟨⟨hb,h.ab.ins⟩,he.a6 Gd ak,bQ.a6 Gd ak,?_,?_⟩,Gd⟩
 ·rw [ha];exact h.au.a6 Gd ak ak ak ak ak
 ·rw [ho];exact h.eh.a6 Gd ak ak ak ak
theorem ah4:(prog.info? 47).map (·.size)=some 1:=ai
theorem ah5:(prog.info? 46).map (·.size)=some 1:=ai
theorem DM:(prog.info? 4).map (·.size)=some 1:=ai
def rL (q:bL) (r R:Rd) (m0 m1 m2:Bool):Prop :=
 R = { r with a:={ r.a with since:=if r.a.fresh=true then km (hh q r.a.v0 r.a.v1 r.a.v2) r.a.since r.a.rd else r.a.since },holds:=if r.a.fresh=true then lY q.ts (if r.a.fresh=true then km (hh q r.a.v0 r.a.v1 r.a.v2) r.a.since r.a.rd else r.a.since) r.a.rd else r.holds,h5:=if r.a.fresh=true then fW q.ts (lY q.ts (if r.a.fresh=true then km (hh q r.a.v0 r.a.v1 r.a.v2) r.a.since r.a.rd else r.a.since) r.a.rd) 0 else r.h5,dc:=if r.a.fresh=true then fW q.ts (lY q.ts (if r.a.fresh=true then km (hh q r.a.v0 r.a.v1 r.a.v2) r.a.since r.a.rd else r.a.since) r.a.rd) 1 else r.dc,gl:=if r.a.fresh=true then fW q.ts (lY q.ts (if r.a.fresh=true then km (hh q r.a.v0 r.a.v1 r.a.v2) r.a.since r.a.rd else r.a.since) r.a.rd) 2 else r.gl } /\
  m0=(r.a.fresh&&fW q.ts (hh q r.a.v0 r.a.v1 r.a.v2) 0)/\m1=(r.a.fresh&&fW q.ts (hh q r.a.v0 r.a.v1 r.a.v2) 1)/\m2=(r.a.fresh&&fW q.ts (hh q r.a.v0 r.a.v1 r.a.v2) 2)
theorem rL.yes (hf:r.a.fresh=true):rL q r { r with a:={ r.a with since:=km (hh q r.a.v0 r.a.v1 r.a.v2) r.a.since r.a.rd },holds:=lY q.ts (km (hh q r.a.v0 r.a.v1 r.a.v2) r.a.since r.a.rd) r.a.rd,h5:=fW q.ts (lY q.ts (km (hh q r.a.v0 r.a.v1 r.a.v2) r.a.since r.a.rd) r.a.rd) 0,dc:=fW q.ts (lY q.ts (km (hh q r.a.v0 r.a.v1 r.a.v2) r.a.since r.a.rd) r.a.rd) 1,gl:=fW q.ts (lY q.ts (km (hh q r.a.v0 r.a.v1 r.a.v2) r.a.since r.a.rd) r.a.rd) 2 } (fW q.ts (hh q r.a.v0 r.a.v1 r.a.v2) 0) (fW q.ts (hh q r.a.v0 r.a.v1 r.a.v2) 1) (fW q.ts (hh q r.a.v0 r.a.v1 r.a.v2) 2):=by
 unfold rL;simp only [hf,ll,Bool.true_and];refine ⟨?_,?_,?_,?_⟩ <;> first|rfl|trivial
theorem rL.no (hf:r.a.fresh=false):rL q r r false false false:=by
 unfold rL;obtain ⟨⟨_,_,_,_,_,_,_,_,_,_,_,_,_,_,f⟩,_,_,_,_,_,_⟩:=r;simp only at hf
 subst hf;simp
theorem rL.a {R:Rd} {m0 m1 m2:Bool} (h:rL q r R m0 m1 m2):R.a.rd=r.a.rd/\R.a.ax=r.a.ax/\R.a.cz=r.a.cz/\R.a.dv=r.a.dv/\R.a.ed=r.a.ed/\R.a.fresh=r.a.fresh/\R.a.aU=r.a.aU/\R.a.aL=r.a.aL/\R.a.aS=r.a.aS/\R.o=r.o:=by
 obtain ⟨h,-⟩:=h;subst h;exact ⟨rfl,rfl,rfl,rfl,rfl,rfl,rfl,rfl,rfl,rfl⟩
theorem rL.eq {R:Rd} {m0 m1 m2:Bool} (h:rL q r R m0 m1 m2):r.signals q =
  ⟨{ R.a with aU:=(gi ⟨R.a.aU,R.a.cz⟩ R.h5 m0 R.a.fresh q.b2).on,cz:=(gi ⟨R.a.aU,R.a.cz⟩ R.h5 m0 R.a.fresh q.b2).calm,aL:=(gi ⟨R.a.aL,R.a.dv⟩ R.dc m1 R.a.fresh q.b2).on,dv:=(gi ⟨R.a.aL,R.a.dv⟩ R.dc m1 R.a.fresh q.b2).calm,aS:=(gi ⟨R.a.aS,R.a.ed⟩ R.gl m2 R.a.fresh q.b2).on,ed:=(gi ⟨R.a.aS,R.a.ed⟩ R.gl m2 R.a.fresh q.b2).calm },R.o,
   nc 0 R.a.aU (gi ⟨R.a.aU,R.a.cz⟩ R.h5 m0 R.a.fresh q.b2).on++(nc 1 R.a.aL (gi ⟨R.a.aL,R.a.dv⟩ R.dc m1 R.a.fresh q.b2).on++nc 2 R.a.aS (gi ⟨R.a.aS,R.a.ed⟩ R.gl m2 R.a.fresh q.b2).on),R.holds,R.h5,R.dc,R.gl⟩:=by
 obtain ⟨h1,ah,aw,bn⟩:=h;subst h1 ah aw bn
 cases hf:r.a.fresh <;> simp [Rd.signals,hf]
end
end Go.Proofs.YtmmchlfoplcnbaaGreatDoor
