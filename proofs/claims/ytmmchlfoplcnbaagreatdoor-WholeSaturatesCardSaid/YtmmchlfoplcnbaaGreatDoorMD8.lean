/- A part of the walk. -/
import Derived.Test.YtmmchlfoplcnbaaGreatDoorMD7
namespace Go.Proofs.YtmmchlfoplcnbaaGreatDoor
open Go Go.RowKit Tryz
set_option linter.all false
set_option maxRecDepth 100000
set_option maxHeartbeats 4000000
abbrev cP.cells (e:cP):Array Value:=#[.i e.kind,.string e.id,.i e.sig,.i e.n]
def dA:cu cP 4:=⟨fun p=>p.cells.toList,fun _=>rfl,fun p u hu=>by simp at hu;rcases hu with h|h|h|h <;> subst h <;> rfl,ak⟩
theorem sA:lH prog 31 51 4 40:=by
 obtain ⟨i,h1,ah,aw,bn⟩:=info_parts (show (prog.info? 51).map (fun i=>(i.zero,i.size,i.bytes))=some (some (.agg #[.i 0,.string ⟨#[]⟩,.i 0,.i 0]),4,40) by kernel_rfl);exact ⟨underlying31,i,_,h1,ah,aw,bn,rfl⟩
section
variable {P:Program} {md:Region.Mode} {ops:Array Oper} {Q:Exit->Act->World->Prop} {S:World->Prop} {fuel:Nat} {listed:Array Bool} {a:Act} {w:World}
theorem Mt (i:Nat) {oi:Oper} (hi:ops[i]? = some oi) (hr:Region.ready md ops listed = [i]) (hw:Region.wanted oi (yielded ops a.tmps)=true) (ty:TypeId) (x y:Operand) (ho:oi.op=.store ty x y)
  (g off:Nat) (t:TypeId) (cur cells:Array Value) (hx:a.eval x=.pointer (some ⟨g,off,none⟩)) (hy:a.eval y=.agg cells)
  (hb:ar w g t cur) (hs:off+cells.size<=cur.size) (hn:(P.info? ty).map (·.size)=some cells.size) (h1:cells.all (·.oneCell')=true)
  (h:∀ w',ar w' g t (cur.toList.take off++cells.toList++cur.toList.drop (off+cells.size)).toArray->w.grownBy w' (some g)->w'.heap.size=w.heap.size->S w'/\wpAnyH P md ops Q S fuel (listed.setIfInBounds i true) (a.put oi.dst undef) w'):wpAnyH P md ops Q S (fuel+1) listed a w:=by
 have dt:w.there g off cells.size:=fun j aD=>⟨by rw [hb.cell,s4 af];rfl,hb.frozen _⟩
 obtain ⟨ah,aw,bn⟩:=rS g t cells.toList off w cur.toList (by simp;omega) (by simpa using hb);rw [mm] at ah
 obtain ⟨s1,s2⟩:=h _ ah aw bn;exact iC i hi hr hw fun K hK=>wp_store_mid ty x y ho g off cells hx hy dt hn h1 (hK undef _ s1 s2)
theorem RU {rest:List Oper} {op:Oper} (kq:op.guard=none) (ty:TypeId) (x y:Operand) (ho:op.op=.store ty x y)
  (g off:Nat) (t:TypeId) (cur cells:Array Value) (hx:a.eval x=.pointer (some ⟨g,off,none⟩)) (hy:a.eval y=.agg cells)
  (hb:ar w g t cur) (hs:off+cells.size<=cur.size) (hi:(P.info? ty).map (·.size)=some cells.size) (h1:cells.all (·.oneCell')=true)
  (h:∀ w',ar w' g t (cur.toList.take off++cells.toList++cur.toList.drop (off+cells.size)).toArray->w.grownBy w' (some g)->w'.heap.size=w.heap.size->wpList P ops Q rest (a.put op.dst undef) w'):wpList P ops Q (op :: rest) a w:=by
 have dt:w.there g off cells.size:=fun j aD=>⟨by rw [hb.cell,s4 af];rfl,hb.frozen _⟩
 obtain ⟨ah,aw,bn⟩:=rS g t cells.toList off w cur.toList (by simp;omega) (by simpa using hb);rw [mm] at ah
 exact wpList_store_mid kq ty x y ho g off cells hx hy dt hi h1 (h _ ah aw bn)
end
theorem acU {s what:Int} (h:j' s what≠0):∃ k,k<7/\wj k=(s,what):=by
 unfold j' at h
 by_cases h1:what=1
 ·subst h1
  rw [bB rfl] at h
  by_cases ah:s=1
  ·subst ah;exact ⟨0,ak,rfl⟩
  ·rw [bp ah] at h;exact absurd rfl h
 ·rw [bp h1] at h
  by_cases h1:what=2
  ·subst h1
   rw [bB rfl] at h
   by_cases ah:s=2
   ·subst ah;exact ⟨1,ak,rfl⟩
   ·rw [bp ah] at h;exact absurd rfl h
  ·rw [bp h1] at h
   by_cases h1:what=3
   ·subst h1
    rw [bB rfl] at h
    by_cases ah:s=3
    ·subst ah;exact ⟨2,ak,rfl⟩
    ·rw [bp ah] at h;exact absurd rfl h
   ·rw [bp h1] at h
    by_cases h1:what=4
    ·subst h1
     rw [bB rfl] at h
     by_cases ah:s=1\/s=2\/s=4\/s=6
     ·rcases ah with rfl|rfl|rfl|rfl
      ·exact ⟨3,ak,rfl⟩
      ·exact ⟨4,ak,rfl⟩
      ·exact ⟨5,ak,rfl⟩
      ·exact ⟨6,ak,rfl⟩
     ·rw [bp ah] at h;exact absurd rfl h
    ·rw [bp h1] at h;exact absurd rfl h
theorem acV {s what:Int} {k:Nat} (hk:k<7) (h:wj k=(s,what)):j' s what=zh k/\j' s what≠0:=by
 obtain rfl|rfl|rfl|rfl|rfl|rfl|rfl:k=0\/k=1\/k=2\/k=3\/k=4\/k=5\/k=6:=af
 all_goals
  have h1:=pz Prod.fst h;have ah:=pz Prod.snd h;simp only [wj] at h1 ah
  subst h1;subst ah;exact ⟨rfl,ak⟩
theorem Su {w:World} {es:Array MapEntry} {aN clock:Nat} (h:Ss es) (hm:w.heap[aN]? = some (.map es clock)) (s what:Int) :
  (Instr.lookup 402 (.map (some aN)) (.agg #[.i s,.i what]) true).run prog w=.ok (.tuple #[.i (j' s what),.bool (j' s what != 0)]) w:=by
 have bI:(zeroValue 3).run prog w=.ok (.i 0) w:=ai
 rcases acW underlying402 hm (fun e he=>by obtain ⟨k,_,hk,_⟩:=h.lV e he;exact ⟨_,_,hk⟩) bI s what with ⟨h1,ah⟩|⟨q,bd,h1,ah⟩
 ·have aI:j' s what=0:=by
   rcases Decidable.em (j' s what=0) with aI|aI
   ·exact aI
   ·obtain ⟨k,hk,e⟩:=acU aI
    obtain ⟨x,hx,mW⟩:=h.has k hk;refine absurd ?_ (ah x hx);rw [mW];unfold rq;rw [e]
  rw [h1,aI];rfl
 ·obtain ⟨k,hk,aV,bE⟩:=h.lV q bd
  have cG:wj k=(s,what):=by
   rw [h1] at aV
   unfold rq at aV
   injection aV with aV
   simp at aV
   exact Prod.ext aV.1.symm aV.2.symm
  obtain ⟨v1,v2⟩:=acV hk cG;rw [ah,bE,v1];rw [v1] at v2
  have:(zh k != 0)=true:=by simpa using v2
  rw [this]
theorem acX (w:World):Calls prog 205 #[] w fun e w'=>e=.returned (.agg #[.i 1,.i 0])/\Below w.heap.size w w':=by
 have bs:=J (ar.new w 73 #[.i 0,.i 0]);have aA:=J ((aO w.heap.size w).alloc aF (.cells #[.i 0,.i 0] 73))
 go_enter func205,ntmps205
 go_wp2_with (refine ch rfl 73 (.tmp 0) (.tmp 1) rfl w.heap.size 73 #[.i 0,.i 0] #[.i 1,.i 0] rfl rfl bs.out rfl ai cc ?_;intro bc bS bP dx)
 have dn:=bS.cell;exact cS (v:=.agg #[.i 1,.i 0]) (by simp [results,results205,go_sem,dn]) rfl ⟨rfl,aA.grown bP aA.size dP⟩
theorem acY (s t what:Int) (w:World):Calls prog 247 #[.agg #[.i s,.i t],.i what] w fun e w'=>e=.returned (.bool (j' s what != 0))/\Below w.heap.size w w':=by
 have mixed:prog.follows Departure.mixedOrders=true:=ai;have ap:Hid (ar (w.alloc (.cells #[.i s,.i t] 73)).drew w.heap.size 73 #[.i s,.i t]/\Below w.heap.size w (w.alloc (.cells #[.i s,.i t] 73)).drew):=⟨(ar.new w _ _).drew,((aO w.heap.size w).alloc aF _).drew⟩
 go_enter func247,ntmps247
 go_wp2_with fail;obtain ⟨wd,aG⟩:=aE ((w.alloc (.cells #[.i s,.i t] 73)).drew);rw [aG] at ap
 refine wp_region_held_drew (S:=fun w'=>w'.cell? ⟨w.heap.size,0,none⟩=some (.i s)) ai (by rw [aG];exact (ap.1.cell 0)) (fun hHeld=>?_);rw [aG] at hHeld ⊢
 clear aG;refine aj 1 ?_;refine aj 2 ?_;refine aj 3 ?_;refine aj 4 ?_;refine dR 0 8 rfl rfl ai aH (fun K hK=>?_);go_simp;refine (St wd).mono ?_;rintro e dy ⟨aN,es,acZ,rfl,hJ,xC,fD⟩;have ap:=J (ae (ap.1.bw fD) (ae (ap.2.trans (fD.mono ap.2.size)) (ae hJ xC)));clear hJ xC fD;have hHeld:=(ap.1.cell 0)
 refine hK _ _ hHeld ?_;clear hK K;simp only [Act.put,aY,aZ,a1];refine dR 5 13 rfl rfl ai aH (fun K hK=>?_);have ui:=Su ap.2.2.2 ap.2.2.1 s what;go_simp;clear ui;have hHeld:=(ap.1.cell 0)
 refine hK _ _ hHeld ?_;clear hK K;simp only [Act.put,aY,aZ,a1];refine aj 6 ?_;refine aj 7 ?_;refine aj 8 ?_;refine aj 9 ?_;refine aj 10 ?_;refine wpAnyH_done ai ?_ _;clear hHeld;go_wp2_with fail;go_ret;exact ⟨rfl,ap.2.1⟩
def sC (s t what:Int) (dS:Bool) (ret:Int):Int×Int:=if dS=true then (j' s what,0) else if ret<eg t 1 then (6,eg t 1) else (s,eg t 1)
theorem ac0 (s t what:Int) (dS:Bool) (ret:Int) (hs:j' s what≠0) (ht:c' t) (w:World):Calls prog 248 #[.agg #[.i s,.i t],.i what,.bool dS,.i ret] w fun e w'=>e=.returned (.tuple #[.agg #[.i (sC s t what dS ret).1,.i (sC s t what dS ret).2],.i 0])/\Below w.heap.size w w':=by
 have mixed:prog.follows Departure.mixedOrders=true:=ai;have Dl:(j' s what != 0)=true:=by simpa using hs
 have Sv:=J (fun W=>CP t 1 W ht (by unfold c';omega));have Mk:Hid (sC s t what true ret=(j' s what,0)):=rfl;have Fa:Hid (ret<eg t 1->sC s t what false ret=(6,eg t 1)):=fun h=>by unfold sC;rw [bp av,bB h]
 have It:Hid (¬ ret<eg t 1->sC s t what false ret=(s,eg t 1)):=fun h=>by unfold sC;rw [bp av,bp h]
 have ap:Hid (ar ((w.alloc (.cells #[.i s,.i t] 73)).alloc (.cells #[.i 0,.i 0] 73)).drew w.heap.size 73 #[.i s,.i t]/\Below w.heap.size w ((w.alloc (.cells #[.i s,.i t] 73)).alloc (.cells #[.i 0,.i 0] 73)).drew):=⟨((ar.new w _ _).alloc _).drew,(((aO w.heap.size w).alloc aF _).alloc av _).drew⟩
 have bx:Hid (ar ((w.alloc (.cells #[.i s,.i t] 73)).alloc (.cells #[.i 0,.i 0] 73)).drew (w.heap.size+1) 73 #[.i 0,.i 0]):=by
  have:=ar.new (w.alloc (.cells #[.i s,.i t] 73)) 73 #[.i 0,.i 0];rw [zp] at this
  exact this.drew
 clear ht hs
 go_enter func248,ntmps248
 go_wp2_with fail;obtain ⟨wd,aG⟩:=aE (((w.alloc (.cells #[.i s,.i t] 73)).alloc (.cells #[.i 0,.i 0] 73)).drew);rw [aG] at ap bx
 refine wp_region_held_drew (S:=fun w'=>w'.cell? ⟨w.heap.size,0,none⟩=some (.i s)) ai (by rw [aG];exact (ap.1.cell 0)) (fun hHeld=>?_);rw [aG] at hHeld ⊢
 clear aG;refine aj 1 ?_;refine aj 2 ?_;refine aj 3 ?_;refine aj 4 ?_;refine dR 0 13 rfl rfl ai aH (fun K hK=>?_);go_simp;refine (St wd).mono ?_;rintro e dy ⟨aN,es,acZ,rfl,hJ,xC,fD⟩;have bx:=J (bx.bw fD);have ap:=J (ae (ap.1.bw fD) (ae (ap.2.trans (fD.mono ap.2.size)) (ae hJ xC)));clear hJ xC fD;have hHeld:=(ap.1.cell 0)
 refine hK _ _ hHeld ?_;clear hK K;simp only [Act.put,aY,aZ,a1];refine dR 5 18 rfl rfl ai aH (fun K hK=>?_);have ui:=Su ap.2.2.2 ap.2.2.1 s what;go_simp;clear ui;have hHeld:=(ap.1.cell 0)
 refine hK _ _ hHeld ?_;clear hK K;simp only [Act.put,aY,aZ,a1];refine aj 6 ?_;refine aj 7 ?_;refine aj 8 ?_;refine aj 9 ?_;refine aj 10 ?_;refine wpAnyH_done ai ?_ _;clear hHeld
 try rw [Dl]
 obtain ⟨Sw,tV⟩:=aE (j' s what);rw [tV] at Mk ⊢
 clear tV Dl;obtain ⟨c6,uq⟩:=aE (eg t 1);rw [uq] at Sv Fa It
 clear uq;have gb:=J ap.2.1;have eo:=ap.1.cell;have zq:=ap.1.frozen
 cases dS
 ·clear Mk
  go_wp2_with fail;refine (Sv.out _).mono ?_;rintro e w' ⟨rfl,rfl⟩;clear eo zq hHeld
  by_cases hc:ret<c6
  ·have bF:=J (Fa.out hc)
   clear Fa It
   go_wp2_with (first|(refine kZ rfl 3 (.tmp 32) (.tmp 31) rfl w.heap.size 1 73 #[.i s,.i t] (.i c6) rfl rfl ap.1 av ai rfl ?_;intro bc bS bP dx;have BA:=J (show ar bc w.heap.size 73 #[.i s,.i c6] from bS);have Ds:=J (bx.grown bP av);have dp:=J (gb.grown bP gb.size dP);clear bS bx gb ap;have Sx:bc.cell? ⟨w.heap.size,0,none⟩=some (.i s):=BA.cell 0;have Sy:bc.cell? ⟨w.heap.size,1,none⟩=some (.i c6):=BA.cell 1)|(refine kZ rfl 3 (.tmp 37) (.const (.i 6)) rfl w.heap.size 0 73 #[.i s,.i c6] (.i 6) rfl rfl BA.out av ai rfl ?_;intro bm qj ua EX;have Sz:=J (show ar bm w.heap.size 73 #[.i 6,.i c6] from qj);have vX:=J (Ds.grown ua av);have tM:=J (dp.grown ua dp.size dP);clear qj Ds dp BA Sx Sy;have akv:bm.cell? ⟨w.heap.size,0,none⟩=some (.i 6):=Sz.cell 0;have akw:bm.cell? ⟨w.heap.size,1,none⟩=some (.i c6):=Sz.cell 1)|(refine ch rfl 73 (.tmp 8) (.tmp 38) rfl (w.heap.size+1) 73 #[.i 0,.i 0] #[.i 6,.i c6] rfl rfl vX.out rfl ai cc ?_;intro bU gg eS j7))
   have ub:=gg.cell;exact cS (v:=.tuple #[.agg #[.i 6,.i c6],.i 0]) (by simp [results,results248,go_sem,ub]) rfl ⟨by rw [bF.out],tM.grown eS tM.size dP⟩
  ·have bF:=J (It.out af)
   clear Fa It
   go_wp2_with (first|(refine kZ rfl 3 (.tmp 32) (.tmp 31) rfl w.heap.size 1 73 #[.i s,.i t] (.i c6) rfl rfl ap.1 av ai rfl ?_;intro bc bS bP dx;have BA:=J (show ar bc w.heap.size 73 #[.i s,.i c6] from bS);have Ds:=J (bx.grown bP av);have dp:=J (gb.grown bP gb.size dP);clear bS bx gb ap;have Sx:bc.cell? ⟨w.heap.size,0,none⟩=some (.i s):=BA.cell 0;have Sy:bc.cell? ⟨w.heap.size,1,none⟩=some (.i c6):=BA.cell 1)|(refine ch rfl 73 (.tmp 8) (.tmp 38) rfl (w.heap.size+1) 73 #[.i 0,.i 0] #[.i s,.i c6] rfl rfl Ds.out rfl ai cc ?_;intro bU gg eS j7))
   have ub:=gg.cell;exact cS (v:=.tuple #[.agg #[.i s,.i c6],.i 0]) (by simp [results,results248,go_sem,ub]) rfl ⟨by rw [bF.out],dp.grown eS dp.size dP⟩
 ·have bF:=Mk
  go_wp2_with (refine ch rfl 73 (.tmp 8) (.tmp 28) rfl (w.heap.size+1) 73 #[.i 0,.i 0] #[.i Sw,.i 0] rfl rfl bx.out rfl ai cc ?_;intro bc bS bP dx)
  have dn:=bS.cell;exact cS (v:=.tuple #[.agg #[.i Sw,.i 0],.i 0]) (by simp [results,results248,go_sem,dn]) rfl ⟨by rw [bF.out],gb.grown bP gb.size dP⟩
structure mP (S:Nat->Prop) (w:World) (bH:Nat) (ret:Int) (cQ gK fh:Option Addr) (e7 eG fj:Nat) (o:bA):Prop where
 ab:cW w S bH 131 #[.slice cQ o.q.length e7,.i ret,.slice gK o.boxes.length eG,.slice fh o.eC.length fj]
 o3:iY S w cQ e7 o.q
 box:b7 w S 75 cK (.slice gK o.boxes.length eG) o.boxes
 rE:b7 w S 146 encI (.slice fh o.eC.length fj) o.eC
def eO (S:Nat->Prop) (w:World) (bH:Nat) (ret:Int) (o:bA):Prop:=∃ cQ gK fh e7 eG fj,mP S w bH ret cQ gK fh e7 eG fj o
theorem acd:(prog.info? 4).map (·.size)=some 1:=ai
theorem Wf:(prog.info? 46).map (·.size)=some 1:=ai
section
variable {S cn:Nat->Prop} {ts:List TypeId} {w w':World} {bH:Nat} {ret:Int} {cQ gK fh:Option Addr} {e7 eG fj:Nat} {o:bA}
theorem mP.below (h:mP S w bH ret cQ gK fh e7 eG fj o) (hb:Below w.heap.size w w'):mP S w' bH ret cQ gK fh e7 eG fj o:=⟨h.ab.below hb,h.o3.below hb,h.box.below hb,h.rE.below hb⟩
theorem eO.below (h:eO S w bH ret o) (hb:Below w.heap.size w w'):eO S w' bH ret o:=by
 obtain ⟨a,b,c,d,e,f,h⟩:=h;exact ⟨a,b,c,d,e,f,h.below hb⟩
theorem eO.a6 (h:eO S w bH ret o) (hc:bh cn ts w w') (h1:131∉ts) (ah:4∉ts) (aw:75∉ts) (bn:146∉ts):eO S w' bH ret o:=by
 obtain ⟨a,b,c,d,e,f,h⟩:=h;exact ⟨a,b,c,d,e,f,h.ab.a6 hc h1,h.o3.a6 hc ah,h.box.a6 hc aw,h.rE.a6 hc bn⟩
theorem eO.iG (h:eO S w bH ret o) (hc:bh cn ts w w') (hd:∀ k,S k->¬ cn k):eO S w' bH ret o:=by
 obtain ⟨a,b,c,d,e,f,h⟩:=h;exact ⟨a,b,c,d,e,f,h.ab.iG hc hd,h.o3.iG hc hd,h.box.iG hc hd,h.rE.iG hc hd⟩
theorem eO.mono (h:eO S w bH ret o) (hS:∀ k,k<w.heap.size->S k->cn k):eO cn w bH ret o:=by
 obtain ⟨a,b,c,d,e,f,h⟩:=h;exact ⟨a,b,c,d,e,f,h.ab.mono hS,h.o3.mono hS,h.box.mono hS,h.rE.mono hS⟩
theorem mP.cells (h:mP S w bH ret cQ gK fh e7 eG fj o):w.cell? ⟨bH,0,none⟩=some (.slice cQ o.q.length e7)/\w.cell? ⟨bH,1,none⟩=some (.i ret)/\w.cell? ⟨bH,2,none⟩=some (.slice gK o.boxes.length eG)/\w.cell? ⟨bH,3,none⟩=some (.slice fh o.eC.length fj):=⟨h.ab.ab.cell 0,h.ab.ab.cell 1,h.ab.ab.cell 2,h.ab.ab.cell 3⟩
theorem mP.put (h:mP S w bH ret cQ gK fh e7 eG fj o) {i:Nat} {v:Value} (az:w.grownBy w' (some bH)):bh S [131] w w'/\iY S w' cQ e7 o.q/\b7 w' S 75 cK (.slice gK o.boxes.length eG) o.boxes/\b7 w' S 146 encI (.slice fh o.eC.length fj) o.eC:=by
 have hc:bh S [131] w w':=bh.grown az fun k hk _=>by injection hk with hk;subst hk;exact ⟨h.ab.ins,.inr ⟨_,_,_,h.ab.ab,av⟩⟩
 exact ⟨hc,h.o3.a6 hc ak,h.box.a6 hc ak,h.rE.a6 hc ak⟩
theorem Wg (h:eO S w bH ret o):Calls prog 192 #[.pointer (some ⟨bH,0,none⟩)] w fun e w'=>e=.returned (.bool (pV o.q))/\eO S w' bH ret { o with q:=o.q.tail }/\bh S [131] w w':=by
 obtain ⟨cQ,gK,fh,e7,eG,fj,h⟩:=h;have ag:=J h;obtain ⟨bt,_⟩:=h.cells;clear h
 cases bd:o.q with
 | nil =>
  have ao:=J bd;rw [bd] at bt
  clear bd
  go_enter func192,ntmps192
  go_wp2_with fail;go_ret;refine ⟨rfl,⟨cQ,gK,fh,e7,eG,fj,?_⟩,bh.refl _ _ _⟩;have he:({ o with q:=([]:List Bool).tail }:bA)=o:=by have:=ao.out;cases o;simp at this;subst this;rfl
  rw [he];exact ag.out
 | cons b l =>
  have ao:=J bd;rw [bd] at bt
  have tB:∃ g off,cQ=some ⟨g,off,none⟩/\w.cell? ⟨g,off,none⟩=some (.bool b):=by
   obtain ⟨g,off,e,_,hc⟩:=ag.o3.kp (by rw [bd];simp [cu.all,xe]);refine ⟨g,off,e,?_⟩;exact hc 0 (.bool b) (by rw [bd,L1];rfl)
  obtain ⟨g,off,hA,ff⟩:=tB;subst hA;have A3:=ag.o3.cap;rw [bd] at A3
  simp only [cy] at A3 bt
  have cT:=J A3;clear bd A3
  go_enter func192,ntmps192
  have d1:(((l.length+1:Nat):Int)==0)=false:=by simp;omega
  have d2:1<=e7:=by have:=cT.1;omega
  have cC:=J (fun (h:iY S w (some ⟨g,off,none⟩) e7 (b :: l))=>h.tail);have hZ:=J (show pV (b :: l)=b/\(b :: l).tail=l from ⟨rfl,rfl⟩);have fin:∀ (br:Option Addr) (bc:World),iY S w br (e7-1) l->ar bc bH 131 #[.slice br l.length (e7-1),.i ret,.slice gK o.boxes.length eG,.slice fh o.eC.length fj]->w.grownBy bc (some bH)->eO S bc bH ret ⟨l,o.boxes,o.eC⟩/\bh S [131] w bc:=fun br bc bd hb az=>by
   obtain ⟨hc,_,ah,aw⟩:=ag.put (i:=0) (v:=.bool true) az;exact ⟨⟨br,gK,fh,e7-1,eG,fj,⟨hb,ag.ab.ins⟩,bd.a6 hc ak,ah,aw⟩,hc⟩
  have bN:=J fin;clear fin
  by_cases he:e7=1
  ·have iz:l.length=0:=by have:=cT.1;omega
   go_wp2_with (refine kZ rfl 46 (.tmp 23) (.tmp 21) rfl bH 0 131 _ (.slice (some ⟨g,off,none⟩) 0 0) rfl rfl ag.ab.ab av Wf rfl ?_;intro bc bS bP dx)
   go_ret;have bd:=cC.out (by have:=ag.o3;rwa [ao.out] at this);rw [bB he] at bd
   have hl:l = []:=Cx iz;subst hl;subst he;obtain ⟨f1,f2⟩:=bN.out _ bc bd bS bP;exact ⟨rfl,f1,f2⟩
  ·go_wp2_with (refine kZ rfl 46 (.tmp 23) (.tmp 21) rfl bH 0 131 _ (.slice (some ⟨g,off+1,none⟩) l.length (e7-1)) rfl rfl ag.ab.ab av Wf rfl ?_;intro bc bS bP dx)
   go_ret;have bd:=cC.out (by have:=ag.o3;rwa [ao.out] at this);rw [bp he] at bd
   obtain ⟨f1,f2⟩:=bN.out _ bc bd bS bP;exact ⟨rfl,f1,f2⟩
theorem ah8 (hs:dw S w) (r:Int):Calls prog 52 #[.i r] w fun e w'=>e=.returned (.pointer (some ⟨w.heap.size,0,none⟩))/\eO S w' w.heap.size r ⟨[],[],[]⟩/\Below w.heap.size w w':=by
 have bs:=J (ar.new w 131 #[.slice none 0 0,.i r,.slice none 0 0,.slice none 0 0]);have aA:=J ((aO w.heap.size w).alloc aF (.cells #[.slice none 0 0,.i r,.slice none 0 0,.slice none 0 0] 131))
 go_enter func52,ntmps52
 go_wp2_with fail;go_ret;exact ⟨rfl,⟨none,none,none,0,0,0,⟨⟨bs.out,hs.gJ _ aF⟩,.inl ⟨rfl,rfl,rfl⟩,b7.e8 _ _ _ _,b7.e8 _ _ _ _⟩⟩,aA.out⟩
theorem OM (h:eO S w bH ret o) {N:Nat} (bi:e2 N o) (b8:N<=100000) (id:ByteArray):Calls prog 203 #[.pointer (some ⟨bH,0,none⟩),.string id] w fun e w'=>e=.returned (.tuple #[.i (iX o.boxes id),.bool (kD o.boxes id)])/\Below w.heap.size w w':=by
 obtain ⟨cQ,gK,fh,e7,eG,fj,h⟩:=h;obtain ⟨_,_,c2,_⟩:=h.cells;have ag:=J (ae h.box.cZ (ae (aiD.2 bi.j8) (show o.boxes.length<=1000000 by have:=bi.pR;omega)));clear h bi b8
 go_enter func203,ntmps203
 go_wp2_with fail;refine (adi o.boxes id gK eG w ag.1 ag.2.2 ag.2.1).mono ?_;rintro e aC ⟨rfl,hb⟩;have aB:=J hb;clear hb;go_wp2_with fail;exact cS (v:=.tuple #[.i (iX o.boxes id),.bool (kD o.boxes id)]) (by simp [results,results203,go_sem]) rfl ⟨rfl,aB.out⟩
def bA.err (o:bA) (id:ByteArray) (what:Int):Int:=if kD o.boxes id=true then (if o.may id what=true then 0 else 7) else 4
def bA.idx (o:bA) (id:ByteArray) (what:Int):Nat:=if o.err id what=0 then iX o.boxes id else 0
theorem bA.x4 {o:bA} {id:ByteArray} {what:Int}:o.err id what=0↔o.may id what=true:=by
 unfold bA.err bA.may bA.at_
 cases h:kD o.boxes id
 ·simp
 ·simp only [ll]
  split <;> simp_all
theorem bA.OO {o:bA} {id:ByteArray} (h:kD o.boxes id=true):∃ hi:iX o.boxes id<o.boxes.length,o.at_ id=some o.boxes[iX o.boxes id]:=by
 have cI:=h;rw [Nu] at h
 obtain ⟨hi,e⟩:=zX h;refine ⟨hi,?_⟩;unfold bA.at_;rw [bB cI];exact dF hi
theorem Wh (h:eO S w bH ret o) {N:Nat} (bi:e2 N o) (b8:N<=100000) (id:ByteArray) (what:Int):Calls prog 191 #[.pointer (some ⟨bH,0,none⟩),.string id,.i what] w fun e w'=>e=.returned (.tuple #[.i (o.idx id what),.i (o.err id what)])/\Below w.heap.size w w':=by
 obtain ⟨cQ,gK,fh,e7,eG,fj,h⟩:=h;have ag:=J h;have cj:=J (ae bi b8);clear h bi b8
 go_enter func191,ntmps191
 go_wp2_with fail;refine (OM ⟨cQ,gK,fh,e7,eG,fj,ag.out⟩ cj.1 cj.2 id).mono ?_;rintro e aC ⟨rfl,hb⟩;have aB:=J (ae (ag.below hb) hb);clear hb;obtain ⟨_,_,c2,_⟩:=aB.1.cells
 cases dz:kD o.boxes id
 ·have bC:Hid (o.err id what=4):=by show _=_;unfold bA.err;rw [dz];rfl
  clear dz;go_wp2_with fail;exact cS (v:=.tuple #[.i 0,.i 4]) (by simp [results,results191,go_sem]) rfl ⟨by unfold bA.idx;rw [bC.out];rfl,aB.2⟩
 ·obtain ⟨hi,hx⟩:=bA.OO dz
  obtain ⟨b,off,hA,_,bg,aX,ba,nD⟩:=aB.1.box.cZ.ks hi;subst hA;have bC:Hid (o.err id what=if (j' o.boxes[iX o.boxes id].state what != 0)=true then 0 else 7):=by
   show _=_;unfold bA.err bA.may;rw [bB dz,hx]
  obtain ⟨x,uP⟩:=aE (o.boxes[iX o.boxes id]);rw [uP] at bg aX ba nD bC
  obtain ⟨i,qT⟩:=aE (iX o.boxes id);rw [qT] at bg aX ba nD hi ⊢
  have hX:=J qT;have rb:(i:Int)<(o.boxes.length:Int):=af;clear dz hx uP qT;go_wp2_with fail;refine (acY x.state x.il what aC).mono ?_;rintro e aM ⟨rfl,hb⟩;have cJ:=J (aB.2.trans (hb.mono aB.2.size));clear hb
  cases hm:(j' x.state what != 0)
  ·have e1:Hid (o.err id what=7):=by show _=_;rw [bC.out,hm];rfl
   clear hm;go_wp2_with fail;exact cS (v:=.tuple #[.i 0,.i 7]) (by simp [results,results191,go_sem]) rfl ⟨by unfold bA.idx;rw [e1.out];rfl,cJ.out⟩
  ·have e1:Hid (o.err id what=0):=by show _=_;rw [bC.out,hm];rfl
   clear hm;go_wp2_with fail;exact cS (v:=.tuple #[.i i,.i 0]) (by simp [results,results191,go_sem]) rfl ⟨by unfold bA.idx;rw [e1.out,hX.out];rfl,cJ.out⟩
theorem MH (h:eO S w bH ret o) (hl:o.boxes.length<=100000):Calls prog 42 #[.pointer (some ⟨bH,0,none⟩)] w (Fb cK 75 o.boxes w):=by
 obtain ⟨cQ,gK,fh,e7,eG,fj,h⟩:=h;obtain ⟨_,_,c2,_⟩:=h.cells;have ag:=J h;clear h
 go_enter func42,ntmps42
 go_wp2_with fail;refine (adl o.boxes gK eG w ag.box.cZ hl).mono ?_;rintro e aC ⟨br,a8,rfl,ho,hb⟩;have aB:=J (ae ho hb);clear ho hb;go_wp2_with fail;go_ret;exact ⟨br,a8,rfl,aB.1,aB.2⟩
def bA.box (o:bA) (id:ByteArray):Int×Int×Bool:=match o.at_ id with|some x=>(x.state,x.il,true)|none=>(0,0,false)
theorem wE (h:eO S w bH ret o) {N:Nat} (bi:e2 N o) (b8:N<=100000) (id:ByteArray):Calls prog 149 #[.pointer (some ⟨bH,0,none⟩),.string id] w fun e w'=>e=.returned (.tuple #[.agg #[.i (o.box id).1,.i (o.box id).2.1],.bool (o.box id).2.2])/\Below w.heap.size w w':=by
 obtain ⟨cQ,gK,fh,e7,eG,fj,h⟩:=h;have h1:Below w.heap.size w (w.alloc (.cells #[.i 0,.i 0] 73)):=(aO w.heap.size w).alloc aF _;have ag:=J (ae (h.below h1) (ae (ar.new w 73 #[.i 0,.i 0]) h1));have cj:=J (ae bi b8);clear h bi b8 h1
 go_enter func149,ntmps149
 go_wp2_with fail;refine (OM ⟨cQ,gK,fh,e7,eG,fj,ag.1⟩ cj.1 cj.2 id).mono ?_;rintro e aC ⟨rfl,hb⟩;have aB:=J (ae (ag.1.below hb) (ae (ag.2.1.bw hb) (ag.2.2.trans (hb.mono ag.2.2.size))));clear hb;obtain ⟨_,_,c2,_⟩:=aB.1.cells
 cases dz:kD o.boxes id
 ·have bC:Hid (o.box id=(0,0,false)):=by show _=_;unfold bA.box bA.at_;rw [dz];rfl
  clear dz
  go_wp2_with (refine ch rfl 73 (.tmp 4) (.tmp 16) rfl w.heap.size 73 #[.i 0,.i 0] #[.i 0,.i 0] rfl rfl aB.2.1 rfl ai cc ?_;intro bU gg eS j7)
  have ub:=gg.cell;exact cS (v:=.tuple #[.agg #[.i 0,.i 0],.bool false]) (by simp [results,results149,go_sem,ub]) rfl ⟨by rw [bC.out],aB.2.2.grown eS aB.2.2.size dP⟩
 ·obtain ⟨hi,hx⟩:=bA.OO dz
  obtain ⟨b,off,hA,_,bg,aX,ba,nD⟩:=aB.1.box.cZ.ks hi;subst hA;obtain ⟨x,uP⟩:=aE (o.boxes[iX o.boxes id]);rw [uP] at bg aX ba nD hx
  have bC:Hid (o.box id=(x.state,x.il,true)):=by show _=_;unfold bA.box;rw [hx]
  obtain ⟨i,qT⟩:=aE (iX o.boxes id);rw [qT] at bg aX ba nD hi
  rw [qT];have rb:(i:Int)<(o.boxes.length:Int):=af;clear dz hx uP qT
  go_wp2_with (refine ch rfl 73 (.tmp 4) (.tmp 24) rfl w.heap.size 73 #[.i 0,.i 0] #[.i x.state,.i x.il] rfl rfl aB.2.1 rfl ai cc ?_;intro bU gg eS j7)
  have ub:=gg.cell;exact cS (v:=.tuple #[.agg #[.i x.state,.i x.il],.bool true]) (by simp [results,results149,go_sem,ub]) rfl ⟨by rw [bC.out],aB.2.2.grown eS aB.2.2.size dP⟩
end
end Go.Proofs.YtmmchlfoplcnbaaGreatDoor
