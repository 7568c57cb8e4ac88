/- A part of the walk. -/
import Derived.RegionTactic
import Derived.MapKept
import Derived.WideMake
import Derived.Laws.BitsAllLaws
import Derived.Test.YtmmchlfoplcnbaaGreatDoorMA1
namespace Go.Proofs.YtmmchlfoplcnbaaGreatDoor
open Go Go.RowKit Tryz
set_option linter.all false
set_option maxRecDepth 100000
set_option maxHeartbeats 4000000
section
variable {P:Program} {ops:Array Oper} {Q:Exit->Act->World->Prop} {S:World->Prop} {md:Region.Mode} {fuel:Nat} {listed:Array Bool} {a a':Act} {w:World} {oi:Oper} {d:Nat} {v:Value}
theorem aj (i:Nat)
  (h:wpAnyH P md ops Q S fuel (listed.setIfInBounds i true) a' w)
  (hi:ops[i]? = some oi:=by exact rfl) (hd:oi.dst=some d:=by exact rfl) (hs:Region.noSelect ops=true:=by kernel_rfl) (hf:Region.free md ops listed i=true:=by kernel_rfl) (hr:(Region.ready md ops listed).contains i=true:=by kernel_rfl)
  (hw:Region.wanted oi (yielded ops a.tmps)=true:=by rfl) (hv:∀ w,S w->(execOp a.eval oi).run P w=.ok (.value v) w:=by intro w' dB;(try dsimp only at dB);go_simp;(try (with_reducible rfl)))
  (ha:a.put (some d) v=a':=by simp only [Act.put,List.setIfInBounds_toArray,List.set_cons_zero,List.set_cons_succ];exact rfl)
  (pu:∀ c a w,Q (.panic c) (a.put (some d) v) w->Q (.panic c) a w:=by exact fun _ _ _ h=>h)
  (hS:S w:=by assumption):wpAnyH P md ops Q S (fuel+1) listed a w:=by
 subst ha;exact gN i d v hi hd hs hf hr pu hw hv hS h
end
def qP:cu Int 1:=⟨fun n=>[.i n],fun _=>rfl,fun _ u hu=>by simp at hu;subst hu;rfl,ak⟩
def most:Int:=9223372036854775807
def kU (a:Int):Int:=if a<0 then 0 else a
def eg (a b:Int):Int:=if kU a+kU b<=most then kU a+kU b else most
theorem G6 (a:Int) (h:c' a):0<=kU a/\kU a<=9223372036854775807:=by
 unfold c' at h
 unfold kU;split <;> omega
theorem YJ (a b:Int) (ha:c' a) (hb:c' b):0<=eg a b/\eg a b<=9223372036854775807:=by
 have:=G6 a ha;have:=G6 b hb;unfold eg most;split <;> omega
theorem KR (a b:Int) (ha:c' a) (hb:c' b):c' (eg a b):=by
 have:=YJ a b ha hb;unfold c';omega
theorem G7 (a:Int) (w:World) (ha:c' a) :
  Calls prog 195 #[.i a] w fun e w'=>e=.returned (.i (kU a))/\w=w':=by
 obtain ⟨h1,ah⟩:=ha
 go_enter func195,ntmps195
 go_wp2
 all_goals go_ret
 all_goals exact ⟨sZ (by unfold kU;split <;> omega),rfl⟩
theorem CP (a b:Int) (w:World) (ha:c' a) (hb:c' b) :
  Calls prog 146 #[.i a,.i b] w fun e w'=>e=.returned (.i (eg a b))/\w=w':=by
 have h1:=G6 a ha;have ah:=G6 b hb;obtain ⟨aj1,aj2⟩:=h1;obtain ⟨aj3,aj4⟩:=ah
 go_enter func146,ntmps146
 go_wp2_with fail;refine (G7 a _ ha).mono ?_;rintro e w' ⟨rfl,rfl⟩;go_wp2_with fail;refine (G7 b _ hb).mono ?_;rintro e w' ⟨rfl,rfl⟩;go_wp2_with fail
 all_goals go_ret
 all_goals exact ⟨sZ (by unfold eg most;split <;> omega),rfl⟩
structure eH where
 sig:Int
 cb:Int
 ck:Int
 soft:Bool
 cE:Int
abbrev eH.cells (t:eH):Array Value:=#[.i t.sig,.i t.cb,.i t.ck,.bool t.soft,.i t.cE]
def i7:cu eH 5:=⟨fun p=>p.cells.toList,fun _=>rfl,fun p u hu=>by simp at hu;rcases hu with h|h|h|h|h <;> subst h <;> rfl,ak⟩
def qZ (n:Int) (k:Nat):UInt8:=UInt8.ofNat ((n / (256 ^ k:Int)) % 256).toNat
def CM (n:Int):Nat->List UInt8
 | 0=>[]
 | k+1=>qZ n k :: CM n k
theorem G5 (n:Int) (k:Nat):(CM n k).length=k:=by
 induction k with
 | zero=>rfl
 | succ k b6=>rw [CM,cy,b6]
def word (n:Int):List UInt8:=CM n 8
theorem Yz (n:Int) (k:Nat):((qZ n k).toNat:Int)=(n / (256 ^ k:Int)) % 256:=by
 unfold qZ;have h1:0<=(n / (256 ^ k:Int)) % 256:=Int.emod_nonneg _ ak;have ah:(n / (256 ^ k:Int)) % 256<256:=Int.emod_lt_of_pos _ ak;rw [tF];omega
theorem tG:lH prog 87 5 1 1:=by
 obtain ⟨i,h1,ah,aw,bn⟩:=info_parts (show (prog.info? 5).map (fun i=>(i.zero,i.size,i.bytes))=some (some (.int .u8 0),1,1) by kernel_rfl);exact ⟨underlying87,i,_,h1,ah,aw,bn,rfl⟩
theorem YG:∀ i,prog.info? 5=some i->i.zero=some (.int .u8 0):=by
 obtain ⟨i,h1,ah,aw,bn⟩:=info_parts (show (prog.info? 5).map (fun i=>(i.zero,i.size,i.bytes))=some (some (.int .u8 0),1,1) by kernel_rfl);intro j aD;rw [h1] at aD
 cases aD
 exact ah
def xe:cu Bool 1:=⟨fun b=>[.bool b],fun _=>rfl,fun _ u hu=>by simp at hu;subst hu;rfl,ak⟩
section
open Go.MapKept
section
variable {P:Program} {ops:Array Oper} {Q:Exit->Act->World->Prop} {md:Region.Mode}
theorem UN {L:Array Bool} {i:Nat} (h:L.getD i true=false):∃ hi:i<L.toList.length,L.toList[i]=false:=by
 rcases gB i L.size with h1|h1
 ·refine ⟨by simpa using h1,?_⟩
  simp only [NS,s4 h1,Option.getD_some] at h
  simpa using h
 ·simp [vr h1] at h
theorem Mh (I:Array Bool->Act->World->Prop) (B6:∀ L a w,I L a w->Region.ready md ops L = []->Q .normal a w)
  (hstep:∀ L a w i,I L a w->i∈Region.ready md ops L->wpOp P ops Q i (fun a' w'=>I (L.setIfInBounds i true) a' w') a w) :
  ∀ (fuel:Nat) (L:Array Bool) (a:Act) (w:World),L.toList.count false<=fuel->I L a w->wpAnyH P md ops Q (fun _=>True) fuel L a w
 | 0,L,a,w,hc,h=>by
  have hr:Region.ready md ops L = []:=by
   cases hr:Region.ready md ops L with
   | nil=>rfl
   | cons i r =>
    have hi:i∈Region.ready md ops L:=by rw [hr];simp
    obtain ⟨h1,ah⟩:=UN (mem_ready.1 hi).1;have:0<L.toList.count false:=List.count_pos_iff.2 (by rw [<- ah];exact iO _);omega
  exact ⟨hr,B6 L a w h hr⟩
 | fuel+1,L,a,w,hc,h=>by
  refine ⟨fun hr=>B6 L a w h hr,fun i hi=>wpOp_mono (fun a' w' cI=>⟨trivial,Mh I B6 hstep fuel _ a' w' ?_ cI⟩) (hstep L a w i h hi)⟩;obtain ⟨h1,ah⟩:=UN (mem_ready.1 hi).1;rw [GV,List.count_set h1,ah];have:0<L.toList.count false:=List.count_pos_iff.2 (by rw [<- ah];exact iO _)
  show L.toList.count false-1+0<=fuel
  omega
theorem kH {i:Nat} {oi:Oper} {NT:Act->World->Prop} {a:Act} {w:World} (hi:ops[i]? = some oi) (hw:Region.wanted oi (yielded ops a.tmps)=true)
  (h:∀ K:Act->World->Prop,(∀ a' w',NT a' w'->K a' w')->oi.wp P a w K Q):wpOp P ops Q i NT a w:=by
 unfold wpOp;simp only [hi,hw,ll];exact .inl (h NT fun _ _ h=>h)
end
section
variable {P:Program} {w:World} {t k e:TypeId} {b:Nat} {es:Array MapEntry} {clock:Nat}
def uJ (es:Array MapEntry):Prop:=∀ x∈es.toList,∃ z,x.key=.string z
theorem uJ.isKey (h:uJ es):∀ x∈es.toList,IsKey .string x.key:=fun x hx=>by
 obtain ⟨z,bI⟩:=h x hx;rw [bI];trivial
theorem M5 (h:uJ es) {s:ByteArray} (hn:∀ x∈es.toList,x.key≠.string s):Instr.findNow .string (.string s) es.toList 0=some none:=by
 rcases findNow_spec (d:=.string) (k:=.string s) trivial es.toList 0 h.isKey with ⟨h1,_⟩|⟨j,x,_,ah,aw⟩
 ·exact h1
 ·exact absurd aw (hn x (qB ah))
theorem M4 (h:uJ es) {s:ByteArray} {x:MapEntry} (hx:x∈es.toList) (hk:x.key=.string s) (ph:(es.toList.map (·.key)).Nodup) :
  ∃ j,Instr.findNow .string (.string s) es.toList 0=some (some (j,x.val))/\es.toList[j]? = some x:=by
 rcases findNow_spec (d:=.string) (k:=.string s) trivial es.toList 0 h.isKey with ⟨_,ah⟩|⟨j,y,h1,ah,aw⟩
 ·exact absurd hk (ah x hx)
 ·obtain ⟨i,hi,e⟩:=FB.1 hx
  have aD:=(jv.1 ah).1;have gO:i=j:=by
   have hy:=(jv.1 ah).2;have hp:=tJ.1 ph;have nV:es.toList[i].key=es.toList[j].key:=by rw [e,hy,hk,aw]
   rcases HA i j with cI|cI|cI
   ·exact absurd nV (by have:=hp i j (by simpa using hi) (by simpa using aD) cI;simpa using this)
   ·exact cI
   ·exact absurd nV.symm (by have:=hp j i (by simpa using aD) (by simpa using hi) cI;simpa using this)
  subst gO;have vA:y=x:=by rw [<- e];exact (jv.1 ah).2.symm
  subst vA;exact ⟨i,by simpa using h1,ah⟩
theorem zN (ht:P.underlying t=some (.map k e)) (hk:P.underlying k=some .string) (hb:w.heap[b]? = some (.map es clock)) (h:uJ es) {s:ByteArray} (hn:∀ x∈es.toList,x.key≠.string s) (v:Value) :
  (Instr.mapUpdate t (.map (some b)) (.string s) v).run P w=.ok () { w with heap:=w.heap.setIfInBounds b (.map (es.push ⟨.string s,v,clock⟩) (clock+1)) }:=by
 simp [Instr.mapUpdate,mn ht,wF hb,run_checkKey (k:=.string s) hk trivial,run_findKey hk (M5 h hn),FD _ hb,Result.andThen]
theorem L5 (ht:P.underlying t=some (.map k e)) (hk:P.underlying k=some .string) (hb:w.heap[b]? = some (.map es clock)) (h:uJ es) {s:ByteArray} {x:MapEntry} (hx:x∈es.toList) (hs:x.key=.string s) (ph:(es.toList.map (·.key)).Nodup) (ok:Bool) :
  (Instr.lookup t (.map (some b)) (.string s) ok).run P w=.ok (if ok then .tuple #[x.val,.bool true] else x.val) w:=by
 obtain ⟨j,h1,_⟩:=M4 h hx hs ph
 cases ok <;> simp [Instr.lookup,mn ht,wF hb,run_checkKey (k:=.string s) hk trivial,run_findKey hk h1,Result.andThen]
theorem R6 (ht:P.underlying t=some (.map k e)) (hk:P.underlying k=some .string) (hb:w.heap[b]? = some (.map es clock)) (h:uJ es) {s:ByteArray} (hn:∀ x∈es.toList,x.key≠.string s) {z:Value} (bI:(zeroValue e).run P w=.ok z w) (ok:Bool) :
  (Instr.lookup t (.map (some b)) (.string s) ok).run P w=.ok (if ok then .tuple #[z,.bool false] else z) w:=by
 cases ok <;> simp [Instr.lookup,mn ht,wF hb,run_checkKey (k:=.string s) hk trivial,run_findKey hk (M5 h hn),bI,Result.andThen]
theorem Ta (ht:P.underlying t=some (.map k e)) (hb:w.heap[b]? = some (.map es clock)) (ty:TypeId):(Builtin.len_ #[t] ty #[.map (some b)]).run P w=.ok (.i es.size) w:=by
 simp [Builtin.len_,mn ht,wF hb,Result.andThen,goInt]
theorem H' (w:World) (b:Nat) (o:Obj):w.grownBy { w with heap:=w.heap.setIfInBounds b o } (some b) :=
 ⟨rfl,rfl,rfl,av,fun j _ aD=>by
  have:b≠j:=fun e=>aD (by rw [e])
  simp [this]⟩
end
end
section
variable {P:Program} {ops:Array Oper} {Q:Exit->Act->World->Prop} {S:World->Prop} {md:Region.Mode} {fuel:Nat} {listed:Array Bool} {a:Act} {w:World}
theorem MO (i j xu dj:Nat) {oi oj:Oper} (hi:ops[i]? = some oi) (aD:ops[j]? = some oj) (Lq:oi.dst=some xu) (Lr:oj.dst=some dj) (hr:Region.ready md ops listed = [i,j]) (Ed:Region.wanted oi (yielded ops a.tmps)=true) (Ee:Region.wanted oj (yielded ops a.tmps)=true)
  (h1:∀ K:Act->World->Prop,(∀ v w',S w'->wpAnyH P md ops Q S fuel (listed.setIfInBounds i true) (a.put (some xu) v) w'->K (a.put (some xu) v) w')->Oper.wp P oi a w K Q)
  (ah:∀ K:Act->World->Prop,(∀ v w',S w'->wpAnyH P md ops Q S fuel (listed.setIfInBounds j true) (a.put (some dj) v) w'->K (a.put (some dj) v) w')->Oper.wp P oj a w K Q):wpAnyH P md ops Q S (fuel+1) listed a w :=
 Po i j hi aD hr Ed Ee (by rw [Lq];exact h1) (by rw [Lr];exact ah)
end
theorem afS {α:Type} {l:List α} (h:l.length=2):∃ a b,l = [a,b]:=by
 match l,h with
 | [a,b],_=>exact ⟨a,b,rfl⟩
section
variable {P:Program} {md:Region.Mode} {ops:Array Oper} {Q:Exit->Act->World->Prop} {S:World->Prop} {fuel:Nat} {listed:Array Bool} {a:Act} {w:World}
theorem aiE (w:World) (b o:Nat) (ty:TypeId) (v:Value) (ht:w.there b o 1) (hi:(P.info? ty).map (·.size)=some 1) (h1:v.oneCell'=true) :
  (storeVar ty ⟨b,o,none⟩ v).run P w=.ok () (w.setCells b o [v]):=by
 have:=run_storeCells_cells (P:=P) b o [v] 0 w (fun j aD=>by simpa using (ht j (by simpa using aD)).1) (fun j aD=>by simpa using (ht j (by simpa using aD)).2)
  (fun x hx=>by simp at hx;subst hx;exact h1)
 have hc:v.cells=#[v]:=by cases v <;> first|rfl|cases h1
 cases bd:P.info? ty with
 | none=>simp [bd] at hi
 | some i =>
  have hs:i.size=1:=by simpa [bd] using hi
  simp only [vw] at this
  simp [storeVar,sizeOf,typeInfo,bd,hc,hs,this]
theorem FN {op:Oper} {K:Act->World->Prop} (ty:TypeId) (x y:Operand) (ho:op.op=.store ty x y)
  (b o:Nat) (hx:a.eval x=.pointer (some ⟨b,o,none⟩)) (h1:(a.eval y).oneCell'=true)
  (ht:w.there b o 1) (hi:(P.info? ty).map (·.size)=some 1)
  (h:K (a.put op.dst undef) (w.setCells b o [a.eval y])):op.wp P a w K Q:=by
 unfold Oper.wp execOp;simp only [ho,hx,Instr.storeAt,Instr.sureAddr,kN,nv,pZ,aiE w b o ty _ ht hi h1];exact h
theorem I6 {g off:Nat} {t:TypeId} {cur:Array Value} {v:Value} (hb:ar w g t cur) (hs:off<cur.size) :
  w.there g off 1/\ar (w.setCells g off [v]) g t (cur.setIfInBounds off v)/\w.grownBy (w.setCells g off [v]) (some g)/\(w.setCells g off [v]).heap.size=w.heap.size:=by
 have dt:w.there g off 1:=fun j aD=>⟨by rw [hb.cell,s4 af];rfl,hb.frozen _⟩
 obtain ⟨ah,aw,bn⟩:=rS g t [v] off w cur.toList (by simp;omega) (by simpa using hb);refine ⟨dt,?_,aw,bn⟩;have e:(cur.toList.take off++[v]++cur.toList.drop (off + [v].length)).toArray=cur.setIfInBounds off v:=by
  apply HR.1
  rw [GV];rw [KJ,bB (by simpa using hs)];simp
 rw [e] at ah
 exact ah
theorem kZ {rest:List Oper} {op:Oper} (kq:op.guard=none) (ty:TypeId) (x y:Operand) (ho:op.op=.store ty x y)
  (g off:Nat) (t:TypeId) (cur:Array Value) (v:Value) (hx:a.eval x=.pointer (some ⟨g,off,none⟩)) (hy:a.eval y=v)
  (hb:ar w g t cur) (hs:off<cur.size) (hi:(P.info? ty).map (·.size)=some 1) (h1:v.oneCell'=true)
  (h:∀ w',ar w' g t (cur.setIfInBounds off v)->w.grownBy w' (some g)->w'.heap.size=w.heap.size->wpList P ops Q rest (a.put op.dst undef) w'):wpList P ops Q (op :: rest) a w:=by
 subst hy;obtain ⟨dt,ah,aw,bn⟩:=I6 (v:=a.eval y) hb hs;exact Ap kq fun _ hK=>FN ty x y ho g off hx h1 dt hi (hK _ _ (h _ ah aw bn))
theorem ah1 (i:Nat) {oi:Oper} (hi:ops[i]? = some oi) (hr:Region.ready md ops listed = [i]) (hw:Region.wanted oi (yielded ops a.tmps)=true) (ty:TypeId) (x y:Operand) (ho:oi.op=.store ty x y)
  (g off:Nat) (t:TypeId) (cur:Array Value) (v:Value) (hx:a.eval x=.pointer (some ⟨g,off,none⟩)) (hy:a.eval y=v)
  (hb:ar w g t cur) (hs:off<cur.size) (hn:(P.info? ty).map (·.size)=some 1) (h1:v.oneCell'=true)
  (h:∀ w',ar w' g t (cur.setIfInBounds off v)->w.grownBy w' (some g)->w'.heap.size=w.heap.size->S w'/\wpAnyH P md ops Q S fuel (listed.setIfInBounds i true) (a.put oi.dst undef) w'):wpAnyH P md ops Q S (fuel+1) listed a w:=by
 subst hy;obtain ⟨dt,ah,aw,bn⟩:=I6 (v:=a.eval y) hb hs;obtain ⟨s1,s2⟩:=h _ ah aw bn;exact iC i hi hr hw fun K hK=>FN ty x y ho g off hx h1 dt hn (hK undef _ s1 s2)
end
section
variable {P:Program} {ops:Array Oper} {Q:Exit->Act->World->Prop} {S:World->Prop} {md:Region.Mode}
def waits (md:Region.Mode) (ops:Array Oper) (i:Nat):Nat->Nat->Bool
 | 0,_=>false
 | n+1,j=>match ops[j]? with
  | some o=>o.after.any fun e=>Region.binds md e&&(e.on==i||waits md ops i n e.on)
  | none=>false
def DL (md:Region.Mode) (ops:Array Oper) (listed:Array Bool):Prop:=∀ k o,ops[k]? = some o->listed.getD k false=true->∀ e∈o.after,Region.binds md e=true->listed.getD e.on false=true
def Ng (md:Region.Mode) (ops:Array Oper) (listed:Array Bool):Bool:=(List.range ops.size).all fun k=>!listed.getD k false||((ops[k]?).map (·.after.all fun e=>!Region.binds md e||listed.getD e.on false)).getD true
theorem aeW {listed:Array Bool} (h:Ng md ops listed=true):DL md ops listed:=fun k o ho hl e he hb=>by
 unfold Ng at h
 rw [List.all_eq_true] at h
 have hk:=h k (List.mem_range.2 (Array.getElem?_eq_some_iff.1 ho).1);rw [hl,ho] at hk
 simp only [Bool.not_true,Bool.false_or,Option.map_some,Option.getD_some] at hk
 rw [<- Array.all_toList,List.all_eq_true] at hk
 have:=hk e (Array.mem_toList_iff.2 he);rw [hb] at this
 simpa using this
theorem DL.set {listed:Array Bool} (h:DL md ops listed) {j:Nat} (aD:j∈Region.ready md ops listed):DL md ops (listed.setIfInBounds j true):=fun k o ho hl e he hb=>by
 by_cases TT:j=k
 ·subst TT
  obtain ⟨_,o',j6,fX⟩:=mem_ready.1 aD;rw [ho] at j6
  injection j6 with j6
  subst j6;exact getD_set_true (fX e he hb)
 ·rw [getD_set_ne false TT] at hl
  exact getD_set_true (h k o ho hl e he hb)
theorem Nh {listed:Array Bool} (h:DL md ops listed) {i:Nat}:∀ (n j:Nat),waits md ops i n j=true->(listed.getD j false=true\/∃ o,ops[j]? = some o/\∀ e∈o.after,Region.binds md e=true->listed.getD e.on false=true)->listed.getD i false=true
 | 0,_,hw,_=>by cases hw
 | n+1,j,hw,hr=>by
  unfold waits at hw
  cases ho:ops[j]? with
  | none=>rw [ho] at hw;cases hw
  | some o =>
   rw [ho] at hw
   simp only at hw
   rw [<- Array.any_toList,List.any_eq_true] at hw
   obtain ⟨e,he,hw⟩:=hw;rw [Array.mem_toList_iff] at he
   rw [Bool.and_eq_true,Bool.or_eq_true] at hw
   obtain ⟨hb,hw⟩:=hw;have hl:listed.getD e.on false=true:=by
    rcases hr with hr|⟨o',j6,fX⟩
    ·exact h j o ho hr e he hb
    ·rw [ho] at j6;injection j6 with j6;subst j6;exact fX e he hb
   rcases hw with hw|hw
   ·have:e.on=i:=by simpa using hw
    rw [<- this];exact hl
   ·exact Nh h n e.on hw (.inl hl)
def kR (P:Program) (md:Region.Mode) (ops:Array Oper) (Q:Exit->Act->World->Prop) (S:World->Prop) (last:Nat):Nat->Array Bool->Act->World->Prop
 | 0,listed,a,w=>Region.ready md ops listed = []/\Q .normal a w
 | fuel+1,listed,a,w =>
  (Region.ready md ops listed = []->Q .normal a w) /\
  ∀ i∈Region.ready md ops listed,wpOp P ops Q i (fun a' w'=>((listed.setIfInBounds i true).getD last false=false->S w')/\kR P md ops Q S last fuel (listed.setIfInBounds i true) a' w') a w
theorem TU {last:Nat}:∀ (fuel:Nat) (listed:Array Bool) (a:Act) (w:World),kR P md ops Q S last fuel listed a w->wpAny P md ops Q fuel listed a w
 | 0,_,_,_,h=>h
 | fuel+1,_,_,_,h=>⟨h.1,fun i hi=>wpOp_mono (fun a' w' cI=>TU fuel _ a' w' cI.2) (h.2 i hi)⟩
theorem aeX {last n i:Nat} {oi:Oper} {v:Value} (hi:ops[i]? = some oi) (FI:∀ (j:Nat) (o:Oper) cs b,ops[j]? = some o->o.op≠.select cs b)
  (pu:∀ c a w,Q (.panic c) (a.put oi.dst v) w->Q (.panic c) a w) (fC:i≠last) (TV:waits md ops i n last=true) :
  ∀ (fuel:Nat) (listed:Array Bool) (a:Act) (w:World),
   (∀ j oj,ops[j]? = some oj->j≠i->listed.getD j true=false->(∀ e∈oj.after,Region.binds md e=true->e.on≠i)->oi.apart ops oj=true)->DL md ops listed->listed.size=ops.size ->
   i∈Region.ready md ops listed->YieldsIf P ops S oi v a->S w ->
   kR P md ops Q S last fuel (listed.setIfInBounds i true) (a.put oi.dst v) w->kR P md ops Q S last (fuel+1) listed a w:=by
 intro fuel
 induction fuel with
 | zero =>
  intro listed a w _ _ _ hr hy hS H;refine ⟨fun h=>(by rw [h] at hr;cases hr),fun j aD=>?_⟩
  by_cases nt:j=i
  ·subst nt;exact hy.wpOp hi hS ⟨fun _=>hS,H⟩
  ·have:=ready_mono aD nt
   rw [H.1] at this
   cases this
 | succ fuel b6 =>
  intro listed a w FJ bZ cH hr hy hS H;refine ⟨fun h=>(by rw [h] at hr;cases hr),fun j aD=>?_⟩
  by_cases nt:j=i
  ·subst nt;exact hy.wpOp hi hS ⟨fun _=>hS,H⟩
  ·have h1:=H.2 j (ready_mono aD nt)
   obtain ⟨FK,oj,qs,fX⟩:=mem_ready.1 aD;have Fk:∀ e∈oj.after,Region.binds md e=true->e.on≠i:=fun e he hb Ni=>by
    have h1:=fX e he hb;have aI:=(mem_ready.1 hr).1;rw [Ni] at h1
    rcases Nat.lt_or_ge i listed.size with cI|cI
    ·simp [cI] at aI h1;rw [aI] at h1;cases h1
    ·simp [Array.getElem?_eq_none cI] at h1
   have vH:j≠last:=fun e=>by
    subst e;have hl:=Nh bZ n j TV (.inr ⟨oj,qs,fX⟩);have aI:=(mem_ready.1 hr).1;have aT:i<listed.size:=by rw [cH];exact (Array.getElem?_eq_some_iff.1 hi).1
    simp [aT] at hl aI
    rw [hl] at aI
    cases aI
   have TW:((listed.setIfInBounds i true).setIfInBounds j true).getD last false=false:=by
    rw [getD_set_ne false vH,getD_set_ne false fC]
    cases xL:listed.getD last false with
    | false=>rfl
    | true =>
     have hl:=Nh bZ n last TV (.inl xL);have aI:=(mem_ready.1 hr).1;have aT:i<listed.size:=by rw [cH];exact (Array.getElem?_eq_some_iff.1 hi).1
     simp [aT] at hl aI
     rw [hl] at aI
     cases aI
   have ah:=wpOp_putIf qs (FJ j oj qs nt FK Fk) (fun cs b=>FI i oi cs b hi) (fun cs b=>FI j oj cs b qs) pu hy h1;have Nj:∀ k ok,ops[k]? = some ok->k≠i->(listed.setIfInBounds j true).getD k true=false ->
     (∀ e∈ok.after,Region.binds md e=true->e.on≠i)->oi.apart ops ok=true:=fun k ok hk kA FL h0=>by
    refine FJ k ok hk kA ?_ h0
    by_cases B1:j=k
    ·subst B1;exact FK
    ·rw [getD_set_ne true B1] at FL;exact FL
   refine wpOp_mono (fun a' w' aw=>⟨fun _=>aw.2.1 TW,b6 (listed.setIfInBounds j true) a' w' Nj (bZ.set aD) (by rw [Array.size_setIfInBounds];exact cH) (ready_mono hr (Ne.symm nt)) aw.1 (aw.2.1 TW) ?_⟩) ah;rw [Array.setIfInBounds_comm _ _ nt];exact aw.2.2
theorem aeY {last i:Nat} {oi:Oper} {v:Value} (hi:ops[i]? = some oi) (FI:∀ (j:Nat) (o:Oper) cs b,ops[j]? = some o->o.op≠.select cs b)
  (pu:∀ c a w,Q (.panic c) (a.put oi.dst v) w->Q (.panic c) a w) (fC:i≠last) :
  ∀ (fuel:Nat) (listed:Array Bool) (a:Act) (w:World),
   (∀ j oj,ops[j]? = some oj->j≠i->listed.getD j true=false->(∀ e∈oj.after,Region.binds md e=true->e.on≠i)->oi.apart ops oj=true) ->
   i∈Region.ready md ops listed->YieldsIf P ops (fun _=>True) oi v a->(listed.getD last false=false->S w) ->
   kR P md ops Q S last fuel (listed.setIfInBounds i true) (a.put oi.dst v) w->kR P md ops Q S last (fuel+1) listed a w:=by
 intro fuel
 induction fuel with
 | zero =>
  intro listed a w _ hr hy hS H;refine ⟨fun h=>(by rw [h] at hr;cases hr),fun j aD=>?_⟩
  by_cases nt:j=i
  ·subst nt;exact hy.wpOp hi trivial ⟨fun h=>hS (by rwa [getD_set_ne false fC] at h),H⟩
  ·have:=ready_mono aD nt
   rw [H.1] at this
   cases this
 | succ fuel b6 =>
  intro listed a w FJ hr hy hS H;refine ⟨fun h=>(by rw [h] at hr;cases hr),fun j aD=>?_⟩
  by_cases nt:j=i
  ·subst nt;exact hy.wpOp hi trivial ⟨fun h=>hS (by rwa [getD_set_ne false fC] at h),H⟩
  ·have h1:=H.2 j (ready_mono aD nt)
   obtain ⟨FK,oj,qs,fX⟩:=mem_ready.1 aD;have Fk:∀ e∈oj.after,Region.binds md e=true->e.on≠i:=fun e he hb Ni=>by
    have h1:=fX e he hb;have aI:=(mem_ready.1 hr).1;rw [Ni] at h1
    rcases Nat.lt_or_ge i listed.size with cI|cI
    ·simp [cI] at aI h1;rw [aI] at h1;cases h1
    ·simp [Array.getElem?_eq_none cI] at h1
   have ah:=wpOp_putIf qs (FJ j oj qs nt FK Fk) (fun cs b=>FI i oi cs b hi) (fun cs b=>FI j oj cs b qs) pu hy h1;have Nj:∀ k ok,ops[k]? = some ok->k≠i->(listed.setIfInBounds j true).getD k true=false ->
     (∀ e∈ok.after,Region.binds md e=true->e.on≠i)->oi.apart ops ok=true:=fun k ok hk kA FL h0=>by
    refine FJ k ok hk kA ?_ h0
    by_cases B1:j=k
    ·subst B1;exact FK
    ·rw [getD_set_ne true B1] at FL;exact FL
   have TX:((listed.setIfInBounds i true).setIfInBounds j true).getD last false=(listed.setIfInBounds j true).getD last false:=by
    rw [Array.setIfInBounds_comm _ _ (Ne.symm nt),getD_set_ne false fC]
   refine wpOp_mono (fun a' w' aw=>⟨fun h=>aw.2.1 (TX.trans h),b6 (listed.setIfInBounds j true) a' w' Nj (ready_mono hr (Ne.symm nt)) aw.1 (fun h=>aw.2.1 (TX.trans h)) ?_⟩) ah;rw [Array.setIfInBounds_comm _ _ nt];exact aw.2.2
variable {fuel last:Nat} {listed:Array Bool} {a:Act} {w:World}
theorem nH (last:Nat) {id:Nat} (hm:P.follows .mixedOrders=true) (hS:S w.drew)
  (h:S w.drew->kR P .any ops Q S last ops.size (Array.replicate ops.size false) a w.drew):(Code.region id ops true).wp P Q a w :=
 wp_region_any hm (TU _ _ _ _ (h hS))
def Kv (md:Region.Mode) (ops:Array Oper) (listed:Array Bool) (i last:Nat):Bool:=(i != last)&&waits md ops i ops.size last&&Ng md ops listed&&(listed.size==ops.size)
theorem Xx (i d:Nat) (v:Value) {oi:Oper} (hi:ops[i]? = some oi) (hd:oi.dst=some d) (hs:Region.noSelect ops=true) (hf:Region.free md ops listed i=true) (hr:(Region.ready md ops listed).contains i=true)
  (pu:∀ c a w,Q (.panic c) (a.put (some d) v) w->Q (.panic c) a w) (hw:Region.wanted oi (yielded ops a.tmps)=true) (ea:Kv md ops listed i last=true) (hv:∀ w,S w->(execOp a.eval oi).run P w=.ok (.value v) w) (hS:S w)
  (h:kR P md ops Q S last fuel (listed.setIfInBounds i true) (a.put (some d) v) w):kR P md ops Q S last (fuel+1) listed a w:=by
 unfold Kv at ea
 simp only [Bool.and_eq_true,bne_iff_ne,beq_iff_eq] at ea
 obtain ⟨⟨⟨h1,ah⟩,aw⟩,bn⟩:=ea;exact aeX hi (Region.noSelect_spec hs) (by rw [hd];exact pu) h1 ah fuel listed a w (Region.free_spec hi hf) (aeW aw) bn (by simpa using hr) (Or.inl ⟨hw,hv⟩) hS (by rw [hd];exact h)
theorem I5 (i d:Nat) (v:Value) {oi:Oper} (hi:ops[i]? = some oi) (hd:oi.dst=some d) (hs:Region.noSelect ops=true) (hf:Region.free md ops listed i=true) (hr:(Region.ready md ops listed).contains i=true)
  (pu:∀ c a w,Q (.panic c) (a.put (some d) v) w->Q (.panic c) a w) (hw:Region.wanted oi (yielded ops a.tmps)=true) (ea:(i==last)=false) (hv:∀ w,(execOp a.eval oi).run P w=.ok (.value v) w) (hS:S w)
  (h:kR P md ops Q S last fuel (listed.setIfInBounds i true) (a.put (some d) v) w):kR P md ops Q S last (fuel+1) listed a w :=
 aeY hi (Region.noSelect_spec hs) (by rw [hd];exact pu) (by simpa using ea) fuel listed a w (Region.free_spec hi hf) (by simpa using hr) (Or.inl ⟨hw,fun w _=>hv w⟩) (fun _=>hS) (by rw [hd];exact h)
theorem aeZ (i:Nat) {oi:Oper} (hi:ops[i]? = some oi) (hr:Region.ready md ops listed = [i]) (hw:Region.wanted oi (yielded ops a.tmps)=true)
  (h:∀ K:Act->World->Prop,(∀ v w',S w'->kR P md ops Q S last fuel (listed.setIfInBounds i true) (a.put oi.dst v) w'->K (a.put oi.dst v) w')->Oper.wp P oi a w K Q):kR P md ops Q S last (fuel+1) listed a w:=by
 refine ⟨fun aI=>(by rw [hr] at aI;cases aI),fun j aD=>?_⟩;rw [hr] at aD
 obtain rfl:j=i:=by simpa using aD
 refine wpOp_step hi fun oc hK=>?_
 rw [if_pos hw];exact h oc fun v w' hS bQ=>hK _ _ ⟨fun _=>hS,bQ⟩
theorem nI (i d:Nat) {oi:Oper} (hi:ops[i]? = some oi) (hd:oi.dst=some d) (hr:Region.ready md ops listed = [i]) (hw:Region.wanted oi (yielded ops a.tmps)=true)
  (h:∀ K:Act->World->Prop,(∀ v w',S w'->kR P md ops Q S last fuel (listed.setIfInBounds i true) (a.put (some d) v) w'->K (a.put oi.dst v) w')->Oper.wp P oi a w K Q):kR P md ops Q S last (fuel+1) listed a w :=
 aeZ i hi hr hw (by rw [hd] at h ⊢;exact h)
theorem Nk (i:Nat) {oi:Oper} (hi:ops[i]? = some oi) (hr:Region.ready md ops listed = [i]) (hw:Region.wanted oi (yielded ops a.tmps)=true) (hl:(i==last)=true) (hd:Region.ready md ops (listed.setIfInBounds i true) = [])
  (h:∀ K:Act->World->Prop,(∀ v w',Q .normal (a.put oi.dst v) w'->K (a.put oi.dst v) w')->Oper.wp P oi a w K Q):kR P md ops Q S last (fuel+1) listed a w:=by
 refine ⟨fun aI=>(by rw [hr] at aI;cases aI),fun j aD=>?_⟩;rw [hr] at aD
 obtain rfl:j=i:=by simpa using aD
 refine wpOp_step hi fun oc hK=>?_
 rw [if_pos hw];obtain rfl:j=last:=by simpa using hl
 have aT:j<listed.size\/listed.size<=j:=Nat.lt_or_ge _ _;refine h oc fun v w' bQ=>hK _ _ ⟨fun bW=>?_,?_⟩
 ·exfalso
  have aI:=(mem_ready.1 (hr ▸ (by simp):j∈Region.ready md ops listed)).1
  rcases aT with cI|cI
  ·simp [cI] at bW
  ·simp [Array.getElem?_eq_none cI] at aI
 cases fuel with
 | zero=>exact ⟨hd,bQ⟩
 | succ f=>exact ⟨fun _=>bQ,by rw [hd];simp⟩
theorem FM (i:Nat) {oi:Oper} (hi:ops[i]? = some oi) (hr:Region.ready md ops listed = [i]) (hw:Region.wanted oi (yielded ops a.tmps)=true) (hl:(i==last)=true) (hd:Region.ready md ops (listed.setIfInBounds i true) = []) (ty:TypeId) (x y:Operand) (ho:oi.op=.store ty x y)
  (g off:Nat) (t:TypeId) (cur:Array Value) (v:Value) (hx:a.eval x=.pointer (some ⟨g,off,none⟩)) (hy:a.eval y=v)
  (hb:ar w g t cur) (hs:off<cur.size) (hn:(P.info? ty).map (·.size)=some 1) (h1:v.oneCell'=true)
  (h:∀ w',ar w' g t (cur.setIfInBounds off v)->w.grownBy w' (some g)->w'.heap.size=w.heap.size->Q .normal (a.put oi.dst undef) w'):kR P md ops Q S last (fuel+1) listed a w:=by
 subst hy;obtain ⟨dt,ah,aw,bn⟩:=I6 (v:=a.eval y) hb hs;exact Nk i hi hr hw hl hd fun K hK=>FN ty x y ho g off hx h1 dt hn (hK undef _ (h _ ah aw bn))
theorem ue (i:Nat) {oi:Oper} (hi:ops[i]? = some oi) (hr:Region.ready md ops listed = [i]) (hw:Region.wanted oi (yielded ops a.tmps)=true) (hl:(i==last)=true) (hd:Region.ready md ops (listed.setIfInBounds i true) = []) (ty:TypeId) (x y:Operand) (ho:oi.op=.store ty x y)
  (g off:Nat) (t:TypeId) (cur cells:Array Value) (hx:a.eval x=.pointer (some ⟨g,off,none⟩)) (hy:a.eval y=.agg cells)
  (hb:ar w g t cur) (hs:off+cells.size<=cur.size) (hn:(P.info? ty).map (·.size)=some cells.size) (h1:cells.all (·.oneCell')=true)
  (h:∀ w',ar w' g t (cur.toList.take off++cells.toList++cur.toList.drop (off+cells.size)).toArray->w.grownBy w' (some g)->w'.heap.size=w.heap.size->Q .normal (a.put oi.dst undef) w'):kR P md ops Q S last (fuel+1) listed a w:=by
 have dt:w.there g off cells.size:=fun j aD=>⟨by rw [hb.cell,Array.getElem?_eq_getElem (by omega)];rfl,hb.frozen _⟩
 obtain ⟨ah,aw,bn⟩:=rS g t cells.toList off w cur.toList (by simp;omega) (by simpa using hb);rw [Array.length_toList] at ah
 exact Nk i hi hr hw hl hd fun K hK=>wp_store_mid ty x y ho g off cells hx hy dt hn h1 (hK undef _ (h _ ah aw bn))
end

section
variable {P:Program} {md:Region.Mode} {ops:Array Oper} {Q:Exit->Act->World->Prop} {S:World->Prop} {fuel:Nat} {listed:Array Bool} {a:Act} {w:World}
end
end Go.Proofs.YtmmchlfoplcnbaaGreatDoor
