/- copy, clear and append-of-make over a row that is known whole, at elements of any size; splices of lists. -/
import Derived.Test.YtfaklhdafpbkmaaOwnSet
import Derived.Laws.IdiomCopy
import Derived.Lib.AppendZerosOnto
import Derived.Deep.RegionLaw
import Derived.Shelf.RegionOpenPlain
namespace Go.Proofs.Ytfaklhdafpbkmaa
open Go.RowKit

section
variable {V : Type}
theorem two_up (cur xs ds : List V) (p : Nat) (h : p + xs.length + ds.length ≤ cur.length) :
    ((cur.take p ++ xs ++ cur.drop (p + xs.length)).take (p + xs.length) ++ ds ++ (cur.take p ++ xs ++ cur.drop (p + xs.length)).drop (p + xs.length + ds.length)).take (p + xs.length + ds.length) = cur.take p ++ xs ++ ds := by
  have e1 : (cur.take p ++ xs ++ cur.drop (p + xs.length)).take (p + xs.length) = cur.take p ++ xs := List.take_left' (by rw [List.length_append, List.length_take]; omega)
  rw [e1]
  exact List.take_left' (by rw [List.length_append, List.length_append, List.length_take]; omega)
theorem two_down (cur xs ds : List V) (p : Nat) (h : p + xs.length + ds.length ≤ cur.length) :
    ((cur.take (p + xs.length) ++ ds ++ cur.drop (p + xs.length + ds.length)).take p ++ xs ++ (cur.take (p + xs.length) ++ ds ++ cur.drop (p + xs.length + ds.length)).drop (p + xs.length)).take (p + xs.length + ds.length) = cur.take p ++ xs ++ ds := by
  have e1 : (cur.take (p + xs.length) ++ ds ++ cur.drop (p + xs.length + ds.length)).take p = cur.take p := by
    rw [List.append_assoc, List.take_append_of_le_length (by rw [List.length_take]; omega), List.take_take, Nat.min_eq_left (by omega)]
  have e2 : (cur.take (p + xs.length) ++ ds ++ cur.drop (p + xs.length + ds.length)).drop (p + xs.length) = ds ++ cur.drop (p + xs.length + ds.length) := by
    rw [List.append_assoc]; exact List.drop_left' (by rw [List.length_take]; omega)
  rw [e1, e2, ← List.append_assoc]
  exact List.take_left' (by rw [List.length_append, List.length_append, List.length_take]; omega)
theorem splice_len (cur vs : List V) (o : Nat) (h : o + vs.length ≤ cur.length) : (cur.take o ++ vs ++ cur.drop (o + vs.length)).length = cur.length := by
  rw [List.length_append, List.length_append, List.length_take, List.length_drop]; omega
end

section
variable {P : Program}
theorem run_copyK (w : World) (dT sT ty elem : TypeId) (size b o dLen dCap : Nat) (a : Addr) (sLen sCap n : Nat) (cs : List Value)
    (hu : P.underlying dT = some (.slice elem)) (hs : (P.info? elem).map (·.size) = some size) (hnn : Nat.min sLen dLen = n) (hn : cs.length = n * size)
    (hsrc : ∀ j v, cs[j]? = some v → w.cell? (a.add j) = some v) (hc : ∀ j, j < cs.length → (w.cell? ⟨b, o + j, none⟩).isSome = true) (hf : ∀ j, j < cs.length → w.frozen? ⟨b, o + j, none⟩ = false) (h1 : ∀ v ∈ cs, v.oneCell' = true) :
    (Builtin.copy_ #[dT, sT] ty #[.slice (some ⟨b, o, none⟩) dLen dCap, .slice (some a) sLen sCap]).run P w = .ok (goInt n) (w.setCells b o cs) := by
  have hl := run_loadCells_list (P := P) w a cs hsrc
  have hst := run_storeCells_cells (P := P) b o cs 0 w (by simpa using hc) (by simpa using hf) h1
  cases hq : P.info? elem with
  | none => simp [hq] at hs
  | some i =>
    have hi : i.size = size := by simpa [hq] using hs
    simp [Builtin.copy_, run_underlying hu, Builtin.lenOf, Builtin.firstCells, sizeOf, typeInfo, hq, hi, hnn, ← hn, hl, hst]
/-- copy into a row that is known whole -/
theorem copy_blk (w : World) (dT sT ty elem t : TypeId) (size g o dLen dCap : Nat) (a : Addr) (sLen sCap n : Nat) (cur cs : List Value) (hb : Blk w g t cur.toArray) (hfit : o + cs.length ≤ cur.length)
    (hu : P.underlying dT = some (.slice elem)) (hs : (P.info? elem).map (·.size) = some size) (hnn : Nat.min sLen dLen = n) (hn : cs.length = n * size)
    (hsrc : ∀ j v, cs[j]? = some v → w.cell? (a.add j) = some v) (h1 : ∀ v ∈ cs, v.oneCell' = true) :
    ∃ w', (Builtin.copy_ #[dT, sT] ty #[.slice (some ⟨g, o, none⟩) dLen dCap, .slice (some a) sLen sCap]).run P w = .ok (goInt n) w' ∧ Blk w' g t (cur.take o ++ cs ++ cur.drop (o + cs.length)).toArray ∧ w.grownBy w' (some g) ∧ w'.heap.size = w.heap.size := by
  obtain ⟨h2, h3, h4⟩ := setCells_blk g t cs o w cur hfit hb
  refine ⟨_, run_copyK w dT sT ty elem size g o dLen dCap a sLen sCap n cs hu hs hnn hn hsrc (fun j hj => ?_) (fun j _ => hb.frozen _) h1, h2, h3, h4⟩
  rw [hb.cell, List.getElem?_toArray, List.getElem?_eq_getElem (by omega)]; rfl
theorem wl_copy_run {w : World} {ops : Array Oper} {rest : List Oper} {o : Oper} {a : Act} {Q : Exit → Act → World → Prop} (hgd : o.guard = none) (d s : Operand) (t t' : TypeId)
    (ho : o.op = .call { callee := .builtin .copy, args := #[d, s], argTypes := #[t, t'] }) (v u : Value) (hd : a.eval d = v) (hs : a.eval s = u) {v' : Value} {w' : World}
    (hr : (Builtin.copy_ #[t, t'] o.type #[v, u]).run P w = .ok v' w') (h : wpList P ops Q rest (a.put o.dst v') w') : wpList P ops Q (o :: rest) a w :=
  wpList_plain hgd fun K hK => by
    show o.wp P a w K Q
    unfold Oper.wp execOp
    simp only [ho, resolve, invoke, builtin, Sem.run_bind, Sem.run_pure, Result.andThen_ok, List.map_toArray, List.map_cons, List.map_nil, hd, hs, hr]
    exact hK _ _ h
theorem step_copy_run {ops : Array Oper} {o : Oper} {a : Act} {w : World} {K : Act → World → Prop} {Q : Exit → Act → World → Prop} {X : Prop}
    (hg : o.guard = none) (d x : Operand) (dT sT : TypeId) (hop : o.op = Op.call { callee := Callee.builtin Builtin.copy, args := #[d, x], argTypes := #[dT, sT] })
    (v u : Value) (hd : a.eval d = v) (hx : a.eval x = u) {v' : Value} {w' : World} (hr : (Builtin.copy_ #[dT, sT] o.type #[v, u]).run P w = .ok v' w') (hK : K (a.put o.dst v') w') :
    if Region.wanted o (yielded ops a.tmps) = true then Oper.wp P o a w K Q else X := by
  have hw : Region.wanted o (yielded ops a.tmps) = true := by simp [Region.wanted, hg]
  rw [if_pos hw]
  unfold Oper.wp
  simp [execOp, hop, resolve, invoke, builtin, hd, hx, hr, Result.andThen]
  exact hK
theorem step_append_run {ops : Array Oper} {o : Oper} {a : Act} {w : World} {K : Act → World → Prop} {Q : Exit → Act → World → Prop} {X : Prop}
    (hg : o.guard = none) (d x : Operand) (dT sT : TypeId) (hop : o.op = Op.call { callee := Callee.builtin Builtin.append, args := #[d, x], argTypes := #[dT, sT] })
    (v u : Value) (hd : a.eval d = v) (hx : a.eval x = u) {v' : Value} {w' : World} (hr : (Builtin.append_ #[dT, sT] o.type #[v, u]).run P w = .ok v' w') (hK : K (a.put o.dst v') w') :
    if Region.wanted o (yielded ops a.tmps) = true then Oper.wp P o a w K Q else X := by
  have hw : Region.wanted o (yielded ops a.tmps) = true := by simp [Region.wanted, hg]
  rw [if_pos hw]
  unfold Oper.wp
  simp [execOp, hop, resolve, invoke, builtin, hd, hx, hr, Result.andThen]
  exact hK
theorem wl_clear_run {w : World} {ops : Array Oper} {rest : List Oper} {o : Oper} {a : Act} {Q : Exit → Act → World → Prop} (hgd : o.guard = none) (s : Operand) (t : TypeId)
    (ho : o.op = .call { callee := .builtin .clear, args := #[s], argTypes := #[t] }) (v : Value) (hs : a.eval s = v) {v' : Value} {w' : World}
    (hr : (Builtin.clear_ #[t] o.type #[v]).run P w = .ok v' w') (h : wpList P ops Q rest (a.put o.dst v') w') : wpList P ops Q (o :: rest) a w :=
  wpList_plain hgd fun K hK => by
    show o.wp P a w K Q
    unfold Oper.wp execOp
    simp only [ho, resolve, invoke, builtin, Sem.run_bind, Sem.run_pure, Result.andThen_ok, List.map_toArray, List.map_cons, List.map_nil, hs, hr]
    exact hK _ _ h
theorem wl_append_run {w : World} {ops : Array Oper} {rest : List Oper} {o : Oper} {a : Act} {Q : Exit → Act → World → Prop} (hgd : o.guard = none) (s x : Operand) (t t' : TypeId)
    (ho : o.op = .call { callee := .builtin .append, args := #[s, x], argTypes := #[t, t'] }) (v u : Value) (hd : a.eval s = v) (hs : a.eval x = u) {v' : Value} {w' : World}
    (hr : (Builtin.append_ #[t, t'] o.type #[v, u]).run P w = .ok v' w') (h : wpList P ops Q rest (a.put o.dst v') w') : wpList P ops Q (o :: rest) a w :=
  wpList_plain hgd fun K hK => by
    show o.wp P a w K Q
    unfold Oper.wp execOp
    simp only [ho, resolve, invoke, builtin, Sem.run_bind, Sem.run_pure, Result.andThen_ok, List.map_toArray, List.map_cons, List.map_nil, hd, hs, hr]
    exact hK _ _ h
/-- clear of a part of a row that is known whole -/
theorem clear_blk (w : World) (t ty e te : TypeId) (i : TypeInfo) (z : Value) (hu : P.underlying t = some (.slice e)) (hi : P.info? e = some i) (hz : i.zero = some z) (hz1 : ∀ v ∈ z.cells.toList, v.oneCell' = true) (hzs : 0 < z.cells.size)
    (g o n c : Nat) (hn : 0 < n) (cur : List Value) (hb : Blk w g te cur.toArray) (hfit : o + n * z.cells.size ≤ cur.length) :
    ∃ w' zs, (Builtin.clear_ #[t] ty #[.slice (some ⟨g, o, none⟩) n c]).run P w = .ok (.tuple #[]) w' ∧ zs.length = n * z.cells.size ∧ Blk w' g te (cur.take o ++ zs ++ cur.drop (o + n * z.cells.size)).toArray ∧ w.grownBy w' (some g) ∧ w'.heap.size = w.heap.size := by
  have hlen : (Builtin.zeroCells z.cells n).toList.length = n * z.cells.size := by rw [Array.length_toList, size_zeroCells]
  have hone : ∀ v ∈ (Builtin.zeroCells z.cells n).toList, v.oneCell' = true := by
    intro v hv
    obtain ⟨k, hk, rfl⟩ := List.getElem_of_mem hv
    rw [Array.getElem_toList]
    simp only [Builtin.zeroCells, Array.getElem_map, Array.getElem_range]
    refine hz1 _ ?_
    rw [getElem!_pos z.cells _ (Nat.mod_lt _ hzs)]
    simp
  obtain ⟨h2, h3, h4⟩ := setCells_blk g te (Builtin.zeroCells z.cells n).toList o w cur (by rw [hlen]; exact hfit) hb
  have hst := run_storeCells_cells (P := P) g o (Builtin.zeroCells z.cells n).toList 0 w (fun j hj => by
    rw [hlen] at hj
    rw [Nat.add_zero, hb.cell, List.getElem?_toArray, List.getElem?_eq_getElem (by omega)]; rfl) (fun j _ => hb.frozen _) hone
  refine ⟨_, (Builtin.zeroCells z.cells n).toList, ?_, hlen, by rw [← hlen]; exact h2, h3, h4⟩
  cases n with
  | zero => omega
  | succ n =>
    simp only [Nat.add_zero] at hst
    simp [Builtin.clear_, run_underlying hu, zeroValue, typeInfo, hi, hz, hst]
end
end Go.Proofs.Ytfaklhdafpbkmaa
