/- Rows in general: arguments read anew behind a call that left what was there; slices opened; the post of a law that returned true. -/
import Derived.Test.YtkpcinkpdonihaaDoorBase
import Derived.Test.YtkpcinkpdonihaaDoorProg
import Derived.ChangeStays
import Derived.ReadAgain
import Derived.WalkKit
import Derived.ProofKit
import Derived.OpenShut
import Derived.WideShapes
import Derived.ChangeArms
import Derived.ChangeMaps5
import Derived.Deep.DeepHandedRow
import Derived.Deep.DeepWitnessRowRef
namespace Go.Proofs.YtkpcinkpdonihaaDoor
open Go.ChangeShapes Go.WideShapes Go.ChangeAt Go.RowKit

theorem kidsA : Kids Tryd.prog (· < Tryd.prog.types.size) := kids_rows (by kernel_rfl) (by kernel_rfl)
theorem fullA : ∀ {t e : TypeId}, t < Tryd.prog.types.size → Tryd.prog.underlying t = some (.slice e) → 0 < Tryd.prog.cellsOf e := fun {t e} h1 h2 => slices_full_of Tryd.prog (by kernel_rfl) t e h1 h2

/-- a step that began a little later -/
theorem below_from {w w0 w' : World} (h0 : Below w.heap.size w w0) (hb : Below w0.heap.size w0 w') : Below w.heap.size w w' := h0.trans (hb.mono h0.size)
theorem below_draw {w w' : World} (hb : Below w.drew.heap.size w.drew w') : Below w.heap.size w w' := below_from (Below.refl _ _).drew hb
theorem below_drawN {w w' : World} {n : Nat} (hb : Below (w.drewN n).heap.size (w.drewN n) w') : Below w.heap.size w w' := below_from (w0 := w.drewN n) ⟨rfl, rfl, rfl, Nat.le_refl _, fun _ _ => rfl⟩ hb
theorem below_sameAt {W W' : World} (hb : Below W.heap.size W W') {p : MemPlace} (hp : p.block < W.heap.size) : W.sameAt W' p := by
  cases p with
  | cell b off => exact (bcell hb).1 b off hp
  | map b => exact hb.block b hp

section
variable {H : Type} {enc : TypeId × Value → H} {W W' : World}
theorem trodAll_again (hb : Below W.heap.size W W') : ∀ {ts : List TypeId} {vs : List Value} {ds : List (DataW H)} {ps : List MemPlace}, (∀ t ∈ ts, t < Tryd.prog.types.size) →
    DataW.TrodAll enc Tryd.prog W 0 (fun _ => true) true ts vs ds ps → (∀ p ∈ ps, p.block < W.heap.size) → DataW.TrodAll enc Tryd.prog W' 0 (fun b => decide (b < W.heap.size)) true ts vs ds ps
  | [], [], [], _, _, h, _ => h
  | t :: ts, v :: vs, d :: ds, _, hT, ⟨p, q, ⟨n, h1⟩, h2, e⟩, hl =>
    ⟨p, q, ⟨n, DataW.trod_stays kidsA fullA (fun h => by cases h) (hT t (List.mem_cons.2 (Or.inl rfl))) h1 (fun x hx => below_sameAt hb (hl x (by rw [e]; exact List.mem_append_left _ hx))) (fun x hx => decide_eq_true (hl x (by rw [e]; exact List.mem_append_left _ hx)))⟩,
      trodAll_again hb (fun t ht => hT t (List.mem_cons.2 (Or.inr ht))) h2 (fun x hx => hl x (by rw [e]; exact List.mem_append_right _ hx)), e⟩

/-- the post of a law that returned true and left what was there -/
theorem post_true {f : Func} {s : ChangeSpec} {args : Array Value} {ds gs : List (DataW H)} {before : List MemPlace} (hW : DataW.Whole enc Tryd.prog f.params.toList s.vars false W args.toList ds gs before)
    (hv : s.vars = []) (hr : f.resultTypes = #[4]) (hT : ∀ t ∈ f.params.toList, t < Tryd.prog.types.size) (hfn : s.fn H (ds ++ []) = { results := [.lit (.bool true)], args := ds }) (hb : Below W.heap.size W W') :
    s.post enc Tryd.prog f false true false false W args (.bool true) W' := by
  have hlt : ∀ p ∈ before, p.block < W.heap.size := fun p hp => hW.lt p hp
  have hW' := hW
  obtain ⟨p, q, hA, hV, rfl, hfz, hnd⟩ := hW
  rw [hv] at hV
  obtain ⟨rfl, rfl⟩ := trodVars_none hV
  rw [List.append_nil] at hlt
  refine ⟨ds, [], _, [], p, [], hW', ?_, ?_, ?_, hb.frame _, fun h => by cases h⟩
  · rw [hfn, hr]; exact trodAll_mk1 (shut_bool Tryd.underlying4 _)
  · rw [hfn]; exact trodAll_again hb hT hA hlt
  · rw [hfn, hv]; rfl
end

/-! ### a slice opened -/
section
variable {H : Type} {enc : TypeId × Value → H} {P : Program} {w : World} {base : Nat} {spare : Nat → Bool} {held : Bool} {α : Type} {size : Nat}
theorem cell_some_lt {b o : Nat} {s : Option Nat} {v : Value} (h : w.cell? ⟨b, o, s⟩ = some v) : b < w.heap.size := by
  rcases Nat.lt_or_ge b w.heap.size with hlt | hge
  · exact hlt
  · simp [World.cell?, Array.getElem?_eq_none hge] at h
theorem addr_of_cell {a : Addr} {i : Nat} {v : Value} (h : w.cell? (a.add i) = some v) : a.add i = ⟨a.block, a.off + i, none⟩ := by
  unfold Addr.add at h ⊢
  split
  · rename_i h0
    subst h0
    rw [if_pos rfl] at h
    cases a with
    | mk b o s =>
      simp only [World.cell?] at h
      cases s with
      | none => rfl
      | some s =>
        split at h
        · simp at h
        · cases h
  · rfl
theorem open_rds {t e : TypeId} (ht : P.underlying t = some (.slice e)) (E : Enc α size) (hC : P.cellsOf e = size) (Wf : α → Prop)
    (hel : ∀ (fuel : Nat) (cs : List Value) (y : DataW H × List MemPlace), DataW.trod enc P w base spare held fuel e cs = some y → ∃ x, Wf x ∧ cs = E.enc x)
    {fuel : Nat} {cs : List Value} {x : DataW H × List MemPlace} (h : DataW.trod enc P w base spare held fuel t cs = some x) :
    ∃ A l c, cs = [.slice A l.length c] ∧ l.length ≤ c ∧ c ≤ 9223372036854775807 ∧ Rds w E A l ∧ ∀ x ∈ l, Wf x := by
  rcases DataW.trod_slice ht h with ⟨rfl, _⟩ | ⟨a, len, cap, elems, rest, n, _, rfl, _, _, hl, hm, hlen, hel', _⟩
  · exact ⟨none, [], 0, rfl, Nat.le_refl _, by omega, Rds.nil _ _ _, fun _ h => by cases h⟩
  · have each : ∀ i, i < len → ∃ x : α, Wf x ∧ w.cells? base (a.add (i * size)) size = some (E.enc x) := fun i hi => by
      have h1 := hel' i hi
      rw [hC, List.getElem?_eq_getElem (by omega)] at h1
      obtain ⟨cs', hc, ht'⟩ := Option.bind_eq_some_iff.1 h1
      obtain ⟨x, hx, rfl⟩ := hel _ _ _ ht'
      exact ⟨x, hx, hc⟩
    have build : ∀ k, k ≤ len → ∃ l : List α, l.length = k ∧ (∀ x ∈ l, Wf x) ∧ ∀ j u, (E.all l)[j]? = some u → w.cell? ⟨a.block, a.off + j, none⟩ = some u := by
      intro k
      induction k with
      | zero => intro _; exact ⟨[], rfl, (fun _ h => by cases h), (fun j u h => by simp [Enc.all] at h)⟩
      | succ k ih =>
        intro hk
        obtain ⟨l, hl1, hl2, hl3⟩ := ih (by omega)
        obtain ⟨x, hx, hc⟩ := each k (by omega)
        refine ⟨l ++ [x], by simp [hl1], fun y hy => ?_, fun j u hu => ?_⟩
        · rcases List.mem_append.1 hy with hy | hy
          · exact hl2 y hy
          · rw [List.mem_singleton.1 hy]; exact hx
        · rw [E.all_append, E.all_one] at hu
          have hal : (E.all l).length = k * size := by rw [E.all_len, hl1]
          rcases Nat.lt_or_ge j (k * size) with hj | hj
          · rw [List.getElem?_append_left (by omega)] at hu
            exact hl3 j u hu
          · rw [List.getElem?_append_right (by omega), hal] at hu
            obtain ⟨_, hcl, hat⟩ := World.cells?_some hc
            have hjs : j - k * size < size := by
              have := (List.getElem?_eq_some_iff.1 hu).1
              rw [E.len] at this; exact this
            have hcell := (hat _ hjs).trans hu
            have e1 := addr_of_cell hcell
            rw [e1] at hcell
            have h0 := (hat 0 E.pos).trans (List.getElem?_eq_getElem (by rw [E.len]; exact E.pos))
            have e0 : a.add (k * size) = ⟨a.block, a.off + k * size, none⟩ := by
              have h0' : w.cell? ((a.add (k * size)).add 0) = some ((E.enc x)[0]'(by rw [E.len]; exact E.pos)) := h0
              have : (a.add (k * size)).add 0 = a.add (k * size) := by simp [Addr.add]
              rw [this] at h0'
              exact addr_of_cell h0'
            rw [e0] at hcell
            simp only [Nat.add_assoc] at hcell
            rw [show k * size + (j - k * size) = j by omega] at hcell
            exact hcell
    obtain ⟨l, hl1, hl2, hl3⟩ := build len (Nat.le_refl _)
    subst hl1
    refine ⟨some a, l, cap, rfl, hl, by simpa only [maxLen] using hm, fun hn => ?_, hl2⟩
    obtain ⟨x, l', rfl⟩ := List.exists_cons_of_ne_nil hn
    obtain ⟨_, hcl, hat⟩ := World.cells?_some (each 0 (by simp)).choose_spec.2
    have h0 := (hat 0 E.pos).trans (List.getElem?_eq_getElem (by rw [E.len]; exact E.pos))
    have e00 : (a.add (0 * size)).add 0 = a.add 0 := by simp [Addr.add]
    rw [e00] at h0
    have ea := addr_of_cell h0
    have ea' : a = ⟨a.block, a.off, none⟩ := by simpa [Addr.add] using ea
    exact ⟨a.block, a.off, by rw [← ea'], by rw [ea] at h0; exact cell_some_lt h0, hl3⟩

theorem open_rds_val {r : Reach} {b0 : Nat} {t e : TypeId} (ht : P.underlying t = some (.slice e)) (E : Enc α size) (hC : P.cellsOf e = size) (Wf : α → Prop)
    (hel : ∀ (fuel : Nat) (cs : List Value) (y : DataW H × List MemPlace), DataW.trod enc P w base spare held fuel e cs = some y → ∃ x, Wf x ∧ cs = E.enc x)
    {v : Value} {d : DataW H} {ps : List MemPlace} (hval : Value.okWide P w r b0 t v) (hd : DataW.Trod enc P w base spare held t v d ps) :
    ∃ A l c, v = .slice A l.length c ∧ l.length ≤ c ∧ c ≤ 9223372036854775807 ∧ Rds w E A l ∧ ∀ x ∈ l, Wf x := by
  obtain ⟨a, n, cap, rfl⟩ := okWide_slice ht hval
  obtain ⟨fuel, hf⟩ := hd
  obtain ⟨A, l, c, h1, h2⟩ := open_rds ht E hC Wf hel hf
  simp only [Value.cells, List.cons.injEq, and_true] at h1
  exact ⟨A, l, c, h1, h2⟩
end

theorem params_lt {f : Func} (h : (f.params.toList.all fun t => decide (t < Tryd.prog.types.size)) = true) : ∀ t ∈ f.params.toList, t < Tryd.prog.types.size := fun t ht => of_decide_eq_true (List.all_eq_true.1 h t ht)

theorem ownKnobA : ownKnob Tryd.prog.godebug = none := by kernel_rfl
end Go.Proofs.YtkpcinkpdonihaaDoor
