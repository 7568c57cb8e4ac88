/- Bytes and texts: conversions; the reference's Same. -/
import Derived.Test.YtkpcinkpdonihaaDoorWord
import Derived.Laws.BytesArg
import Derived.Lib.ConvBytes
namespace Go.Proofs.YtkpcinkpdonihaaDoor
open Go.RowKit

def str (l : List UInt8) : ByteArray := ⟨l.toArray⟩
theorem str_list (l : List UInt8) : (str l).data.toList = l := rfl
theorem str_size (l : List UInt8) : (str l).size = l.length := rfl

section
variable {P : Program} {t e d : TypeId}
/-- a slice of bytes as a string -/
theorem run_str (w : World) (ht : P.underlying t = some (.slice e)) (he : P.underlying e = some (.int .u8)) (hd : P.underlying d = some .string) (A : Option Addr) (l : List UInt8) (c : Nat) (hr : Rds w encB A l) :
    (convert t d (.slice A l.length c)).run P w = .ok (.string (str l)) w := by
  rcases A with _ | ad
  · have : l = [] := by
      rcases l with _ | ⟨a, l⟩
      · rfl
      · obtain ⟨b, off, h, _⟩ := hr (by simp); cases h
    subst this
    exact run_convert_bytes_nil w t e ht he _ _ d hd
  · have hl : (loadCells ad l.length).run P w = .ok ((l.map fun b => (b.toNat : Int)).map (Value.int .u8)).toArray w := by
      have := run_loadCells_list (P := P) w ad ((l.map fun b => (b.toNat : Int)).map (Value.int .u8)) (fun j v hj => by
        have hj' : (encB.all l)[j]? = some v := by rw [encB_all]; simpa using hj
        have hne : l ≠ [] := by rintro rfl; simp at hj
        obtain ⟨b, off, h, _, hc⟩ := hr hne
        injection h with h; subst h
        rw [add_mk]
        exact hc j v hj')
      simpa using this
    rw [run_convert_bytes_string w t d e _ _ c ht he hd, run_bytesToString w _ _ c _ hl, foldl_push_bytes]
    congr 2
    show (⟨#[] ++ _⟩ : ByteArray) = _
    unfold str
    congr 1
    apply Array.ext'
    simp
    apply List.ext_getElem?
    intro i
    simp
    cases l[i]? <;> simp
end

theorem underlyingB : Tryd.prog.underlying 5 = some (.int .u8) := Tryd.underlying5

theorem run_strB (w : World) (A : Option Addr) (l : List UInt8) (c : Nat) (hr : Rds w encB A l) : (convert 22 9 (.slice A l.length c)).run Tryd.prog w = .ok (.string (str l)) w :=
  run_str w Tryd.underlying22 Tryd.underlying5 Tryd.underlying9 A l c hr

theorem str_beq (l m : List UInt8) : ((str l).toList == (str m).toList) = (l == m) := by
  rw [Bool.eq_iff_iff]; simp [ByteArray.toList_eq, str_list]

theorem same_any (A1 A2 : Option Addr) (l m : List UInt8) (c1 c2 : Nat) (w : World) (h1 : Rds w encB A1 l) (h2 : Rds w encB A2 m) :
    Calls Tryd.prog 7 #[.slice A1 l.length c1, .slice A2 m.length c2] w fun e w' => e = .returned (.bool (l == m)) ∧ w = w' := by
  have r1 := run_strB w A1 l c1 h1
  have r2 := run_strB w A2 m c2 h2
  rw [← str_beq]
  generalize str l = x at *
  generalize str m = y at *
  clear h1 h2
  go_enter Tryd.func7, Tryd.ntmps7
  go_wp2
  go_ret
  exact ⟨rfl, rfl⟩

/-- a string as a slice of bytes -/
theorem conv_bytes (w : World) (s : ByteArray) : ∃ c w', (convert 9 22 (.string s)).run Tryd.prog w = .ok (.slice (some ⟨w.heap.size, 0, none⟩) s.size c) w' ∧ Rdf w' w.heap.size encB (some ⟨w.heap.size, 0, none⟩) s.data.toList ∧ Below w.heap.size w w' := by
  refine ⟨_, _, Lib.run_convert_string_bytes w _ _ _ s Tryd.underlying9 Tryd.underlying22 Tryd.underlying5, ?_, ?_⟩
  · intro _
    refine ⟨w.heap.size, 0, rfl, Nat.le_refl _, by rw [Lib.bytesWorld_size]; omega, fun j u hu => ?_⟩
    rw [encB_all] at hu
    simp at hu
    obtain ⟨b, hb, rfl⟩ := hu
    have hj : j < s.size := by
      rcases Nat.lt_or_ge j s.size with h | h
      · exact h
      · rw [Array.getElem?_eq_none h] at hb; cases hb
    rw [Nat.zero_add, Lib.bytesWorld_cell w _ s j hj]
    simp [List.getD, hb]
  · exact ⟨rfl, rfl, rfl, by rw [Lib.bytesWorld_size]; omega, fun k hk => Lib.bytesWorld_at_old w _ s k hk⟩

theorem wp_conv {w : World} {o : Oper} {a : Act} {K : Act → World → Prop} {Q : Exit → Act → World → Prop} (x : Operand) (ho : o.op = .convert 9 22 x) (s : ByteArray) (hx : a.eval x = .string s)
    (h : ∀ c w', Rdf w' w.heap.size encB (some ⟨w.heap.size, 0, none⟩) s.data.toList → Below w.heap.size w w' → K (a.put o.dst (.slice (some ⟨w.heap.size, 0, none⟩) s.size c)) w') : o.wp Tryd.prog a w K Q := by
  obtain ⟨c, w', hr, h1, h2⟩ := conv_bytes w s
  unfold Oper.wp execOp
  simp only [ho, hx, Sem.run_bind, Result.andThen_ok, hr]
  exact h c w' h1 h2
theorem wl_conv {w : World} {ops : Array Oper} {rest : List Oper} {o : Oper} {a : Act} {Q : Exit → Act → World → Prop} (hgd : o.guard = none) (x : Operand) (ho : o.op = .convert 9 22 x) (s : ByteArray) (hx : a.eval x = .string s)
    (h : ∀ c w', Rdf w' w.heap.size encB (some ⟨w.heap.size, 0, none⟩) s.data.toList → Below w.heap.size w w' → wpList Tryd.prog ops Q rest (a.put o.dst (.slice (some ⟨w.heap.size, 0, none⟩) s.size c)) w') : wpList Tryd.prog ops Q (o :: rest) a w :=
  wpList_plain hgd fun _ hK => wp_conv x ho s hx fun c w' h1 h2 => hK _ _ (h c w' h1 h2)
theorem step_conv {w : World} {ops : Array Oper} {o : Oper} {a : Act} {K : Act → World → Prop} {Q : Exit → Act → World → Prop} {X : Prop} (hgd : o.guard = none) (x : Operand) (ho : o.op = .convert 9 22 x) (s : ByteArray) (hx : a.eval x = .string s)
    (h : ∀ c w', Rdf w' w.heap.size encB (some ⟨w.heap.size, 0, none⟩) s.data.toList → Below w.heap.size w w' → K (a.put o.dst (.slice (some ⟨w.heap.size, 0, none⟩) s.size c)) w') : if Region.wanted o (yielded ops a.tmps) = true then Oper.wp Tryd.prog o a w K Q else X := by
  have hw : Region.wanted o (yielded ops a.tmps) = true := by simp [Region.wanted, hgd]
  rw [if_pos hw]
  exact wp_conv x ho s hx h
end Go.Proofs.YtkpcinkpdonihaaDoor
