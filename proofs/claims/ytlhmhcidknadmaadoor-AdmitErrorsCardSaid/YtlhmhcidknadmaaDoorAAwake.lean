/- bilgelaw23.awake: the document's own examples come true. -/
import Derived.Test.YtlhmhcidknadmaaDoorADecide
namespace Go.Proofs.YtlhmhcidknadmaaDoor
open Go.RowKit

abbrev fS : Cf := ⟨⟨100, 50, 10⟩, ⟨9, 9, 9⟩, none, [], 0, 1, 0, 1, 0⟩
abbrev pPd (i : ByteArray) : Pd := ⟨i, 0, false, 5, 0, 0, 0, 0, 0, ⟨#[120]⟩, 0⟩
abbrev qPd : Pd := ⟨⟨#[113]⟩, 1, true, 5, 0, 0, 0, 0, 0, ⟨#[120]⟩, 0⟩
abbrev zPd : Pd := ⟨⟨#[]⟩, 0, false, 0, 0, 0, 0, 0, 0, ⟨#[]⟩, 0⟩
abbrev bPd : Pd := ⟨⟨#[98]⟩, 0, false, 0, 0, 0, 0, 0, 0, ⟨#[120]⟩, 0⟩
theorem wfPp : (pPd ⟨#[112]⟩).Wf := by constructor <;> first | exact ⟨by dsimp only; decide, by dsimp only; decide⟩ | (dsimp only; decide)
theorem wfPr : (pPd ⟨#[114]⟩).Wf := by constructor <;> first | exact ⟨by dsimp only; decide, by dsimp only; decide⟩ | (dsimp only; decide)
theorem wfQ : qPd.Wf := by constructor <;> first | exact ⟨by dsimp only; decide, by dsimp only; decide⟩ | (dsimp only; decide)
theorem wfZ : zPd.Wf := by constructor <;> first | exact ⟨by dsimp only; decide, by dsimp only; decide⟩ | (dsimp only; decide)
theorem ver1 : ∀ k s O err, VerD ⟨9, 9, 9⟩ (pPd ⟨#[112]⟩) [] false false false k s O err → k = 1 ∧ s = 0 ∧ O = [] ∧ err = 0 := by
  rintro k s O err (⟨h, _⟩ | ⟨h, h2, rfl, rfl, rfl, rfl⟩ | ⟨h, h2, h3, _⟩ | ⟨h, h2, h3, h4, rfl, rfl, rfl, rfl⟩ | ⟨h, h2, h3, h4, rfl, rfl, bb, ⟨K, hk, hs, hf, h5, h6⟩, rfl⟩)
  · exact absurd h (by decide +kernel)
  · exact absurd h2 (by decide +kernel)
  · exact absurd h3 (by decide +kernel)
  · exact absurd h4 (by decide +kernel)
  · have hb : bb = true := by rw [← hf]; decide +kernel
    subst hb
    obtain ⟨ho, _⟩ := h5 rfl
    have hK : K = [] := List.perm_nil.1 hk
    subst hK
    have hO : O = [] := by simpa [chooseD] using ho
    subst hO
    exact ⟨rfl, rfl, rfl, rfl⟩
theorem ver2 : ∀ k s O err, VerD ⟨9, 9, 9⟩ qPd [⟨pPd ⟨#[112]⟩, 2⟩] true true true k s O err → k = 2 ∧ s = 0 ∧ O = [⟨#[112]⟩] ∧ err = 0 := by
  rintro k s O err (⟨h, _⟩ | ⟨h, h2, rfl, rfl, rfl, rfl⟩ | ⟨h, h2, h3, _⟩ | ⟨h, h2, h3, h4, rfl, rfl, rfl, rfl⟩ | ⟨h, h2, h3, h4, rfl, rfl, bb, ⟨K, hk, hs, hf, h5, h6⟩, rfl⟩)
  · exact absurd h (by decide +kernel)
  · exact absurd h2 (by decide +kernel)
  · exact absurd h3 (by decide +kernel)
  · exact absurd h4 (by decide +kernel)
  · have hb : bb = true := by rw [← hf]; decide +kernel
    subst hb
    obtain ⟨ho, _⟩ := h5 rfl
    have hK : K = [pPd ⟨#[112]⟩] := List.perm_singleton.1 (hk.trans (by rw [show askD qPd (podsD [⟨pPd ⟨#[112]⟩, 2⟩]) = [pPd ⟨#[112]⟩] from by kernel_rfl]))
    subst hK
    rw [show (chooseD ⟨9, 9, 9⟩ (stayD qPd (podsD [⟨pPd ⟨#[112]⟩, 2⟩])) [pPd ⟨#[112]⟩]).2 = [⟨#[112]⟩] from by decide +kernel] at ho
    have hO := List.perm_singleton.1 ho
    subst hO
    exact ⟨rfl, rfl, rfl, rfl⟩
theorem ver3 : ∀ k s O err, VerD ⟨9, 9, 9⟩ (pPd ⟨#[112]⟩) [] true false true k s O err → k = 3 ∧ s = 2 ∧ O = [] ∧ err = 0 := by
  rintro k s O err (⟨h, _⟩ | ⟨h, h2, rfl, rfl, rfl, rfl⟩ | ⟨h, h2, h3, _⟩ | ⟨h, h2, h3, h4, rfl, rfl, rfl, rfl⟩ | ⟨h, h2, h3, h4, rfl, rfl, bb, ⟨K, hk, hs, hf, h5, h6⟩, rfl⟩)
  · exact absurd h (by decide +kernel)
  · exact absurd h2 (by decide +kernel)
  · exact absurd h3 (by decide +kernel)
  · exact ⟨rfl, by decide +kernel, rfl, rfl⟩
  · exact absurd h4 (by decide +kernel)
theorem ver4 : ∀ k s O err, VerD ⟨9, 9, 9⟩ (pPd ⟨#[112]⟩) [⟨pPd ⟨#[112]⟩, 2⟩] false false false k s O err → k = 0 ∧ s = 0 ∧ O = [] ∧ err = 5 := by
  rintro k s O err (⟨h, _⟩ | ⟨h, h2, rfl, rfl, rfl, rfl⟩ | ⟨h, h2, h3, _⟩ | ⟨h, h2, h3, h4, rfl, rfl, rfl, rfl⟩ | ⟨h, h2, h3, h4, rfl, rfl, bb, ⟨K, hk, hs, hf, h5, h6⟩, rfl⟩)
  · exact absurd h (by decide +kernel)
  · exact ⟨rfl, rfl, rfl, rfl⟩
  · exact absurd h2 (by decide +kernel)
  · exact absurd h2 (by decide +kernel)
  · exact absurd h2 (by decide +kernel)
theorem ver5 : ∀ k s O err, VerD ⟨9, 9, 9⟩ zPd [⟨pPd ⟨#[112]⟩, 2⟩] false false false k s O err → k = 0 ∧ s = 0 ∧ O = [] ∧ err = 1 := by
  rintro k s O err (⟨h, hh⟩ | ⟨h, h2, rfl, rfl, rfl, rfl⟩ | ⟨h, h2, h3, _⟩ | ⟨h, h2, h3, h4, rfl, rfl, rfl, rfl⟩ | ⟨h, h2, h3, h4, rfl, rfl, bb, ⟨K, hk, hs, hf, h5, h6⟩, rfl⟩)
  · obtain ⟨rfl, rfl, rfl, rfl⟩ := hh
    exact ⟨rfl, rfl, rfl, rfl⟩
  · exact absurd h (by decide +kernel)
  · exact absurd h (by decide +kernel)
  · exact absurd h (by decide +kernel)
  · exact absurd h (by decide +kernel)
theorem ver6 : ∀ k s O err, VerD ⟨9, 9, 9⟩ (pPd ⟨#[114]⟩) [⟨pPd ⟨#[112]⟩, 2⟩] false false false k s O err → k = 4 ∧ s = 0 ∧ O = [] ∧ err = 0 := by
  rintro k s O err (⟨h, _⟩ | ⟨h, h2, rfl, rfl, rfl, rfl⟩ | ⟨h, h2, h3, _⟩ | ⟨h, h2, h3, h4, rfl, rfl, rfl, rfl⟩ | ⟨h, h2, h3, h4, rfl, rfl, bb, ⟨K, hk, hs, hf, h5, h6⟩, rfl⟩)
  · exact absurd h (by decide +kernel)
  · exact absurd h2 (by decide +kernel)
  · exact absurd h3 (by decide +kernel)
  · exact absurd h4 (by decide +kernel)
  · have hb : bb = false := by rw [← hf]; decide +kernel
    subst hb
    rw [h6 rfl]
    exact ⟨rfl, rfl, rfl, rfl⟩

theorem decideV {f : Cf} {l : List En} {a b c : Bool} {p : Pd} {k0 s0 e0 : Int} {O0 : List ByteArray} (hv : ∀ k s O err, VerD f.room p l a b c k s O err → k = k0 ∧ s = s0 ∧ O = O0 ∧ err = e0) (A : Option Addr) (n : Nat) (w : World) (hr : Rds w encN A l) (hw : ∀ x ∈ l, x.pod.Wf) (hm : l.length ≤ 9223372036854775807) (hp : p.Wf) :
    Calls Tryd.prog 12 #[.agg f.cells, .slice A l.length n, .agg #[.bool a, .bool b, .bool c], .agg p.cells] w fun e w' => ∃ (A : Option Addr) (n : Nat), e = .returned (.tuple #[.agg #[.int .i64 k0, .int .i64 s0, .slice A O0.length n], .int .i64 e0]) ∧ Own w' w.heap.size 9 encS (.slice A O0.length n) O0 ∧ Below w.heap.size w w' := by
  refine (decide_any f l a b c p A n w hr hw hm hp).mono ?_
  rintro e w' ⟨k, s, O, err, A, n, rfl, h, ho, hb⟩
  obtain ⟨rfl, rfl, rfl, rfl⟩ := hv _ _ _ _ h
  exact ⟨A, n, rfl, ho, hb⟩
theorem barredV {a b c : Bool} {p : Pd} {s : Int} {v : Bool} (h : barD a b c p = (s, v)) (w : World) : Calls Tryd.prog 21 #[.agg #[.bool a, .bool b, .bool c], .agg p.cells] w fun e w' => e = .returned (.tuple #[.int .i64 s, .bool v]) ∧ Below w.heap.size w w' :=
  (barred_any a b c p w).mono fun e w' ⟨h1, h2⟩ => ⟨by rw [h1, h], h2⟩
structure AQ (i : ByteArray) (w W : World) : Prop where
  cb : Blk W (w.heap.size) 25 #[.int .i64 100, .int .i64 50, .int .i64 10, .int .i64 9, .int .i64 9, .int .i64 9, .slice none 0 0, .int .i64 1, .int .i64 0, .int .i64 1, .int .i64 0]
  pb : Blk W (w.heap.size + 1) 29 #[.string i, .int .i64 0, .bool false, .int .i64 5, .int .i64 0, .int .i64 0, .int .i64 0, .int .i64 0, .int .i64 0, .string ⟨#[120]⟩, .int .i64 0]
  qb : Blk W (w.heap.size + 1 + 1) 29 #[.string ⟨#[113]⟩, .int .i64 1, .bool true, .int .i64 5, .int .i64 0, .int .i64 0, .int .i64 0, .int .i64 0, .int .i64 0, .string ⟨#[120]⟩, .int .i64 0]
  lb : Blk W (w.heap.size + 1 + 1 + 1) 51 #[.string ⟨#[112]⟩, .int .i64 0, .bool false, .int .i64 5, .int .i64 0, .int .i64 0, .int .i64 0, .int .i64 0, .int .i64 0, .string ⟨#[120]⟩, .int .i64 0, .int .i64 2]
  bel : Below w.heap.size w W
theorem AQ.below {i : ByteArray} {w W W' : World} (h : AQ i w W) (hb : Below W.heap.size W W') : AQ i w W' := ⟨h.cb.belowAll hb, h.pb.belowAll hb, h.qb.belowAll hb, h.lb.belowAll hb, h.bel.trans (hb.mono h.bel.size)⟩
theorem AQ.alloc {i : ByteArray} {w W : World} (h : AQ i w W) (o : Obj) : AQ i w (W.alloc o) := ⟨h.cb.alloc o, h.pb.alloc o, h.qb.alloc o, h.lb.alloc o, h.bel.alloc h.bel.size o⟩
theorem AQ.drew {i : ByteArray} {w W : World} (h : AQ i w W) : AQ i w W.drew := ⟨h.cb.drew, h.pb.drew, h.qb.drew, h.lb.drew, h.bel.drew⟩
theorem AQ.new  (w : World) : AQ ⟨#[112]⟩ w ((((w.alloc (.cells #[.int .i64 100, .int .i64 50, .int .i64 10, .int .i64 9, .int .i64 9, .int .i64 9, .slice none 0 0, .int .i64 1, .int .i64 0, .int .i64 1, .int .i64 0] 25)).alloc (.cells #[.string ⟨#[112]⟩, .int .i64 0, .bool false, .int .i64 5, .int .i64 0, .int .i64 0, .int .i64 0, .int .i64 0, .int .i64 0, .string ⟨#[120]⟩, .int .i64 0] 29)).alloc (.cells #[.string ⟨#[113]⟩, .int .i64 1, .bool true, .int .i64 5, .int .i64 0, .int .i64 0, .int .i64 0, .int .i64 0, .int .i64 0, .string ⟨#[120]⟩, .int .i64 0] 29)).alloc (.cells #[.string ⟨#[112]⟩, .int .i64 0, .bool false, .int .i64 5, .int .i64 0, .int .i64 0, .int .i64 0, .int .i64 0, .int .i64 0, .string ⟨#[120]⟩, .int .i64 0, .int .i64 2] 51)) := by
  have z1 : (w.alloc (.cells #[.int .i64 100, .int .i64 50, .int .i64 10, .int .i64 9, .int .i64 9, .int .i64 9, .slice none 0 0, .int .i64 1, .int .i64 0, .int .i64 1, .int .i64 0] 25)).heap.size = w.heap.size + 1 := by simp
  have z2 : ((w.alloc (.cells #[.int .i64 100, .int .i64 50, .int .i64 10, .int .i64 9, .int .i64 9, .int .i64 9, .slice none 0 0, .int .i64 1, .int .i64 0, .int .i64 1, .int .i64 0] 25)).alloc (.cells #[.string ⟨#[112]⟩, .int .i64 0, .bool false, .int .i64 5, .int .i64 0, .int .i64 0, .int .i64 0, .int .i64 0, .int .i64 0, .string ⟨#[120]⟩, .int .i64 0] 29)).heap.size = w.heap.size + 1 + 1 := by simp
  have z3 : (((w.alloc (.cells #[.int .i64 100, .int .i64 50, .int .i64 10, .int .i64 9, .int .i64 9, .int .i64 9, .slice none 0 0, .int .i64 1, .int .i64 0, .int .i64 1, .int .i64 0] 25)).alloc (.cells #[.string ⟨#[112]⟩, .int .i64 0, .bool false, .int .i64 5, .int .i64 0, .int .i64 0, .int .i64 0, .int .i64 0, .int .i64 0, .string ⟨#[120]⟩, .int .i64 0] 29)).alloc (.cells #[.string ⟨#[113]⟩, .int .i64 1, .bool true, .int .i64 5, .int .i64 0, .int .i64 0, .int .i64 0, .int .i64 0, .int .i64 0, .string ⟨#[120]⟩, .int .i64 0] 29)).heap.size = w.heap.size + 1 + 1 + 1 := by simp
  have b0 := Blk.new w 25 #[.int .i64 100, .int .i64 50, .int .i64 10, .int .i64 9, .int .i64 9, .int .i64 9, .slice none 0 0, .int .i64 1, .int .i64 0, .int .i64 1, .int .i64 0]
  have b1 := Blk.new (w.alloc (.cells #[.int .i64 100, .int .i64 50, .int .i64 10, .int .i64 9, .int .i64 9, .int .i64 9, .slice none 0 0, .int .i64 1, .int .i64 0, .int .i64 1, .int .i64 0] 25)) 29 #[.string ⟨#[112]⟩, .int .i64 0, .bool false, .int .i64 5, .int .i64 0, .int .i64 0, .int .i64 0, .int .i64 0, .int .i64 0, .string ⟨#[120]⟩, .int .i64 0]
  rw [z1] at b1
  have b2 := Blk.new ((w.alloc (.cells #[.int .i64 100, .int .i64 50, .int .i64 10, .int .i64 9, .int .i64 9, .int .i64 9, .slice none 0 0, .int .i64 1, .int .i64 0, .int .i64 1, .int .i64 0] 25)).alloc (.cells #[.string ⟨#[112]⟩, .int .i64 0, .bool false, .int .i64 5, .int .i64 0, .int .i64 0, .int .i64 0, .int .i64 0, .int .i64 0, .string ⟨#[120]⟩, .int .i64 0] 29)) 29 #[.string ⟨#[113]⟩, .int .i64 1, .bool true, .int .i64 5, .int .i64 0, .int .i64 0, .int .i64 0, .int .i64 0, .int .i64 0, .string ⟨#[120]⟩, .int .i64 0]
  rw [z2] at b2
  have b3 := Blk.new (((w.alloc (.cells #[.int .i64 100, .int .i64 50, .int .i64 10, .int .i64 9, .int .i64 9, .int .i64 9, .slice none 0 0, .int .i64 1, .int .i64 0, .int .i64 1, .int .i64 0] 25)).alloc (.cells #[.string ⟨#[112]⟩, .int .i64 0, .bool false, .int .i64 5, .int .i64 0, .int .i64 0, .int .i64 0, .int .i64 0, .int .i64 0, .string ⟨#[120]⟩, .int .i64 0] 29)).alloc (.cells #[.string ⟨#[113]⟩, .int .i64 1, .bool true, .int .i64 5, .int .i64 0, .int .i64 0, .int .i64 0, .int .i64 0, .int .i64 0, .string ⟨#[120]⟩, .int .i64 0] 29)) 51 #[.string ⟨#[112]⟩, .int .i64 0, .bool false, .int .i64 5, .int .i64 0, .int .i64 0, .int .i64 0, .int .i64 0, .int .i64 0, .string ⟨#[120]⟩, .int .i64 0, .int .i64 2]
  rw [z3] at b3
  have bel : Below w.heap.size w ((((w.alloc (.cells #[.int .i64 100, .int .i64 50, .int .i64 10, .int .i64 9, .int .i64 9, .int .i64 9, .slice none 0 0, .int .i64 1, .int .i64 0, .int .i64 1, .int .i64 0] 25)).alloc (.cells #[.string ⟨#[112]⟩, .int .i64 0, .bool false, .int .i64 5, .int .i64 0, .int .i64 0, .int .i64 0, .int .i64 0, .int .i64 0, .string ⟨#[120]⟩, .int .i64 0] 29)).alloc (.cells #[.string ⟨#[113]⟩, .int .i64 1, .bool true, .int .i64 5, .int .i64 0, .int .i64 0, .int .i64 0, .int .i64 0, .int .i64 0, .string ⟨#[120]⟩, .int .i64 0] 29)).alloc (.cells #[.string ⟨#[112]⟩, .int .i64 0, .bool false, .int .i64 5, .int .i64 0, .int .i64 0, .int .i64 0, .int .i64 0, .int .i64 0, .string ⟨#[120]⟩, .int .i64 0, .int .i64 2] 51)) := ((((Below.refl w.heap.size w).alloc (Nat.le_refl _) _).alloc (by rw [z1]; omega) _).alloc (by rw [z2]; omega) _).alloc (by rw [z3]; omega) _
  exact ⟨(((b0.alloc _).alloc _).alloc _), ((b1.alloc _).alloc _), (b2.alloc _), b3, bel⟩

theorem AQ.rd {i : ByteArray} {w W : World} (h : AQ i w W) : Rds W encN (some ⟨w.heap.size + 1 + 1 + 1, 0, none⟩) [⟨pPd ⟨#[112]⟩, 2⟩] := fun _ => ⟨_, 0, rfl, h.lb.lt, fun j u hu => by
  rw [Nat.zero_add, h.lb.cell j, ← Array.getElem?_toList]
  exact hu⟩
theorem AQ.setId {i : ByteArray} {w W : World} (h : AQ i w W) (r : ByteArray) : AQ r w (W.setCell ⟨w.heap.size + 1, 0, none⟩ (.string r)) :=
  ⟨h.cb.far (by show w.heap.size ≠ w.heap.size + 1; omega) _, h.pb.set_ 0 _, h.qb.far (by show w.heap.size + 1 + 1 ≠ w.heap.size + 1; omega) _, h.lb.far (by show w.heap.size + 1 + 1 + 1 ≠ w.heap.size + 1; omega) _, h.bel.setCell (by show w.heap.size ≤ w.heap.size + 1; omega) _⟩
set_option maxRecDepth 100000 in
set_option maxHeartbeats 2000000 in
theorem some_any (w : World) : Calls Tryd.prog 19 #[] w fun e w' => e = .returned (.agg #[.int .i64 100, .int .i64 50, .int .i64 10, .int .i64 9, .int .i64 9, .int .i64 9, .slice none 0 0, .int .i64 1, .int .i64 0, .int .i64 1, .int .i64 0]) ∧ Below w.heap.size w w' := by
  have HB := Lib.hid ((Below.refl w.heap.size w).alloc (Nat.le_refl _) (.cells #[.int .i64 100, .int .i64 50, .int .i64 10, .int .i64 9, .int .i64 9, .int .i64 9, .slice none 0 0, .int .i64 1, .int .i64 0, .int .i64 1, .int .i64 0] 25))
  go_enter Tryd.func19, Tryd.ntmps19
  go_wp2_with fail
  exact bodyPost_ret (v := .agg #[.int .i64 100, .int .i64 50, .int .i64 10, .int .i64 9, .int .i64 9, .int .i64 9, .slice none 0 0, .int .i64 1, .int .i64 0, .int .i64 1, .int .i64 0]) (by simp [results, Tryd.results19, go_sem]) rfl ⟨rfl, HB.out⟩
set_option maxRecDepth 100000 in
set_option maxHeartbeats 16000000 in
theorem awake23_any (w : World) : Calls Tryd.prog 8 #[] w fun e w' => e = .returned (.bool true) ∧ Below w.heap.size w w' := by
  have HB0 := Lib.hid (Below.refl w.heap.size w)
  go_enter Tryd.func8, Tryd.ntmps8
  go_wp2_with fail
  refine (some_any _).mono ?_; rintro e w1 ⟨rfl, hb⟩
  have HB1 := Lib.hid hb
  clear hb
  have HQ := Lib.hid (AQ.new w1)
  go_wp2_with fail
  refine (decideV (f := fS) ver1 none 0 _ (Rds.nil _ _ _) (by simp) (by simp) wfPp).mono ?_; rintro e w2 ⟨A1, n1, rfl, ho, hb⟩
  have HLT1 : Hid (w1.heap.size + 1 + 1 + 1 < w2.heap.size) := (HQ.out.below hb).lb.lt
  have HQ := Lib.hid ((HQ.out.below hb).alloc (.cells #[.int .i64 1, .int .i64 0, .slice A1 0 n1] 36))
  have HV1 := Lib.hid (Blk.new w2 36 #[.int .i64 1, .int .i64 0, .slice A1 0 n1])
  clear ho hb
  have zcb := HQ.out.cb.cell
  have zqb := HQ.out.qb.cell
  go_wp2_with fail
  refine (decideV (f := fS) ver2 (some ⟨w1.heap.size + 1 + 1 + 1, 0, none⟩) 1 _ HQ.out.rd (by intro x hx; rw [List.mem_singleton.1 hx]; exact wfPp) (by simp) wfQ).mono ?_; rintro e w3 ⟨A2, n2, rfl, ho, hb⟩
  have HLT2 : Hid (w1.heap.size + 1 + 1 + 1 < w3.heap.size) := (HQ.out.below hb).lb.lt
  have HQ := Lib.hid ((HQ.out.below hb).alloc (.cells #[.int .i64 2, .int .i64 0, .slice A2 1 n2] 36))
  have HV1 := Lib.hid ((HV1.out.belowAll hb).alloc (.cells #[.int .i64 2, .int .i64 0, .slice A2 1 n2] 36))
  have HO := Lib.hid (ho.alloc (.cells #[.int .i64 2, .int .i64 0, .slice A2 1 n2] 36))
  have HV2 := Lib.hid (Blk.new w3 36 #[.int .i64 2, .int .i64 0, .slice A2 1 n2])
  clear ho hb zcb zqb
  have zcb := HQ.out.cb.cell
  have zpb := HQ.out.pb.cell
  go_wp2_with fail
  refine (decideV (f := fS) ver3 none 0 _ (Rds.nil _ _ _) (by simp) (by simp) wfPp).mono ?_; rintro e w4 ⟨A3, n3, rfl, ho, hb⟩
  have HLT3 : Hid (w1.heap.size + 1 + 1 + 1 < w4.heap.size) := (HQ.out.below hb).lb.lt
  have HQ := Lib.hid ((HQ.out.below hb).alloc (.cells #[.int .i64 3, .int .i64 2, .slice A3 0 n3] 36))
  have HV1 := Lib.hid ((HV1.out.belowAll hb).alloc (.cells #[.int .i64 3, .int .i64 2, .slice A3 0 n3] 36))
  have HV2 := Lib.hid ((HV2.out.belowAll hb).alloc (.cells #[.int .i64 3, .int .i64 2, .slice A3 0 n3] 36))
  have HO := Lib.hid ((HO.out.below hb (Nat.le_refl _)).alloc (.cells #[.int .i64 3, .int .i64 2, .slice A3 0 n3] 36))
  have HV3 := Lib.hid (Blk.new w4 36 #[.int .i64 3, .int .i64 2, .slice A3 0 n3])
  clear ho hb zcb zpb
  have zcb := HQ.out.cb.cell
  have zpb := HQ.out.pb.cell
  go_wp2_with fail
  refine (decideV (f := fS) ver4 (some ⟨w1.heap.size + 1 + 1 + 1, 0, none⟩) 1 _ HQ.out.rd (by intro x hx; rw [List.mem_singleton.1 hx]; exact wfPp) (by simp) wfPp).mono ?_; rintro e w5 ⟨A4, n4, rfl, ho, hb⟩
  have HLT4 : Hid (w1.heap.size + 1 + 1 + 1 < w5.heap.size) := (HQ.out.below hb).lb.lt
  have HQ := Lib.hid ((HQ.out.below hb).alloc (.cells #[.int .i64 0, .int .i64 0, .slice A4 0 n4] 36))
  have HV1 := Lib.hid ((HV1.out.belowAll hb).alloc (.cells #[.int .i64 0, .int .i64 0, .slice A4 0 n4] 36))
  have HV2 := Lib.hid ((HV2.out.belowAll hb).alloc (.cells #[.int .i64 0, .int .i64 0, .slice A4 0 n4] 36))
  have HV3 := Lib.hid ((HV3.out.belowAll hb).alloc (.cells #[.int .i64 0, .int .i64 0, .slice A4 0 n4] 36))
  have HO := Lib.hid ((HO.out.below hb (Nat.le_refl _)).alloc (.cells #[.int .i64 0, .int .i64 0, .slice A4 0 n4] 36))
  clear ho hb zcb zpb
  have zcb := HQ.out.cb.cell
  go_wp2_with fail
  refine (decideV (f := fS) ver5 (some ⟨w1.heap.size + 1 + 1 + 1, 0, none⟩) 1 _ HQ.out.rd (by intro x hx; rw [List.mem_singleton.1 hx]; exact wfPp) (by simp) wfZ).mono ?_; rintro e w6 ⟨A5, n5, rfl, ho, hb⟩
  have HLT5 : Hid (w1.heap.size + 1 + 1 + 1 < w6.heap.size) := (HQ.out.below hb).lb.lt
  have HQ := Lib.hid ((HQ.out.below hb).alloc (.cells #[.int .i64 0, .int .i64 0, .slice A5 0 n5] 36))
  have HV1 := Lib.hid ((HV1.out.belowAll hb).alloc (.cells #[.int .i64 0, .int .i64 0, .slice A5 0 n5] 36))
  have HV2 := Lib.hid ((HV2.out.belowAll hb).alloc (.cells #[.int .i64 0, .int .i64 0, .slice A5 0 n5] 36))
  have HV3 := Lib.hid ((HV3.out.belowAll hb).alloc (.cells #[.int .i64 0, .int .i64 0, .slice A5 0 n5] 36))
  have HO := Lib.hid ((HO.out.below hb (Nat.le_refl _)).alloc (.cells #[.int .i64 0, .int .i64 0, .slice A5 0 n5] 36))
  clear ho hb zcb
  have fp := HQ.out.pb.frozen
  have zpb := HQ.out.pb.cell
  obtain ⟨v1, hv1⟩ : ∃ v1, (w6.alloc (.cells #[.int .i64 0, .int .i64 0, .slice A5 0 n5] 36)).setCell ⟨w1.heap.size + 1, 0, none⟩ (.string ⟨#[114]⟩) = v1 := ⟨_, rfl⟩
  have HLT := Lib.hid HQ.out.lb.lt
  have HQ2 := Lib.hid (HQ.out.setId ⟨#[114]⟩)
  rw [hv1] at HQ2
  have HG1 : Hid (w2.heap.size ≠ w1.heap.size + 1) := by have := HLT1.out; show _ ≠ _; omega
  have HV1 := Lib.hid (HV1.out.far (p := ⟨w1.heap.size + 1, 0, none⟩) HG1.out (.string ⟨#[114]⟩))
  rw [hv1] at HV1
  have HG2 : Hid (w3.heap.size ≠ w1.heap.size + 1) := by have := HLT2.out; show _ ≠ _; omega
  have HV2 := Lib.hid (HV2.out.far (p := ⟨w1.heap.size + 1, 0, none⟩) HG2.out (.string ⟨#[114]⟩))
  rw [hv1] at HV2
  have HG3 : Hid (w4.heap.size ≠ w1.heap.size + 1) := by have := HLT3.out; show _ ≠ _; omega
  have HV3 := Lib.hid (HV3.out.far (p := ⟨w1.heap.size + 1, 0, none⟩) HG3.out (.string ⟨#[114]⟩))
  rw [hv1] at HV3
  have HO := Lib.hid (HO.out.setLow (g := w1.heap.size + 1) (by have := HLT1.out; simp; omega) 0 (.string ⟨#[114]⟩))
  rw [hv1] at HO
  have HQ := HQ2
  have zcb := HQ.out.cb.cell
  have zp2 := HQ.out.pb.cell
  go_wp2_with fail
  clear hv1 fp zpb zp2
  refine (decideV (f := fS) ver6 (some ⟨w1.heap.size + 1 + 1 + 1, 0, none⟩) 1 _ HQ.out.rd (by intro x hx; rw [List.mem_singleton.1 hx]; exact wfPp) (by simp) wfPr).mono ?_; rintro e w7 ⟨A6, n6, rfl, ho, hb⟩
  have HLT6 : Hid (w1.heap.size + 1 + 1 + 1 < w7.heap.size) := (HQ.out.below hb).lb.lt
  have HQ := Lib.hid ((HQ.out.below hb).alloc (.cells #[.int .i64 4, .int .i64 0, .slice A6 0 n6] 36))
  have HV1 := Lib.hid ((HV1.out.belowAll hb).alloc (.cells #[.int .i64 4, .int .i64 0, .slice A6 0 n6] 36))
  have HV2 := Lib.hid ((HV2.out.belowAll hb).alloc (.cells #[.int .i64 4, .int .i64 0, .slice A6 0 n6] 36))
  have HV3 := Lib.hid ((HV3.out.belowAll hb).alloc (.cells #[.int .i64 4, .int .i64 0, .slice A6 0 n6] 36))
  have HO := Lib.hid ((HO.out.below hb (Nat.le_refl _)).alloc (.cells #[.int .i64 4, .int .i64 0, .slice A6 0 n6] 36))
  have HV6 := Lib.hid (Blk.new w7 36 #[.int .i64 4, .int .i64 0, .slice A6 0 n6])
  clear ho hb zcb
  go_wp2_with fail
  refine (barredV (p := bPd) (s := 0) (v := true) (by decide +kernel) _).mono ?_; rintro e w9 ⟨rfl, hb⟩
  have HBF := Lib.hid (below_rV HB1.out (HQ.out.below hb).bel)
  have y1 := (HV1.out.belowAll hb).cell
  have y2 := (HV2.out.belowAll hb).cell
  have y3 := (HV3.out.belowAll hb).cell
  have y6 := (HV6.out.belowAll hb).cell
  obtain ⟨b2, o2, hA2, _, yo⟩ := (HO.out.below hb (Nat.le_refl _)).toRds.str (i := 0) (by simp)
  obtain rfl : A2 = some ⟨b2, o2, none⟩ := hA2
  simp only [Nat.add_zero, List.getElem_cons_zero] at yo
  clear hb
  go_wp2_with fail
  go_ret
  exact ⟨rfl, HBF.out⟩
end Go.Proofs.YtlhmhcidknadmaaDoor
