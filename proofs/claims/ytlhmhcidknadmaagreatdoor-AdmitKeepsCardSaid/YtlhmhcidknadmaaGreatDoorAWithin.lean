/- bilgeref23.Pods, bilgeref23.Within: the pods of a table; whether their exact sums are within a room. -/
import Derived.Test.YtlhmhcidknadmaaGreatDoorARight
import Derived.Test.YtlhmhcidknadmaaGreatDoorVExact
namespace Go.Proofs.YtlhmhcidknadmaaGreatDoor
open Go.RowKit

theorem exWord {H N S r : Int} (h : H * 18446744073709551616 + N = S) (h0 : 0 ≤ H) (n0 : 0 ≤ N) (n1 : N < 18446744073709551616) (_hr : r ≤ 9223372036854775807) : decide (S < most ∧ S ≤ r) = (!(decide (0 < H)) && (!(decide (9223372036854775807 ≤ N)) && !(decide (r < N)))) := by
  rw [Bool.eq_iff_iff]
  unfold most
  simp only [Bool.and_eq_true, Bool.not_eq_true', decide_eq_false_iff_not, decide_eq_true_eq]
  omega
theorem right_q {p : Pd} (h : p.right = true) : 0 ≤ p.q0 ∧ 0 ≤ p.q1 ∧ 0 ≤ p.q2 := by
  unfold Pd.right Pd.amountsOk bad at h
  simp only [Bool.and_eq_true, Bool.not_eq_true', Bool.or_eq_false_iff, decide_eq_false_iff_not] at h
  omega
set_option maxRecDepth 100000 in
set_option maxHeartbeats 8000000 in
theorem pods_any (l : List En) (A : Option Addr) (c : Nat) (w : World) (hr : Rds w encN A l) (hn : l.length ≤ 50000) :
    Calls Tryz.prog 22 #[.slice A l.length c] w fun e w' => ∃ A c, e = .returned (.slice A (podsD l).length c) ∧ Own w' w.heap.size 29 encP (.slice A (podsD l).length c) (podsD l) ∧ Below w.heap.size w w' := by
  have HR := Lib.hid hr
  clear hr
  go_enter Tryz.func22, Tryz.ntmps22
  go_wp2_with fail
  go_loopw [3, 4] (fun st ii wr => ∃ (i : Nat) (A1 : Option Addr) (c1 : Nat), i ≤ l.length ∧ ii = .int .i64 i ∧ st = .slice A1 (podsD (l.take i)).length c1 ∧ Own wr w.heap.size 29 encP (.slice A1 (podsD (l.take i)).length c1) (podsD (l.take i)) ∧ Below w.heap.size w wr) (fun _ ii _ => l.length - (intOf ii).toNat)
  case atStart => exact ⟨0, none, 0, by omega, rfl, rfl, Own.nil_ _ _ _ _, Below.refl _ _⟩
  case round =>
    obtain ⟨i, A1, c1, hi, rfl, rfl, ho, hbl⟩ := hrel
    have HP := Lib.hid (And.intro ho hbl)
    clear ho hbl
    have HSL : Hid ((podsD (l.take i)).length ≤ l.length) := by show _ ≤ _; rw [podsD_len, List.length_take]; omega
    by_cases hlt : i < l.length
    · have dk : decide ((i : Int) < (l.length : Int)) = true := decide_eq_true (by omega)
      have dk2 : (i : Int) < (l.length : Int) := by omega
      obtain ⟨b0, off, hA, _⟩ := HR.out.en hlt
      obtain rfl : A = some ⟨b0, off, none⟩ := hA
      have HXI := Lib.hid (List.getElem?_eq_getElem hlt)
      have HSN := Lib.hid (podsD_snoc l i hlt)
      generalize podsD (l.take i) = S at *
      generalize l[i] = x at *
      obtain ⟨x0, x1, x2, x3, x4, x5, x6, x7, x8, x9, x10, x11⟩ := HR.out.enAt HP.out.2 HXI.out
      go_wp2_with (at_builtin; refine wl_push elemP encP rfl (.tmp 11) (.tmp 17) rfl x.pod #[.string x.pod.id, .int .i64 x.pod.prio, .bool x.pod.crit, .int .i64 x.pod.q0, .int .i64 x.pod.q1, .int .i64 x.pod.q2, .int .i64 x.pod.l0, .int .i64 x.pod.l1, .int .i64 x.pod.l2, .string x.pod.image, .int .i64 x.pod.size] rfl w.heap.size _ S rfl HP.out.1 rfl rfl HP.out.2 (by have := HSL.out; omega) (by have := HSL.out; omega) HP.out.2.size ?_; intro A3 k3 w4 ho hb _; have HX3 := Lib.hid (And.intro ho hb); clear ho hb)
      go_roundw
      case rel => exact ⟨i + 1, A3, k3, by omega, by go_num, by rw [HSN.out, List.length_append]; rfl, by rw [HSN.out]; exact own_len1 HX3.out.1, HX3.out.2⟩
      case measure => simp [intOf]; omega
    · obtain rfl : i = l.length := by omega
      have dk : decide ((l.length : Int) < (l.length : Int)) = false := by simp
      rw [List.take_length] at HP ⊢
      go_wp2_with fail
      go_ret
      exact ⟨A1, c1, rfl, HP.out.1, HP.out.2⟩
def GivesF (room : S3) (L : List Pd) (w : World) (e : Ending) (w' : World) : Prop := e = .returned (.bool (fitsB room L)) ∧ Below w.heap.size w w'
end Go.Proofs.YtlhmhcidknadmaaGreatDoor
