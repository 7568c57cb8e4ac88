/- bilgeref17.Same at two samples that read alike. -/
import Derived.Test.YtampjkgkiooibaaDoorRawPlain
import Derived.Test.YtampjkgkiooibaaDoorEq3U
import Derived.WalkLawsBesides
import Derived.BigQuiet
import Derived.Deep.QuietTactic
namespace Go.Proofs.YtampjkgkiooibaaDoor
open Go.RowKit
set_option maxRecDepth 100000 in
set_option maxHeartbeats 2000000 in
theorem same17_self (t V0 V1 V2 : Int) (l : List Us) (A B : Option Addr) (c d : Nat) (w : World) (hr : Rds w encU A l) (hs : Rds w encU B l) (hl : l.length ≤ 100000) :
    Calls Tryd.prog 15 #[.agg #[.int .i64 t, .int .i64 V0, .int .i64 V1, .int .i64 V2, .slice A l.length c], .agg #[.int .i64 t, .int .i64 V0, .int .i64 V1, .int .i64 V2, .slice B l.length d]] w fun e w' => e = .returned (.bool true) ∧ Below w.heap.size w w' := by
  obtain ⟨ca, hca⟩ : ∃ ca : Array Value, ca = #[.int .i64 t, .int .i64 V0, .int .i64 V1, .int .i64 V2, .slice A l.length c] := ⟨_, rfl⟩
  obtain ⟨cb, hcb⟩ : ∃ cb : Array Value, cb = #[.int .i64 t, .int .i64 V0, .int .i64 V1, .int .i64 V2, .slice B l.length d] := ⟨_, rfl⟩
  have hz : (w.alloc (.cells ca 32)).heap.size = w.heap.size + 1 := by simp
  have hb := Blk.new (w.alloc (.cells ca 32)) 32 cb
  rw [hz] at hb
  have hbel : Below w.heap.size w ((w.alloc (.cells ca 32)).alloc (.cells cb 32)) := ((Below.refl _ _).alloc (Nat.le_refl _) _).alloc (by simp) _
  have HP := Lib.hid (And.intro ((Blk.new w 32 ca).alloc (.cells cb 32)) (And.intro hb (And.intro (hr.below hbel) (And.intro (hs.below hbel) hbel))))
  subst hca hcb
  clear hr hs hz hb hbel
  have dn : ((l.length : Int) != (l.length : Int)) = false := by simp
  have dt : (t != t) = false := by simp
  go_enter Tryd.func15, Tryd.ntmps15
  go_wp2_with fail
  generalize ((w.alloc (.cells #[.int .i64 t, .int .i64 V0, .int .i64 V1, .int .i64 V2, .slice A l.length c] 32)).alloc (.cells #[.int .i64 t, .int .i64 V0, .int .i64 V1, .int .i64 V2, .slice B l.length d] 32)) = W2 at *
  go_loopw [5] (fun i wr => ∃ k n : Nat, k ≤ l.length ∧ i = .int .i64 k ∧ wr = W2.drewN n) (fun i _ => l.length - (intOf i).toNat)
  case atStart => exact ⟨0, 0, by omega, rfl, rfl⟩
  case round =>
    obtain ⟨k, n, hk, rfl, rfl⟩ := hrel
    have ca4 : W2.cell? ⟨w.heap.size, 4, none⟩ = some (.slice A l.length c) := HP.out.1.cell 4
    have cb4 : W2.cell? ⟨w.heap.size + 1, 4, none⟩ = some (.slice B l.length d) := HP.out.2.1.cell 4
    by_cases hlt : k < l.length
    · obtain ⟨b, off, rfl, hb, c0, c1, c2, c3⟩ := HP.out.2.2.1.us hlt
      obtain ⟨b2, off2, rfl, hb2, c4, c5, c6, c7⟩ := HP.out.2.2.2.1.us hlt
      have dk : decide ((k : Int) < (l.length : Int)) = true := decide_eq_true (by omega)
      have dk2 : (k : Int) < (l.length : Int) := by omega
      generalize l[k] = x at *
      clear hb hb2
      go_wp2_with fail
      go_quiet (fail)
      go_wp2_with fail
      go_roundw
      case rel => exact ⟨k + 1, _, by omega, by go_num, rfl⟩
      case measure => simp [intOf]; omega
    · obtain rfl : k = l.length := by omega
      have dk : decide ((l.length : Int) < (l.length : Int)) = false := by simp
      go_wp2_with fail
      go_ret
      exact ⟨rfl, HP.out.2.2.2.2.trans ⟨rfl, rfl, rfl, Nat.le_refl _, fun _ _ => rfl⟩⟩
end Go.Proofs.YtampjkgkiooibaaDoor
