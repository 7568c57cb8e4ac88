/- bilgelaw22.last: when did one last run; and: of the dead, none that stands ahead ran later. -/
import Derived.Test.YtfaklhdafpbkmaaDeadLaw
import Derived.BigQuiet
namespace Go.Proofs.Ytfaklhdafpbkmaa
open Go.RowKit

def lastOf (l : List Cn) (s : ByteArray) : Int := match l.find? (fun x => x.id.toList == s.toList) with | some x => x.last | none => -1
theorem lastOf_yes (l : List Cn) (s : ByteArray) (k : Nat) (hk : k < l.length) (h0 : (l.take k).find? (fun x => x.id.toList == s.toList) = none) (h : (l[k].id.toList == s.toList) = true) : lastOf l s = l[k].last := by
  unfold lastOf
  have e0 := congrArg (List.find? (fun x : Cn => x.id.toList == s.toList)) (List.take_append_drop k l)
  rw [List.find?_append, h0, List.drop_eq_getElem_cons hk, List.find?_cons_of_pos (p := fun x : Cn => x.id.toList == s.toList) h, Option.none_or] at e0
  rw [← e0]
theorem lastOf_next (l : List Cn) (s : ByteArray) (k : Nat) (hk : k < l.length) (h0 : (l.take k).find? (fun x => x.id.toList == s.toList) = none) (h : (l[k].id.toList == s.toList) = false) : (l.take (k + 1)).find? (fun x => x.id.toList == s.toList) = none := by
  rw [List.take_succ_eq_append_getElem hk, List.find?_append, h0, List.find?_cons_of_neg (by simp [h])]; rfl
theorem last_any (l : List Cn) (s : ByteArray) (A : Option Addr) (c : Nat) (w : World) (hr : Rds w encC A l) (hm : l.length ≤ 9223372036854775807) :
    Calls Try.prog 28 #[.slice A l.length c, .string s] w fun e w' => e = .returned (.int .i64 (lastOf l s)) ∧ w = w' := by
  have HR := Lib.hid hr
  clear hr
  go_enter Try.func28, Try.ntmps28
  go_wp2_with fail
  go_loop [5] (fun i => ∃ k : Nat, k ≤ l.length ∧ i = .int .i64 k ∧ (l.take k).find? (fun x => x.id.toList == s.toList) = none) (fun i => l.length - (intOf i).toNat)
  case atStart => exact ⟨0, by omega, rfl, rfl⟩
  case round =>
    obtain ⟨k, hk, rfl, h0⟩ := hrel
    have H0 := Lib.hid h0
    clear h0
    by_cases hlt : k < l.length
    · obtain ⟨b, off, rfl, hb, hcell, _, _, hcl⟩ := HR.out.cn hlt
      have dk : decide ((k : Int) < (l.length : Int)) = true := decide_eq_true (by omega)
      have dk2 : (k : Int) < (l.length : Int) := by omega
      cases he : (l[k].id.toList == s.toList)
      · have HN := Lib.hid (lastOf_next l s k hlt H0.out he)
        generalize l[k] = t at *
        go_wp2_with fail
        go_round
        case rel => exact ⟨k + 1, by omega, by go_num, HN.out⟩
        case measure => simp [intOf]; omega
      · have HY := Lib.hid (lastOf_yes l s k hlt H0.out he)
        generalize l[k] = t at *
        go_wp2_with fail
        go_ret
        exact ⟨by rw [HY.out]; rfl, rfl⟩
    · obtain rfl : k = l.length := by omega
      have HF := Lib.hid (show lastOf l s = -1 by have := H0.out; rw [List.take_length] at this; unfold lastOf; rw [this])
      have dk : decide ((l.length : Int) < (l.length : Int)) = false := by simp
      go_wp2_with fail
      go_ret
      exact ⟨by rw [HF.out]; rfl, rfl⟩

theorem lastOf_mem {l : List Cn} (hn : (l.map Cn.id).Nodup) {x : Cn} (hx : x ∈ l) : lastOf l x.id = x.last := by
  unfold lastOf
  cases hf : l.find? (fun y => y.id.toList == x.id.toList) with
  | none => have := List.find?_eq_none.1 hf x hx; simp at this
  | some y =>
    have h1 := List.find?_some hf
    have h2 := List.mem_of_find?_eq_some hf
    have := id_inj hn h2 hx (toList_inj h1)
    simp only [this]
theorem deadOf_last {l : List Cn} (hn : (l.map Cn.id).Nodup) (pods : List ByteArray) {i k : Nat} (hk : k < (deadOf l pods).length) (hik : i < k) :
    lastOf l ((deadOf l pods)[i]'(by omega)) ≤ lastOf l (deadOf l pods)[k] := by
  unfold deadOf at hk ⊢
  rw [List.length_map] at hk
  simp only [List.getElem_map]
  have hp := List.mergeSort_perm (l.filter (isDead pods)) deadLe
  have m1 := (List.mem_filter.1 (hp.mem_iff.1 (List.getElem_mem (show i < _ by omega)))).1
  have m2 := (List.mem_filter.1 (hp.mem_iff.1 (List.getElem_mem hk))).1
  rw [lastOf_mem hn m1, lastOf_mem hn m2]
  have hs := List.pairwise_iff_getElem.1 (List.pairwise_mergeSort deadLe_trans deadLe_total (l.filter (isDead pods))) i k (by omega) hk hik
  generalize ((l.filter (isDead pods)).mergeSort deadLe)[i]'(by omega) = x at *
  generalize ((l.filter (isDead pods)).mergeSort deadLe)[k] = y at *
  unfold deadLe cnlt at hs
  simp at hs
  omega
end Go.Proofs.Ytfaklhdafpbkmaa
