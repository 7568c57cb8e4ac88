/- bilgeref21.put: texts, rising, one more. -/
import Derived.Test.YtlhmhcidknadmaaGreatDoorVFit
namespace Go.Proofs.YtlhmhcidknadmaaGreatDoor
open Go.RowKit

def PutAt (s : ByteArray) (a r : List ByteArray) (d : Bool) (m : List ByteArray) : Prop :=
  (d = false ∧ m = a ∧ ∀ x ∈ a, blt s x = false) ∨ (d = true ∧ m.Perm (s :: a) ∧ (m.Pairwise fun x y => blt y x = false) ∧ ∀ x ∈ m, ∀ y ∈ r, blt y x = false)
theorem blt_asymmV {a b : ByteArray} (h : blt a b = true) : blt b a = false := by
  cases h2 : blt b a
  · rfl
  · have := blt_trans h h2; rw [blt_irrefl] at this; cases this
theorem gtV (a b : ByteArray) : (!Op.bytesLess a.toList b.toList && !a.toList == b.toList) = blt b a := by
  cases h : blt b a
  · cases h2 : Op.bytesLess a.toList b.toList
    · have e : a = b := blt_total h2 h
      subst e; simp
    · rfl
  · have h2 : Op.bytesLess a.toList b.toList = false := blt_asymmV h
    rw [h2]
    cases h3 : (a.toList == b.toList)
    · rfl
    · have e := toList_injV h3
      subst e; rw [blt_irrefl] at h; cases h
theorem PutAt.len {s : ByteArray} {a r m : List ByteArray} {d : Bool} (h : PutAt s a r d m) : m.length ≤ a.length + 1 := by
  rcases h with ⟨_, rfl, _⟩ | ⟨_, h, _⟩
  · omega
  · rw [h.length_eq]; simp
theorem PutAt.pass {s x : ByteArray} {a r m : List ByteArray} (h : PutAt s a (x :: r) false m) (hx : blt s x = false) : PutAt s (a ++ [x]) r false (m ++ [x]) := by
  rcases h with ⟨_, rfl, h⟩ | ⟨h, _⟩
  · refine .inl ⟨rfl, rfl, fun y hy => ?_⟩
    rcases List.mem_append.1 hy with h1 | h1
    · exact h y h1
    · rw [List.mem_singleton.1 h1]; exact hx
  · cases h
theorem PutAt.then_ {s x : ByteArray} {a r m : List ByteArray} (hs : (a ++ x :: r).Pairwise fun x y => blt y x = false) (h : PutAt s a (x :: r) true m) : PutAt s (a ++ [x]) r true (m ++ [x]) := by
  rcases h with ⟨h, _⟩ | ⟨_, hp, hm, hr⟩
  · cases h
  · have hxr := (List.pairwise_cons.1 (List.pairwise_append.1 hs).2.1).1
    refine .inr ⟨rfl, ?_, ?_, ?_⟩
    · exact (hp.append_right [x])
    · refine List.pairwise_append.2 ⟨hm, List.pairwise_singleton _ _, fun y hy z hz => ?_⟩
      rw [List.mem_singleton.1 hz]
      exact hr y hy x (by simp)
    · intro y hy z hz
      rcases List.mem_append.1 hy with h1 | h1
      · exact hr y h1 z (by simp [hz])
      · rw [List.mem_singleton.1 h1]; exact hxr z hz
theorem PutAt.here {s x : ByteArray} {a r m : List ByteArray} (hs : (a ++ x :: r).Pairwise fun x y => blt y x = false) (h : PutAt s a (x :: r) false m) (hx : blt s x = true) : PutAt s (a ++ [x]) r true ((m ++ [s]) ++ [x]) := by
  rcases h with ⟨_, rfl, ha⟩ | ⟨h, _⟩
  · obtain ⟨h1, h2, h3⟩ := List.pairwise_append.1 hs
    have hxr := (List.pairwise_cons.1 h2).1
    have hsr : ∀ y ∈ r, blt y s = false := fun y hy => by
      cases e : blt y s
      · rfl
      · have := blt_trans e hx; rw [hxr y hy] at this; cases this
    refine .inr ⟨rfl, ?_, ?_, ?_⟩
    · exact (List.perm_append_comm (l₁ := m) (l₂ := [s])).append_right [x]
    · refine List.pairwise_append.2 ⟨List.pairwise_append.2 ⟨h1, List.pairwise_singleton _ _, fun y hy z hz => ?_⟩, List.pairwise_singleton _ _, fun y hy z hz => ?_⟩
      · rw [List.mem_singleton.1 hz]; exact ha y hy
      · rw [List.mem_singleton.1 hz]
        rcases List.mem_append.1 hy with h4 | h4
        · exact h3 y h4 x (by simp)
        · rw [List.mem_singleton.1 h4]; exact blt_asymmV hx
    · intro y hy z hz
      rcases List.mem_append.1 hy with h4 | h4
      · rcases List.mem_append.1 h4 with h5 | h5
        · exact h3 y h5 z (by simp [hz])
        · rw [List.mem_singleton.1 h5]; exact hsr z hz
      · rw [List.mem_singleton.1 h4]; exact hxr z hz
  · cases h
theorem PutAt.done {s : ByteArray} {l m : List ByteArray} (h : PutAt s l [] true m) : m.Perm (s :: l) ∧ m.Pairwise fun x y => blt y x = false := by
  rcases h with ⟨h, _⟩ | ⟨_, h1, h2, _⟩
  · cases h
  · exact ⟨h1, h2⟩
theorem PutAt.last {s : ByteArray} {l m : List ByteArray} (hs : l.Pairwise fun x y => blt y x = false) (h : PutAt s l [] false m) : (m ++ [s]).Perm (s :: l) ∧ (m ++ [s]).Pairwise fun x y => blt y x = false := by
  rcases h with ⟨_, rfl, ha⟩ | ⟨h, _⟩
  · refine ⟨List.perm_append_comm (l₁ := m) (l₂ := [s]), List.pairwise_append.2 ⟨hs, List.pairwise_singleton _ _, fun y hy z hz => ?_⟩⟩
    rw [List.mem_singleton.1 hz]; exact ha y hy
  · cases h
set_option maxRecDepth 100000 in
set_option maxHeartbeats 8000000 in
theorem put_any (l : List ByteArray) (s : ByteArray) (A : Option Addr) (c : Nat) (w : World) (hr : Rds w encS A l) (hl : l.length ≤ 50000) (hs : l.Pairwise fun x y => blt y x = false) :
    Calls Tryz.prog 36 #[.slice A l.length c, .string s] w fun e w' => ∃ (O : List ByteArray) (A : Option Addr) (c : Nat), e = .returned (.slice A O.length c) ∧ O.Perm (s :: l) ∧ (O.Pairwise fun x y => blt y x = false) ∧ Own w' w.heap.size 9 encS (.slice A O.length c) O ∧ Below w.heap.size w w' := by
  have HR := Lib.hid hr
  have HS := Lib.hid hs
  clear hr hs
  go_enter Tryz.func36, Tryz.ntmps36
  go_wp2_with fail
  go_loopw [5, 6, 7] (fun st dd ii wr => ∃ (i : Nat) (m : List ByteArray) (A : Option Addr) (c : Nat) (d : Bool), i ≤ l.length ∧ ii = .int .i64 i ∧ dd = .bool d ∧ st = .slice A m.length c ∧ PutAt s (l.take i) (l.drop i) d m ∧ Own wr w.heap.size 9 encS (.slice A m.length c) m ∧ Below w.heap.size w wr) (fun _ _ ii _ => l.length - (intOf ii).toNat)
  case atStart => exact ⟨0, [], none, 0, false, by omega, rfl, rfl, rfl, .inl ⟨rfl, rfl, by simp⟩, Own.nil_ _ _ _ _, Below.refl _ _⟩
  case round =>
    obtain ⟨i, m, A1, c1, d, hi, rfl, rfl, rfl, hpa, ho, hbl⟩ := hrel
    have HPA := Lib.hid hpa
    have hml := hpa.len
    rw [List.length_take] at hml
    have HP := Lib.hid (And.intro ho hbl)
    have HRi := Lib.hid (HR.out.below hbl)
    clear hpa ho hbl
    by_cases hlt : i < l.length
    · have dk : decide ((i : Int) < (l.length : Int)) = true := decide_eq_true (by omega)
      have dk2 : (i : Int) < (l.length : Int) := by omega
      obtain ⟨b, off, rfl, hb0, d0⟩ := HRi.out.str hlt
      have HDR := Lib.hid (show l.drop i = l[i] :: l.drop (i + 1) from List.drop_eq_getElem_cons hlt)
      have HTK := Lib.hid (show l.take (i + 1) = l.take i ++ [l[i]] from List.take_succ_eq_append_getElem hlt)
      have HSS : Hid ((l.take i ++ l[i] :: l.drop (i + 1)).Pairwise fun x y => blt y x = false) := by
        show List.Pairwise _ _
        rw [← HDR.out, List.take_append_drop]; exact HS.out
      have HPA2 : Hid (PutAt s (l.take i) (l[i] :: l.drop (i + 1)) d m) := by
        show PutAt _ _ _ _ _
        rw [← HDR.out]; exact HPA.out
      clear HPA
      have HCell := Lib.hid (fun (W : World) (hB : Below w.heap.size w W) => show W.cell? ⟨b, off + i, none⟩ = some (.string l[i]) from by
        obtain ⟨b', off', e, _, h⟩ := (HR.out.below hB).str hlt
        injection e with e; injection e with e1 e2; subst e1; subst e2; exact h)
      generalize l[i] = x at *
      cases d
      · cases hc : blt s x
        · have HN := Lib.hid (HPA2.out.pass hc)
          have hg : (!Op.bytesLess x.toList s.toList && !x.toList == s.toList) = false := by rw [gtV]; exact hc
          clear hc HPA2
          go_wp2_with (at_builtin; refine wl_push elemS encS rfl (.tmp 28) (.tmp 33) rfl x #[.string x] rfl w.heap.size _ m rfl HP.out.1 rfl rfl HP.out.2 (by omega) (by omega) HP.out.2.size ?_; intro A3 k3 w3 ho hb _; have HP := Lib.hid (And.intro ho hb); clear ho hb)
          go_roundw
          case rel => exact ⟨i + 1, m ++ [x], A3, k3, false, by omega, by go_num, rfl, by simp, by rw [HTK.out]; exact HN.out, own_len1 HP.out.1, HP.out.2⟩
          case measure => simp [intOf]; omega
        · have HN := Lib.hid (HPA2.out.here HSS.out hc)
          have hg : (!Op.bytesLess x.toList s.toList && !x.toList == s.toList) = true := by rw [gtV]; exact hc
          clear hc HPA2
          obtain ⟨M, hM⟩ : ∃ M, m ++ [s] = M := ⟨_, rfl⟩
          have HML : Hid (M.length = m.length + 1) := by show _ = _; rw [← hM]; simp
          have HM := Lib.hid hM
          clear hM
          go_wp2_with (at_builtin; first | (refine wl_push elemS encS rfl (.tmp 24) (.tmp 26) rfl s #[.string s] rfl w.heap.size _ m rfl HP.out.1 rfl rfl HP.out.2 (by omega) (by omega) HP.out.2.size ?_; intro A3 k3 w3 ho hb _; rw [← HML.out, HM.out] at ho; have HP := Lib.hid (And.intro ho hb); have d1 := HCell.out _ hb; rw [← HML.out]; clear ho hb) | (refine wl_push elemS encS rfl (.tmp 28) (.tmp 33) rfl x #[.string x] rfl w.heap.size _ M rfl HP.out.1 rfl rfl HP.out.2 (by have := HML.out; omega) (by have := HML.out; omega) HP.out.2.size ?_; intro A5 k5 w5 ho hb _; have HP := Lib.hid (And.intro ho hb); clear ho hb))
          go_roundw
          case rel => exact ⟨i + 1, M ++ [x], A5, k5, true, by omega, by go_num, rfl, by simp, by rw [HTK.out, ← HM.out]; exact HN.out, own_len1 HP.out.1, HP.out.2⟩
          case measure => simp [intOf]; omega
      · have HN := Lib.hid (PutAt.then_ HSS.out HPA2.out)
        clear HPA2
        go_wp2_with (at_builtin; refine wl_push elemS encS rfl (.tmp 28) (.tmp 33) rfl x #[.string x] rfl w.heap.size _ m rfl HP.out.1 rfl rfl HP.out.2 (by omega) (by omega) HP.out.2.size ?_; intro A3 k3 w3 ho hb _; have HP := Lib.hid (And.intro ho hb); clear ho hb)
        go_roundw
        case rel => exact ⟨i + 1, m ++ [x], A3, k3, true, by omega, by go_num, rfl, by simp, by rw [HTK.out]; exact HN.out, own_len1 HP.out.1, HP.out.2⟩
        case measure => simp [intOf]; omega
    · obtain rfl : i = l.length := by omega
      have dk : decide ((l.length : Int) < (l.length : Int)) = false := by simp
      have HPA2 : Hid (PutAt s l [] d m) := by
        have h := HPA.out
        rw [List.take_length, List.drop_length] at h; exact h
      clear HPA
      cases d
      · have HN := Lib.hid (PutAt.last HS.out HPA2.out)
        go_wp2_with (at_builtin; refine wl_push elemS encS rfl (.tmp 37) (.tmp 39) rfl s #[.string s] rfl w.heap.size _ m rfl HP.out.1 rfl rfl HP.out.2 (by omega) (by omega) HP.out.2.size ?_; intro A3 k3 w3 ho hb _; have HP := Lib.hid (And.intro ho hb); clear ho hb)
        go_ret
        exact ⟨m ++ [s], A3, k3, by simp, HN.out.1, HN.out.2, own_len1 HP.out.1, HP.out.2⟩
      · have HN := Lib.hid HPA2.out.done
        go_wp2_with fail
        go_ret
        exact ⟨m, A1, c1, rfl, HN.out.1, HN.out.2, HP.out.1, HP.out.2⟩
end Go.Proofs.YtlhmhcidknadmaaGreatDoor
