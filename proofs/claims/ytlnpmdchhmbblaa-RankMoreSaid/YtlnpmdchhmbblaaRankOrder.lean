/- rank.Order. -/
import Derived.Test.YtlnpmdchhmbblaaRankSort
namespace Go.Proofs.Ytlnpmdchhmbblaa
open Go.RowKit

/-- it gives the Ids of these keys, in their order, in memory of its own -/
def GivesO (ks : List Ky) (w : World) (e : Ending) (w' : World) : Prop :=
  ∃ (L : List Ky) (A : Option Addr) (c : Nat), L.Perm ks ∧ (L.Pairwise fun x y => klt y x = false) ∧ e = .returned (.slice A (L.map Ky.id).length c) ∧ Own w' w.heap.size 9 encS (.slice A (L.map Ky.id).length c) (L.map Ky.id) ∧ Below w.heap.size w w'
theorem keysV_any (k : Int) (hk : k = 0 ∨ k = 1 ∨ k = 2) (l : List En) (ks : List Ky) (A : Option Addr) (c : Nat) (s : Sp) (hks : keysD k l s.uses = ks) (w : World) (hr : Rds w encU s.A s.uses) (hl : s.uses.length ≤ 100000) (hs : SortedU s.uses) (hrn : Rds w encN A l) (hln : l.length ≤ 100000) (hx : ∀ x ∈ l, ExOk k x.pod s.uses) :
    Calls Try.prog 38 #[.int .i64 k, .slice A l.length c, .agg s.cells] w (GivesK ks w) := by subst hks; exact keys_any k hk l A c s w hr hl hs hrn hln hx
set_option maxRecDepth 100000 in
set_option maxHeartbeats 16000000 in
theorem order_any (k : Int) (hk : k = 0 ∨ k = 1 ∨ k = 2) (l : List En) (A : Option Addr) (c : Nat) (s : Sp) (w : World) (hr : Rds w encU s.A s.uses) (hl : s.uses.length ≤ 100000) (hs : SortedU s.uses) (hrn : Rds w encN A l) (hln : l.length ≤ 100000) (hx : ∀ x ∈ l, ExOk k x.pod s.uses) :
    Calls Try.prog 26 #[.int .i64 k, .slice A l.length c, .agg s.cells] w (GivesO (keysD k l s.uses) w) := by
  have hkl := keysD_len k l s.uses
  obtain ⟨ks, HKS⟩ : ∃ ks, Hid (keysD k l s.uses = ks) := ⟨_, Lib.hid rfl⟩
  rw [HKS.out] at hkl
  have hkl2 : ks.length ≤ 100000 := by omega
  clear hkl
  have HB0 := Lib.hid ((Below.refl w.heap.size w).alloc (Nat.le_refl _) (.cells s.cells 36))
  have cs := (Blk.new w 36 s.cells).cell
  have HC := Lib.hid (keysV_any k hk l ks A c s HKS.out _ (hr.below HB0.out) hl hs (hrn.below HB0.out) hln hx)
  have HKF := Lib.hid HKS.out
  rw [HKS.out]
  clear hr hrn hs hx hk HKS
  go_enter Try.func26, Try.ntmps26
  go_wp2_with fail
  refine HC.out.mono ?_; rintro e w1 ⟨A1, c1, rfl, hO, hB⟩
  have HP1 := Lib.hid (And.intro (hO.mono (by simp : w.heap.size ≤ _)) (HB0.out.trans (hB.mono (by simp))))
  clear hO hB HC cs HB0
  go_wp2_with fail
  refine (sortK_any ks A1 c1 _ w.heap.size HP1.out.1 hkl2).mono ?_; rintro e w2 ⟨rfl, L, hp, hpw, hO2, hg⟩
  have hb2 : Below w.heap.size w w2 := HP1.out.1.belowGrown HP1.out.2 hg (Nat.le_refl _) HP1.out.2.size
  have HL := Lib.hid (And.intro hp hpw)
  have hll : L.length ≤ 100000 := by rw [hp.length_eq]; exact hkl2
  have hlk : ks.length = L.length := hp.length_eq.symm
  have HP2 := Lib.hid (And.intro hO2 hb2)
  clear hp hpw hO2 hg hb2 HP1 HKF
  rw [hlk]
  clear hlk hkl2
  go_wp2_with fail
  go_loopw [8, 19] (fun out ii wr => ∃ (i : Nat) (m : List ByteArray) (A' : Option Addr) (c' : Nat), i ≤ L.length ∧ ii = .int .i64 i ∧ m = (L.take i).map Ky.id ∧ out = .slice A' m.length c' ∧ Own wr w2.heap.size 9 encS (.slice A' m.length c') m ∧ Below w2.heap.size w2 wr) (fun _ ii _ => L.length - (intOf ii).toNat)
  case atStart => exact ⟨0, [], none, 0, by omega, rfl, rfl, rfl, Own.nil_ _ _ _ _, Below.refl _ _⟩
  case round =>
    obtain ⟨i, m, A', c', hi, rfl, hm', rfl, hO, hB⟩ := hrel
    have hml : m.length ≤ 100000 := by rw [hm', List.length_map, List.length_take]; omega
    have HM := Lib.hid hm'
    have HP := Lib.hid (And.intro hO hB)
    clear hm' hO hB
    by_cases hlt : i < L.length
    · obtain ⟨b0, off, rfl, hb0, c0, c1, c2, c3⟩ := (HP2.out.1.toRds.below HP.out.2).ky hlt
      have dk : decide ((i : Int) < (L.length : Int)) = true := decide_eq_true (by omega)
      have dk2 : (i : Int) < (L.length : Int) := by omega
      have HN : Hid ((L.take (i + 1)).map Ky.id = m ++ [L[i].id]) := by show _ = _; rw [HM.out, List.take_succ_eq_append_getElem hlt, List.map_append]; rfl
      generalize L[i] = x at *
      have HP1 := Lib.hid (And.intro (HP.out.1.alloc (.cells x.cells 66)) (HP.out.2.alloc HP.out.2.size (.cells x.cells 66)))
      clear HP
      go_wp2_with (at_builtin; refine wl_push elemS encS rfl (.tmp 23) (.tmp 26) rfl x.id #[.string x.id] rfl w2.heap.size _ m rfl HP1.out.1 rfl (by simp) HP1.out.2 (by omega) (by omega) HP1.out.2.size ?_; intro A3 k3 w3 ho hb hg; have HX3 := Lib.hid (And.intro ho hb); clear ho hb hg)
      go_roundw
      case rel => exact ⟨i + 1, m ++ [x.id], A3, k3, by omega, by go_num, HN.out.symm, by simp, own_len1 HX3.out.1, HX3.out.2⟩
      case measure => simp [intOf]; omega
    · obtain rfl : i = L.length := by omega
      have dk : decide ((L.length : Int) < (L.length : Int)) = false := by simp
      rw [List.take_length] at HM
      go_wp2_with fail
      go_ret
      exact ⟨L, A', c', HL.out.1, HL.out.2, by rw [← HM.out]; rfl, by rw [← HM.out]; exact HP.out.1.mono HP2.out.2.size, HP2.out.2.trans (HP.out.2.mono HP2.out.2.size)⟩
end Go.Proofs.Ytlnpmdchhmbblaa
