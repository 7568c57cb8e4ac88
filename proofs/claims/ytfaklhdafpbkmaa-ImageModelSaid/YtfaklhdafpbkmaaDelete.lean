/- slices.Delete of one image out of a row of one's own; slices.Clone. -/
import Derived.Test.YtfaklhdafpbkmaaInsert
namespace Go.Proofs.Ytfaklhdafpbkmaa
open Go.RowKit

def delI (l : List Im) (i : Nat) : List Im := l.take i ++ l.drop (i + 1)
theorem delI_len (l : List Im) (i : Nat) (hi : i < l.length) : (delI l i).length = l.length - 1 := by unfold delI; simp; omega
def Deletes (l : List Im) (i : Nat) (A : Option Addr) (c base : Nat) (w : World) (e : Ending) (w' : World) : Prop :=
  ∃ A' c', e = .returned (.slice A' (l.length - 1) c') ∧ Own w' base 46 encI (.slice A' (l.length - 1) c') (delI l i) ∧ w.grownBy w' (Value.slice A l.length c).ownBlock
section
variable {l : List Im} {i : Nat} {A : Option Addr} {c base : Nat} {w : World}
set_option maxHeartbeats 8000000 in
set_option maxRecDepth 100000 in
theorem delete_any (hown : Own w base 46 encI (.slice A l.length c) l) (hl : l.length ≤ 100000) (hi : i < l.length) :
    Calls Try.prog 61 #[.slice A l.length c, .int .i64 i, .int .i64 ((i : Int) + 1)] w (Deletes l i A c base w) := by
  have hne : l ≠ [] := by intro e; subst e; simp at hi
  obtain ⟨g, cap, cura, hval, hge, hg, hncap, hmax, hcs, htake⟩ := own_row hown hne
  injection hval with hA _ hcap
  subst hA
  subst hcap
  have hall := own_all hown
  obtain ⟨n, hn⟩ : ∃ n, n = l.length := ⟨_, rfl⟩
  unfold Deletes
  rw [← hn] at hown hi hl hncap htake ⊢
  obtain ⟨cur, hcur⟩ : ∃ cur : List Value, cur = cura.toList := ⟨_, rfl⟩
  have hgc : cura = cur.toArray := by rw [hcur]
  rw [hgc] at hg hcs
  rw [← hcur] at htake
  have hcl : cur.length = c * 3 := by simpa using hcs
  clear hgc hcur hcs
  obtain ⟨i0, hi0, hz0, hzs, hzb⟩ := infoIm
  have hdl : (encI.all (l.drop (i + 1))).length = (n - (i + 1)) * 3 := by rw [encI.all_len, List.length_drop]; omega
  have hct : cur.take (i * 3) = encI.all (l.take i) := by
    rw [encI.all_take l i (by omega), ← htake, List.take_take, Nat.min_eq_left (by omega)]
  have hc63 : c ≤ 9223372036854775807 := by simpa only [maxLen] using hmax
  obtain ⟨hB2, hg2, hs2⟩ := setCells_blk g 46 (encI.all (l.drop (i + 1))) (i * 3) w.drew cur (by rw [hdl, hcl]; omega) hg.drew
  have hz3 : (Value.agg #[.string ⟨#[]⟩, .int .i64 0, .int .i64 0]).cells.size = 3 := rfl
  have hcut : (cur.take (i * 3) ++ encI.all (l.drop (i + 1)) ++ cur.drop (i * 3 + (encI.all (l.drop (i + 1))).length)).length = c * 3 := by rw [splice_len _ _ _ (by rw [hdl, hcl]; omega), hcl]
  obtain ⟨W2, hW2⟩ : ∃ W2, W2 = w.drew.setCells g (i * 3) (encI.all (l.drop (i + 1))) := ⟨_, rfl⟩
  rw [← hW2] at hB2 hg2 hs2
  obtain ⟨W3, zs, hC, hzl, hB3, hg3, hs3⟩ := clear_blk (P := Try.prog) W2 39 0 46 46 i0 _ Try.underlying39 hi0 hz0 zI_one (by rw [hz3]; omega) g ((n - 1) * 3) 1 (c - (n - 1)) (by omega) _ hB2 (by rw [hcut, hz3]; omega)
  have hgr : w.grownBy W3 (some g) := ⟨hg3.os.trans hg2.os, hg3.tape.trans hg2.tape, hg3.output.trans hg2.output, by rw [hs3, hs2]; exact Nat.le_refl _, fun k hk hne => (hg3.block k (by rw [hs2]; exact hk) hne).trans (hg2.block k hk hne)⟩
  have hrun : (Builtin.append_ #[39, 39] 39 #[.slice (some ⟨g, 0, none⟩) i c, .slice (if c = i + 1 then some ⟨g, 0, none⟩ else some ⟨g, (i + 1) * 3, none⟩) (n - (i + 1)) (c - (i + 1))]).run Try.prog w.drew = .ok (.slice (some ⟨g, 0, none⟩) (n - 1) c) W2 := by
    have hsm : i + (n - (i + 1)) = n - 1 := by omega
    have key : ∀ (ad : Addr), (∀ j v, (encI.all (l.drop (i + 1)))[j]? = some v → w.drew.cell? (ad.add j) = some v) → (Builtin.append_ #[39, 39] 39 #[.slice (some ⟨g, 0, none⟩) i c, .slice (some ad) (n - (i + 1)) (c - (i + 1))]).run Try.prog w.drew = .ok (.slice (some ⟨g, 0, none⟩) (n - 1) c) W2 := fun ad had => by
      have h := run_append_room_cells (P := Try.prog) w.drew 39 39 46 i0 Try.underlying39 hi0 g 0 i c ad (n - (i + 1)) (c - (i + 1)) (encI.all (l.drop (i + 1))) (by rw [hdl, hzs]) had (encI.all_oneCell _) (by omega)
        (fun j hj => by
          rw [hdl] at hj
          rw [hg.drew.cell, List.getElem?_toArray, hzs, List.getElem?_eq_getElem (by omega)]; simp) (fun j _ => hg.drew.frozen _)
      rw [hsm, hzs, Nat.zero_add, ← hW2] at h
      exact h
    split
    · refine key _ fun j v hj => ?_
      have : (encI.all (l.drop (i + 1))).length = 0 := by rw [hdl, show n - (i + 1) = 0 by omega]
      have := (List.getElem?_eq_some_iff.1 hj).1
      omega
    · refine key _ fun j v hj => ?_
      rw [add_mk]
      show w.cell? _ = _
      rw [all_drop_at encI l (i + 1) j (by omega)] at hj
      exact hall _ v hj
  have HP : Hid (Own W3 base 46 encI (.slice (some ⟨g, 0, none⟩) (n - 1) c) (delI l i) ∧ w.grownBy W3 (some g)) := by
    refine ⟨?_, hgr⟩
    have hil := delI_len l i (by omega)
    rw [← hn] at hil
    rw [← hil]
    refine ⟨encI.all_len _, .inr ⟨g, c, _, rfl, hge, hB3, by omega, hmax, ?_, ?_⟩⟩
    · rw [List.size_toArray, ← hzl, splice_len, hcut]
      rw [hcut, hzl, hz3]; omega
    · rw [hil]
      have e1 : ∀ (q zs r : List Value) (k : Nat), k ≤ q.length → (q.take k ++ zs ++ r).take k = q.take k := fun q zs r k hk => by
        rw [List.append_assoc, List.take_append_of_le_length (by rw [List.length_take]; omega), List.take_take, Nat.min_self]
      rw [e1 _ _ _ _ (by rw [hcut]; omega), List.take_left' (by rw [List.length_append, List.length_take, hdl, hcl]; omega), hct]
      unfold delI
      rw [encI.all_append]
  have HC := Lib.hid hC
  have HRUN := Lib.hid hrun
  have hw1 : IntKind.i64.wrap ((i : Int) + 1) = (i : Int) + 1 := by rw [IntKind.wrap_i64]; omega
  have hz2 : ((i : Int) == (i : Int) + 1) = false := beq_eq_false_iff_ne.2 (by omega)
  have hb4 : (0 : Int) ≤ (i : Int) + 1 := by omega
  have hb5 : (i : Int) + 1 ≤ (n : Int) := by omega
  have htn : ((i : Int) + 1).toNat = i + 1 := by omega
  have hb6 : n - 1 ≤ n := by omega
  have hb7 : ¬ (c = n - 1) := by omega
  have hb8 : n - (n - 1) = 1 := by omega
  have hb9 : ((n - 1 : Nat) : Int) ≤ (n : Int) := by omega
  have hin : i ≤ n := by omega
  have hic : i ≤ c := by omega
  have hic1 : i + 1 ≤ c := by omega
  have hic2 : (i : Int) ≤ (c : Int) := by omega
  have hnc : n ≤ c := by omega
  clear hall hdl hi0 hz0 hzs hzb hC hg hB2 hB3 hg2 hg3 hs2 hs3 hgr hct hcl hcut hzl hn hown hrun htake hW2
  have mixed : Try.prog.follows Departure.mixedOrders = true := by kernel_rfl
  by_cases hce : c = i + 1
  · rw [if_pos hce] at HRUN
    subst hce
    rw [Nat.sub_self] at HRUN
    have hii : (i : Int) ≤ (i : Int) + 1 := by omega
    go_enter Try.func61, Try.ntmps61
    go_wp2_with fail
    go_region_law_o (refine step_append_run rfl (.tmp 22) (.tmp 25) 39 39 rfl _ _ (by simp [Act.eval, Act.put]) (by simp [Act.eval, Act.put]; omega) HRUN.out ?_)
    go_wp2_with (refine wl_clear_run rfl (.tmp 31) 39 rfl _ rfl HC.out ?_)
    go_ret
    exact ⟨_, _, rfl, HP.out.1, HP.out.2⟩
  · rw [if_neg hce] at HRUN
    go_enter Try.func61, Try.ntmps61
    go_wp2_with fail
    go_region_law_o (refine step_append_run rfl (.tmp 22) (.tmp 25) 39 39 rfl _ _ (by simp [Act.eval, Act.put]) (by simp [Act.eval, Act.put]) HRUN.out ?_)
    go_wp2_with (refine wl_clear_run rfl (.tmp 31) 39 rfl _ rfl HC.out ?_)
    go_ret
    exact ⟨_, _, rfl, HP.out.1, HP.out.2⟩
end

set_option maxRecDepth 100000 in
/-- slices.Clone -/
theorem clone_any (l : List Im) (A : Option Addr) (c : Nat) (w : World) (hr : Rds w encI A l) (hl : l.length ≤ 100000) :
    Calls Try.prog 59 #[.slice A l.length c] w fun e w' => ∃ A' c', e = .returned (.slice A' l.length c') ∧ Own w' w.heap.size 46 encI (.slice A' l.length c') l ∧ Below w.heap.size w w' := by
  have HR := Lib.hid hr
  clear hr
  have q22 : ∀ (w : World) (a : Option Addr) (n c n' c' : Nat), (binOp .eql 39 (.slice a n c) (.slice none n' c')).run Try.prog w = .ok (.bool a.isNone) w := fun w a n c n' c' => Lib.run_eql_slice_nil w _ _ a n c n' c' Try.underlying39
  cases A with
  | none =>
    have hl0 : l = [] := by
      rcases List.eq_nil_or_concat l with h | ⟨l', x, h⟩
      · exact h
      · obtain ⟨b, off, h2, _⟩ := HR.out (by rw [h]; simp)
        cases h2
    subst hl0
    have HO := Lib.hid (Own.nil_ w w.heap.size 46 encI)
    go_enter Try.func59, Try.ntmps59
    go_wp2_with fail
    go_ret
    exact ⟨none, 0, rfl, HO.out, Below.refl _ _⟩
  | some a =>
    go_enter Try.func59, Try.ntmps59
    go_wp2_with (at_builtin; refine wl_copy elemI encI rfl (.tmp 5) (.tmp 6) rfl rfl _ l c rfl HR.out (by omega) (by omega) ?_; intro A1 k1 w1 ho hb; have HX := Lib.hid (And.intro ho hb); clear ho hb)
    go_ret
    exact ⟨A1, k1, rfl, HX.out.1, HX.out.2⟩
end Go.Proofs.Ytfaklhdafpbkmaa
