/- victim.apart: those that stay for sure, with the pod; and those that may go, in the order in which they are asked. -/
import Derived.Test.YtlhmhcidknadmaaDoorVStr
import Derived.Test.YtlhmhcidknadmaaDoorPushA
namespace Go.Proofs.YtlhmhcidknadmaaDoor
open Go.RowKit

def stayD (p : Pd) (l : List Pd) : List Pd := p :: l.filter fun v => !mayV p v
def askD (p : Pd) (l : List Pd) : List Pd := l.filter (mayV p)
theorem stayD_snoc (p : Pd) (l : List Pd) (v : Pd) : stayD p (l ++ [v]) = stayD p l ++ (if mayV p v then [] else [v]) := by
  unfold stayD
  rw [List.filter_append, List.cons_append]
  congr 2
  cases h : mayV p v <;> simp [h]
theorem askD_snoc (p : Pd) (l : List Pd) (v : Pd) : askD p (l ++ [v]) = askD p l ++ (if mayV p v then [v] else []) := by
  unfold askD
  rw [List.filter_append]
  congr 1
  cases h : mayV p v <;> simp [h]
theorem stayD_len (p : Pd) (l : List Pd) : (stayD p l).length ≤ l.length + 1 := by
  unfold stayD; rw [List.length_cons]; have := List.length_filter_le (fun v => !mayV p v) l; omega
theorem askD_len (p : Pd) (l : List Pd) : (askD p l).length ≤ l.length := List.length_filter_le _ _
theorem Rds.pdAt {w W : World} {b off : Nat} {l : List Pd} (h : Rds w encP (some ⟨b, off, none⟩) l) (hb : Below w.heap.size w W) {i : Nat} {x : Pd} (hx : l[i]? = some x) : W.cell? ⟨b, off + i * 11, none⟩ = some (.string x.id) ∧ W.cell? ⟨b, off + i * 11 + 1, none⟩ = some (.int .i64 x.prio) ∧ W.cell? ⟨b, off + i * 11 + 2, none⟩ = some (.bool x.crit) ∧ W.cell? ⟨b, off + i * 11 + 3, none⟩ = some (.int .i64 x.q0) ∧ W.cell? ⟨b, off + i * 11 + 4, none⟩ = some (.int .i64 x.q1) ∧ W.cell? ⟨b, off + i * 11 + 5, none⟩ = some (.int .i64 x.q2) ∧ W.cell? ⟨b, off + i * 11 + 6, none⟩ = some (.int .i64 x.l0) ∧ W.cell? ⟨b, off + i * 11 + 7, none⟩ = some (.int .i64 x.l1) ∧ W.cell? ⟨b, off + i * 11 + 8, none⟩ = some (.int .i64 x.l2) ∧ W.cell? ⟨b, off + i * 11 + 9, none⟩ = some (.string x.image) ∧ W.cell? ⟨b, off + i * 11 + 10, none⟩ = some (.int .i64 x.size) := by
  obtain ⟨hi, rfl⟩ := List.getElem?_eq_some_iff.1 hx
  obtain ⟨b', off', hA, _, hc⟩ := (h.below hb).at_ hi
  injection hA with hA
  injection hA with h1 h2
  subst h1 h2
  exact ⟨by have := hc 0 (.string l[i].id) rfl; simpa using this, hc 1 (.int .i64 l[i].prio) rfl, hc 2 (.bool l[i].crit) rfl, hc 3 (.int .i64 l[i].q0) rfl, hc 4 (.int .i64 l[i].q1) rfl, hc 5 (.int .i64 l[i].q2) rfl, hc 6 (.int .i64 l[i].l0) rfl, hc 7 (.int .i64 l[i].l1) rfl, hc 8 (.int .i64 l[i].l2) rfl, hc 9 (.string l[i].image) rfl, hc 10 (.int .i64 l[i].size) rfl⟩
theorem Rds.some_ {w : World} {A : Option Addr} {l : List Pd} (h : Rds w encP A l) {i : Nat} (hi : i < l.length) : ∃ b off, A = some ⟨b, off, none⟩ := by
  obtain ⟨b, off, e, _⟩ := h.at_ hi
  exact ⟨b, off, e⟩
/-- it gives these that stay, and these that are asked, each in memory of its own -/
def GivesA (p : Pd) (l : List Pd) (w : World) (e : Ending) (w' : World) : Prop :=
  ∃ (K : List Pd) (A1 A2 : Option Addr) (c1 c2 : Nat), K.Perm (askD p l) ∧ (K.Pairwise fun x y => vlt y x = false) ∧ e = .returned (.tuple #[.slice A1 (stayD p l).length c1, .slice A2 K.length c2]) ∧
    Own w' w.heap.size 29 encP (.slice A1 (stayD p l).length c1) (stayD p l) ∧ Own w' w.heap.size 29 encP (.slice A2 K.length c2) K ∧ Below w.heap.size w w'
set_option maxRecDepth 100000 in
set_option maxHeartbeats 8000000 in
theorem apart_any (p : Pd) (l : List Pd) (A : Option Addr) (c : Nat) (w : World) (hr : Rds w encP A l) (hn : l.length ≤ 50000) :
    Calls Tryd.prog 33 #[.slice A l.length c, .agg p.cells] w (GivesA p l w) := by
  have HR := Lib.hid hr
  clear hr
  have hbp := Blk.new w 29 p.cells
  have HB0 : Hid (Below w.heap.size w (w.alloc (.cells p.cells 29))) := (Below.refl _ _).alloc (Nat.le_refl _) _
  have hz0 : (w.alloc (.cells p.cells 29)).heap.size = w.heap.size + 1 := by simp
  have cp := hbp.cell
  have HS0 := Lib.hid (Own.made (w.alloc (.cells p.cells 29)) (w.alloc (.cells p.cells 29)).heap.size 29 encP [p] #[.string p.id, .int .i64 p.prio, .bool p.crit, .int .i64 p.q0, .int .i64 p.q1, .int .i64 p.q2, .int .i64 p.l0, .int .i64 p.l1, .int .i64 p.l2, .string p.image, .int .i64 p.size] rfl (Nat.le_refl _) (by simp))
  have HS1 : Hid (Below (w.alloc (.cells p.cells 29)).heap.size (w.alloc (.cells p.cells 29)) ((w.alloc (.cells p.cells 29)).alloc (.cells #[.string p.id, .int .i64 p.prio, .bool p.crit, .int .i64 p.q0, .int .i64 p.q1, .int .i64 p.q2, .int .i64 p.l0, .int .i64 p.l1, .int .i64 p.l2, .string p.image, .int .i64 p.size] 29))) := (Below.refl _ _).alloc (Nat.le_refl _) _
  rw [hz0] at HS0
  have HBP := Lib.hid hbp
  clear hbp
  go_enter Tryd.func33, Tryd.ntmps33
  go_wp2_with fail
  obtain ⟨W0, hW0⟩ : ∃ W0, W0 = w.alloc (.cells #[.string p.id, .int .i64 p.prio, .bool p.crit, .int .i64 p.q0, .int .i64 p.q1, .int .i64 p.q2, .int .i64 p.l0, .int .i64 p.l1, .int .i64 p.l2, .string p.image, .int .i64 p.size] 29) := ⟨_, rfl⟩
  have HI : Hid (Own (W0.alloc (.cells #[.string p.id, .int .i64 p.prio, .bool p.crit, .int .i64 p.q0, .int .i64 p.q1, .int .i64 p.q2, .int .i64 p.l0, .int .i64 p.l1, .int .i64 p.l2, .string p.image, .int .i64 p.size] 29)) W0.heap.size 29 encP (.slice (some ⟨w.heap.size + 1, 0, none⟩) 1 1) [p] ∧ Below W0.heap.size W0 (W0.alloc (.cells #[.string p.id, .int .i64 p.prio, .bool p.crit, .int .i64 p.q0, .int .i64 p.q1, .int .i64 p.q2, .int .i64 p.l0, .int .i64 p.l1, .int .i64 p.l2, .string p.image, .int .i64 p.size] 29)) ∧ Blk W0 w.heap.size 29 #[.string p.id, .int .i64 p.prio, .bool p.crit, .int .i64 p.q0, .int .i64 p.q1, .int .i64 p.q2, .int .i64 p.l0, .int .i64 p.l1, .int .i64 p.l2, .string p.image, .int .i64 p.size] ∧ Below w.heap.size w W0 ∧ W0.heap.size = w.heap.size + 1) := by
    subst hW0
    exact ⟨by rw [hz0]; exact HS0.out, HS1.out, HBP.out, HB0.out, hz0⟩
  rw [← hW0]
  clear hW0 HS0 HS1 HBP HB0 hz0 cp
  go_loopw [6, 7, 14] (fun st ak ii wr => ∃ (i : Nat) (S K : List Pd) (A1 A2 : Option Addr) (c1 c2 : Nat), i ≤ l.length ∧ ii = .int .i64 i ∧ S = stayD p (l.take i) ∧ K = askD p (l.take i) ∧ st = .slice A1 S.length c1 ∧ ak = .slice A2 K.length c2 ∧ Own wr W0.heap.size 29 encP (.slice A1 S.length c1) S ∧ Own wr W0.heap.size 29 encP (.slice A2 K.length c2) K ∧ Apart (.slice A2 K.length c2) (.slice A1 S.length c1) ∧ Below W0.heap.size W0 wr) (fun _ _ ii _ => l.length - (intOf ii).toNat)
  case atStart => exact ⟨0, [p], [], some ⟨w.heap.size + 1, 0, none⟩, none, 1, 0, by omega, rfl, rfl, rfl, rfl, rfl, HI.out.1, Own.nil_ _ _ _ _, Apart.nilL _, HI.out.2.1⟩
  case round =>
    obtain ⟨i, S, K, A1, A2, c1, c2, hi, rfl, hS, hK, rfl, rfl, hos, hok, hap, hbl⟩ := hrel
    have hSl : S.length ≤ 50001 := by have := stayD_len p (l.take i); rw [← hS, List.length_take] at this; omega
    have hKl : K.length ≤ 50000 := by have := askD_len p (l.take i); rw [← hK, List.length_take] at this; omega
    have HSK := Lib.hid (And.intro hS hK)
    have HP := Lib.hid (And.intro hos (And.intro hok (And.intro hap hbl)))
    clear hS hK hos hok hap hbl
    by_cases hlt : i < l.length
    · have dk : decide ((i : Int) < (l.length : Int)) = true := decide_eq_true (by omega)
      have dk2 : (i : Int) < (l.length : Int) := by omega
      obtain ⟨b, off, hA⟩ := HR.out.some_ hlt
      obtain rfl : A = some ⟨b, off, none⟩ := hA
      have HXI := Lib.hid (List.getElem?_eq_getElem hlt)
      have HSN := Lib.hid (show stayD p (l.take (i + 1)) = S ++ (if mayV p l[i] then [] else [l[i]]) by rw [List.take_succ_eq_append_getElem hlt, stayD_snoc, ← HSK.out.1])
      have HKN := Lib.hid (show askD p (l.take (i + 1)) = K ++ (if mayV p l[i] then [l[i]] else []) by rw [List.take_succ_eq_append_getElem hlt, askD_snoc, ← HSK.out.2])
      generalize l[i] = x at *
      have HBw : Hid (Below w.heap.size w wr) := HI.out.2.2.2.1.trans (HP.out.2.2.2.mono (by have := HI.out.2.2.2.2; omega))
      obtain ⟨x0, x1, x2, x3, x4, x5, x6, x7, x8, x9, x10⟩ := HR.out.pdAt HBw.out HXI.out
      have HP1 := Lib.hid (And.intro (HP.out.1.alloc (.cells #[.string x.id, .int .i64 x.prio, .bool x.crit, .int .i64 x.q0, .int .i64 x.q1, .int .i64 x.q2, .int .i64 x.l0, .int .i64 x.l1, .int .i64 x.l2, .string x.image, .int .i64 x.size] 29)) (And.intro (HP.out.2.1.alloc (.cells #[.string x.id, .int .i64 x.prio, .bool x.crit, .int .i64 x.q0, .int .i64 x.q1, .int .i64 x.q2, .int .i64 x.l0, .int .i64 x.l1, .int .i64 x.l2, .string x.image, .int .i64 x.size] 29)) (And.intro HP.out.2.2.1 (HP.out.2.2.2.alloc HP.out.2.2.2.size (.cells #[.string x.id, .int .i64 x.prio, .bool x.crit, .int .i64 x.q0, .int .i64 x.q1, .int .i64 x.q2, .int .i64 x.l0, .int .i64 x.l1, .int .i64 x.l2, .string x.image, .int .i64 x.size] 29)))))
      have HBX := Lib.hid (Blk.new wr 29 #[.string x.id, .int .i64 x.prio, .bool x.crit, .int .i64 x.q0, .int .i64 x.q1, .int .i64 x.q2, .int .i64 x.l0, .int .i64 x.l1, .int .i64 x.l2, .string x.image, .int .i64 x.size])
      have cx := HBX.out.cell
      have HBP1 : Hid (Blk (wr.alloc (.cells #[.string x.id, .int .i64 x.prio, .bool x.crit, .int .i64 x.q0, .int .i64 x.q1, .int .i64 x.q2, .int .i64 x.l0, .int .i64 x.l1, .int .i64 x.l2, .string x.image, .int .i64 x.size] 29)) w.heap.size 29 #[.string p.id, .int .i64 p.prio, .bool p.crit, .int .i64 p.q0, .int .i64 p.q1, .int .i64 p.q2, .int .i64 p.l0, .int .i64 p.l1, .int .i64 p.l2, .string p.image, .int .i64 p.size]) := HI.out.2.2.1.below HP1.out.2.2.2 (by have := HI.out.2.2.2.2; omega)
      have cp1 := HBP1.out.cell
      clear HSK HP
      cases hm : mayV p x
      · have HM := Lib.hid hm
        have HN : Hid (stayD p (l.take (i + 1)) = S ++ [x] ∧ askD p (l.take (i + 1)) = K) := ⟨by rw [HSN.out, hm]; rfl, by rw [HKN.out, hm]; simp⟩
        clear hm HSN HKN
        go_wp2_with fail
        refine (vmayV HM.out _).mono ?_; rintro e w2 ⟨rfl, hb⟩
        have HP2 := Lib.hid (And.intro (HP1.out.1.below hb (Nat.le_refl _)) (And.intro (HP1.out.2.1.below hb (Nat.le_refl _)) (And.intro HP1.out.2.2.1 (HP1.out.2.2.2.trans (hb.mono HP1.out.2.2.2.size)))))
        have HBX2 := Lib.hid (HBX.out.belowAll hb)
        clear hb cx cp1 x0 x1 x2 x3 x4 x5 x6 x7 x8 x9 x10 HP1 HBX HBP1
        have cx2 := HBX2.out.cell
        go_wp2_with (at_builtin; refine wl_pushA elemP encP rfl (.tmp 25) (.tmp 27) rfl x #[.string x.id, .int .i64 x.prio, .bool x.crit, .int .i64 x.q0, .int .i64 x.q1, .int .i64 x.q2, .int .i64 x.l0, .int .i64 x.l1, .int .i64 x.l2, .string x.image, .int .i64 x.size] rfl W0.heap.size _ S rfl HP2.out.1 rfl rfl HP2.out.2.2.2 (by omega) (by omega) HP2.out.2.2.2.size ?_; intro A3 k3 w3 ho hb hg hd; have HX3 := Lib.hid (And.intro ho (And.intro ((HP2.out.2.1.alloc _).grown hg HP2.out.2.2.1.symm.ne) (And.intro (HP2.out.2.2.1.symm.next hd fun g hg => by have := (HP2.out.2.1.block_lt g hg).2; omega).symm hb))); clear ho hb hg hd)
        go_roundw
        case rel => exact ⟨i + 1, S ++ [x], K, A3, A2, k3, c2, by omega, by go_num, HN.out.1.symm, HN.out.2.symm, by simp, rfl, own_len1 HX3.out.1, HX3.out.2.1, by rw [List.length_append]; exact HX3.out.2.2.1, HX3.out.2.2.2⟩
        case measure => simp [intOf]; omega
      · have HM := Lib.hid hm
        have HN : Hid (stayD p (l.take (i + 1)) = S ∧ askD p (l.take (i + 1)) = K ++ [x]) := ⟨by rw [HSN.out, hm]; simp, by rw [HKN.out, hm]; rfl⟩
        clear hm HSN HKN
        go_wp2_with fail
        refine (vmayV HM.out _).mono ?_; rintro e w2 ⟨rfl, hb⟩
        have HP2 := Lib.hid (And.intro (HP1.out.1.below hb (Nat.le_refl _)) (And.intro (HP1.out.2.1.below hb (Nat.le_refl _)) (And.intro HP1.out.2.2.1 (HP1.out.2.2.2.trans (hb.mono HP1.out.2.2.2.size)))))
        have HBX2 := Lib.hid (HBX.out.belowAll hb)
        clear hb cx cp1 x0 x1 x2 x3 x4 x5 x6 x7 x8 x9 x10 HP1 HBX HBP1
        have cx2 := HBX2.out.cell
        go_wp2_with (at_builtin; refine wl_pushA elemP encP rfl (.tmp 21) (.tmp 23) rfl x #[.string x.id, .int .i64 x.prio, .bool x.crit, .int .i64 x.q0, .int .i64 x.q1, .int .i64 x.q2, .int .i64 x.l0, .int .i64 x.l1, .int .i64 x.l2, .string x.image, .int .i64 x.size] rfl W0.heap.size _ K rfl HP2.out.2.1 rfl rfl HP2.out.2.2.2 (by omega) (by omega) HP2.out.2.2.2.size ?_; intro A3 k3 w3 ho hb hg hd; have HX3 := Lib.hid (And.intro ((HP2.out.1.alloc _).grown hg HP2.out.2.2.1.ne) (And.intro ho (And.intro (HP2.out.2.2.1.next hd fun g hg => by have := (HP2.out.1.block_lt g hg).2; omega) hb))); clear ho hb hg hd)
        go_roundw
        case rel => exact ⟨i + 1, S, K ++ [x], A1, A3, c1, k3, by omega, by go_num, HN.out.1.symm, HN.out.2.symm, rfl, by simp, HX3.out.1, own_len1 HX3.out.2.1, by rw [List.length_append]; exact HX3.out.2.2.1, HX3.out.2.2.2⟩
        case measure => simp [intOf]; omega
    · obtain rfl : i = l.length := by omega
      have dk : decide ((l.length : Int) < (l.length : Int)) = false := by simp
      rw [List.take_length] at HSK
      go_wp2_with fail
      refine (sortV_any K A2 c2 wr W0.heap.size HP.out.2.1 (by omega)).mono ?_; rintro e w2 ⟨rfl, K', hperm, hsorted, hown2, hgrow2⟩
      have hbl2 := HP.out.2.1.belowGrown HP.out.2.2.2 hgrow2 (Nat.le_refl _) HP.out.2.2.2.size
      have hKl2 : K'.length = K.length := hperm.length_eq
      have HF := Lib.hid (And.intro (HP.out.1.grown hgrow2 HP.out.2.2.1.ne) (And.intro hown2 hbl2))
      have HPS := Lib.hid (And.intro hperm hsorted)
      have hw0 : w.heap.size ≤ W0.heap.size := by have := HI.out.2.2.2.2; omega
      clear hperm hsorted hown2 hgrow2 hbl2 HP
      rw [hKl2] at HF
      go_wp2_with fail
      go_ret2
      refine ⟨K', A1, A2, c1, c2, by rw [← HSK.out.2]; exact HPS.out.1, HPS.out.2, by rw [← HSK.out.1, hKl2]; rfl, by rw [← HSK.out.1]; exact HF.out.1.mono hw0, by rw [hKl2]; exact HF.out.2.1.mono hw0, HI.out.2.2.2.1.trans (HF.out.2.2.mono hw0)⟩
end Go.Proofs.YtlhmhcidknadmaaDoor
