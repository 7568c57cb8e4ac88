/- bilgeref21.Fixed: those that may not go for a pod, and the pod. -/
import Derived.Test.YtlhmhcidknadmaaDoorVPlain2
namespace Go.Proofs.YtlhmhcidknadmaaDoor
open Go.RowKit

def fixD (p : Pd) (l : List Pd) : List Pd := (l.filter fun v => !mayV p v) ++ [p]
def fixT (p : Pd) (l : List Pd) : List Pd := l.filter fun v => !mayV p v
theorem fixT_snoc (p : Pd) (l : List Pd) (v : Pd) : fixT p (l ++ [v]) = fixT p l ++ (if mayV p v then [] else [v]) := by
  unfold fixT
  rw [List.filter_append]
  congr 1
  cases h : mayV p v <;> simp [h]
theorem fixT_len (p : Pd) (l : List Pd) : (fixT p l).length ≤ l.length := List.length_filter_le _ _
theorem fixD_stay (p : Pd) (l : List Pd) : (fixD p l).Perm (stayD p l) := List.perm_append_comm
structure GQ (p : Pd) (w W : World) : Prop where
  pb : Blk W (w.heap.size) 29 #[.string p.id, .int .i64 p.prio, .bool p.crit, .int .i64 p.q0, .int .i64 p.q1, .int .i64 p.q2, .int .i64 p.l0, .int .i64 p.l1, .int .i64 p.l2, .string p.image, .int .i64 p.size]
  bel : Below w.heap.size w W
theorem GQ.below {p : Pd} {w W W' : World} (h : GQ p w W) (hb : Below W.heap.size W W') : GQ p w W' := ⟨h.pb.belowAll hb, h.bel.trans (hb.mono h.bel.size)⟩
theorem GQ.alloc {p : Pd} {w W : World} (h : GQ p w W) (o : Obj) : GQ p w (W.alloc o) := ⟨h.pb.alloc o, h.bel.alloc h.bel.size o⟩
theorem GQ.drew {p : Pd} {w W : World} (h : GQ p w W) : GQ p w W.drew := ⟨h.pb.drew, h.bel.drew⟩
theorem GQ.new (p : Pd) (w : World) : GQ p w (w.alloc (.cells #[.string p.id, .int .i64 p.prio, .bool p.crit, .int .i64 p.q0, .int .i64 p.q1, .int .i64 p.q2, .int .i64 p.l0, .int .i64 p.l1, .int .i64 p.l2, .string p.image, .int .i64 p.size] 29)) := by
  have b0 := Blk.new w 29 #[.string p.id, .int .i64 p.prio, .bool p.crit, .int .i64 p.q0, .int .i64 p.q1, .int .i64 p.q2, .int .i64 p.l0, .int .i64 p.l1, .int .i64 p.l2, .string p.image, .int .i64 p.size]
  have bel : Below w.heap.size w (w.alloc (.cells #[.string p.id, .int .i64 p.prio, .bool p.crit, .int .i64 p.q0, .int .i64 p.q1, .int .i64 p.q2, .int .i64 p.l0, .int .i64 p.l1, .int .i64 p.l2, .string p.image, .int .i64 p.size] 29)) := (Below.refl w.heap.size w).alloc (Nat.le_refl _) _
  exact ⟨b0, bel⟩

set_option maxRecDepth 100000 in
set_option maxHeartbeats 8000000 in
theorem fixed_any (p : Pd) (l : List Pd) (A : Option Addr) (c : Nat) (w : World) (hr : Rds w encP A l) (hn : l.length ≤ 50000) :
    Calls Tryd.prog 16 #[.slice A l.length c, .agg p.cells] w fun e w' => ∃ A c, e = .returned (.slice A (fixD p l).length c) ∧ Own w' w.heap.size 29 encP (.slice A (fixD p l).length c) (fixD p l) ∧ Below w.heap.size w w' := by
  have HQ0 := Lib.hid (GQ.new p w)
  have HR := Lib.hid hr
  clear hr
  go_enter Tryd.func16, Tryd.ntmps16
  go_wp2_with fail
  generalize (w.alloc (.cells #[.string p.id, .int .i64 p.prio, .bool p.crit, .int .i64 p.q0, .int .i64 p.q1, .int .i64 p.q2, .int .i64 p.l0, .int .i64 p.l1, .int .i64 p.l2, .string p.image, .int .i64 p.size] 29)) = W1 at *
  go_loopw [5, 6] (fun st ii wr => ∃ (i : Nat) (A : Option Addr) (c : Nat), i ≤ l.length ∧ ii = .int .i64 i ∧ st = .slice A (fixT p (l.take i)).length c ∧ Own wr W1.heap.size 29 encP (.slice A (fixT p (l.take i)).length c) (fixT p (l.take i)) ∧ Below W1.heap.size W1 wr) (fun _ ii _ => l.length - (intOf ii).toNat)
  case atStart => exact ⟨0, none, 0, by omega, rfl, rfl, Own.nil_ _ _ _ _, Below.refl _ _⟩
  case round =>
    obtain ⟨i, A1, c1, hi, rfl, rfl, ho, hbl⟩ := hrel
    have HQ := Lib.hid (HQ0.out.below hbl)
    have HP := Lib.hid (And.intro ho hbl)
    have HRi := Lib.hid (HR.out.below HQ.out.bel)
    clear ho hbl
    have hsl := fixT_len p (l.take i)
    rw [List.length_take] at hsl
    by_cases hlt : i < l.length
    · have dk : decide ((i : Int) < (l.length : Int)) = true := decide_eq_true (by omega)
      have dk2 : (i : Int) < (l.length : Int) := by omega
      obtain ⟨b, off, hA⟩ := HR.out.some_ hlt
      obtain rfl : A = some ⟨b, off, none⟩ := hA
      have HXI := Lib.hid (List.getElem?_eq_getElem hlt)
      have HSN := Lib.hid (show fixT p (l.take (i + 1)) = fixT p (l.take i) ++ (if mayV p l[i] then [] else [l[i]]) by rw [List.take_succ_eq_append_getElem hlt, fixT_snoc])
      generalize fixT p (l.take i) = S at *
      generalize l[i] = x at *
      cases hm2 : mayV p x
      · have HM := Lib.hid hm2
        have HN2 : Hid (fixT p (l.take (i + 1)) = S ++ [x]) := by show _ = _; rw [HSN.out, hm2]; rfl
        clear hm2 HSN
        go_wp2_with fail
        have HQd := Lib.hid HQ.out.drew
        obtain ⟨x0, x1, x2, x3, x4, x5, x6, x7, x8, x9, x10⟩ := HRi.out.drew.pdAt (Below.refl _ _) HXI.out
        obtain ⟨y0, y1, y2, y3, y4, y5, y6, y7, y8, y9, y10⟩ := HQd.out.pb.pd
        refine wp_region_held_drew (S := (fun w' => w'.cell? ⟨w.heap.size, 0, none⟩ = some (.string p.id) ∧ w'.cell? ⟨w.heap.size, 1, none⟩ = some (.int .i64 p.prio) ∧ w'.cell? ⟨w.heap.size, 2, none⟩ = some (.bool p.crit) ∧ w'.cell? ⟨w.heap.size, 3, none⟩ = some (.int .i64 p.q0) ∧ w'.cell? ⟨w.heap.size, 4, none⟩ = some (.int .i64 p.q1) ∧ w'.cell? ⟨w.heap.size, 5, none⟩ = some (.int .i64 p.q2) ∧ w'.cell? ⟨w.heap.size, 6, none⟩ = some (.int .i64 p.l0) ∧ w'.cell? ⟨w.heap.size, 7, none⟩ = some (.int .i64 p.l1) ∧ w'.cell? ⟨w.heap.size, 8, none⟩ = some (.int .i64 p.l2) ∧ w'.cell? ⟨w.heap.size, 9, none⟩ = some (.string p.image) ∧ w'.cell? ⟨w.heap.size, 10, none⟩ = some (.int .i64 p.size) ∧ w'.cell? ⟨b, off + i * 11, none⟩ = some (.string x.id) ∧ w'.cell? ⟨b, off + i * 11 + 1, none⟩ = some (.int .i64 x.prio) ∧ w'.cell? ⟨b, off + i * 11 + 2, none⟩ = some (.bool x.crit) ∧ w'.cell? ⟨b, off + i * 11 + 3, none⟩ = some (.int .i64 x.q0) ∧ w'.cell? ⟨b, off + i * 11 + 4, none⟩ = some (.int .i64 x.q1) ∧ w'.cell? ⟨b, off + i * 11 + 5, none⟩ = some (.int .i64 x.q2) ∧ w'.cell? ⟨b, off + i * 11 + 6, none⟩ = some (.int .i64 x.l0) ∧ w'.cell? ⟨b, off + i * 11 + 7, none⟩ = some (.int .i64 x.l1) ∧ w'.cell? ⟨b, off + i * 11 + 8, none⟩ = some (.int .i64 x.l2) ∧ w'.cell? ⟨b, off + i * 11 + 9, none⟩ = some (.string x.image) ∧ w'.cell? ⟨b, off + i * 11 + 10, none⟩ = some (.int .i64 x.size))) (by kernel_rfl) (⟨y0, y1, y2, y3, y4, y5, y6, y7, y8, y9, y10, x0, x1, x2, x3, x4, x5, x6, x7, x8, x9, x10⟩) (fun hHeld => ?_)
        clear x0 x1 x2 x3 x4 x5 x6 x7 x8 x9 x10 y0 y1 y2 y3 y4 y5 y6 y7 y8 y9 y10
        refine held_take 0 13 (.agg #[.string p.id, .int .i64 p.prio, .bool p.crit, .int .i64 p.q0, .int .i64 p.q1, .int .i64 p.q2, .int .i64 p.l0, .int .i64 p.l1, .int .i64 p.l2, .string p.image, .int .i64 p.size]) rfl rfl (by kernel_rfl) (by kernel_rfl) (by kernel_rfl) (fun _ _ _ h => h) (by rfl) (by intro w' hSw; (try dsimp only at hSw); go_simp; (try (with_reducible rfl))) (by assumption) ?_
        simp only [Act.put, List.setIfInBounds_toArray, List.set_cons_zero, List.set_cons_succ]
        refine held_take 1 14 (.slice (some ⟨b, off, none⟩) l.length c) rfl rfl (by kernel_rfl) (by kernel_rfl) (by kernel_rfl) (fun _ _ _ h => h) (by rfl) (by intro w' hSw; (try dsimp only at hSw); go_simp; (try (with_reducible rfl))) (by assumption) ?_
        simp only [Act.put, List.setIfInBounds_toArray, List.set_cons_zero, List.set_cons_succ]
        refine held_take 2 15 (.int .i64 i) rfl rfl (by kernel_rfl) (by kernel_rfl) (by kernel_rfl) (fun _ _ _ h => h) (by rfl) (by intro w' hSw; (try dsimp only at hSw); go_simp; (try (with_reducible rfl))) (by assumption) ?_
        simp only [Act.put, List.setIfInBounds_toArray, List.set_cons_zero, List.set_cons_succ]
        refine held_take 3 16 (.pointer (some ⟨b, off + i * 11, none⟩)) rfl rfl (by kernel_rfl) (by kernel_rfl) (by kernel_rfl) (fun _ _ _ h => h) (by rfl) (by intro w' hSw; (try dsimp only at hSw); go_simp; (try (with_reducible rfl))) (by assumption) ?_
        simp only [Act.put, List.setIfInBounds_toArray, List.set_cons_zero, List.set_cons_succ]
        refine held_take 4 17 (.agg #[.string x.id, .int .i64 x.prio, .bool x.crit, .int .i64 x.q0, .int .i64 x.q1, .int .i64 x.q2, .int .i64 x.l0, .int .i64 x.l1, .int .i64 x.l2, .string x.image, .int .i64 x.size]) rfl rfl (by kernel_rfl) (by kernel_rfl) (by kernel_rfl) (fun _ _ _ h => h) (by rfl) (by intro w' hSw; (try dsimp only at hSw); go_simp; (try (with_reducible rfl))) (by assumption) ?_
        simp only [Act.put, List.setIfInBounds_toArray, List.set_cons_zero, List.set_cons_succ]
        refine held_call 5 18 rfl rfl (by kernel_rfl) (by rfl) (fun K hK => ?_)
        go_simp
        go_at_call 17; with_reducible refine (refVmayV HM.out _).mono ?_; rintro e v1 ⟨rfl, hb⟩
        have HQ := Lib.hid (HQd.out.below hb)
        have HP := Lib.hid (And.intro (HP.out.1.drew.below hb (Nat.le_refl _)) (HP.out.2.drew.trans (hb.mono HP.out.2.drew.size)))
        have HRi := Lib.hid (HRi.out.drew.below hb)
        clear hb
        obtain ⟨x0, x1, x2, x3, x4, x5, x6, x7, x8, x9, x10⟩ := HRi.out.pdAt (Below.refl _ _) HXI.out
        obtain ⟨y0, y1, y2, y3, y4, y5, y6, y7, y8, y9, y10⟩ := HQ.out.pb.pd
        refine hK _ _ (⟨y0, y1, y2, y3, y4, y5, y6, y7, y8, y9, y10, x0, x1, x2, x3, x4, x5, x6, x7, x8, x9, x10⟩) ?_
        have hHeld := (show v1.cell? ⟨w.heap.size, 0, none⟩ = some (.string p.id) ∧ v1.cell? ⟨w.heap.size, 1, none⟩ = some (.int .i64 p.prio) ∧ v1.cell? ⟨w.heap.size, 2, none⟩ = some (.bool p.crit) ∧ v1.cell? ⟨w.heap.size, 3, none⟩ = some (.int .i64 p.q0) ∧ v1.cell? ⟨w.heap.size, 4, none⟩ = some (.int .i64 p.q1) ∧ v1.cell? ⟨w.heap.size, 5, none⟩ = some (.int .i64 p.q2) ∧ v1.cell? ⟨w.heap.size, 6, none⟩ = some (.int .i64 p.l0) ∧ v1.cell? ⟨w.heap.size, 7, none⟩ = some (.int .i64 p.l1) ∧ v1.cell? ⟨w.heap.size, 8, none⟩ = some (.int .i64 p.l2) ∧ v1.cell? ⟨w.heap.size, 9, none⟩ = some (.string p.image) ∧ v1.cell? ⟨w.heap.size, 10, none⟩ = some (.int .i64 p.size) ∧ v1.cell? ⟨b, off + i * 11, none⟩ = some (.string x.id) ∧ v1.cell? ⟨b, off + i * 11 + 1, none⟩ = some (.int .i64 x.prio) ∧ v1.cell? ⟨b, off + i * 11 + 2, none⟩ = some (.bool x.crit) ∧ v1.cell? ⟨b, off + i * 11 + 3, none⟩ = some (.int .i64 x.q0) ∧ v1.cell? ⟨b, off + i * 11 + 4, none⟩ = some (.int .i64 x.q1) ∧ v1.cell? ⟨b, off + i * 11 + 5, none⟩ = some (.int .i64 x.q2) ∧ v1.cell? ⟨b, off + i * 11 + 6, none⟩ = some (.int .i64 x.l0) ∧ v1.cell? ⟨b, off + i * 11 + 7, none⟩ = some (.int .i64 x.l1) ∧ v1.cell? ⟨b, off + i * 11 + 8, none⟩ = some (.int .i64 x.l2) ∧ v1.cell? ⟨b, off + i * 11 + 9, none⟩ = some (.string x.image) ∧ v1.cell? ⟨b, off + i * 11 + 10, none⟩ = some (.int .i64 x.size) from ⟨y0, y1, y2, y3, y4, y5, y6, y7, y8, y9, y10, x0, x1, x2, x3, x4, x5, x6, x7, x8, x9, x10⟩)
        clear hK K x0 x1 x2 x3 x4 x5 x6 x7 x8 x9 x10 y0 y1 y2 y3 y4 y5 y6 y7 y8 y9 y10
        simp only [Act.put, List.setIfInBounds_toArray, List.set_cons_zero, List.set_cons_succ]
        refine held_take 6 19 (.bool true) rfl rfl (by kernel_rfl) (by kernel_rfl) (by kernel_rfl) (fun _ _ _ h => h) (by rfl) (by intro w' hSw; (try dsimp only at hSw); go_simp; (try (with_reducible rfl))) (by assumption) ?_
        simp only [Act.put, List.setIfInBounds_toArray, List.set_cons_zero, List.set_cons_succ]
        refine wpAnyH_done (by kernel_rfl) ?_ _
        clear hHeld
        obtain ⟨x0, x1, x2, x3, x4, x5, x6, x7, x8, x9, x10⟩ := HRi.out.pdAt (Below.refl _ _) HXI.out
        go_wp2_with (at_builtin; refine wl_push elemP encP rfl (.tmp 20) (.tmp 25) rfl x #[.string x.id, .int .i64 x.prio, .bool x.crit, .int .i64 x.q0, .int .i64 x.q1, .int .i64 x.q2, .int .i64 x.l0, .int .i64 x.l1, .int .i64 x.l2, .string x.image, .int .i64 x.size] rfl W1.heap.size _ S rfl HP.out.1 rfl rfl HP.out.2 (by omega) (by omega) HP.out.2.size ?_; intro A3 k3 w3 ho hb _; have HX3 := Lib.hid (And.intro ho hb); clear ho hb)
        go_roundw
        case rel => exact ⟨i + 1, A3, k3, by omega, by go_num, by rw [HN2.out, List.length_append]; rfl, by rw [HN2.out]; exact own_len1 HX3.out.1, HX3.out.2⟩
        case measure => simp [intOf]; omega
      · have HM := Lib.hid hm2
        have HN2 : Hid (fixT p (l.take (i + 1)) = S) := by show _ = _; rw [HSN.out, hm2]; simp
        clear hm2 HSN
        go_wp2_with fail
        have HQd := Lib.hid HQ.out.drew
        obtain ⟨x0, x1, x2, x3, x4, x5, x6, x7, x8, x9, x10⟩ := HRi.out.drew.pdAt (Below.refl _ _) HXI.out
        obtain ⟨y0, y1, y2, y3, y4, y5, y6, y7, y8, y9, y10⟩ := HQd.out.pb.pd
        refine wp_region_held_drew (S := (fun w' => w'.cell? ⟨w.heap.size, 0, none⟩ = some (.string p.id) ∧ w'.cell? ⟨w.heap.size, 1, none⟩ = some (.int .i64 p.prio) ∧ w'.cell? ⟨w.heap.size, 2, none⟩ = some (.bool p.crit) ∧ w'.cell? ⟨w.heap.size, 3, none⟩ = some (.int .i64 p.q0) ∧ w'.cell? ⟨w.heap.size, 4, none⟩ = some (.int .i64 p.q1) ∧ w'.cell? ⟨w.heap.size, 5, none⟩ = some (.int .i64 p.q2) ∧ w'.cell? ⟨w.heap.size, 6, none⟩ = some (.int .i64 p.l0) ∧ w'.cell? ⟨w.heap.size, 7, none⟩ = some (.int .i64 p.l1) ∧ w'.cell? ⟨w.heap.size, 8, none⟩ = some (.int .i64 p.l2) ∧ w'.cell? ⟨w.heap.size, 9, none⟩ = some (.string p.image) ∧ w'.cell? ⟨w.heap.size, 10, none⟩ = some (.int .i64 p.size) ∧ w'.cell? ⟨b, off + i * 11, none⟩ = some (.string x.id) ∧ w'.cell? ⟨b, off + i * 11 + 1, none⟩ = some (.int .i64 x.prio) ∧ w'.cell? ⟨b, off + i * 11 + 2, none⟩ = some (.bool x.crit) ∧ w'.cell? ⟨b, off + i * 11 + 3, none⟩ = some (.int .i64 x.q0) ∧ w'.cell? ⟨b, off + i * 11 + 4, none⟩ = some (.int .i64 x.q1) ∧ w'.cell? ⟨b, off + i * 11 + 5, none⟩ = some (.int .i64 x.q2) ∧ w'.cell? ⟨b, off + i * 11 + 6, none⟩ = some (.int .i64 x.l0) ∧ w'.cell? ⟨b, off + i * 11 + 7, none⟩ = some (.int .i64 x.l1) ∧ w'.cell? ⟨b, off + i * 11 + 8, none⟩ = some (.int .i64 x.l2) ∧ w'.cell? ⟨b, off + i * 11 + 9, none⟩ = some (.string x.image) ∧ w'.cell? ⟨b, off + i * 11 + 10, none⟩ = some (.int .i64 x.size))) (by kernel_rfl) (⟨y0, y1, y2, y3, y4, y5, y6, y7, y8, y9, y10, x0, x1, x2, x3, x4, x5, x6, x7, x8, x9, x10⟩) (fun hHeld => ?_)
        clear x0 x1 x2 x3 x4 x5 x6 x7 x8 x9 x10 y0 y1 y2 y3 y4 y5 y6 y7 y8 y9 y10
        refine held_take 0 13 (.agg #[.string p.id, .int .i64 p.prio, .bool p.crit, .int .i64 p.q0, .int .i64 p.q1, .int .i64 p.q2, .int .i64 p.l0, .int .i64 p.l1, .int .i64 p.l2, .string p.image, .int .i64 p.size]) rfl rfl (by kernel_rfl) (by kernel_rfl) (by kernel_rfl) (fun _ _ _ h => h) (by rfl) (by intro w' hSw; (try dsimp only at hSw); go_simp; (try (with_reducible rfl))) (by assumption) ?_
        simp only [Act.put, List.setIfInBounds_toArray, List.set_cons_zero, List.set_cons_succ]
        refine held_take 1 14 (.slice (some ⟨b, off, none⟩) l.length c) rfl rfl (by kernel_rfl) (by kernel_rfl) (by kernel_rfl) (fun _ _ _ h => h) (by rfl) (by intro w' hSw; (try dsimp only at hSw); go_simp; (try (with_reducible rfl))) (by assumption) ?_
        simp only [Act.put, List.setIfInBounds_toArray, List.set_cons_zero, List.set_cons_succ]
        refine held_take 2 15 (.int .i64 i) rfl rfl (by kernel_rfl) (by kernel_rfl) (by kernel_rfl) (fun _ _ _ h => h) (by rfl) (by intro w' hSw; (try dsimp only at hSw); go_simp; (try (with_reducible rfl))) (by assumption) ?_
        simp only [Act.put, List.setIfInBounds_toArray, List.set_cons_zero, List.set_cons_succ]
        refine held_take 3 16 (.pointer (some ⟨b, off + i * 11, none⟩)) rfl rfl (by kernel_rfl) (by kernel_rfl) (by kernel_rfl) (fun _ _ _ h => h) (by rfl) (by intro w' hSw; (try dsimp only at hSw); go_simp; (try (with_reducible rfl))) (by assumption) ?_
        simp only [Act.put, List.setIfInBounds_toArray, List.set_cons_zero, List.set_cons_succ]
        refine held_take 4 17 (.agg #[.string x.id, .int .i64 x.prio, .bool x.crit, .int .i64 x.q0, .int .i64 x.q1, .int .i64 x.q2, .int .i64 x.l0, .int .i64 x.l1, .int .i64 x.l2, .string x.image, .int .i64 x.size]) rfl rfl (by kernel_rfl) (by kernel_rfl) (by kernel_rfl) (fun _ _ _ h => h) (by rfl) (by intro w' hSw; (try dsimp only at hSw); go_simp; (try (with_reducible rfl))) (by assumption) ?_
        simp only [Act.put, List.setIfInBounds_toArray, List.set_cons_zero, List.set_cons_succ]
        refine held_call 5 18 rfl rfl (by kernel_rfl) (by rfl) (fun K hK => ?_)
        go_simp
        go_at_call 17; with_reducible refine (refVmayV HM.out _).mono ?_; rintro e v1 ⟨rfl, hb⟩
        have HQ := Lib.hid (HQd.out.below hb)
        have HP := Lib.hid (And.intro (HP.out.1.drew.below hb (Nat.le_refl _)) (HP.out.2.drew.trans (hb.mono HP.out.2.drew.size)))
        have HRi := Lib.hid (HRi.out.drew.below hb)
        clear hb
        obtain ⟨x0, x1, x2, x3, x4, x5, x6, x7, x8, x9, x10⟩ := HRi.out.pdAt (Below.refl _ _) HXI.out
        obtain ⟨y0, y1, y2, y3, y4, y5, y6, y7, y8, y9, y10⟩ := HQ.out.pb.pd
        refine hK _ _ (⟨y0, y1, y2, y3, y4, y5, y6, y7, y8, y9, y10, x0, x1, x2, x3, x4, x5, x6, x7, x8, x9, x10⟩) ?_
        have hHeld := (show v1.cell? ⟨w.heap.size, 0, none⟩ = some (.string p.id) ∧ v1.cell? ⟨w.heap.size, 1, none⟩ = some (.int .i64 p.prio) ∧ v1.cell? ⟨w.heap.size, 2, none⟩ = some (.bool p.crit) ∧ v1.cell? ⟨w.heap.size, 3, none⟩ = some (.int .i64 p.q0) ∧ v1.cell? ⟨w.heap.size, 4, none⟩ = some (.int .i64 p.q1) ∧ v1.cell? ⟨w.heap.size, 5, none⟩ = some (.int .i64 p.q2) ∧ v1.cell? ⟨w.heap.size, 6, none⟩ = some (.int .i64 p.l0) ∧ v1.cell? ⟨w.heap.size, 7, none⟩ = some (.int .i64 p.l1) ∧ v1.cell? ⟨w.heap.size, 8, none⟩ = some (.int .i64 p.l2) ∧ v1.cell? ⟨w.heap.size, 9, none⟩ = some (.string p.image) ∧ v1.cell? ⟨w.heap.size, 10, none⟩ = some (.int .i64 p.size) ∧ v1.cell? ⟨b, off + i * 11, none⟩ = some (.string x.id) ∧ v1.cell? ⟨b, off + i * 11 + 1, none⟩ = some (.int .i64 x.prio) ∧ v1.cell? ⟨b, off + i * 11 + 2, none⟩ = some (.bool x.crit) ∧ v1.cell? ⟨b, off + i * 11 + 3, none⟩ = some (.int .i64 x.q0) ∧ v1.cell? ⟨b, off + i * 11 + 4, none⟩ = some (.int .i64 x.q1) ∧ v1.cell? ⟨b, off + i * 11 + 5, none⟩ = some (.int .i64 x.q2) ∧ v1.cell? ⟨b, off + i * 11 + 6, none⟩ = some (.int .i64 x.l0) ∧ v1.cell? ⟨b, off + i * 11 + 7, none⟩ = some (.int .i64 x.l1) ∧ v1.cell? ⟨b, off + i * 11 + 8, none⟩ = some (.int .i64 x.l2) ∧ v1.cell? ⟨b, off + i * 11 + 9, none⟩ = some (.string x.image) ∧ v1.cell? ⟨b, off + i * 11 + 10, none⟩ = some (.int .i64 x.size) from ⟨y0, y1, y2, y3, y4, y5, y6, y7, y8, y9, y10, x0, x1, x2, x3, x4, x5, x6, x7, x8, x9, x10⟩)
        clear hK K x0 x1 x2 x3 x4 x5 x6 x7 x8 x9 x10 y0 y1 y2 y3 y4 y5 y6 y7 y8 y9 y10
        simp only [Act.put, List.setIfInBounds_toArray, List.set_cons_zero, List.set_cons_succ]
        refine held_take 6 19 (.bool false) rfl rfl (by kernel_rfl) (by kernel_rfl) (by kernel_rfl) (fun _ _ _ h => h) (by rfl) (by intro w' hSw; (try dsimp only at hSw); go_simp; (try (with_reducible rfl))) (by assumption) ?_
        simp only [Act.put, List.setIfInBounds_toArray, List.set_cons_zero, List.set_cons_succ]
        refine wpAnyH_done (by kernel_rfl) ?_ _
        clear hHeld
        go_wp2_with fail
        go_roundw
        case rel => exact ⟨i + 1, A1, c1, by omega, by go_num, by rw [HN2.out], by rw [HN2.out]; exact HP.out.1, HP.out.2⟩
        case measure => simp [intOf]; omega
    · obtain rfl : i = l.length := by omega
      have dk : decide ((l.length : Int) < (l.length : Int)) = false := by simp
      rw [List.take_length] at HP hsl ⊢
      have HFD := Lib.hid (show fixD p l = fixT p l ++ [p] from rfl)
      generalize fixT p l = S at *
      obtain ⟨y0, y1, y2, y3, y4, y5, y6, y7, y8, y9, y10⟩ := HQ.out.pb.pd
      go_wp2_with (at_builtin; refine wl_push elemP encP rfl (.tmp 27) (.tmp 29) rfl p #[.string p.id, .int .i64 p.prio, .bool p.crit, .int .i64 p.q0, .int .i64 p.q1, .int .i64 p.q2, .int .i64 p.l0, .int .i64 p.l1, .int .i64 p.l2, .string p.image, .int .i64 p.size] rfl W1.heap.size _ S rfl HP.out.1 rfl rfl HP.out.2 (by omega) (by omega) HP.out.2.size ?_; intro A3 k3 w3 ho hb _; have HX3 := Lib.hid (And.intro ho hb); clear ho hb)
      go_ret
      exact ⟨A3, k3, by rw [HFD.out, List.length_append]; rfl, by rw [HFD.out]; exact (own_len1 HX3.out.1).mono HQ0.out.bel.size, below_rV HQ0.out.bel HX3.out.2⟩
end Go.Proofs.YtlhmhcidknadmaaDoor
