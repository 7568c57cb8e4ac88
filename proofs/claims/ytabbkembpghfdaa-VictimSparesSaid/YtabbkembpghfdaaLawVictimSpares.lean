/- bilgelaw21.VictimSpares: the most important one that may go stays just if it fits beside those that may not go, and the pod. -/
import Derived.Test.YtabbkembpghfdaaLawVictimNobody
import Derived.Test.YtabbkembpghfdaaVWho
import Derived.Test.YtabbkembpghfdaaVNext
namespace Go.Proofs.Ytabbkembpghfdaa
open Go.RowKit

theorem fitsN {room : S3} {l : List Pd} {n : Nat} (hn : n = l.length) {v : Bool} (hv : fitsB room l = v) {A : Option Addr} {c : Nat} {w : World} (hr : Rds w encP A l) (hwf : ∀ p ∈ l, p.Wf) (hm : l.length ≤ 200000) :
    Calls Try.prog 18 #[.agg #[.int .i64 room.a, .int .i64 room.b, .int .i64 room.c], .slice A n c] w fun e w' => e = .returned (.bool v) ∧ Below w.heap.size w w' := by subst hn; exact fitsV hv hr hwf hm
theorem spCells {room : S3} {p y : Pd} {l : List Pd} {b off j : Nat} {w W : World} (h : CQ room p w W) (hr : Rds W encP (some ⟨b, off, none⟩) l) (hj : l[j]? = some y) : W.cell? ⟨w.heap.size, 0, none⟩ = some (.int .i64 room.a) ∧ W.cell? ⟨w.heap.size, 1, none⟩ = some (.int .i64 room.b) ∧ W.cell? ⟨w.heap.size, 2, none⟩ = some (.int .i64 room.c) ∧ W.cell? ⟨w.heap.size + 1, 0, none⟩ = some (.string p.id) ∧ W.cell? ⟨w.heap.size + 1, 1, none⟩ = some (.int .i64 p.prio) ∧ W.cell? ⟨w.heap.size + 1, 2, none⟩ = some (.bool p.crit) ∧ W.cell? ⟨w.heap.size + 1, 3, none⟩ = some (.int .i64 p.q0) ∧ W.cell? ⟨w.heap.size + 1, 4, none⟩ = some (.int .i64 p.q1) ∧ W.cell? ⟨w.heap.size + 1, 5, none⟩ = some (.int .i64 p.q2) ∧ W.cell? ⟨w.heap.size + 1, 6, none⟩ = some (.int .i64 p.l0) ∧ W.cell? ⟨w.heap.size + 1, 7, none⟩ = some (.int .i64 p.l1) ∧ W.cell? ⟨w.heap.size + 1, 8, none⟩ = some (.int .i64 p.l2) ∧ W.cell? ⟨w.heap.size + 1, 9, none⟩ = some (.string p.image) ∧ W.cell? ⟨w.heap.size + 1, 10, none⟩ = some (.int .i64 p.size) ∧ W.cell? ⟨b, off + j * 11, none⟩ = some (.string y.id) ∧ W.cell? ⟨b, off + j * 11 + 1, none⟩ = some (.int .i64 y.prio) ∧ W.cell? ⟨b, off + j * 11 + 2, none⟩ = some (.bool y.crit) ∧ W.cell? ⟨b, off + j * 11 + 3, none⟩ = some (.int .i64 y.q0) ∧ W.cell? ⟨b, off + j * 11 + 4, none⟩ = some (.int .i64 y.q1) ∧ W.cell? ⟨b, off + j * 11 + 5, none⟩ = some (.int .i64 y.q2) ∧ W.cell? ⟨b, off + j * 11 + 6, none⟩ = some (.int .i64 y.l0) ∧ W.cell? ⟨b, off + j * 11 + 7, none⟩ = some (.int .i64 y.l1) ∧ W.cell? ⟨b, off + j * 11 + 8, none⟩ = some (.int .i64 y.l2) ∧ W.cell? ⟨b, off + j * 11 + 9, none⟩ = some (.string y.image) ∧ W.cell? ⟨b, off + j * 11 + 10, none⟩ = some (.int .i64 y.size) := by
  obtain ⟨q0, q1, q2, q3, q4, q5, q6, q7, q8, q9, q10⟩ := h.pb.pd
  obtain ⟨y0, y1, y2, y3, y4, y5, y6, y7, y8, y9, y10⟩ := hr.pdAt (Below.refl _ _) hj
  exact ⟨h.rm.cell 0, h.rm.cell 1, h.rm.cell 2, q0, q1, q2, q3, q4, q5, q6, q7, q8, q9, q10, y0, y1, y2, y3, y4, y5, y6, y7, y8, y9, y10⟩
/-- what the last line says -/
theorem spares_law {room : S3} {l : List Pd} {p : Pd} {O : List ByteArray} {j : Nat} (hF : FitV room l p) (hj : j < l.length) (hb : BestAt (mayV p) l l.length j) (h : WhoD room p l O true) : hasD O l[j].id = !fitsB room (fixD p l ++ [l[j]]) := by
  obtain ⟨K, hk, hs, hf, h1, _⟩ := h
  obtain ⟨hq, K', rfl⟩ := hb.head hF.inj hj hk hs
  rw [hasD_perm (h1 rfl).1, fitsB_perm ((fixD_stay p l).append_right [l[j]])]
  refine chooseD_first fun y hy e => ?_
  have hnd : (l[j] :: K').Nodup := hk.nodup_iff.2 (hF.nodup.filter _)
  have hy2 := (List.mem_filter.1 (hk.subset (List.mem_cons_of_mem _ hy))).1
  have := hF.inj y hy2 _ (List.getElem_mem hj) e
  subst this
  exact (List.nodup_cons.1 hnd).1 hy
theorem spares_none {room : S3} {l : List Pd} {p : Pd} {O : List ByteArray} {v : Bool} (hb : BestAt (mayV p) l l.length (-1)) (h : WhoD room p l O v) : O = [] := by
  obtain ⟨K, hk, hs, hf, h1, h2⟩ := h
  cases v
  · exact h2 rfl
  · unfold askD at hk
    rw [hb.none_, List.perm_nil] at hk
    subst hk
    have := (h1 rfl).1
    simpa [chooseD] using this
set_option maxRecDepth 100000 in
set_option maxHeartbeats 16000000 in
theorem victimSpares_any (room : S3) (l : List Pd) (p : Pd) (Al : Option Addr) (cl : Nat) (w : World) (hr : Rds w encP Al l) (hw : ∀ x ∈ l, x.Wf) (hm : l.length ≤ 9223372036854775807) (hp : p.Wf) :
    Calls Try.prog 9 #[.agg #[.int .i64 room.a, .int .i64 room.b, .int .i64 room.c], .slice Al l.length cl, .agg p.cells] w fun e w' => e = .returned (.bool true) ∧ Below w.heap.size w w' := by
  have mixed : Try.prog.follows Departure.mixedOrders = true := by kernel_rfl
  have HQ := Lib.hid (CQ.new room p w)
  have HR := Lib.hid hr
  have HW := Lib.hid hw
  have HPW := Lib.hid hp
  clear hr hw hp
  go_enter Try.func9, Try.ntmps9
  go_wp2_with fail
  refine (awake21_any _).mono ?_; rintro e w1 ⟨rfl, hb⟩
  have HQ := Lib.hid (HQ.out.below hb)
  clear hb
  have crm := HQ.out.rm.cell
  have cp := HQ.out.pb.cell
  by_cases hf : FitV room l p
  rotate_left
  · go_wp2_with fail
    refine (refFitV_any (v := false) (room := room) (p := p) (by simp [hf]) Al cl _ (HR.out.below HQ.out.bel) HW.out HPW.out hm).mono ?_; rintro e w2 ⟨rfl, hb⟩
    have HQ := Lib.hid (HQ.out.below hb)
    clear hb crm cp hf
    go_wp2_with fail
    refine (awake21_any _).mono ?_; rintro e w3 ⟨rfl, hb⟩
    have HQ := Lib.hid (HQ.out.below hb)
    clear hb
    go_wp2_with fail
    go_ret
    exact ⟨rfl, HQ.out.bel⟩
  · have HF := Lib.hid hf
    go_wp2_with fail
    refine (refFitV_any (v := true) (room := room) (p := p) (by simp [hf]) Al cl _ (HR.out.below HQ.out.bel) HW.out HPW.out hm).mono ?_; rintro e w1 ⟨rfl, hb⟩
    have HQ := Lib.hid (HQ.out.below hb)
    have HRL := Lib.hid (HR.out.below HQ.out.bel)
    have hl := hf.len
    clear hb crm cp hf
    go_wp2_with fail
    go_loopw [7, 8] (fun bs ii wr => ∃ (i : Nat) (z : Int), i ≤ l.length ∧ bs = .int .i64 z ∧ ii = .int .i64 i ∧ BestAt (mayV p) l i z ∧ Below w1.heap.size w1 wr) (fun _ ii _ => l.length - (intOf ii).toNat)
    case atStart => exact ⟨0, -1, by omega, rfl, rfl, BestAt.start _ _, Below.refl _ _⟩
    case round =>
      obtain ⟨i, z, hi, rfl, rfl, hbest, hbl⟩ := hrel
      have HBA := Lib.hid hbest
      have HP := Lib.hid hbl
      have HQ1 := HQ
      have HRL1 := HRL
      have HQ := Lib.hid (HQ.out.below hbl)
      have HRi := Lib.hid (HRL.out.below hbl)
      clear hbest hbl
      by_cases hlt : i < l.length
      · have dk : decide ((i : Int) < (l.length : Int)) = true := decide_eq_true (by omega)
        have dk2 : (i : Int) < (l.length : Int) := by omega
        obtain ⟨b, off, hA⟩ := HR.out.some_ hlt
        obtain rfl : Al = some ⟨b, off, none⟩ := hA
        have HXI := Lib.hid (List.getElem?_eq_getElem hlt)
        obtain ⟨x, hx⟩ : ∃ x, l[i] = x := ⟨_, rfl⟩
        have HXE := Lib.hid hx
        rw [hx] at HXI
        clear hx
        cases hmx : mayV p x
        · have HM := Lib.hid hmx
          have HN := Lib.hid (HBA.out.skip hlt (by rw [HXE.out]; exact hmx))
          clear hmx
          go_wp2_with fail
          have HQd := Lib.hid HQ.out.drew
          have HRd := Lib.hid HRi.out.drew
          obtain ⟨q0, q1, q2, q3, q4, q5, q6, q7, q8, q9, q10⟩ := HQd.out.pb.pd
          obtain ⟨x0, x1, x2, x3, x4, x5, x6, x7, x8, x9, x10⟩ := HRd.out.pdAt (Below.refl _ _) HXI.out
          refine wp_region_held_drew (S := (fun w' => w'.cell? ⟨w.heap.size + 1, 0, none⟩ = some (.string p.id) ∧ w'.cell? ⟨w.heap.size + 1, 1, none⟩ = some (.int .i64 p.prio) ∧ w'.cell? ⟨w.heap.size + 1, 2, none⟩ = some (.bool p.crit) ∧ w'.cell? ⟨w.heap.size + 1, 3, none⟩ = some (.int .i64 p.q0) ∧ w'.cell? ⟨w.heap.size + 1, 4, none⟩ = some (.int .i64 p.q1) ∧ w'.cell? ⟨w.heap.size + 1, 5, none⟩ = some (.int .i64 p.q2) ∧ w'.cell? ⟨w.heap.size + 1, 6, none⟩ = some (.int .i64 p.l0) ∧ w'.cell? ⟨w.heap.size + 1, 7, none⟩ = some (.int .i64 p.l1) ∧ w'.cell? ⟨w.heap.size + 1, 8, none⟩ = some (.int .i64 p.l2) ∧ w'.cell? ⟨w.heap.size + 1, 9, none⟩ = some (.string p.image) ∧ w'.cell? ⟨w.heap.size + 1, 10, none⟩ = some (.int .i64 p.size) ∧ w'.cell? ⟨b, off + i * 11, none⟩ = some (.string x.id) ∧ w'.cell? ⟨b, off + i * 11 + 1, none⟩ = some (.int .i64 x.prio) ∧ w'.cell? ⟨b, off + i * 11 + 2, none⟩ = some (.bool x.crit) ∧ w'.cell? ⟨b, off + i * 11 + 3, none⟩ = some (.int .i64 x.q0) ∧ w'.cell? ⟨b, off + i * 11 + 4, none⟩ = some (.int .i64 x.q1) ∧ w'.cell? ⟨b, off + i * 11 + 5, none⟩ = some (.int .i64 x.q2) ∧ w'.cell? ⟨b, off + i * 11 + 6, none⟩ = some (.int .i64 x.l0) ∧ w'.cell? ⟨b, off + i * 11 + 7, none⟩ = some (.int .i64 x.l1) ∧ w'.cell? ⟨b, off + i * 11 + 8, none⟩ = some (.int .i64 x.l2) ∧ w'.cell? ⟨b, off + i * 11 + 9, none⟩ = some (.string x.image) ∧ w'.cell? ⟨b, off + i * 11 + 10, none⟩ = some (.int .i64 x.size))) (by kernel_rfl) (⟨q0, q1, q2, q3, q4, q5, q6, q7, q8, q9, q10, x0, x1, x2, x3, x4, x5, x6, x7, x8, x9, x10⟩) (fun hHeld => ?_)
          clear q0 q1 q2 q3 q4 q5 q6 q7 q8 q9 q10 x0 x1 x2 x3 x4 x5 x6 x7 x8 x9 x10
          refine held_take 0 27 (.agg #[.string p.id, .int .i64 p.prio, .bool p.crit, .int .i64 p.q0, .int .i64 p.q1, .int .i64 p.q2, .int .i64 p.l0, .int .i64 p.l1, .int .i64 p.l2, .string p.image, .int .i64 p.size]) rfl rfl (by kernel_rfl) (by kernel_rfl) (by kernel_rfl) (fun _ _ _ h => h) (by rfl) (by intro w' hSw; (try dsimp only at hSw); go_simp; (try (with_reducible rfl))) (by assumption) ?_
          simp only [Act.put, List.setIfInBounds_toArray, List.set_cons_zero, List.set_cons_succ]
          refine held_take 1 28 (.slice (some ⟨b, off, none⟩) l.length cl) rfl rfl (by kernel_rfl) (by kernel_rfl) (by kernel_rfl) (fun _ _ _ h => h) (by rfl) (by intro w' hSw; (try dsimp only at hSw); go_simp; (try (with_reducible rfl))) (by assumption) ?_
          simp only [Act.put, List.setIfInBounds_toArray, List.set_cons_zero, List.set_cons_succ]
          refine held_take 2 29 (.int .i64 i) rfl rfl (by kernel_rfl) (by kernel_rfl) (by kernel_rfl) (fun _ _ _ h => h) (by rfl) (by intro w' hSw; (try dsimp only at hSw); go_simp; (try (with_reducible rfl))) (by assumption) ?_
          simp only [Act.put, List.setIfInBounds_toArray, List.set_cons_zero, List.set_cons_succ]
          refine held_take 3 30 (.pointer (some ⟨b, off + i * 11, none⟩)) rfl rfl (by kernel_rfl) (by kernel_rfl) (by kernel_rfl) (fun _ _ _ h => h) (by rfl) (by intro w' hSw; (try dsimp only at hSw); go_simp; (try (with_reducible rfl))) (by assumption) ?_
          simp only [Act.put, List.setIfInBounds_toArray, List.set_cons_zero, List.set_cons_succ]
          refine held_take 4 31 (.agg #[.string x.id, .int .i64 x.prio, .bool x.crit, .int .i64 x.q0, .int .i64 x.q1, .int .i64 x.q2, .int .i64 x.l0, .int .i64 x.l1, .int .i64 x.l2, .string x.image, .int .i64 x.size]) rfl rfl (by kernel_rfl) (by kernel_rfl) (by kernel_rfl) (fun _ _ _ h => h) (by rfl) (by intro w' hSw; (try dsimp only at hSw); go_simp; (try (with_reducible rfl))) (by assumption) ?_
          simp only [Act.put, List.setIfInBounds_toArray, List.set_cons_zero, List.set_cons_succ]
          refine held_call 5 32 rfl rfl (by kernel_rfl) (by rfl) (fun K hK => ?_)
          go_simp
          go_at_call 15; with_reducible refine (refVmayV HM.out _).mono ?_; rintro e v1 ⟨rfl, hb⟩
          have HP := Lib.hid (HP.out.drew.trans (hb.mono HP.out.drew.size))
          have HQ := Lib.hid (HQd.out.below hb)
          have HRi := Lib.hid (HRd.out.below hb)
          clear hb
          obtain ⟨q0, q1, q2, q3, q4, q5, q6, q7, q8, q9, q10⟩ := HQ.out.pb.pd
          obtain ⟨x0, x1, x2, x3, x4, x5, x6, x7, x8, x9, x10⟩ := HRi.out.pdAt (Below.refl _ _) HXI.out
          refine hK _ _ (⟨q0, q1, q2, q3, q4, q5, q6, q7, q8, q9, q10, x0, x1, x2, x3, x4, x5, x6, x7, x8, x9, x10⟩) ?_
          have hHeld := (show v1.cell? ⟨w.heap.size + 1, 0, none⟩ = some (.string p.id) ∧ v1.cell? ⟨w.heap.size + 1, 1, none⟩ = some (.int .i64 p.prio) ∧ v1.cell? ⟨w.heap.size + 1, 2, none⟩ = some (.bool p.crit) ∧ v1.cell? ⟨w.heap.size + 1, 3, none⟩ = some (.int .i64 p.q0) ∧ v1.cell? ⟨w.heap.size + 1, 4, none⟩ = some (.int .i64 p.q1) ∧ v1.cell? ⟨w.heap.size + 1, 5, none⟩ = some (.int .i64 p.q2) ∧ v1.cell? ⟨w.heap.size + 1, 6, none⟩ = some (.int .i64 p.l0) ∧ v1.cell? ⟨w.heap.size + 1, 7, none⟩ = some (.int .i64 p.l1) ∧ v1.cell? ⟨w.heap.size + 1, 8, none⟩ = some (.int .i64 p.l2) ∧ v1.cell? ⟨w.heap.size + 1, 9, none⟩ = some (.string p.image) ∧ v1.cell? ⟨w.heap.size + 1, 10, none⟩ = some (.int .i64 p.size) ∧ v1.cell? ⟨b, off + i * 11, none⟩ = some (.string x.id) ∧ v1.cell? ⟨b, off + i * 11 + 1, none⟩ = some (.int .i64 x.prio) ∧ v1.cell? ⟨b, off + i * 11 + 2, none⟩ = some (.bool x.crit) ∧ v1.cell? ⟨b, off + i * 11 + 3, none⟩ = some (.int .i64 x.q0) ∧ v1.cell? ⟨b, off + i * 11 + 4, none⟩ = some (.int .i64 x.q1) ∧ v1.cell? ⟨b, off + i * 11 + 5, none⟩ = some (.int .i64 x.q2) ∧ v1.cell? ⟨b, off + i * 11 + 6, none⟩ = some (.int .i64 x.l0) ∧ v1.cell? ⟨b, off + i * 11 + 7, none⟩ = some (.int .i64 x.l1) ∧ v1.cell? ⟨b, off + i * 11 + 8, none⟩ = some (.int .i64 x.l2) ∧ v1.cell? ⟨b, off + i * 11 + 9, none⟩ = some (.string x.image) ∧ v1.cell? ⟨b, off + i * 11 + 10, none⟩ = some (.int .i64 x.size) from ⟨q0, q1, q2, q3, q4, q5, q6, q7, q8, q9, q10, x0, x1, x2, x3, x4, x5, x6, x7, x8, x9, x10⟩)
          clear hK K q0 q1 q2 q3 q4 q5 q6 q7 q8 q9 q10 x0 x1 x2 x3 x4 x5 x6 x7 x8 x9 x10
          simp only [Act.put, List.setIfInBounds_toArray, List.set_cons_zero, List.set_cons_succ]
          refine held_take 6 33 (.bool false) rfl rfl (by kernel_rfl) (by kernel_rfl) (by kernel_rfl) (fun _ _ _ h => h) (by rfl) (by intro w' hSw; (try dsimp only at hSw); go_simp; (try (with_reducible rfl))) (by assumption) ?_
          simp only [Act.put, List.setIfInBounds_toArray, List.set_cons_zero, List.set_cons_succ]
          refine held_skip 7 34 rfl rfl (by kernel_rfl) (by kernel_rfl) (by kernel_rfl) (fun _ _ _ h => h) (by rfl) (by assumption) ?_
          simp only [Act.put, List.setIfInBounds_toArray, List.set_cons_zero, List.set_cons_succ]
          refine held_skip 8 35 rfl rfl (by kernel_rfl) (by kernel_rfl) (by kernel_rfl) (fun _ _ _ h => h) (by rfl) (by assumption) ?_
          simp only [Act.put, List.setIfInBounds_toArray, List.set_cons_zero, List.set_cons_succ]
          refine held_skip 9 36 rfl rfl (by kernel_rfl) (by kernel_rfl) (by kernel_rfl) (fun _ _ _ h => h) (by rfl) (by assumption) ?_
          simp only [Act.put, List.setIfInBounds_toArray, List.set_cons_zero, List.set_cons_succ]
          refine held_skip 10 37 rfl rfl (by kernel_rfl) (by kernel_rfl) (by kernel_rfl) (fun _ _ _ h => h) (by rfl) (by assumption) ?_
          simp only [Act.put, List.setIfInBounds_toArray, List.set_cons_zero, List.set_cons_succ]
          refine held_skip 11 38 rfl rfl (by kernel_rfl) (by kernel_rfl) (by kernel_rfl) (fun _ _ _ h => h) (by rfl) (by assumption) ?_
          simp only [Act.put, List.setIfInBounds_toArray, List.set_cons_zero, List.set_cons_succ]
          refine held_skip 12 39 rfl rfl (by kernel_rfl) (by kernel_rfl) (by kernel_rfl) (fun _ _ _ h => h) (by rfl) (by assumption) ?_
          simp only [Act.put, List.setIfInBounds_toArray, List.set_cons_zero, List.set_cons_succ]
          refine held_skip 13 40 rfl rfl (by kernel_rfl) (by kernel_rfl) (by kernel_rfl) (fun _ _ _ h => h) (by rfl) (by assumption) ?_
          simp only [Act.put, List.setIfInBounds_toArray, List.set_cons_zero, List.set_cons_succ]
          refine held_skip 14 41 rfl rfl (by kernel_rfl) (by kernel_rfl) (by kernel_rfl) (fun _ _ _ h => h) (by rfl) (by assumption) ?_
          simp only [Act.put, List.setIfInBounds_toArray, List.set_cons_zero, List.set_cons_succ]
          refine held_skip 15 42 rfl rfl (by kernel_rfl) (by kernel_rfl) (by kernel_rfl) (fun _ _ _ h => h) (by rfl) (by assumption) ?_
          simp only [Act.put, List.setIfInBounds_toArray, List.set_cons_zero, List.set_cons_succ]
          refine held_skip 16 43 rfl rfl (by kernel_rfl) (by kernel_rfl) (by kernel_rfl) (fun _ _ _ h => h) (by rfl) (by assumption) ?_
          simp only [Act.put, List.setIfInBounds_toArray, List.set_cons_zero, List.set_cons_succ]
          refine held_skip 17 44 rfl rfl (by kernel_rfl) (by kernel_rfl) (by kernel_rfl) (fun _ _ _ h => h) (by rfl) (by assumption) ?_
          simp only [Act.put, List.setIfInBounds_toArray, List.set_cons_zero, List.set_cons_succ]
          refine held_skip 18 45 rfl rfl (by kernel_rfl) (by kernel_rfl) (by kernel_rfl) (fun _ _ _ h => h) (by rfl) (by assumption) ?_
          simp only [Act.put, List.setIfInBounds_toArray, List.set_cons_zero, List.set_cons_succ]
          refine held_skip 19 46 rfl rfl (by kernel_rfl) (by kernel_rfl) (by kernel_rfl) (fun _ _ _ h => h) (by rfl) (by assumption) ?_
          simp only [Act.put, List.setIfInBounds_toArray, List.set_cons_zero, List.set_cons_succ]
          refine held_skip 20 47 rfl rfl (by kernel_rfl) (by kernel_rfl) (by kernel_rfl) (fun _ _ _ h => h) (by rfl) (by assumption) ?_
          simp only [Act.put, List.setIfInBounds_toArray, List.set_cons_zero, List.set_cons_succ]
          refine held_skip 21 48 rfl rfl (by kernel_rfl) (by kernel_rfl) (by kernel_rfl) (fun _ _ _ h => h) (by rfl) (by assumption) ?_
          simp only [Act.put, List.setIfInBounds_toArray, List.set_cons_zero, List.set_cons_succ]
          refine held_skip 22 49 rfl rfl (by kernel_rfl) (by kernel_rfl) (by kernel_rfl) (fun _ _ _ h => h) (by rfl) (by assumption) ?_
          simp only [Act.put, List.setIfInBounds_toArray, List.set_cons_zero, List.set_cons_succ]
          refine held_skip 23 50 rfl rfl (by kernel_rfl) (by kernel_rfl) (by kernel_rfl) (fun _ _ _ h => h) (by rfl) (by assumption) ?_
          simp only [Act.put, List.setIfInBounds_toArray, List.set_cons_zero, List.set_cons_succ]
          refine held_skip 24 51 rfl rfl (by kernel_rfl) (by kernel_rfl) (by kernel_rfl) (fun _ _ _ h => h) (by rfl) (by assumption) ?_
          simp only [Act.put, List.setIfInBounds_toArray, List.set_cons_zero, List.set_cons_succ]
          refine held_skip 25 52 rfl rfl (by kernel_rfl) (by kernel_rfl) (by kernel_rfl) (fun _ _ _ h => h) (by rfl) (by assumption) ?_
          simp only [Act.put, List.setIfInBounds_toArray, List.set_cons_zero, List.set_cons_succ]
          refine held_skip 26 53 rfl rfl (by kernel_rfl) (by kernel_rfl) (by kernel_rfl) (fun _ _ _ h => h) (by rfl) (by assumption) ?_
          simp only [Act.put, List.setIfInBounds_toArray, List.set_cons_zero, List.set_cons_succ]
          refine held_skip 27 54 rfl rfl (by kernel_rfl) (by kernel_rfl) (by kernel_rfl) (fun _ _ _ h => h) (by rfl) (by assumption) ?_
          simp only [Act.put, List.setIfInBounds_toArray, List.set_cons_zero, List.set_cons_succ]
          refine held_skip 28 55 rfl rfl (by kernel_rfl) (by kernel_rfl) (by kernel_rfl) (fun _ _ _ h => h) (by rfl) (by assumption) ?_
          simp only [Act.put, List.setIfInBounds_toArray, List.set_cons_zero, List.set_cons_succ]
          refine held_skip 29 56 rfl rfl (by kernel_rfl) (by kernel_rfl) (by kernel_rfl) (fun _ _ _ h => h) (by rfl) (by assumption) ?_
          simp only [Act.put, List.setIfInBounds_toArray, List.set_cons_zero, List.set_cons_succ]
          refine held_skip 30 57 rfl rfl (by kernel_rfl) (by kernel_rfl) (by kernel_rfl) (fun _ _ _ h => h) (by rfl) (by assumption) ?_
          simp only [Act.put, List.setIfInBounds_toArray, List.set_cons_zero, List.set_cons_succ]
          refine held_skip 31 58 rfl rfl (by kernel_rfl) (by kernel_rfl) (by kernel_rfl) (fun _ _ _ h => h) (by rfl) (by assumption) ?_
          simp only [Act.put, List.setIfInBounds_toArray, List.set_cons_zero, List.set_cons_succ]
          refine held_skip 32 59 rfl rfl (by kernel_rfl) (by kernel_rfl) (by kernel_rfl) (fun _ _ _ h => h) (by rfl) (by assumption) ?_
          simp only [Act.put, List.setIfInBounds_toArray, List.set_cons_zero, List.set_cons_succ]
          refine held_skip 33 60 rfl rfl (by kernel_rfl) (by kernel_rfl) (by kernel_rfl) (fun _ _ _ h => h) (by rfl) (by assumption) ?_
          simp only [Act.put, List.setIfInBounds_toArray, List.set_cons_zero, List.set_cons_succ]
          refine held_skip 34 61 rfl rfl (by kernel_rfl) (by kernel_rfl) (by kernel_rfl) (fun _ _ _ h => h) (by rfl) (by assumption) ?_
          simp only [Act.put, List.setIfInBounds_toArray, List.set_cons_zero, List.set_cons_succ]
          refine held_skip 35 62 rfl rfl (by kernel_rfl) (by kernel_rfl) (by kernel_rfl) (fun _ _ _ h => h) (by rfl) (by assumption) ?_
          simp only [Act.put, List.setIfInBounds_toArray, List.set_cons_zero, List.set_cons_succ]
          refine held_skip 36 63 rfl rfl (by kernel_rfl) (by kernel_rfl) (by kernel_rfl) (fun _ _ _ h => h) (by rfl) (by assumption) ?_
          simp only [Act.put, List.setIfInBounds_toArray, List.set_cons_zero, List.set_cons_succ]
          refine held_skip 37 64 rfl rfl (by kernel_rfl) (by kernel_rfl) (by kernel_rfl) (fun _ _ _ h => h) (by rfl) (by assumption) ?_
          simp only [Act.put, List.setIfInBounds_toArray, List.set_cons_zero, List.set_cons_succ]
          refine held_skip 38 65 rfl rfl (by kernel_rfl) (by kernel_rfl) (by kernel_rfl) (fun _ _ _ h => h) (by rfl) (by assumption) ?_
          simp only [Act.put, List.setIfInBounds_toArray, List.set_cons_zero, List.set_cons_succ]
          refine held_skip 39 66 rfl rfl (by kernel_rfl) (by kernel_rfl) (by kernel_rfl) (fun _ _ _ h => h) (by rfl) (by assumption) ?_
          simp only [Act.put, List.setIfInBounds_toArray, List.set_cons_zero, List.set_cons_succ]
          refine held_skip 40 67 rfl rfl (by kernel_rfl) (by kernel_rfl) (by kernel_rfl) (fun _ _ _ h => h) (by rfl) (by assumption) ?_
          simp only [Act.put, List.setIfInBounds_toArray, List.set_cons_zero, List.set_cons_succ]
          refine held_skip 41 68 rfl rfl (by kernel_rfl) (by kernel_rfl) (by kernel_rfl) (fun _ _ _ h => h) (by rfl) (by assumption) ?_
          simp only [Act.put, List.setIfInBounds_toArray, List.set_cons_zero, List.set_cons_succ]
          refine held_skip 42 69 rfl rfl (by kernel_rfl) (by kernel_rfl) (by kernel_rfl) (fun _ _ _ h => h) (by rfl) (by assumption) ?_
          simp only [Act.put, List.setIfInBounds_toArray, List.set_cons_zero, List.set_cons_succ]
          refine held_skip 43 70 rfl rfl (by kernel_rfl) (by kernel_rfl) (by kernel_rfl) (fun _ _ _ h => h) (by rfl) (by assumption) ?_
          simp only [Act.put, List.setIfInBounds_toArray, List.set_cons_zero, List.set_cons_succ]
          refine held_skip 44 71 rfl rfl (by kernel_rfl) (by kernel_rfl) (by kernel_rfl) (fun _ _ _ h => h) (by rfl) (by assumption) ?_
          simp only [Act.put, List.setIfInBounds_toArray, List.set_cons_zero, List.set_cons_succ]
          refine held_skip 45 72 rfl rfl (by kernel_rfl) (by kernel_rfl) (by kernel_rfl) (fun _ _ _ h => h) (by rfl) (by assumption) ?_
          simp only [Act.put, List.setIfInBounds_toArray, List.set_cons_zero, List.set_cons_succ]
          refine held_skip 46 73 rfl rfl (by kernel_rfl) (by kernel_rfl) (by kernel_rfl) (fun _ _ _ h => h) (by rfl) (by assumption) ?_
          simp only [Act.put, List.setIfInBounds_toArray, List.set_cons_zero, List.set_cons_succ]
          refine held_skip 47 74 rfl rfl (by kernel_rfl) (by kernel_rfl) (by kernel_rfl) (fun _ _ _ h => h) (by rfl) (by assumption) ?_
          simp only [Act.put, List.setIfInBounds_toArray, List.set_cons_zero, List.set_cons_succ]
          refine held_take 48 75 (.bool false) rfl rfl (by kernel_rfl) (by kernel_rfl) (by kernel_rfl) (fun _ _ _ h => h) (by rfl) (by intro w' hSw; (try dsimp only at hSw); go_simp; (try (with_reducible rfl))) (by assumption) ?_
          simp only [Act.put, List.setIfInBounds_toArray, List.set_cons_zero, List.set_cons_succ]
          refine wpAnyH_done (by kernel_rfl) ?_ _
          clear hHeld
          go_wp2_with fail
          go_roundw
          case rel => exact ⟨i + 1, z, by omega, rfl, by go_num, HN.out, HP.out⟩
          case measure => simp [intOf]; omega
        · have HM := Lib.hid hmx
          clear hmx
          have hz : z = -1 ∨ ∃ j, j < l.length ∧ z = (j : Int) := HBA.out.cases_
          rcases hz with hz | hz
          · obtain rfl : z = -1 := hz
            have HN := Lib.hid (HBA.out.first hlt (by rw [HXE.out]; exact HM.out))
            have dz : decide ((-1 : Int) < 0) = true := rfl
            go_wp2_with fail
            have HQd := Lib.hid HQ.out.drew
            have HRd := Lib.hid HRi.out.drew
            obtain ⟨q0, q1, q2, q3, q4, q5, q6, q7, q8, q9, q10⟩ := HQd.out.pb.pd
            obtain ⟨x0, x1, x2, x3, x4, x5, x6, x7, x8, x9, x10⟩ := HRd.out.pdAt (Below.refl _ _) HXI.out
            refine wp_region_held_drew (S := (fun w' => w'.cell? ⟨w.heap.size + 1, 0, none⟩ = some (.string p.id) ∧ w'.cell? ⟨w.heap.size + 1, 1, none⟩ = some (.int .i64 p.prio) ∧ w'.cell? ⟨w.heap.size + 1, 2, none⟩ = some (.bool p.crit) ∧ w'.cell? ⟨w.heap.size + 1, 3, none⟩ = some (.int .i64 p.q0) ∧ w'.cell? ⟨w.heap.size + 1, 4, none⟩ = some (.int .i64 p.q1) ∧ w'.cell? ⟨w.heap.size + 1, 5, none⟩ = some (.int .i64 p.q2) ∧ w'.cell? ⟨w.heap.size + 1, 6, none⟩ = some (.int .i64 p.l0) ∧ w'.cell? ⟨w.heap.size + 1, 7, none⟩ = some (.int .i64 p.l1) ∧ w'.cell? ⟨w.heap.size + 1, 8, none⟩ = some (.int .i64 p.l2) ∧ w'.cell? ⟨w.heap.size + 1, 9, none⟩ = some (.string p.image) ∧ w'.cell? ⟨w.heap.size + 1, 10, none⟩ = some (.int .i64 p.size) ∧ w'.cell? ⟨b, off + i * 11, none⟩ = some (.string x.id) ∧ w'.cell? ⟨b, off + i * 11 + 1, none⟩ = some (.int .i64 x.prio) ∧ w'.cell? ⟨b, off + i * 11 + 2, none⟩ = some (.bool x.crit) ∧ w'.cell? ⟨b, off + i * 11 + 3, none⟩ = some (.int .i64 x.q0) ∧ w'.cell? ⟨b, off + i * 11 + 4, none⟩ = some (.int .i64 x.q1) ∧ w'.cell? ⟨b, off + i * 11 + 5, none⟩ = some (.int .i64 x.q2) ∧ w'.cell? ⟨b, off + i * 11 + 6, none⟩ = some (.int .i64 x.l0) ∧ w'.cell? ⟨b, off + i * 11 + 7, none⟩ = some (.int .i64 x.l1) ∧ w'.cell? ⟨b, off + i * 11 + 8, none⟩ = some (.int .i64 x.l2) ∧ w'.cell? ⟨b, off + i * 11 + 9, none⟩ = some (.string x.image) ∧ w'.cell? ⟨b, off + i * 11 + 10, none⟩ = some (.int .i64 x.size))) (by kernel_rfl) (⟨q0, q1, q2, q3, q4, q5, q6, q7, q8, q9, q10, x0, x1, x2, x3, x4, x5, x6, x7, x8, x9, x10⟩) (fun hHeld => ?_)
            clear q0 q1 q2 q3 q4 q5 q6 q7 q8 q9 q10 x0 x1 x2 x3 x4 x5 x6 x7 x8 x9 x10
            refine held_take 0 27 (.agg #[.string p.id, .int .i64 p.prio, .bool p.crit, .int .i64 p.q0, .int .i64 p.q1, .int .i64 p.q2, .int .i64 p.l0, .int .i64 p.l1, .int .i64 p.l2, .string p.image, .int .i64 p.size]) rfl rfl (by kernel_rfl) (by kernel_rfl) (by kernel_rfl) (fun _ _ _ h => h) (by rfl) (by intro w' hSw; (try dsimp only at hSw); go_simp; (try (with_reducible rfl))) (by assumption) ?_
            simp only [Act.put, List.setIfInBounds_toArray, List.set_cons_zero, List.set_cons_succ]
            refine held_take 1 28 (.slice (some ⟨b, off, none⟩) l.length cl) rfl rfl (by kernel_rfl) (by kernel_rfl) (by kernel_rfl) (fun _ _ _ h => h) (by rfl) (by intro w' hSw; (try dsimp only at hSw); go_simp; (try (with_reducible rfl))) (by assumption) ?_
            simp only [Act.put, List.setIfInBounds_toArray, List.set_cons_zero, List.set_cons_succ]
            refine held_take 2 29 (.int .i64 i) rfl rfl (by kernel_rfl) (by kernel_rfl) (by kernel_rfl) (fun _ _ _ h => h) (by rfl) (by intro w' hSw; (try dsimp only at hSw); go_simp; (try (with_reducible rfl))) (by assumption) ?_
            simp only [Act.put, List.setIfInBounds_toArray, List.set_cons_zero, List.set_cons_succ]
            refine held_take 3 30 (.pointer (some ⟨b, off + i * 11, none⟩)) rfl rfl (by kernel_rfl) (by kernel_rfl) (by kernel_rfl) (fun _ _ _ h => h) (by rfl) (by intro w' hSw; (try dsimp only at hSw); go_simp; (try (with_reducible rfl))) (by assumption) ?_
            simp only [Act.put, List.setIfInBounds_toArray, List.set_cons_zero, List.set_cons_succ]
            refine held_take 4 31 (.agg #[.string x.id, .int .i64 x.prio, .bool x.crit, .int .i64 x.q0, .int .i64 x.q1, .int .i64 x.q2, .int .i64 x.l0, .int .i64 x.l1, .int .i64 x.l2, .string x.image, .int .i64 x.size]) rfl rfl (by kernel_rfl) (by kernel_rfl) (by kernel_rfl) (fun _ _ _ h => h) (by rfl) (by intro w' hSw; (try dsimp only at hSw); go_simp; (try (with_reducible rfl))) (by assumption) ?_
            simp only [Act.put, List.setIfInBounds_toArray, List.set_cons_zero, List.set_cons_succ]
            refine held_call 5 32 rfl rfl (by kernel_rfl) (by rfl) (fun K hK => ?_)
            go_simp
            go_at_call 15; with_reducible refine (refVmayV HM.out _).mono ?_; rintro e v1 ⟨rfl, hb⟩
            have HP := Lib.hid (HP.out.drew.trans (hb.mono HP.out.drew.size))
            have HQ := Lib.hid (HQd.out.below hb)
            have HRi := Lib.hid (HRd.out.below hb)
            clear hb
            obtain ⟨q0, q1, q2, q3, q4, q5, q6, q7, q8, q9, q10⟩ := HQ.out.pb.pd
            obtain ⟨x0, x1, x2, x3, x4, x5, x6, x7, x8, x9, x10⟩ := HRi.out.pdAt (Below.refl _ _) HXI.out
            refine hK _ _ (⟨q0, q1, q2, q3, q4, q5, q6, q7, q8, q9, q10, x0, x1, x2, x3, x4, x5, x6, x7, x8, x9, x10⟩) ?_
            have hHeld := (show v1.cell? ⟨w.heap.size + 1, 0, none⟩ = some (.string p.id) ∧ v1.cell? ⟨w.heap.size + 1, 1, none⟩ = some (.int .i64 p.prio) ∧ v1.cell? ⟨w.heap.size + 1, 2, none⟩ = some (.bool p.crit) ∧ v1.cell? ⟨w.heap.size + 1, 3, none⟩ = some (.int .i64 p.q0) ∧ v1.cell? ⟨w.heap.size + 1, 4, none⟩ = some (.int .i64 p.q1) ∧ v1.cell? ⟨w.heap.size + 1, 5, none⟩ = some (.int .i64 p.q2) ∧ v1.cell? ⟨w.heap.size + 1, 6, none⟩ = some (.int .i64 p.l0) ∧ v1.cell? ⟨w.heap.size + 1, 7, none⟩ = some (.int .i64 p.l1) ∧ v1.cell? ⟨w.heap.size + 1, 8, none⟩ = some (.int .i64 p.l2) ∧ v1.cell? ⟨w.heap.size + 1, 9, none⟩ = some (.string p.image) ∧ v1.cell? ⟨w.heap.size + 1, 10, none⟩ = some (.int .i64 p.size) ∧ v1.cell? ⟨b, off + i * 11, none⟩ = some (.string x.id) ∧ v1.cell? ⟨b, off + i * 11 + 1, none⟩ = some (.int .i64 x.prio) ∧ v1.cell? ⟨b, off + i * 11 + 2, none⟩ = some (.bool x.crit) ∧ v1.cell? ⟨b, off + i * 11 + 3, none⟩ = some (.int .i64 x.q0) ∧ v1.cell? ⟨b, off + i * 11 + 4, none⟩ = some (.int .i64 x.q1) ∧ v1.cell? ⟨b, off + i * 11 + 5, none⟩ = some (.int .i64 x.q2) ∧ v1.cell? ⟨b, off + i * 11 + 6, none⟩ = some (.int .i64 x.l0) ∧ v1.cell? ⟨b, off + i * 11 + 7, none⟩ = some (.int .i64 x.l1) ∧ v1.cell? ⟨b, off + i * 11 + 8, none⟩ = some (.int .i64 x.l2) ∧ v1.cell? ⟨b, off + i * 11 + 9, none⟩ = some (.string x.image) ∧ v1.cell? ⟨b, off + i * 11 + 10, none⟩ = some (.int .i64 x.size) from ⟨q0, q1, q2, q3, q4, q5, q6, q7, q8, q9, q10, x0, x1, x2, x3, x4, x5, x6, x7, x8, x9, x10⟩)
            clear hK K q0 q1 q2 q3 q4 q5 q6 q7 q8 q9 q10 x0 x1 x2 x3 x4 x5 x6 x7 x8 x9 x10
            simp only [Act.put, List.setIfInBounds_toArray, List.set_cons_zero, List.set_cons_succ]
            refine held_take 6 33 (.bool true) rfl rfl (by kernel_rfl) (by kernel_rfl) (by kernel_rfl) (fun _ _ _ h => h) (by rfl) (by intro w' hSw; (try dsimp only at hSw); go_simp; (try (with_reducible rfl))) (by assumption) ?_
            simp only [Act.put, List.setIfInBounds_toArray, List.set_cons_zero, List.set_cons_succ]
            refine held_take 7 34 (.int .i64 (-1)) rfl rfl (by kernel_rfl) (by kernel_rfl) (by kernel_rfl) (fun _ _ _ h => h) (by rfl) (by intro w' hSw; (try dsimp only at hSw); go_simp; (try (with_reducible rfl))) (by assumption) ?_
            simp only [Act.put, List.setIfInBounds_toArray, List.set_cons_zero, List.set_cons_succ]
            refine held_take 8 35 (.bool true) rfl rfl (by kernel_rfl) (by kernel_rfl) (by kernel_rfl) (fun _ _ _ h => h) (by rfl) (by intro w' hSw; (try dsimp only at hSw); go_simp; (try (with_reducible rfl))) (by assumption) ?_
            simp only [Act.put, List.setIfInBounds_toArray, List.set_cons_zero, List.set_cons_succ]
            refine held_take 9 36 (.bool true) rfl rfl (by kernel_rfl) (by kernel_rfl) (by kernel_rfl) (fun _ _ _ h => h) (by rfl) (by intro w' hSw; (try dsimp only at hSw); go_simp; (try (with_reducible rfl))) (by assumption) ?_
            simp only [Act.put, List.setIfInBounds_toArray, List.set_cons_zero, List.set_cons_succ]
            refine held_skip 10 37 rfl rfl (by kernel_rfl) (by kernel_rfl) (by kernel_rfl) (fun _ _ _ h => h) (by rfl) (by assumption) ?_
            simp only [Act.put, List.setIfInBounds_toArray, List.set_cons_zero, List.set_cons_succ]
            refine held_skip 11 38 rfl rfl (by kernel_rfl) (by kernel_rfl) (by kernel_rfl) (fun _ _ _ h => h) (by rfl) (by assumption) ?_
            simp only [Act.put, List.setIfInBounds_toArray, List.set_cons_zero, List.set_cons_succ]
            refine held_skip 12 39 rfl rfl (by kernel_rfl) (by kernel_rfl) (by kernel_rfl) (fun _ _ _ h => h) (by rfl) (by assumption) ?_
            simp only [Act.put, List.setIfInBounds_toArray, List.set_cons_zero, List.set_cons_succ]
            refine held_skip 13 40 rfl rfl (by kernel_rfl) (by kernel_rfl) (by kernel_rfl) (fun _ _ _ h => h) (by rfl) (by assumption) ?_
            simp only [Act.put, List.setIfInBounds_toArray, List.set_cons_zero, List.set_cons_succ]
            refine held_skip 14 41 rfl rfl (by kernel_rfl) (by kernel_rfl) (by kernel_rfl) (fun _ _ _ h => h) (by rfl) (by assumption) ?_
            simp only [Act.put, List.setIfInBounds_toArray, List.set_cons_zero, List.set_cons_succ]
            refine held_skip 15 42 rfl rfl (by kernel_rfl) (by kernel_rfl) (by kernel_rfl) (fun _ _ _ h => h) (by rfl) (by assumption) ?_
            simp only [Act.put, List.setIfInBounds_toArray, List.set_cons_zero, List.set_cons_succ]
            refine held_skip 16 43 rfl rfl (by kernel_rfl) (by kernel_rfl) (by kernel_rfl) (fun _ _ _ h => h) (by rfl) (by assumption) ?_
            simp only [Act.put, List.setIfInBounds_toArray, List.set_cons_zero, List.set_cons_succ]
            refine held_skip 17 44 rfl rfl (by kernel_rfl) (by kernel_rfl) (by kernel_rfl) (fun _ _ _ h => h) (by rfl) (by assumption) ?_
            simp only [Act.put, List.setIfInBounds_toArray, List.set_cons_zero, List.set_cons_succ]
            refine held_skip 18 45 rfl rfl (by kernel_rfl) (by kernel_rfl) (by kernel_rfl) (fun _ _ _ h => h) (by rfl) (by assumption) ?_
            simp only [Act.put, List.setIfInBounds_toArray, List.set_cons_zero, List.set_cons_succ]
            refine held_skip 19 46 rfl rfl (by kernel_rfl) (by kernel_rfl) (by kernel_rfl) (fun _ _ _ h => h) (by rfl) (by assumption) ?_
            simp only [Act.put, List.setIfInBounds_toArray, List.set_cons_zero, List.set_cons_succ]
            refine held_skip 20 47 rfl rfl (by kernel_rfl) (by kernel_rfl) (by kernel_rfl) (fun _ _ _ h => h) (by rfl) (by assumption) ?_
            simp only [Act.put, List.setIfInBounds_toArray, List.set_cons_zero, List.set_cons_succ]
            refine held_take 21 48 (.bool true) rfl rfl (by kernel_rfl) (by kernel_rfl) (by kernel_rfl) (fun _ _ _ h => h) (by rfl) (by intro w' hSw; (try dsimp only at hSw); go_simp; (try (with_reducible rfl))) (by assumption) ?_
            simp only [Act.put, List.setIfInBounds_toArray, List.set_cons_zero, List.set_cons_succ]
            refine held_take 22 49 (.bool true) rfl rfl (by kernel_rfl) (by kernel_rfl) (by kernel_rfl) (fun _ _ _ h => h) (by rfl) (by intro w' hSw; (try dsimp only at hSw); go_simp; (try (with_reducible rfl))) (by assumption) ?_
            simp only [Act.put, List.setIfInBounds_toArray, List.set_cons_zero, List.set_cons_succ]
            refine held_skip 23 50 rfl rfl (by kernel_rfl) (by kernel_rfl) (by kernel_rfl) (fun _ _ _ h => h) (by rfl) (by assumption) ?_
            simp only [Act.put, List.setIfInBounds_toArray, List.set_cons_zero, List.set_cons_succ]
            refine held_skip 24 51 rfl rfl (by kernel_rfl) (by kernel_rfl) (by kernel_rfl) (fun _ _ _ h => h) (by rfl) (by assumption) ?_
            simp only [Act.put, List.setIfInBounds_toArray, List.set_cons_zero, List.set_cons_succ]
            refine held_skip 25 52 rfl rfl (by kernel_rfl) (by kernel_rfl) (by kernel_rfl) (fun _ _ _ h => h) (by rfl) (by assumption) ?_
            simp only [Act.put, List.setIfInBounds_toArray, List.set_cons_zero, List.set_cons_succ]
            refine held_skip 26 53 rfl rfl (by kernel_rfl) (by kernel_rfl) (by kernel_rfl) (fun _ _ _ h => h) (by rfl) (by assumption) ?_
            simp only [Act.put, List.setIfInBounds_toArray, List.set_cons_zero, List.set_cons_succ]
            refine held_skip 27 54 rfl rfl (by kernel_rfl) (by kernel_rfl) (by kernel_rfl) (fun _ _ _ h => h) (by rfl) (by assumption) ?_
            simp only [Act.put, List.setIfInBounds_toArray, List.set_cons_zero, List.set_cons_succ]
            refine held_skip 28 55 rfl rfl (by kernel_rfl) (by kernel_rfl) (by kernel_rfl) (fun _ _ _ h => h) (by rfl) (by assumption) ?_
            simp only [Act.put, List.setIfInBounds_toArray, List.set_cons_zero, List.set_cons_succ]
            refine held_skip 29 56 rfl rfl (by kernel_rfl) (by kernel_rfl) (by kernel_rfl) (fun _ _ _ h => h) (by rfl) (by assumption) ?_
            simp only [Act.put, List.setIfInBounds_toArray, List.set_cons_zero, List.set_cons_succ]
            refine held_skip 30 57 rfl rfl (by kernel_rfl) (by kernel_rfl) (by kernel_rfl) (fun _ _ _ h => h) (by rfl) (by assumption) ?_
            simp only [Act.put, List.setIfInBounds_toArray, List.set_cons_zero, List.set_cons_succ]
            refine held_skip 31 58 rfl rfl (by kernel_rfl) (by kernel_rfl) (by kernel_rfl) (fun _ _ _ h => h) (by rfl) (by assumption) ?_
            simp only [Act.put, List.setIfInBounds_toArray, List.set_cons_zero, List.set_cons_succ]
            refine held_skip 32 59 rfl rfl (by kernel_rfl) (by kernel_rfl) (by kernel_rfl) (fun _ _ _ h => h) (by rfl) (by assumption) ?_
            simp only [Act.put, List.setIfInBounds_toArray, List.set_cons_zero, List.set_cons_succ]
            refine held_skip 33 60 rfl rfl (by kernel_rfl) (by kernel_rfl) (by kernel_rfl) (fun _ _ _ h => h) (by rfl) (by assumption) ?_
            simp only [Act.put, List.setIfInBounds_toArray, List.set_cons_zero, List.set_cons_succ]
            refine held_skip 34 61 rfl rfl (by kernel_rfl) (by kernel_rfl) (by kernel_rfl) (fun _ _ _ h => h) (by rfl) (by assumption) ?_
            simp only [Act.put, List.setIfInBounds_toArray, List.set_cons_zero, List.set_cons_succ]
            refine held_skip 35 62 rfl rfl (by kernel_rfl) (by kernel_rfl) (by kernel_rfl) (fun _ _ _ h => h) (by rfl) (by assumption) ?_
            simp only [Act.put, List.setIfInBounds_toArray, List.set_cons_zero, List.set_cons_succ]
            refine held_skip 36 63 rfl rfl (by kernel_rfl) (by kernel_rfl) (by kernel_rfl) (fun _ _ _ h => h) (by rfl) (by assumption) ?_
            simp only [Act.put, List.setIfInBounds_toArray, List.set_cons_zero, List.set_cons_succ]
            refine held_skip 37 64 rfl rfl (by kernel_rfl) (by kernel_rfl) (by kernel_rfl) (fun _ _ _ h => h) (by rfl) (by assumption) ?_
            simp only [Act.put, List.setIfInBounds_toArray, List.set_cons_zero, List.set_cons_succ]
            refine held_skip 38 65 rfl rfl (by kernel_rfl) (by kernel_rfl) (by kernel_rfl) (fun _ _ _ h => h) (by rfl) (by assumption) ?_
            simp only [Act.put, List.setIfInBounds_toArray, List.set_cons_zero, List.set_cons_succ]
            refine held_skip 39 66 rfl rfl (by kernel_rfl) (by kernel_rfl) (by kernel_rfl) (fun _ _ _ h => h) (by rfl) (by assumption) ?_
            simp only [Act.put, List.setIfInBounds_toArray, List.set_cons_zero, List.set_cons_succ]
            refine held_skip 40 67 rfl rfl (by kernel_rfl) (by kernel_rfl) (by kernel_rfl) (fun _ _ _ h => h) (by rfl) (by assumption) ?_
            simp only [Act.put, List.setIfInBounds_toArray, List.set_cons_zero, List.set_cons_succ]
            refine held_skip 41 68 rfl rfl (by kernel_rfl) (by kernel_rfl) (by kernel_rfl) (fun _ _ _ h => h) (by rfl) (by assumption) ?_
            simp only [Act.put, List.setIfInBounds_toArray, List.set_cons_zero, List.set_cons_succ]
            refine held_skip 42 69 rfl rfl (by kernel_rfl) (by kernel_rfl) (by kernel_rfl) (fun _ _ _ h => h) (by rfl) (by assumption) ?_
            simp only [Act.put, List.setIfInBounds_toArray, List.set_cons_zero, List.set_cons_succ]
            refine held_skip 43 70 rfl rfl (by kernel_rfl) (by kernel_rfl) (by kernel_rfl) (fun _ _ _ h => h) (by rfl) (by assumption) ?_
            simp only [Act.put, List.setIfInBounds_toArray, List.set_cons_zero, List.set_cons_succ]
            refine held_skip 44 71 rfl rfl (by kernel_rfl) (by kernel_rfl) (by kernel_rfl) (fun _ _ _ h => h) (by rfl) (by assumption) ?_
            simp only [Act.put, List.setIfInBounds_toArray, List.set_cons_zero, List.set_cons_succ]
            refine held_skip 45 72 rfl rfl (by kernel_rfl) (by kernel_rfl) (by kernel_rfl) (fun _ _ _ h => h) (by rfl) (by assumption) ?_
            simp only [Act.put, List.setIfInBounds_toArray, List.set_cons_zero, List.set_cons_succ]
            refine held_skip 46 73 rfl rfl (by kernel_rfl) (by kernel_rfl) (by kernel_rfl) (fun _ _ _ h => h) (by rfl) (by assumption) ?_
            simp only [Act.put, List.setIfInBounds_toArray, List.set_cons_zero, List.set_cons_succ]
            refine held_take 47 74 (.bool true) rfl rfl (by kernel_rfl) (by kernel_rfl) (by kernel_rfl) (fun _ _ _ h => h) (by rfl) (by intro w' hSw; (try dsimp only at hSw); go_simp; (try (with_reducible rfl))) (by assumption) ?_
            simp only [Act.put, List.setIfInBounds_toArray, List.set_cons_zero, List.set_cons_succ]
            refine held_take 48 75 (.bool true) rfl rfl (by kernel_rfl) (by kernel_rfl) (by kernel_rfl) (fun _ _ _ h => h) (by rfl) (by intro w' hSw; (try dsimp only at hSw); go_simp; (try (with_reducible rfl))) (by assumption) ?_
            simp only [Act.put, List.setIfInBounds_toArray, List.set_cons_zero, List.set_cons_succ]
            refine wpAnyH_done (by kernel_rfl) ?_ _
            clear hHeld
            go_wp2_with fail
            go_roundw
            case rel => exact ⟨i + 1, (i : Int), by omega, rfl, by go_num, HN.out, HP.out⟩
            case measure => simp [intOf]; omega
          · obtain ⟨j, hj, hz⟩ := hz
            obtain rfl : z = (j : Int) := hz
            have dz : decide ((j : Int) < 0) = false := decide_eq_false (by omega)
            have dj2 : (j : Int) < (l.length : Int) := by omega
            have HYJ := Lib.hid (List.getElem?_eq_getElem hj)
            have HBET := Lib.hid (fun h => HBA.out.better hlt hj (by rw [HXE.out]; exact HM.out) h)
            have HWOR := Lib.hid (fun h => HBA.out.worse hlt hj h)
            rw [HXE.out] at HBET HWOR
            generalize l[j] = y at *
            by_cases h1 : y.prio < x.prio
            · have HG := Lib.hid h1
              have HN := Lib.hid (HBET.out ((vlt_iff _ _).2 (.inl h1)))
              clear h1 HBET HWOR
              go_wp2_with fail
              have HQd := Lib.hid HQ.out.drew
              have HRd := Lib.hid HRi.out.drew
              obtain ⟨q0, q1, q2, q3, q4, q5, q6, q7, q8, q9, q10⟩ := HQd.out.pb.pd
              obtain ⟨x0, x1, x2, x3, x4, x5, x6, x7, x8, x9, x10⟩ := HRd.out.pdAt (Below.refl _ _) HXI.out
              obtain ⟨y0, y1, y2, y3, y4, y5, y6, y7, y8, y9, y10⟩ := HRd.out.pdAt (Below.refl _ _) HYJ.out
              refine wp_region_held_drew (S := (fun w' => w'.cell? ⟨w.heap.size + 1, 0, none⟩ = some (.string p.id) ∧ w'.cell? ⟨w.heap.size + 1, 1, none⟩ = some (.int .i64 p.prio) ∧ w'.cell? ⟨w.heap.size + 1, 2, none⟩ = some (.bool p.crit) ∧ w'.cell? ⟨w.heap.size + 1, 3, none⟩ = some (.int .i64 p.q0) ∧ w'.cell? ⟨w.heap.size + 1, 4, none⟩ = some (.int .i64 p.q1) ∧ w'.cell? ⟨w.heap.size + 1, 5, none⟩ = some (.int .i64 p.q2) ∧ w'.cell? ⟨w.heap.size + 1, 6, none⟩ = some (.int .i64 p.l0) ∧ w'.cell? ⟨w.heap.size + 1, 7, none⟩ = some (.int .i64 p.l1) ∧ w'.cell? ⟨w.heap.size + 1, 8, none⟩ = some (.int .i64 p.l2) ∧ w'.cell? ⟨w.heap.size + 1, 9, none⟩ = some (.string p.image) ∧ w'.cell? ⟨w.heap.size + 1, 10, none⟩ = some (.int .i64 p.size) ∧ w'.cell? ⟨b, off + i * 11, none⟩ = some (.string x.id) ∧ w'.cell? ⟨b, off + i * 11 + 1, none⟩ = some (.int .i64 x.prio) ∧ w'.cell? ⟨b, off + i * 11 + 2, none⟩ = some (.bool x.crit) ∧ w'.cell? ⟨b, off + i * 11 + 3, none⟩ = some (.int .i64 x.q0) ∧ w'.cell? ⟨b, off + i * 11 + 4, none⟩ = some (.int .i64 x.q1) ∧ w'.cell? ⟨b, off + i * 11 + 5, none⟩ = some (.int .i64 x.q2) ∧ w'.cell? ⟨b, off + i * 11 + 6, none⟩ = some (.int .i64 x.l0) ∧ w'.cell? ⟨b, off + i * 11 + 7, none⟩ = some (.int .i64 x.l1) ∧ w'.cell? ⟨b, off + i * 11 + 8, none⟩ = some (.int .i64 x.l2) ∧ w'.cell? ⟨b, off + i * 11 + 9, none⟩ = some (.string x.image) ∧ w'.cell? ⟨b, off + i * 11 + 10, none⟩ = some (.int .i64 x.size) ∧ w'.cell? ⟨b, off + j * 11, none⟩ = some (.string y.id) ∧ w'.cell? ⟨b, off + j * 11 + 1, none⟩ = some (.int .i64 y.prio) ∧ w'.cell? ⟨b, off + j * 11 + 2, none⟩ = some (.bool y.crit) ∧ w'.cell? ⟨b, off + j * 11 + 3, none⟩ = some (.int .i64 y.q0) ∧ w'.cell? ⟨b, off + j * 11 + 4, none⟩ = some (.int .i64 y.q1) ∧ w'.cell? ⟨b, off + j * 11 + 5, none⟩ = some (.int .i64 y.q2) ∧ w'.cell? ⟨b, off + j * 11 + 6, none⟩ = some (.int .i64 y.l0) ∧ w'.cell? ⟨b, off + j * 11 + 7, none⟩ = some (.int .i64 y.l1) ∧ w'.cell? ⟨b, off + j * 11 + 8, none⟩ = some (.int .i64 y.l2) ∧ w'.cell? ⟨b, off + j * 11 + 9, none⟩ = some (.string y.image) ∧ w'.cell? ⟨b, off + j * 11 + 10, none⟩ = some (.int .i64 y.size))) (by kernel_rfl) (⟨q0, q1, q2, q3, q4, q5, q6, q7, q8, q9, q10, x0, x1, x2, x3, x4, x5, x6, x7, x8, x9, x10, y0, y1, y2, y3, y4, y5, y6, y7, y8, y9, y10⟩) (fun hHeld => ?_)
              clear q0 q1 q2 q3 q4 q5 q6 q7 q8 q9 q10 x0 x1 x2 x3 x4 x5 x6 x7 x8 x9 x10 y0 y1 y2 y3 y4 y5 y6 y7 y8 y9 y10
              refine held_take 0 27 (.agg #[.string p.id, .int .i64 p.prio, .bool p.crit, .int .i64 p.q0, .int .i64 p.q1, .int .i64 p.q2, .int .i64 p.l0, .int .i64 p.l1, .int .i64 p.l2, .string p.image, .int .i64 p.size]) rfl rfl (by kernel_rfl) (by kernel_rfl) (by kernel_rfl) (fun _ _ _ h => h) (by rfl) (by intro w' hSw; (try dsimp only at hSw); go_simp; (try (with_reducible rfl))) (by assumption) ?_
              simp only [Act.put, List.setIfInBounds_toArray, List.set_cons_zero, List.set_cons_succ]
              refine held_take 1 28 (.slice (some ⟨b, off, none⟩) l.length cl) rfl rfl (by kernel_rfl) (by kernel_rfl) (by kernel_rfl) (fun _ _ _ h => h) (by rfl) (by intro w' hSw; (try dsimp only at hSw); go_simp; (try (with_reducible rfl))) (by assumption) ?_
              simp only [Act.put, List.setIfInBounds_toArray, List.set_cons_zero, List.set_cons_succ]
              refine held_take 2 29 (.int .i64 i) rfl rfl (by kernel_rfl) (by kernel_rfl) (by kernel_rfl) (fun _ _ _ h => h) (by rfl) (by intro w' hSw; (try dsimp only at hSw); go_simp; (try (with_reducible rfl))) (by assumption) ?_
              simp only [Act.put, List.setIfInBounds_toArray, List.set_cons_zero, List.set_cons_succ]
              refine held_take 3 30 (.pointer (some ⟨b, off + i * 11, none⟩)) rfl rfl (by kernel_rfl) (by kernel_rfl) (by kernel_rfl) (fun _ _ _ h => h) (by rfl) (by intro w' hSw; (try dsimp only at hSw); go_simp; (try (with_reducible rfl))) (by assumption) ?_
              simp only [Act.put, List.setIfInBounds_toArray, List.set_cons_zero, List.set_cons_succ]
              refine held_take 4 31 (.agg #[.string x.id, .int .i64 x.prio, .bool x.crit, .int .i64 x.q0, .int .i64 x.q1, .int .i64 x.q2, .int .i64 x.l0, .int .i64 x.l1, .int .i64 x.l2, .string x.image, .int .i64 x.size]) rfl rfl (by kernel_rfl) (by kernel_rfl) (by kernel_rfl) (fun _ _ _ h => h) (by rfl) (by intro w' hSw; (try dsimp only at hSw); go_simp; (try (with_reducible rfl))) (by assumption) ?_
              simp only [Act.put, List.setIfInBounds_toArray, List.set_cons_zero, List.set_cons_succ]
              refine held_call 5 32 rfl rfl (by kernel_rfl) (by rfl) (fun K hK => ?_)
              go_simp
              go_at_call 15; with_reducible refine (refVmayV HM.out _).mono ?_; rintro e v1 ⟨rfl, hb⟩
              have HP := Lib.hid (HP.out.drew.trans (hb.mono HP.out.drew.size))
              have HQ := Lib.hid (HQd.out.below hb)
              have HRi := Lib.hid (HRd.out.below hb)
              clear hb
              obtain ⟨q0, q1, q2, q3, q4, q5, q6, q7, q8, q9, q10⟩ := HQ.out.pb.pd
              obtain ⟨x0, x1, x2, x3, x4, x5, x6, x7, x8, x9, x10⟩ := HRi.out.pdAt (Below.refl _ _) HXI.out
              obtain ⟨y0, y1, y2, y3, y4, y5, y6, y7, y8, y9, y10⟩ := HRi.out.pdAt (Below.refl _ _) HYJ.out
              refine hK _ _ (⟨q0, q1, q2, q3, q4, q5, q6, q7, q8, q9, q10, x0, x1, x2, x3, x4, x5, x6, x7, x8, x9, x10, y0, y1, y2, y3, y4, y5, y6, y7, y8, y9, y10⟩) ?_
              have hHeld := (show v1.cell? ⟨w.heap.size + 1, 0, none⟩ = some (.string p.id) ∧ v1.cell? ⟨w.heap.size + 1, 1, none⟩ = some (.int .i64 p.prio) ∧ v1.cell? ⟨w.heap.size + 1, 2, none⟩ = some (.bool p.crit) ∧ v1.cell? ⟨w.heap.size + 1, 3, none⟩ = some (.int .i64 p.q0) ∧ v1.cell? ⟨w.heap.size + 1, 4, none⟩ = some (.int .i64 p.q1) ∧ v1.cell? ⟨w.heap.size + 1, 5, none⟩ = some (.int .i64 p.q2) ∧ v1.cell? ⟨w.heap.size + 1, 6, none⟩ = some (.int .i64 p.l0) ∧ v1.cell? ⟨w.heap.size + 1, 7, none⟩ = some (.int .i64 p.l1) ∧ v1.cell? ⟨w.heap.size + 1, 8, none⟩ = some (.int .i64 p.l2) ∧ v1.cell? ⟨w.heap.size + 1, 9, none⟩ = some (.string p.image) ∧ v1.cell? ⟨w.heap.size + 1, 10, none⟩ = some (.int .i64 p.size) ∧ v1.cell? ⟨b, off + i * 11, none⟩ = some (.string x.id) ∧ v1.cell? ⟨b, off + i * 11 + 1, none⟩ = some (.int .i64 x.prio) ∧ v1.cell? ⟨b, off + i * 11 + 2, none⟩ = some (.bool x.crit) ∧ v1.cell? ⟨b, off + i * 11 + 3, none⟩ = some (.int .i64 x.q0) ∧ v1.cell? ⟨b, off + i * 11 + 4, none⟩ = some (.int .i64 x.q1) ∧ v1.cell? ⟨b, off + i * 11 + 5, none⟩ = some (.int .i64 x.q2) ∧ v1.cell? ⟨b, off + i * 11 + 6, none⟩ = some (.int .i64 x.l0) ∧ v1.cell? ⟨b, off + i * 11 + 7, none⟩ = some (.int .i64 x.l1) ∧ v1.cell? ⟨b, off + i * 11 + 8, none⟩ = some (.int .i64 x.l2) ∧ v1.cell? ⟨b, off + i * 11 + 9, none⟩ = some (.string x.image) ∧ v1.cell? ⟨b, off + i * 11 + 10, none⟩ = some (.int .i64 x.size) ∧ v1.cell? ⟨b, off + j * 11, none⟩ = some (.string y.id) ∧ v1.cell? ⟨b, off + j * 11 + 1, none⟩ = some (.int .i64 y.prio) ∧ v1.cell? ⟨b, off + j * 11 + 2, none⟩ = some (.bool y.crit) ∧ v1.cell? ⟨b, off + j * 11 + 3, none⟩ = some (.int .i64 y.q0) ∧ v1.cell? ⟨b, off + j * 11 + 4, none⟩ = some (.int .i64 y.q1) ∧ v1.cell? ⟨b, off + j * 11 + 5, none⟩ = some (.int .i64 y.q2) ∧ v1.cell? ⟨b, off + j * 11 + 6, none⟩ = some (.int .i64 y.l0) ∧ v1.cell? ⟨b, off + j * 11 + 7, none⟩ = some (.int .i64 y.l1) ∧ v1.cell? ⟨b, off + j * 11 + 8, none⟩ = some (.int .i64 y.l2) ∧ v1.cell? ⟨b, off + j * 11 + 9, none⟩ = some (.string y.image) ∧ v1.cell? ⟨b, off + j * 11 + 10, none⟩ = some (.int .i64 y.size) from ⟨q0, q1, q2, q3, q4, q5, q6, q7, q8, q9, q10, x0, x1, x2, x3, x4, x5, x6, x7, x8, x9, x10, y0, y1, y2, y3, y4, y5, y6, y7, y8, y9, y10⟩)
              clear hK K q0 q1 q2 q3 q4 q5 q6 q7 q8 q9 q10 x0 x1 x2 x3 x4 x5 x6 x7 x8 x9 x10 y0 y1 y2 y3 y4 y5 y6 y7 y8 y9 y10
              simp only [Act.put, List.setIfInBounds_toArray, List.set_cons_zero, List.set_cons_succ]
              refine held_take 6 33 (.bool true) rfl rfl (by kernel_rfl) (by kernel_rfl) (by kernel_rfl) (fun _ _ _ h => h) (by rfl) (by intro w' hSw; (try dsimp only at hSw); go_simp; (try (with_reducible rfl))) (by assumption) ?_
              simp only [Act.put, List.setIfInBounds_toArray, List.set_cons_zero, List.set_cons_succ]
              refine held_take 7 34 (.int .i64 j) rfl rfl (by kernel_rfl) (by kernel_rfl) (by kernel_rfl) (fun _ _ _ h => h) (by rfl) (by intro w' hSw; (try dsimp only at hSw); go_simp; (try (with_reducible rfl))) (by assumption) ?_
              simp only [Act.put, List.setIfInBounds_toArray, List.set_cons_zero, List.set_cons_succ]
              refine held_take 8 35 (.bool false) rfl rfl (by kernel_rfl) (by kernel_rfl) (by kernel_rfl) (fun _ _ _ h => h) (by rfl) (by intro w' hSw; (try dsimp only at hSw); go_simp; (try (with_reducible rfl))) (by assumption) ?_
              simp only [Act.put, List.setIfInBounds_toArray, List.set_cons_zero, List.set_cons_succ]
              refine held_take 9 36 (.bool false) rfl rfl (by kernel_rfl) (by kernel_rfl) (by kernel_rfl) (fun _ _ _ h => h) (by rfl) (by intro w' hSw; (try dsimp only at hSw); go_simp; (try (with_reducible rfl))) (by assumption) ?_
              simp only [Act.put, List.setIfInBounds_toArray, List.set_cons_zero, List.set_cons_succ]
              refine held_take 10 37 (.slice (some ⟨b, off, none⟩) l.length cl) rfl rfl (by kernel_rfl) (by kernel_rfl) (by kernel_rfl) (fun _ _ _ h => h) (by rfl) (by intro w' hSw; (try dsimp only at hSw); go_simp; (try (with_reducible rfl))) (by assumption) ?_
              simp only [Act.put, List.setIfInBounds_toArray, List.set_cons_zero, List.set_cons_succ]
              refine held_take 11 38 (.int .i64 i) rfl rfl (by kernel_rfl) (by kernel_rfl) (by kernel_rfl) (fun _ _ _ h => h) (by rfl) (by intro w' hSw; (try dsimp only at hSw); go_simp; (try (with_reducible rfl))) (by assumption) ?_
              simp only [Act.put, List.setIfInBounds_toArray, List.set_cons_zero, List.set_cons_succ]
              refine held_take 12 39 (.pointer (some ⟨b, off + i * 11, none⟩)) rfl rfl (by kernel_rfl) (by kernel_rfl) (by kernel_rfl) (fun _ _ _ h => h) (by rfl) (by intro w' hSw; (try dsimp only at hSw); go_simp; (try (with_reducible rfl))) (by assumption) ?_
              simp only [Act.put, List.setIfInBounds_toArray, List.set_cons_zero, List.set_cons_succ]
              refine held_take 13 40 (.pointer (some ⟨b, off + i * 11 + 1, none⟩)) rfl rfl (by kernel_rfl) (by kernel_rfl) (by kernel_rfl) (fun _ _ _ h => h) (by rfl) (by intro w' hSw; (try dsimp only at hSw); go_simp; (try (with_reducible rfl))) (by assumption) ?_
              simp only [Act.put, List.setIfInBounds_toArray, List.set_cons_zero, List.set_cons_succ]
              refine held_take 14 41 (.int .i64 x.prio) rfl rfl (by kernel_rfl) (by kernel_rfl) (by kernel_rfl) (fun _ _ _ h => h) (by rfl) (by intro w' hSw; (try dsimp only at hSw); go_simp; (try (with_reducible rfl))) (by assumption) ?_
              simp only [Act.put, List.setIfInBounds_toArray, List.set_cons_zero, List.set_cons_succ]
              refine held_take 15 42 (.slice (some ⟨b, off, none⟩) l.length cl) rfl rfl (by kernel_rfl) (by kernel_rfl) (by kernel_rfl) (fun _ _ _ h => h) (by rfl) (by intro w' hSw; (try dsimp only at hSw); go_simp; (try (with_reducible rfl))) (by assumption) ?_
              simp only [Act.put, List.setIfInBounds_toArray, List.set_cons_zero, List.set_cons_succ]
              refine held_take 16 43 (.int .i64 j) rfl rfl (by kernel_rfl) (by kernel_rfl) (by kernel_rfl) (fun _ _ _ h => h) (by rfl) (by intro w' hSw; (try dsimp only at hSw); go_simp; (try (with_reducible rfl))) (by assumption) ?_
              simp only [Act.put, List.setIfInBounds_toArray, List.set_cons_zero, List.set_cons_succ]
              refine held_take 17 44 (.pointer (some ⟨b, off + j * 11, none⟩)) rfl rfl (by kernel_rfl) (by kernel_rfl) (by kernel_rfl) (fun _ _ _ h => h) (by rfl) (by intro w' hSw; (try dsimp only at hSw); go_simp; (try (with_reducible rfl))) (by assumption) ?_
              simp only [Act.put, List.setIfInBounds_toArray, List.set_cons_zero, List.set_cons_succ]
              refine held_take 18 45 (.pointer (some ⟨b, off + j * 11 + 1, none⟩)) rfl rfl (by kernel_rfl) (by kernel_rfl) (by kernel_rfl) (fun _ _ _ h => h) (by rfl) (by intro w' hSw; (try dsimp only at hSw); go_simp; (try (with_reducible rfl))) (by assumption) ?_
              simp only [Act.put, List.setIfInBounds_toArray, List.set_cons_zero, List.set_cons_succ]
              refine held_take 19 46 (.int .i64 y.prio) rfl rfl (by kernel_rfl) (by kernel_rfl) (by kernel_rfl) (fun _ _ _ h => h) (by rfl) (by intro w' hSw; (try dsimp only at hSw); go_simp; (try (with_reducible rfl))) (by assumption) ?_
              simp only [Act.put, List.setIfInBounds_toArray, List.set_cons_zero, List.set_cons_succ]
              refine held_take 20 47 (.bool true) rfl rfl (by kernel_rfl) (by kernel_rfl) (by kernel_rfl) (fun _ _ _ h => h) (by rfl) (by intro w' hSw; (try dsimp only at hSw); go_simp; (first | done | with_reducible rfl | (have hh := HG.out; first | omega | (simp; omega)))) (by assumption) ?_
              simp only [Act.put, List.setIfInBounds_toArray, List.set_cons_zero, List.set_cons_succ]
              refine held_take 21 48 (.bool true) rfl rfl (by kernel_rfl) (by kernel_rfl) (by kernel_rfl) (fun _ _ _ h => h) (by rfl) (by intro w' hSw; (try dsimp only at hSw); go_simp; (try (with_reducible rfl))) (by assumption) ?_
              simp only [Act.put, List.setIfInBounds_toArray, List.set_cons_zero, List.set_cons_succ]
              refine held_take 22 49 (.bool true) rfl rfl (by kernel_rfl) (by kernel_rfl) (by kernel_rfl) (fun _ _ _ h => h) (by rfl) (by intro w' hSw; (try dsimp only at hSw); go_simp; (try (with_reducible rfl))) (by assumption) ?_
              simp only [Act.put, List.setIfInBounds_toArray, List.set_cons_zero, List.set_cons_succ]
              refine held_skip 23 50 rfl rfl (by kernel_rfl) (by kernel_rfl) (by kernel_rfl) (fun _ _ _ h => h) (by rfl) (by assumption) ?_
              simp only [Act.put, List.setIfInBounds_toArray, List.set_cons_zero, List.set_cons_succ]
              refine held_skip 24 51 rfl rfl (by kernel_rfl) (by kernel_rfl) (by kernel_rfl) (fun _ _ _ h => h) (by rfl) (by assumption) ?_
              simp only [Act.put, List.setIfInBounds_toArray, List.set_cons_zero, List.set_cons_succ]
              refine held_skip 25 52 rfl rfl (by kernel_rfl) (by kernel_rfl) (by kernel_rfl) (fun _ _ _ h => h) (by rfl) (by assumption) ?_
              simp only [Act.put, List.setIfInBounds_toArray, List.set_cons_zero, List.set_cons_succ]
              refine held_skip 26 53 rfl rfl (by kernel_rfl) (by kernel_rfl) (by kernel_rfl) (fun _ _ _ h => h) (by rfl) (by assumption) ?_
              simp only [Act.put, List.setIfInBounds_toArray, List.set_cons_zero, List.set_cons_succ]
              refine held_skip 27 54 rfl rfl (by kernel_rfl) (by kernel_rfl) (by kernel_rfl) (fun _ _ _ h => h) (by rfl) (by assumption) ?_
              simp only [Act.put, List.setIfInBounds_toArray, List.set_cons_zero, List.set_cons_succ]
              refine held_skip 28 55 rfl rfl (by kernel_rfl) (by kernel_rfl) (by kernel_rfl) (fun _ _ _ h => h) (by rfl) (by assumption) ?_
              simp only [Act.put, List.setIfInBounds_toArray, List.set_cons_zero, List.set_cons_succ]
              refine held_skip 29 56 rfl rfl (by kernel_rfl) (by kernel_rfl) (by kernel_rfl) (fun _ _ _ h => h) (by rfl) (by assumption) ?_
              simp only [Act.put, List.setIfInBounds_toArray, List.set_cons_zero, List.set_cons_succ]
              refine held_skip 30 57 rfl rfl (by kernel_rfl) (by kernel_rfl) (by kernel_rfl) (fun _ _ _ h => h) (by rfl) (by assumption) ?_
              simp only [Act.put, List.setIfInBounds_toArray, List.set_cons_zero, List.set_cons_succ]
              refine held_skip 31 58 rfl rfl (by kernel_rfl) (by kernel_rfl) (by kernel_rfl) (fun _ _ _ h => h) (by rfl) (by assumption) ?_
              simp only [Act.put, List.setIfInBounds_toArray, List.set_cons_zero, List.set_cons_succ]
              refine held_skip 32 59 rfl rfl (by kernel_rfl) (by kernel_rfl) (by kernel_rfl) (fun _ _ _ h => h) (by rfl) (by assumption) ?_
              simp only [Act.put, List.setIfInBounds_toArray, List.set_cons_zero, List.set_cons_succ]
              refine held_skip 33 60 rfl rfl (by kernel_rfl) (by kernel_rfl) (by kernel_rfl) (fun _ _ _ h => h) (by rfl) (by assumption) ?_
              simp only [Act.put, List.setIfInBounds_toArray, List.set_cons_zero, List.set_cons_succ]
              refine held_skip 34 61 rfl rfl (by kernel_rfl) (by kernel_rfl) (by kernel_rfl) (fun _ _ _ h => h) (by rfl) (by assumption) ?_
              simp only [Act.put, List.setIfInBounds_toArray, List.set_cons_zero, List.set_cons_succ]
              refine held_skip 35 62 rfl rfl (by kernel_rfl) (by kernel_rfl) (by kernel_rfl) (fun _ _ _ h => h) (by rfl) (by assumption) ?_
              simp only [Act.put, List.setIfInBounds_toArray, List.set_cons_zero, List.set_cons_succ]
              refine held_skip 36 63 rfl rfl (by kernel_rfl) (by kernel_rfl) (by kernel_rfl) (fun _ _ _ h => h) (by rfl) (by assumption) ?_
              simp only [Act.put, List.setIfInBounds_toArray, List.set_cons_zero, List.set_cons_succ]
              refine held_skip 37 64 rfl rfl (by kernel_rfl) (by kernel_rfl) (by kernel_rfl) (fun _ _ _ h => h) (by rfl) (by assumption) ?_
              simp only [Act.put, List.setIfInBounds_toArray, List.set_cons_zero, List.set_cons_succ]
              refine held_skip 38 65 rfl rfl (by kernel_rfl) (by kernel_rfl) (by kernel_rfl) (fun _ _ _ h => h) (by rfl) (by assumption) ?_
              simp only [Act.put, List.setIfInBounds_toArray, List.set_cons_zero, List.set_cons_succ]
              refine held_skip 39 66 rfl rfl (by kernel_rfl) (by kernel_rfl) (by kernel_rfl) (fun _ _ _ h => h) (by rfl) (by assumption) ?_
              simp only [Act.put, List.setIfInBounds_toArray, List.set_cons_zero, List.set_cons_succ]
              refine held_skip 40 67 rfl rfl (by kernel_rfl) (by kernel_rfl) (by kernel_rfl) (fun _ _ _ h => h) (by rfl) (by assumption) ?_
              simp only [Act.put, List.setIfInBounds_toArray, List.set_cons_zero, List.set_cons_succ]
              refine held_skip 41 68 rfl rfl (by kernel_rfl) (by kernel_rfl) (by kernel_rfl) (fun _ _ _ h => h) (by rfl) (by assumption) ?_
              simp only [Act.put, List.setIfInBounds_toArray, List.set_cons_zero, List.set_cons_succ]
              refine held_skip 42 69 rfl rfl (by kernel_rfl) (by kernel_rfl) (by kernel_rfl) (fun _ _ _ h => h) (by rfl) (by assumption) ?_
              simp only [Act.put, List.setIfInBounds_toArray, List.set_cons_zero, List.set_cons_succ]
              refine held_skip 43 70 rfl rfl (by kernel_rfl) (by kernel_rfl) (by kernel_rfl) (fun _ _ _ h => h) (by rfl) (by assumption) ?_
              simp only [Act.put, List.setIfInBounds_toArray, List.set_cons_zero, List.set_cons_succ]
              refine held_skip 44 71 rfl rfl (by kernel_rfl) (by kernel_rfl) (by kernel_rfl) (fun _ _ _ h => h) (by rfl) (by assumption) ?_
              simp only [Act.put, List.setIfInBounds_toArray, List.set_cons_zero, List.set_cons_succ]
              refine held_skip 45 72 rfl rfl (by kernel_rfl) (by kernel_rfl) (by kernel_rfl) (fun _ _ _ h => h) (by rfl) (by assumption) ?_
              simp only [Act.put, List.setIfInBounds_toArray, List.set_cons_zero, List.set_cons_succ]
              refine held_skip 46 73 rfl rfl (by kernel_rfl) (by kernel_rfl) (by kernel_rfl) (fun _ _ _ h => h) (by rfl) (by assumption) ?_
              simp only [Act.put, List.setIfInBounds_toArray, List.set_cons_zero, List.set_cons_succ]
              refine held_take 47 74 (.bool true) rfl rfl (by kernel_rfl) (by kernel_rfl) (by kernel_rfl) (fun _ _ _ h => h) (by rfl) (by intro w' hSw; (try dsimp only at hSw); go_simp; (try (with_reducible rfl))) (by assumption) ?_
              simp only [Act.put, List.setIfInBounds_toArray, List.set_cons_zero, List.set_cons_succ]
              refine held_take 48 75 (.bool true) rfl rfl (by kernel_rfl) (by kernel_rfl) (by kernel_rfl) (fun _ _ _ h => h) (by rfl) (by intro w' hSw; (try dsimp only at hSw); go_simp; (try (with_reducible rfl))) (by assumption) ?_
              simp only [Act.put, List.setIfInBounds_toArray, List.set_cons_zero, List.set_cons_succ]
              refine wpAnyH_done (by kernel_rfl) ?_ _
              clear hHeld
              go_wp2_with fail
              go_roundw
              case rel => exact ⟨i + 1, (i : Int), by omega, rfl, by go_num, HN.out, HP.out⟩
              case measure => simp [intOf]; omega
            · by_cases h2 : x.prio = y.prio
              rotate_left
              · have HG := Lib.hid (And.intro h1 h2)
                have HN := Lib.hid (HWOR.out (vlt_no (by omega) fun h => absurd h h2))
                clear h1 h2 HBET HWOR
                go_wp2_with fail
                have HQd := Lib.hid HQ.out.drew
                have HRd := Lib.hid HRi.out.drew
                obtain ⟨q0, q1, q2, q3, q4, q5, q6, q7, q8, q9, q10⟩ := HQd.out.pb.pd
                obtain ⟨x0, x1, x2, x3, x4, x5, x6, x7, x8, x9, x10⟩ := HRd.out.pdAt (Below.refl _ _) HXI.out
                obtain ⟨y0, y1, y2, y3, y4, y5, y6, y7, y8, y9, y10⟩ := HRd.out.pdAt (Below.refl _ _) HYJ.out
                refine wp_region_held_drew (S := (fun w' => w'.cell? ⟨w.heap.size + 1, 0, none⟩ = some (.string p.id) ∧ w'.cell? ⟨w.heap.size + 1, 1, none⟩ = some (.int .i64 p.prio) ∧ w'.cell? ⟨w.heap.size + 1, 2, none⟩ = some (.bool p.crit) ∧ w'.cell? ⟨w.heap.size + 1, 3, none⟩ = some (.int .i64 p.q0) ∧ w'.cell? ⟨w.heap.size + 1, 4, none⟩ = some (.int .i64 p.q1) ∧ w'.cell? ⟨w.heap.size + 1, 5, none⟩ = some (.int .i64 p.q2) ∧ w'.cell? ⟨w.heap.size + 1, 6, none⟩ = some (.int .i64 p.l0) ∧ w'.cell? ⟨w.heap.size + 1, 7, none⟩ = some (.int .i64 p.l1) ∧ w'.cell? ⟨w.heap.size + 1, 8, none⟩ = some (.int .i64 p.l2) ∧ w'.cell? ⟨w.heap.size + 1, 9, none⟩ = some (.string p.image) ∧ w'.cell? ⟨w.heap.size + 1, 10, none⟩ = some (.int .i64 p.size) ∧ w'.cell? ⟨b, off + i * 11, none⟩ = some (.string x.id) ∧ w'.cell? ⟨b, off + i * 11 + 1, none⟩ = some (.int .i64 x.prio) ∧ w'.cell? ⟨b, off + i * 11 + 2, none⟩ = some (.bool x.crit) ∧ w'.cell? ⟨b, off + i * 11 + 3, none⟩ = some (.int .i64 x.q0) ∧ w'.cell? ⟨b, off + i * 11 + 4, none⟩ = some (.int .i64 x.q1) ∧ w'.cell? ⟨b, off + i * 11 + 5, none⟩ = some (.int .i64 x.q2) ∧ w'.cell? ⟨b, off + i * 11 + 6, none⟩ = some (.int .i64 x.l0) ∧ w'.cell? ⟨b, off + i * 11 + 7, none⟩ = some (.int .i64 x.l1) ∧ w'.cell? ⟨b, off + i * 11 + 8, none⟩ = some (.int .i64 x.l2) ∧ w'.cell? ⟨b, off + i * 11 + 9, none⟩ = some (.string x.image) ∧ w'.cell? ⟨b, off + i * 11 + 10, none⟩ = some (.int .i64 x.size) ∧ w'.cell? ⟨b, off + j * 11, none⟩ = some (.string y.id) ∧ w'.cell? ⟨b, off + j * 11 + 1, none⟩ = some (.int .i64 y.prio) ∧ w'.cell? ⟨b, off + j * 11 + 2, none⟩ = some (.bool y.crit) ∧ w'.cell? ⟨b, off + j * 11 + 3, none⟩ = some (.int .i64 y.q0) ∧ w'.cell? ⟨b, off + j * 11 + 4, none⟩ = some (.int .i64 y.q1) ∧ w'.cell? ⟨b, off + j * 11 + 5, none⟩ = some (.int .i64 y.q2) ∧ w'.cell? ⟨b, off + j * 11 + 6, none⟩ = some (.int .i64 y.l0) ∧ w'.cell? ⟨b, off + j * 11 + 7, none⟩ = some (.int .i64 y.l1) ∧ w'.cell? ⟨b, off + j * 11 + 8, none⟩ = some (.int .i64 y.l2) ∧ w'.cell? ⟨b, off + j * 11 + 9, none⟩ = some (.string y.image) ∧ w'.cell? ⟨b, off + j * 11 + 10, none⟩ = some (.int .i64 y.size))) (by kernel_rfl) (⟨q0, q1, q2, q3, q4, q5, q6, q7, q8, q9, q10, x0, x1, x2, x3, x4, x5, x6, x7, x8, x9, x10, y0, y1, y2, y3, y4, y5, y6, y7, y8, y9, y10⟩) (fun hHeld => ?_)
                clear q0 q1 q2 q3 q4 q5 q6 q7 q8 q9 q10 x0 x1 x2 x3 x4 x5 x6 x7 x8 x9 x10 y0 y1 y2 y3 y4 y5 y6 y7 y8 y9 y10
                refine held_take 0 27 (.agg #[.string p.id, .int .i64 p.prio, .bool p.crit, .int .i64 p.q0, .int .i64 p.q1, .int .i64 p.q2, .int .i64 p.l0, .int .i64 p.l1, .int .i64 p.l2, .string p.image, .int .i64 p.size]) rfl rfl (by kernel_rfl) (by kernel_rfl) (by kernel_rfl) (fun _ _ _ h => h) (by rfl) (by intro w' hSw; (try dsimp only at hSw); go_simp; (try (with_reducible rfl))) (by assumption) ?_
                simp only [Act.put, List.setIfInBounds_toArray, List.set_cons_zero, List.set_cons_succ]
                refine held_take 1 28 (.slice (some ⟨b, off, none⟩) l.length cl) rfl rfl (by kernel_rfl) (by kernel_rfl) (by kernel_rfl) (fun _ _ _ h => h) (by rfl) (by intro w' hSw; (try dsimp only at hSw); go_simp; (try (with_reducible rfl))) (by assumption) ?_
                simp only [Act.put, List.setIfInBounds_toArray, List.set_cons_zero, List.set_cons_succ]
                refine held_take 2 29 (.int .i64 i) rfl rfl (by kernel_rfl) (by kernel_rfl) (by kernel_rfl) (fun _ _ _ h => h) (by rfl) (by intro w' hSw; (try dsimp only at hSw); go_simp; (try (with_reducible rfl))) (by assumption) ?_
                simp only [Act.put, List.setIfInBounds_toArray, List.set_cons_zero, List.set_cons_succ]
                refine held_take 3 30 (.pointer (some ⟨b, off + i * 11, none⟩)) rfl rfl (by kernel_rfl) (by kernel_rfl) (by kernel_rfl) (fun _ _ _ h => h) (by rfl) (by intro w' hSw; (try dsimp only at hSw); go_simp; (try (with_reducible rfl))) (by assumption) ?_
                simp only [Act.put, List.setIfInBounds_toArray, List.set_cons_zero, List.set_cons_succ]
                refine held_take 4 31 (.agg #[.string x.id, .int .i64 x.prio, .bool x.crit, .int .i64 x.q0, .int .i64 x.q1, .int .i64 x.q2, .int .i64 x.l0, .int .i64 x.l1, .int .i64 x.l2, .string x.image, .int .i64 x.size]) rfl rfl (by kernel_rfl) (by kernel_rfl) (by kernel_rfl) (fun _ _ _ h => h) (by rfl) (by intro w' hSw; (try dsimp only at hSw); go_simp; (try (with_reducible rfl))) (by assumption) ?_
                simp only [Act.put, List.setIfInBounds_toArray, List.set_cons_zero, List.set_cons_succ]
                refine held_call 5 32 rfl rfl (by kernel_rfl) (by rfl) (fun K hK => ?_)
                go_simp
                go_at_call 15; with_reducible refine (refVmayV HM.out _).mono ?_; rintro e v1 ⟨rfl, hb⟩
                have HP := Lib.hid (HP.out.drew.trans (hb.mono HP.out.drew.size))
                have HQ := Lib.hid (HQd.out.below hb)
                have HRi := Lib.hid (HRd.out.below hb)
                clear hb
                obtain ⟨q0, q1, q2, q3, q4, q5, q6, q7, q8, q9, q10⟩ := HQ.out.pb.pd
                obtain ⟨x0, x1, x2, x3, x4, x5, x6, x7, x8, x9, x10⟩ := HRi.out.pdAt (Below.refl _ _) HXI.out
                obtain ⟨y0, y1, y2, y3, y4, y5, y6, y7, y8, y9, y10⟩ := HRi.out.pdAt (Below.refl _ _) HYJ.out
                refine hK _ _ (⟨q0, q1, q2, q3, q4, q5, q6, q7, q8, q9, q10, x0, x1, x2, x3, x4, x5, x6, x7, x8, x9, x10, y0, y1, y2, y3, y4, y5, y6, y7, y8, y9, y10⟩) ?_
                have hHeld := (show v1.cell? ⟨w.heap.size + 1, 0, none⟩ = some (.string p.id) ∧ v1.cell? ⟨w.heap.size + 1, 1, none⟩ = some (.int .i64 p.prio) ∧ v1.cell? ⟨w.heap.size + 1, 2, none⟩ = some (.bool p.crit) ∧ v1.cell? ⟨w.heap.size + 1, 3, none⟩ = some (.int .i64 p.q0) ∧ v1.cell? ⟨w.heap.size + 1, 4, none⟩ = some (.int .i64 p.q1) ∧ v1.cell? ⟨w.heap.size + 1, 5, none⟩ = some (.int .i64 p.q2) ∧ v1.cell? ⟨w.heap.size + 1, 6, none⟩ = some (.int .i64 p.l0) ∧ v1.cell? ⟨w.heap.size + 1, 7, none⟩ = some (.int .i64 p.l1) ∧ v1.cell? ⟨w.heap.size + 1, 8, none⟩ = some (.int .i64 p.l2) ∧ v1.cell? ⟨w.heap.size + 1, 9, none⟩ = some (.string p.image) ∧ v1.cell? ⟨w.heap.size + 1, 10, none⟩ = some (.int .i64 p.size) ∧ v1.cell? ⟨b, off + i * 11, none⟩ = some (.string x.id) ∧ v1.cell? ⟨b, off + i * 11 + 1, none⟩ = some (.int .i64 x.prio) ∧ v1.cell? ⟨b, off + i * 11 + 2, none⟩ = some (.bool x.crit) ∧ v1.cell? ⟨b, off + i * 11 + 3, none⟩ = some (.int .i64 x.q0) ∧ v1.cell? ⟨b, off + i * 11 + 4, none⟩ = some (.int .i64 x.q1) ∧ v1.cell? ⟨b, off + i * 11 + 5, none⟩ = some (.int .i64 x.q2) ∧ v1.cell? ⟨b, off + i * 11 + 6, none⟩ = some (.int .i64 x.l0) ∧ v1.cell? ⟨b, off + i * 11 + 7, none⟩ = some (.int .i64 x.l1) ∧ v1.cell? ⟨b, off + i * 11 + 8, none⟩ = some (.int .i64 x.l2) ∧ v1.cell? ⟨b, off + i * 11 + 9, none⟩ = some (.string x.image) ∧ v1.cell? ⟨b, off + i * 11 + 10, none⟩ = some (.int .i64 x.size) ∧ v1.cell? ⟨b, off + j * 11, none⟩ = some (.string y.id) ∧ v1.cell? ⟨b, off + j * 11 + 1, none⟩ = some (.int .i64 y.prio) ∧ v1.cell? ⟨b, off + j * 11 + 2, none⟩ = some (.bool y.crit) ∧ v1.cell? ⟨b, off + j * 11 + 3, none⟩ = some (.int .i64 y.q0) ∧ v1.cell? ⟨b, off + j * 11 + 4, none⟩ = some (.int .i64 y.q1) ∧ v1.cell? ⟨b, off + j * 11 + 5, none⟩ = some (.int .i64 y.q2) ∧ v1.cell? ⟨b, off + j * 11 + 6, none⟩ = some (.int .i64 y.l0) ∧ v1.cell? ⟨b, off + j * 11 + 7, none⟩ = some (.int .i64 y.l1) ∧ v1.cell? ⟨b, off + j * 11 + 8, none⟩ = some (.int .i64 y.l2) ∧ v1.cell? ⟨b, off + j * 11 + 9, none⟩ = some (.string y.image) ∧ v1.cell? ⟨b, off + j * 11 + 10, none⟩ = some (.int .i64 y.size) from ⟨q0, q1, q2, q3, q4, q5, q6, q7, q8, q9, q10, x0, x1, x2, x3, x4, x5, x6, x7, x8, x9, x10, y0, y1, y2, y3, y4, y5, y6, y7, y8, y9, y10⟩)
                clear hK K q0 q1 q2 q3 q4 q5 q6 q7 q8 q9 q10 x0 x1 x2 x3 x4 x5 x6 x7 x8 x9 x10 y0 y1 y2 y3 y4 y5 y6 y7 y8 y9 y10
                simp only [Act.put, List.setIfInBounds_toArray, List.set_cons_zero, List.set_cons_succ]
                refine held_take 6 33 (.bool true) rfl rfl (by kernel_rfl) (by kernel_rfl) (by kernel_rfl) (fun _ _ _ h => h) (by rfl) (by intro w' hSw; (try dsimp only at hSw); go_simp; (try (with_reducible rfl))) (by assumption) ?_
                simp only [Act.put, List.setIfInBounds_toArray, List.set_cons_zero, List.set_cons_succ]
                refine held_take 7 34 (.int .i64 j) rfl rfl (by kernel_rfl) (by kernel_rfl) (by kernel_rfl) (fun _ _ _ h => h) (by rfl) (by intro w' hSw; (try dsimp only at hSw); go_simp; (try (with_reducible rfl))) (by assumption) ?_
                simp only [Act.put, List.setIfInBounds_toArray, List.set_cons_zero, List.set_cons_succ]
                refine held_take 8 35 (.bool false) rfl rfl (by kernel_rfl) (by kernel_rfl) (by kernel_rfl) (fun _ _ _ h => h) (by rfl) (by intro w' hSw; (try dsimp only at hSw); go_simp; (try (with_reducible rfl))) (by assumption) ?_
                simp only [Act.put, List.setIfInBounds_toArray, List.set_cons_zero, List.set_cons_succ]
                refine held_take 9 36 (.bool false) rfl rfl (by kernel_rfl) (by kernel_rfl) (by kernel_rfl) (fun _ _ _ h => h) (by rfl) (by intro w' hSw; (try dsimp only at hSw); go_simp; (try (with_reducible rfl))) (by assumption) ?_
                simp only [Act.put, List.setIfInBounds_toArray, List.set_cons_zero, List.set_cons_succ]
                refine held_take 10 37 (.slice (some ⟨b, off, none⟩) l.length cl) rfl rfl (by kernel_rfl) (by kernel_rfl) (by kernel_rfl) (fun _ _ _ h => h) (by rfl) (by intro w' hSw; (try dsimp only at hSw); go_simp; (try (with_reducible rfl))) (by assumption) ?_
                simp only [Act.put, List.setIfInBounds_toArray, List.set_cons_zero, List.set_cons_succ]
                refine held_take 11 38 (.int .i64 i) rfl rfl (by kernel_rfl) (by kernel_rfl) (by kernel_rfl) (fun _ _ _ h => h) (by rfl) (by intro w' hSw; (try dsimp only at hSw); go_simp; (try (with_reducible rfl))) (by assumption) ?_
                simp only [Act.put, List.setIfInBounds_toArray, List.set_cons_zero, List.set_cons_succ]
                refine held_take 12 39 (.pointer (some ⟨b, off + i * 11, none⟩)) rfl rfl (by kernel_rfl) (by kernel_rfl) (by kernel_rfl) (fun _ _ _ h => h) (by rfl) (by intro w' hSw; (try dsimp only at hSw); go_simp; (try (with_reducible rfl))) (by assumption) ?_
                simp only [Act.put, List.setIfInBounds_toArray, List.set_cons_zero, List.set_cons_succ]
                refine held_take 13 40 (.pointer (some ⟨b, off + i * 11 + 1, none⟩)) rfl rfl (by kernel_rfl) (by kernel_rfl) (by kernel_rfl) (fun _ _ _ h => h) (by rfl) (by intro w' hSw; (try dsimp only at hSw); go_simp; (try (with_reducible rfl))) (by assumption) ?_
                simp only [Act.put, List.setIfInBounds_toArray, List.set_cons_zero, List.set_cons_succ]
                refine held_take 14 41 (.int .i64 x.prio) rfl rfl (by kernel_rfl) (by kernel_rfl) (by kernel_rfl) (fun _ _ _ h => h) (by rfl) (by intro w' hSw; (try dsimp only at hSw); go_simp; (try (with_reducible rfl))) (by assumption) ?_
                simp only [Act.put, List.setIfInBounds_toArray, List.set_cons_zero, List.set_cons_succ]
                refine held_take 15 42 (.slice (some ⟨b, off, none⟩) l.length cl) rfl rfl (by kernel_rfl) (by kernel_rfl) (by kernel_rfl) (fun _ _ _ h => h) (by rfl) (by intro w' hSw; (try dsimp only at hSw); go_simp; (try (with_reducible rfl))) (by assumption) ?_
                simp only [Act.put, List.setIfInBounds_toArray, List.set_cons_zero, List.set_cons_succ]
                refine held_take 16 43 (.int .i64 j) rfl rfl (by kernel_rfl) (by kernel_rfl) (by kernel_rfl) (fun _ _ _ h => h) (by rfl) (by intro w' hSw; (try dsimp only at hSw); go_simp; (try (with_reducible rfl))) (by assumption) ?_
                simp only [Act.put, List.setIfInBounds_toArray, List.set_cons_zero, List.set_cons_succ]
                refine held_take 17 44 (.pointer (some ⟨b, off + j * 11, none⟩)) rfl rfl (by kernel_rfl) (by kernel_rfl) (by kernel_rfl) (fun _ _ _ h => h) (by rfl) (by intro w' hSw; (try dsimp only at hSw); go_simp; (try (with_reducible rfl))) (by assumption) ?_
                simp only [Act.put, List.setIfInBounds_toArray, List.set_cons_zero, List.set_cons_succ]
                refine held_take 18 45 (.pointer (some ⟨b, off + j * 11 + 1, none⟩)) rfl rfl (by kernel_rfl) (by kernel_rfl) (by kernel_rfl) (fun _ _ _ h => h) (by rfl) (by intro w' hSw; (try dsimp only at hSw); go_simp; (try (with_reducible rfl))) (by assumption) ?_
                simp only [Act.put, List.setIfInBounds_toArray, List.set_cons_zero, List.set_cons_succ]
                refine held_take 19 46 (.int .i64 y.prio) rfl rfl (by kernel_rfl) (by kernel_rfl) (by kernel_rfl) (fun _ _ _ h => h) (by rfl) (by intro w' hSw; (try dsimp only at hSw); go_simp; (try (with_reducible rfl))) (by assumption) ?_
                simp only [Act.put, List.setIfInBounds_toArray, List.set_cons_zero, List.set_cons_succ]
                refine held_take 20 47 (.bool false) rfl rfl (by kernel_rfl) (by kernel_rfl) (by kernel_rfl) (fun _ _ _ h => h) (by rfl) (by intro w' hSw; (try dsimp only at hSw); go_simp; (first | done | with_reducible rfl | (have hh := HG.out; first | omega | (simp; omega)))) (by assumption) ?_
                simp only [Act.put, List.setIfInBounds_toArray, List.set_cons_zero, List.set_cons_succ]
                refine held_take 21 48 (.bool false) rfl rfl (by kernel_rfl) (by kernel_rfl) (by kernel_rfl) (fun _ _ _ h => h) (by rfl) (by intro w' hSw; (try dsimp only at hSw); go_simp; (try (with_reducible rfl))) (by assumption) ?_
                simp only [Act.put, List.setIfInBounds_toArray, List.set_cons_zero, List.set_cons_succ]
                refine held_take 22 49 (.bool false) rfl rfl (by kernel_rfl) (by kernel_rfl) (by kernel_rfl) (fun _ _ _ h => h) (by rfl) (by intro w' hSw; (try dsimp only at hSw); go_simp; (try (with_reducible rfl))) (by assumption) ?_
                simp only [Act.put, List.setIfInBounds_toArray, List.set_cons_zero, List.set_cons_succ]
                refine held_take 23 50 (.slice (some ⟨b, off, none⟩) l.length cl) rfl rfl (by kernel_rfl) (by kernel_rfl) (by kernel_rfl) (fun _ _ _ h => h) (by rfl) (by intro w' hSw; (try dsimp only at hSw); go_simp; (try (with_reducible rfl))) (by assumption) ?_
                simp only [Act.put, List.setIfInBounds_toArray, List.set_cons_zero, List.set_cons_succ]
                refine held_take 24 51 (.int .i64 i) rfl rfl (by kernel_rfl) (by kernel_rfl) (by kernel_rfl) (fun _ _ _ h => h) (by rfl) (by intro w' hSw; (try dsimp only at hSw); go_simp; (try (with_reducible rfl))) (by assumption) ?_
                simp only [Act.put, List.setIfInBounds_toArray, List.set_cons_zero, List.set_cons_succ]
                refine held_take 25 52 (.pointer (some ⟨b, off + i * 11, none⟩)) rfl rfl (by kernel_rfl) (by kernel_rfl) (by kernel_rfl) (fun _ _ _ h => h) (by rfl) (by intro w' hSw; (try dsimp only at hSw); go_simp; (try (with_reducible rfl))) (by assumption) ?_
                simp only [Act.put, List.setIfInBounds_toArray, List.set_cons_zero, List.set_cons_succ]
                refine held_take 26 53 (.pointer (some ⟨b, off + i * 11 + 1, none⟩)) rfl rfl (by kernel_rfl) (by kernel_rfl) (by kernel_rfl) (fun _ _ _ h => h) (by rfl) (by intro w' hSw; (try dsimp only at hSw); go_simp; (try (with_reducible rfl))) (by assumption) ?_
                simp only [Act.put, List.setIfInBounds_toArray, List.set_cons_zero, List.set_cons_succ]
                refine held_take 27 54 (.int .i64 x.prio) rfl rfl (by kernel_rfl) (by kernel_rfl) (by kernel_rfl) (fun _ _ _ h => h) (by rfl) (by intro w' hSw; (try dsimp only at hSw); go_simp; (try (with_reducible rfl))) (by assumption) ?_
                simp only [Act.put, List.setIfInBounds_toArray, List.set_cons_zero, List.set_cons_succ]
                refine held_take 28 55 (.slice (some ⟨b, off, none⟩) l.length cl) rfl rfl (by kernel_rfl) (by kernel_rfl) (by kernel_rfl) (fun _ _ _ h => h) (by rfl) (by intro w' hSw; (try dsimp only at hSw); go_simp; (try (with_reducible rfl))) (by assumption) ?_
                simp only [Act.put, List.setIfInBounds_toArray, List.set_cons_zero, List.set_cons_succ]
                refine held_take 29 56 (.int .i64 j) rfl rfl (by kernel_rfl) (by kernel_rfl) (by kernel_rfl) (fun _ _ _ h => h) (by rfl) (by intro w' hSw; (try dsimp only at hSw); go_simp; (try (with_reducible rfl))) (by assumption) ?_
                simp only [Act.put, List.setIfInBounds_toArray, List.set_cons_zero, List.set_cons_succ]
                refine held_take 30 57 (.pointer (some ⟨b, off + j * 11, none⟩)) rfl rfl (by kernel_rfl) (by kernel_rfl) (by kernel_rfl) (fun _ _ _ h => h) (by rfl) (by intro w' hSw; (try dsimp only at hSw); go_simp; (try (with_reducible rfl))) (by assumption) ?_
                simp only [Act.put, List.setIfInBounds_toArray, List.set_cons_zero, List.set_cons_succ]
                refine held_take 31 58 (.pointer (some ⟨b, off + j * 11 + 1, none⟩)) rfl rfl (by kernel_rfl) (by kernel_rfl) (by kernel_rfl) (fun _ _ _ h => h) (by rfl) (by intro w' hSw; (try dsimp only at hSw); go_simp; (try (with_reducible rfl))) (by assumption) ?_
                simp only [Act.put, List.setIfInBounds_toArray, List.set_cons_zero, List.set_cons_succ]
                refine held_take 32 59 (.int .i64 y.prio) rfl rfl (by kernel_rfl) (by kernel_rfl) (by kernel_rfl) (fun _ _ _ h => h) (by rfl) (by intro w' hSw; (try dsimp only at hSw); go_simp; (try (with_reducible rfl))) (by assumption) ?_
                simp only [Act.put, List.setIfInBounds_toArray, List.set_cons_zero, List.set_cons_succ]
                refine held_take 33 60 (.bool false) rfl rfl (by kernel_rfl) (by kernel_rfl) (by kernel_rfl) (fun _ _ _ h => h) (by rfl) (by intro w' hSw; (try dsimp only at hSw); go_simp; (first | done | with_reducible rfl | (have hh := HG.out; first | omega | (simp; omega)))) (by assumption) ?_
                simp only [Act.put, List.setIfInBounds_toArray, List.set_cons_zero, List.set_cons_succ]
                refine held_take 34 61 (.bool false) rfl rfl (by kernel_rfl) (by kernel_rfl) (by kernel_rfl) (fun _ _ _ h => h) (by rfl) (by intro w' hSw; (try dsimp only at hSw); go_simp; (try (with_reducible rfl))) (by assumption) ?_
                simp only [Act.put, List.setIfInBounds_toArray, List.set_cons_zero, List.set_cons_succ]
                refine held_skip 35 62 rfl rfl (by kernel_rfl) (by kernel_rfl) (by kernel_rfl) (fun _ _ _ h => h) (by rfl) (by assumption) ?_
                simp only [Act.put, List.setIfInBounds_toArray, List.set_cons_zero, List.set_cons_succ]
                refine held_skip 36 63 rfl rfl (by kernel_rfl) (by kernel_rfl) (by kernel_rfl) (fun _ _ _ h => h) (by rfl) (by assumption) ?_
                simp only [Act.put, List.setIfInBounds_toArray, List.set_cons_zero, List.set_cons_succ]
                refine held_skip 37 64 rfl rfl (by kernel_rfl) (by kernel_rfl) (by kernel_rfl) (fun _ _ _ h => h) (by rfl) (by assumption) ?_
                simp only [Act.put, List.setIfInBounds_toArray, List.set_cons_zero, List.set_cons_succ]
                refine held_skip 38 65 rfl rfl (by kernel_rfl) (by kernel_rfl) (by kernel_rfl) (fun _ _ _ h => h) (by rfl) (by assumption) ?_
                simp only [Act.put, List.setIfInBounds_toArray, List.set_cons_zero, List.set_cons_succ]
                refine held_skip 39 66 rfl rfl (by kernel_rfl) (by kernel_rfl) (by kernel_rfl) (fun _ _ _ h => h) (by rfl) (by assumption) ?_
                simp only [Act.put, List.setIfInBounds_toArray, List.set_cons_zero, List.set_cons_succ]
                refine held_skip 40 67 rfl rfl (by kernel_rfl) (by kernel_rfl) (by kernel_rfl) (fun _ _ _ h => h) (by rfl) (by assumption) ?_
                simp only [Act.put, List.setIfInBounds_toArray, List.set_cons_zero, List.set_cons_succ]
                refine held_skip 41 68 rfl rfl (by kernel_rfl) (by kernel_rfl) (by kernel_rfl) (fun _ _ _ h => h) (by rfl) (by assumption) ?_
                simp only [Act.put, List.setIfInBounds_toArray, List.set_cons_zero, List.set_cons_succ]
                refine held_skip 42 69 rfl rfl (by kernel_rfl) (by kernel_rfl) (by kernel_rfl) (fun _ _ _ h => h) (by rfl) (by assumption) ?_
                simp only [Act.put, List.setIfInBounds_toArray, List.set_cons_zero, List.set_cons_succ]
                refine held_skip 43 70 rfl rfl (by kernel_rfl) (by kernel_rfl) (by kernel_rfl) (fun _ _ _ h => h) (by rfl) (by assumption) ?_
                simp only [Act.put, List.setIfInBounds_toArray, List.set_cons_zero, List.set_cons_succ]
                refine held_skip 44 71 rfl rfl (by kernel_rfl) (by kernel_rfl) (by kernel_rfl) (fun _ _ _ h => h) (by rfl) (by assumption) ?_
                simp only [Act.put, List.setIfInBounds_toArray, List.set_cons_zero, List.set_cons_succ]
                refine held_skip 45 72 rfl rfl (by kernel_rfl) (by kernel_rfl) (by kernel_rfl) (fun _ _ _ h => h) (by rfl) (by assumption) ?_
                simp only [Act.put, List.setIfInBounds_toArray, List.set_cons_zero, List.set_cons_succ]
                refine held_take 46 73 (.bool false) rfl rfl (by kernel_rfl) (by kernel_rfl) (by kernel_rfl) (fun _ _ _ h => h) (by rfl) (by intro w' hSw; (try dsimp only at hSw); go_simp; (try (with_reducible rfl))) (by assumption) ?_
                simp only [Act.put, List.setIfInBounds_toArray, List.set_cons_zero, List.set_cons_succ]
                refine held_take 47 74 (.bool false) rfl rfl (by kernel_rfl) (by kernel_rfl) (by kernel_rfl) (fun _ _ _ h => h) (by rfl) (by intro w' hSw; (try dsimp only at hSw); go_simp; (try (with_reducible rfl))) (by assumption) ?_
                simp only [Act.put, List.setIfInBounds_toArray, List.set_cons_zero, List.set_cons_succ]
                refine held_take 48 75 (.bool false) rfl rfl (by kernel_rfl) (by kernel_rfl) (by kernel_rfl) (fun _ _ _ h => h) (by rfl) (by intro w' hSw; (try dsimp only at hSw); go_simp; (try (with_reducible rfl))) (by assumption) ?_
                simp only [Act.put, List.setIfInBounds_toArray, List.set_cons_zero, List.set_cons_succ]
                refine wpAnyH_done (by kernel_rfl) ?_ _
                clear hHeld
                go_wp2_with fail
                go_roundw
                case rel => exact ⟨i + 1, (j : Int), by omega, rfl, by go_num, HN.out, HP.out⟩
                case measure => simp [intOf]; omega
              · cases h3 : blt x.id y.id
                · have HG := Lib.hid h2
                  have HBL := Lib.hid h3
                  have HN := Lib.hid (HWOR.out (vlt_no (by omega) fun _ => h3))
                  clear h1 h2 h3 HBET HWOR
                  go_wp2_with fail
                  have HQd := Lib.hid HQ.out.drew
                  have HRd := Lib.hid HRi.out.drew
                  obtain ⟨q0, q1, q2, q3, q4, q5, q6, q7, q8, q9, q10⟩ := HQd.out.pb.pd
                  obtain ⟨x0, x1, x2, x3, x4, x5, x6, x7, x8, x9, x10⟩ := HRd.out.pdAt (Below.refl _ _) HXI.out
                  obtain ⟨y0, y1, y2, y3, y4, y5, y6, y7, y8, y9, y10⟩ := HRd.out.pdAt (Below.refl _ _) HYJ.out
                  refine wp_region_held_drew (S := (fun w' => w'.cell? ⟨w.heap.size + 1, 0, none⟩ = some (.string p.id) ∧ w'.cell? ⟨w.heap.size + 1, 1, none⟩ = some (.int .i64 p.prio) ∧ w'.cell? ⟨w.heap.size + 1, 2, none⟩ = some (.bool p.crit) ∧ w'.cell? ⟨w.heap.size + 1, 3, none⟩ = some (.int .i64 p.q0) ∧ w'.cell? ⟨w.heap.size + 1, 4, none⟩ = some (.int .i64 p.q1) ∧ w'.cell? ⟨w.heap.size + 1, 5, none⟩ = some (.int .i64 p.q2) ∧ w'.cell? ⟨w.heap.size + 1, 6, none⟩ = some (.int .i64 p.l0) ∧ w'.cell? ⟨w.heap.size + 1, 7, none⟩ = some (.int .i64 p.l1) ∧ w'.cell? ⟨w.heap.size + 1, 8, none⟩ = some (.int .i64 p.l2) ∧ w'.cell? ⟨w.heap.size + 1, 9, none⟩ = some (.string p.image) ∧ w'.cell? ⟨w.heap.size + 1, 10, none⟩ = some (.int .i64 p.size) ∧ w'.cell? ⟨b, off + i * 11, none⟩ = some (.string x.id) ∧ w'.cell? ⟨b, off + i * 11 + 1, none⟩ = some (.int .i64 x.prio) ∧ w'.cell? ⟨b, off + i * 11 + 2, none⟩ = some (.bool x.crit) ∧ w'.cell? ⟨b, off + i * 11 + 3, none⟩ = some (.int .i64 x.q0) ∧ w'.cell? ⟨b, off + i * 11 + 4, none⟩ = some (.int .i64 x.q1) ∧ w'.cell? ⟨b, off + i * 11 + 5, none⟩ = some (.int .i64 x.q2) ∧ w'.cell? ⟨b, off + i * 11 + 6, none⟩ = some (.int .i64 x.l0) ∧ w'.cell? ⟨b, off + i * 11 + 7, none⟩ = some (.int .i64 x.l1) ∧ w'.cell? ⟨b, off + i * 11 + 8, none⟩ = some (.int .i64 x.l2) ∧ w'.cell? ⟨b, off + i * 11 + 9, none⟩ = some (.string x.image) ∧ w'.cell? ⟨b, off + i * 11 + 10, none⟩ = some (.int .i64 x.size) ∧ w'.cell? ⟨b, off + j * 11, none⟩ = some (.string y.id) ∧ w'.cell? ⟨b, off + j * 11 + 1, none⟩ = some (.int .i64 y.prio) ∧ w'.cell? ⟨b, off + j * 11 + 2, none⟩ = some (.bool y.crit) ∧ w'.cell? ⟨b, off + j * 11 + 3, none⟩ = some (.int .i64 y.q0) ∧ w'.cell? ⟨b, off + j * 11 + 4, none⟩ = some (.int .i64 y.q1) ∧ w'.cell? ⟨b, off + j * 11 + 5, none⟩ = some (.int .i64 y.q2) ∧ w'.cell? ⟨b, off + j * 11 + 6, none⟩ = some (.int .i64 y.l0) ∧ w'.cell? ⟨b, off + j * 11 + 7, none⟩ = some (.int .i64 y.l1) ∧ w'.cell? ⟨b, off + j * 11 + 8, none⟩ = some (.int .i64 y.l2) ∧ w'.cell? ⟨b, off + j * 11 + 9, none⟩ = some (.string y.image) ∧ w'.cell? ⟨b, off + j * 11 + 10, none⟩ = some (.int .i64 y.size))) (by kernel_rfl) (⟨q0, q1, q2, q3, q4, q5, q6, q7, q8, q9, q10, x0, x1, x2, x3, x4, x5, x6, x7, x8, x9, x10, y0, y1, y2, y3, y4, y5, y6, y7, y8, y9, y10⟩) (fun hHeld => ?_)
                  clear q0 q1 q2 q3 q4 q5 q6 q7 q8 q9 q10 x0 x1 x2 x3 x4 x5 x6 x7 x8 x9 x10 y0 y1 y2 y3 y4 y5 y6 y7 y8 y9 y10
                  refine held_take 0 27 (.agg #[.string p.id, .int .i64 p.prio, .bool p.crit, .int .i64 p.q0, .int .i64 p.q1, .int .i64 p.q2, .int .i64 p.l0, .int .i64 p.l1, .int .i64 p.l2, .string p.image, .int .i64 p.size]) rfl rfl (by kernel_rfl) (by kernel_rfl) (by kernel_rfl) (fun _ _ _ h => h) (by rfl) (by intro w' hSw; (try dsimp only at hSw); go_simp; (try (with_reducible rfl))) (by assumption) ?_
                  simp only [Act.put, List.setIfInBounds_toArray, List.set_cons_zero, List.set_cons_succ]
                  refine held_take 1 28 (.slice (some ⟨b, off, none⟩) l.length cl) rfl rfl (by kernel_rfl) (by kernel_rfl) (by kernel_rfl) (fun _ _ _ h => h) (by rfl) (by intro w' hSw; (try dsimp only at hSw); go_simp; (try (with_reducible rfl))) (by assumption) ?_
                  simp only [Act.put, List.setIfInBounds_toArray, List.set_cons_zero, List.set_cons_succ]
                  refine held_take 2 29 (.int .i64 i) rfl rfl (by kernel_rfl) (by kernel_rfl) (by kernel_rfl) (fun _ _ _ h => h) (by rfl) (by intro w' hSw; (try dsimp only at hSw); go_simp; (try (with_reducible rfl))) (by assumption) ?_
                  simp only [Act.put, List.setIfInBounds_toArray, List.set_cons_zero, List.set_cons_succ]
                  refine held_take 3 30 (.pointer (some ⟨b, off + i * 11, none⟩)) rfl rfl (by kernel_rfl) (by kernel_rfl) (by kernel_rfl) (fun _ _ _ h => h) (by rfl) (by intro w' hSw; (try dsimp only at hSw); go_simp; (try (with_reducible rfl))) (by assumption) ?_
                  simp only [Act.put, List.setIfInBounds_toArray, List.set_cons_zero, List.set_cons_succ]
                  refine held_take 4 31 (.agg #[.string x.id, .int .i64 x.prio, .bool x.crit, .int .i64 x.q0, .int .i64 x.q1, .int .i64 x.q2, .int .i64 x.l0, .int .i64 x.l1, .int .i64 x.l2, .string x.image, .int .i64 x.size]) rfl rfl (by kernel_rfl) (by kernel_rfl) (by kernel_rfl) (fun _ _ _ h => h) (by rfl) (by intro w' hSw; (try dsimp only at hSw); go_simp; (try (with_reducible rfl))) (by assumption) ?_
                  simp only [Act.put, List.setIfInBounds_toArray, List.set_cons_zero, List.set_cons_succ]
                  refine held_call 5 32 rfl rfl (by kernel_rfl) (by rfl) (fun K hK => ?_)
                  go_simp
                  go_at_call 15; with_reducible refine (refVmayV HM.out _).mono ?_; rintro e v1 ⟨rfl, hb⟩
                  have HP := Lib.hid (HP.out.drew.trans (hb.mono HP.out.drew.size))
                  have HQ := Lib.hid (HQd.out.below hb)
                  have HRi := Lib.hid (HRd.out.below hb)
                  clear hb
                  obtain ⟨q0, q1, q2, q3, q4, q5, q6, q7, q8, q9, q10⟩ := HQ.out.pb.pd
                  obtain ⟨x0, x1, x2, x3, x4, x5, x6, x7, x8, x9, x10⟩ := HRi.out.pdAt (Below.refl _ _) HXI.out
                  obtain ⟨y0, y1, y2, y3, y4, y5, y6, y7, y8, y9, y10⟩ := HRi.out.pdAt (Below.refl _ _) HYJ.out
                  refine hK _ _ (⟨q0, q1, q2, q3, q4, q5, q6, q7, q8, q9, q10, x0, x1, x2, x3, x4, x5, x6, x7, x8, x9, x10, y0, y1, y2, y3, y4, y5, y6, y7, y8, y9, y10⟩) ?_
                  have hHeld := (show v1.cell? ⟨w.heap.size + 1, 0, none⟩ = some (.string p.id) ∧ v1.cell? ⟨w.heap.size + 1, 1, none⟩ = some (.int .i64 p.prio) ∧ v1.cell? ⟨w.heap.size + 1, 2, none⟩ = some (.bool p.crit) ∧ v1.cell? ⟨w.heap.size + 1, 3, none⟩ = some (.int .i64 p.q0) ∧ v1.cell? ⟨w.heap.size + 1, 4, none⟩ = some (.int .i64 p.q1) ∧ v1.cell? ⟨w.heap.size + 1, 5, none⟩ = some (.int .i64 p.q2) ∧ v1.cell? ⟨w.heap.size + 1, 6, none⟩ = some (.int .i64 p.l0) ∧ v1.cell? ⟨w.heap.size + 1, 7, none⟩ = some (.int .i64 p.l1) ∧ v1.cell? ⟨w.heap.size + 1, 8, none⟩ = some (.int .i64 p.l2) ∧ v1.cell? ⟨w.heap.size + 1, 9, none⟩ = some (.string p.image) ∧ v1.cell? ⟨w.heap.size + 1, 10, none⟩ = some (.int .i64 p.size) ∧ v1.cell? ⟨b, off + i * 11, none⟩ = some (.string x.id) ∧ v1.cell? ⟨b, off + i * 11 + 1, none⟩ = some (.int .i64 x.prio) ∧ v1.cell? ⟨b, off + i * 11 + 2, none⟩ = some (.bool x.crit) ∧ v1.cell? ⟨b, off + i * 11 + 3, none⟩ = some (.int .i64 x.q0) ∧ v1.cell? ⟨b, off + i * 11 + 4, none⟩ = some (.int .i64 x.q1) ∧ v1.cell? ⟨b, off + i * 11 + 5, none⟩ = some (.int .i64 x.q2) ∧ v1.cell? ⟨b, off + i * 11 + 6, none⟩ = some (.int .i64 x.l0) ∧ v1.cell? ⟨b, off + i * 11 + 7, none⟩ = some (.int .i64 x.l1) ∧ v1.cell? ⟨b, off + i * 11 + 8, none⟩ = some (.int .i64 x.l2) ∧ v1.cell? ⟨b, off + i * 11 + 9, none⟩ = some (.string x.image) ∧ v1.cell? ⟨b, off + i * 11 + 10, none⟩ = some (.int .i64 x.size) ∧ v1.cell? ⟨b, off + j * 11, none⟩ = some (.string y.id) ∧ v1.cell? ⟨b, off + j * 11 + 1, none⟩ = some (.int .i64 y.prio) ∧ v1.cell? ⟨b, off + j * 11 + 2, none⟩ = some (.bool y.crit) ∧ v1.cell? ⟨b, off + j * 11 + 3, none⟩ = some (.int .i64 y.q0) ∧ v1.cell? ⟨b, off + j * 11 + 4, none⟩ = some (.int .i64 y.q1) ∧ v1.cell? ⟨b, off + j * 11 + 5, none⟩ = some (.int .i64 y.q2) ∧ v1.cell? ⟨b, off + j * 11 + 6, none⟩ = some (.int .i64 y.l0) ∧ v1.cell? ⟨b, off + j * 11 + 7, none⟩ = some (.int .i64 y.l1) ∧ v1.cell? ⟨b, off + j * 11 + 8, none⟩ = some (.int .i64 y.l2) ∧ v1.cell? ⟨b, off + j * 11 + 9, none⟩ = some (.string y.image) ∧ v1.cell? ⟨b, off + j * 11 + 10, none⟩ = some (.int .i64 y.size) from ⟨q0, q1, q2, q3, q4, q5, q6, q7, q8, q9, q10, x0, x1, x2, x3, x4, x5, x6, x7, x8, x9, x10, y0, y1, y2, y3, y4, y5, y6, y7, y8, y9, y10⟩)
                  clear hK K q0 q1 q2 q3 q4 q5 q6 q7 q8 q9 q10 x0 x1 x2 x3 x4 x5 x6 x7 x8 x9 x10 y0 y1 y2 y3 y4 y5 y6 y7 y8 y9 y10
                  simp only [Act.put, List.setIfInBounds_toArray, List.set_cons_zero, List.set_cons_succ]
                  refine held_take 6 33 (.bool true) rfl rfl (by kernel_rfl) (by kernel_rfl) (by kernel_rfl) (fun _ _ _ h => h) (by rfl) (by intro w' hSw; (try dsimp only at hSw); go_simp; (try (with_reducible rfl))) (by assumption) ?_
                  simp only [Act.put, List.setIfInBounds_toArray, List.set_cons_zero, List.set_cons_succ]
                  refine held_take 7 34 (.int .i64 j) rfl rfl (by kernel_rfl) (by kernel_rfl) (by kernel_rfl) (fun _ _ _ h => h) (by rfl) (by intro w' hSw; (try dsimp only at hSw); go_simp; (try (with_reducible rfl))) (by assumption) ?_
                  simp only [Act.put, List.setIfInBounds_toArray, List.set_cons_zero, List.set_cons_succ]
                  refine held_take 8 35 (.bool false) rfl rfl (by kernel_rfl) (by kernel_rfl) (by kernel_rfl) (fun _ _ _ h => h) (by rfl) (by intro w' hSw; (try dsimp only at hSw); go_simp; (try (with_reducible rfl))) (by assumption) ?_
                  simp only [Act.put, List.setIfInBounds_toArray, List.set_cons_zero, List.set_cons_succ]
                  refine held_take 9 36 (.bool false) rfl rfl (by kernel_rfl) (by kernel_rfl) (by kernel_rfl) (fun _ _ _ h => h) (by rfl) (by intro w' hSw; (try dsimp only at hSw); go_simp; (try (with_reducible rfl))) (by assumption) ?_
                  simp only [Act.put, List.setIfInBounds_toArray, List.set_cons_zero, List.set_cons_succ]
                  refine held_take 10 37 (.slice (some ⟨b, off, none⟩) l.length cl) rfl rfl (by kernel_rfl) (by kernel_rfl) (by kernel_rfl) (fun _ _ _ h => h) (by rfl) (by intro w' hSw; (try dsimp only at hSw); go_simp; (try (with_reducible rfl))) (by assumption) ?_
                  simp only [Act.put, List.setIfInBounds_toArray, List.set_cons_zero, List.set_cons_succ]
                  refine held_take 11 38 (.int .i64 i) rfl rfl (by kernel_rfl) (by kernel_rfl) (by kernel_rfl) (fun _ _ _ h => h) (by rfl) (by intro w' hSw; (try dsimp only at hSw); go_simp; (try (with_reducible rfl))) (by assumption) ?_
                  simp only [Act.put, List.setIfInBounds_toArray, List.set_cons_zero, List.set_cons_succ]
                  refine held_take 12 39 (.pointer (some ⟨b, off + i * 11, none⟩)) rfl rfl (by kernel_rfl) (by kernel_rfl) (by kernel_rfl) (fun _ _ _ h => h) (by rfl) (by intro w' hSw; (try dsimp only at hSw); go_simp; (try (with_reducible rfl))) (by assumption) ?_
                  simp only [Act.put, List.setIfInBounds_toArray, List.set_cons_zero, List.set_cons_succ]
                  refine held_take 13 40 (.pointer (some ⟨b, off + i * 11 + 1, none⟩)) rfl rfl (by kernel_rfl) (by kernel_rfl) (by kernel_rfl) (fun _ _ _ h => h) (by rfl) (by intro w' hSw; (try dsimp only at hSw); go_simp; (try (with_reducible rfl))) (by assumption) ?_
                  simp only [Act.put, List.setIfInBounds_toArray, List.set_cons_zero, List.set_cons_succ]
                  refine held_take 14 41 (.int .i64 x.prio) rfl rfl (by kernel_rfl) (by kernel_rfl) (by kernel_rfl) (fun _ _ _ h => h) (by rfl) (by intro w' hSw; (try dsimp only at hSw); go_simp; (try (with_reducible rfl))) (by assumption) ?_
                  simp only [Act.put, List.setIfInBounds_toArray, List.set_cons_zero, List.set_cons_succ]
                  refine held_take 15 42 (.slice (some ⟨b, off, none⟩) l.length cl) rfl rfl (by kernel_rfl) (by kernel_rfl) (by kernel_rfl) (fun _ _ _ h => h) (by rfl) (by intro w' hSw; (try dsimp only at hSw); go_simp; (try (with_reducible rfl))) (by assumption) ?_
                  simp only [Act.put, List.setIfInBounds_toArray, List.set_cons_zero, List.set_cons_succ]
                  refine held_take 16 43 (.int .i64 j) rfl rfl (by kernel_rfl) (by kernel_rfl) (by kernel_rfl) (fun _ _ _ h => h) (by rfl) (by intro w' hSw; (try dsimp only at hSw); go_simp; (try (with_reducible rfl))) (by assumption) ?_
                  simp only [Act.put, List.setIfInBounds_toArray, List.set_cons_zero, List.set_cons_succ]
                  refine held_take 17 44 (.pointer (some ⟨b, off + j * 11, none⟩)) rfl rfl (by kernel_rfl) (by kernel_rfl) (by kernel_rfl) (fun _ _ _ h => h) (by rfl) (by intro w' hSw; (try dsimp only at hSw); go_simp; (try (with_reducible rfl))) (by assumption) ?_
                  simp only [Act.put, List.setIfInBounds_toArray, List.set_cons_zero, List.set_cons_succ]
                  refine held_take 18 45 (.pointer (some ⟨b, off + j * 11 + 1, none⟩)) rfl rfl (by kernel_rfl) (by kernel_rfl) (by kernel_rfl) (fun _ _ _ h => h) (by rfl) (by intro w' hSw; (try dsimp only at hSw); go_simp; (try (with_reducible rfl))) (by assumption) ?_
                  simp only [Act.put, List.setIfInBounds_toArray, List.set_cons_zero, List.set_cons_succ]
                  refine held_take 19 46 (.int .i64 y.prio) rfl rfl (by kernel_rfl) (by kernel_rfl) (by kernel_rfl) (fun _ _ _ h => h) (by rfl) (by intro w' hSw; (try dsimp only at hSw); go_simp; (try (with_reducible rfl))) (by assumption) ?_
                  simp only [Act.put, List.setIfInBounds_toArray, List.set_cons_zero, List.set_cons_succ]
                  refine held_take 20 47 (.bool false) rfl rfl (by kernel_rfl) (by kernel_rfl) (by kernel_rfl) (fun _ _ _ h => h) (by rfl) (by intro w' hSw; (try dsimp only at hSw); go_simp; (first | done | with_reducible rfl | (have hh := HG.out; first | omega | (simp; omega)))) (by assumption) ?_
                  simp only [Act.put, List.setIfInBounds_toArray, List.set_cons_zero, List.set_cons_succ]
                  refine held_take 21 48 (.bool false) rfl rfl (by kernel_rfl) (by kernel_rfl) (by kernel_rfl) (fun _ _ _ h => h) (by rfl) (by intro w' hSw; (try dsimp only at hSw); go_simp; (try (with_reducible rfl))) (by assumption) ?_
                  simp only [Act.put, List.setIfInBounds_toArray, List.set_cons_zero, List.set_cons_succ]
                  refine held_take 22 49 (.bool false) rfl rfl (by kernel_rfl) (by kernel_rfl) (by kernel_rfl) (fun _ _ _ h => h) (by rfl) (by intro w' hSw; (try dsimp only at hSw); go_simp; (try (with_reducible rfl))) (by assumption) ?_
                  simp only [Act.put, List.setIfInBounds_toArray, List.set_cons_zero, List.set_cons_succ]
                  refine held_take 23 50 (.slice (some ⟨b, off, none⟩) l.length cl) rfl rfl (by kernel_rfl) (by kernel_rfl) (by kernel_rfl) (fun _ _ _ h => h) (by rfl) (by intro w' hSw; (try dsimp only at hSw); go_simp; (try (with_reducible rfl))) (by assumption) ?_
                  simp only [Act.put, List.setIfInBounds_toArray, List.set_cons_zero, List.set_cons_succ]
                  refine held_take 24 51 (.int .i64 i) rfl rfl (by kernel_rfl) (by kernel_rfl) (by kernel_rfl) (fun _ _ _ h => h) (by rfl) (by intro w' hSw; (try dsimp only at hSw); go_simp; (try (with_reducible rfl))) (by assumption) ?_
                  simp only [Act.put, List.setIfInBounds_toArray, List.set_cons_zero, List.set_cons_succ]
                  refine held_take 25 52 (.pointer (some ⟨b, off + i * 11, none⟩)) rfl rfl (by kernel_rfl) (by kernel_rfl) (by kernel_rfl) (fun _ _ _ h => h) (by rfl) (by intro w' hSw; (try dsimp only at hSw); go_simp; (try (with_reducible rfl))) (by assumption) ?_
                  simp only [Act.put, List.setIfInBounds_toArray, List.set_cons_zero, List.set_cons_succ]
                  refine held_take 26 53 (.pointer (some ⟨b, off + i * 11 + 1, none⟩)) rfl rfl (by kernel_rfl) (by kernel_rfl) (by kernel_rfl) (fun _ _ _ h => h) (by rfl) (by intro w' hSw; (try dsimp only at hSw); go_simp; (try (with_reducible rfl))) (by assumption) ?_
                  simp only [Act.put, List.setIfInBounds_toArray, List.set_cons_zero, List.set_cons_succ]
                  refine held_take 27 54 (.int .i64 x.prio) rfl rfl (by kernel_rfl) (by kernel_rfl) (by kernel_rfl) (fun _ _ _ h => h) (by rfl) (by intro w' hSw; (try dsimp only at hSw); go_simp; (try (with_reducible rfl))) (by assumption) ?_
                  simp only [Act.put, List.setIfInBounds_toArray, List.set_cons_zero, List.set_cons_succ]
                  refine held_take 28 55 (.slice (some ⟨b, off, none⟩) l.length cl) rfl rfl (by kernel_rfl) (by kernel_rfl) (by kernel_rfl) (fun _ _ _ h => h) (by rfl) (by intro w' hSw; (try dsimp only at hSw); go_simp; (try (with_reducible rfl))) (by assumption) ?_
                  simp only [Act.put, List.setIfInBounds_toArray, List.set_cons_zero, List.set_cons_succ]
                  refine held_take 29 56 (.int .i64 j) rfl rfl (by kernel_rfl) (by kernel_rfl) (by kernel_rfl) (fun _ _ _ h => h) (by rfl) (by intro w' hSw; (try dsimp only at hSw); go_simp; (try (with_reducible rfl))) (by assumption) ?_
                  simp only [Act.put, List.setIfInBounds_toArray, List.set_cons_zero, List.set_cons_succ]
                  refine held_take 30 57 (.pointer (some ⟨b, off + j * 11, none⟩)) rfl rfl (by kernel_rfl) (by kernel_rfl) (by kernel_rfl) (fun _ _ _ h => h) (by rfl) (by intro w' hSw; (try dsimp only at hSw); go_simp; (try (with_reducible rfl))) (by assumption) ?_
                  simp only [Act.put, List.setIfInBounds_toArray, List.set_cons_zero, List.set_cons_succ]
                  refine held_take 31 58 (.pointer (some ⟨b, off + j * 11 + 1, none⟩)) rfl rfl (by kernel_rfl) (by kernel_rfl) (by kernel_rfl) (fun _ _ _ h => h) (by rfl) (by intro w' hSw; (try dsimp only at hSw); go_simp; (try (with_reducible rfl))) (by assumption) ?_
                  simp only [Act.put, List.setIfInBounds_toArray, List.set_cons_zero, List.set_cons_succ]
                  refine held_take 32 59 (.int .i64 y.prio) rfl rfl (by kernel_rfl) (by kernel_rfl) (by kernel_rfl) (fun _ _ _ h => h) (by rfl) (by intro w' hSw; (try dsimp only at hSw); go_simp; (try (with_reducible rfl))) (by assumption) ?_
                  simp only [Act.put, List.setIfInBounds_toArray, List.set_cons_zero, List.set_cons_succ]
                  refine held_take 33 60 (.bool true) rfl rfl (by kernel_rfl) (by kernel_rfl) (by kernel_rfl) (fun _ _ _ h => h) (by rfl) (by intro w' hSw; (try dsimp only at hSw); go_simp; (first | done | with_reducible rfl | (have hh := HG.out; first | omega | (simp; omega)))) (by assumption) ?_
                  simp only [Act.put, List.setIfInBounds_toArray, List.set_cons_zero, List.set_cons_succ]
                  refine held_take 34 61 (.bool true) rfl rfl (by kernel_rfl) (by kernel_rfl) (by kernel_rfl) (fun _ _ _ h => h) (by rfl) (by intro w' hSw; (try dsimp only at hSw); go_simp; (try (with_reducible rfl))) (by assumption) ?_
                  simp only [Act.put, List.setIfInBounds_toArray, List.set_cons_zero, List.set_cons_succ]
                  refine held_take 35 62 (.slice (some ⟨b, off, none⟩) l.length cl) rfl rfl (by kernel_rfl) (by kernel_rfl) (by kernel_rfl) (fun _ _ _ h => h) (by rfl) (by intro w' hSw; (try dsimp only at hSw); go_simp; (try (with_reducible rfl))) (by assumption) ?_
                  simp only [Act.put, List.setIfInBounds_toArray, List.set_cons_zero, List.set_cons_succ]
                  refine held_take 36 63 (.int .i64 i) rfl rfl (by kernel_rfl) (by kernel_rfl) (by kernel_rfl) (fun _ _ _ h => h) (by rfl) (by intro w' hSw; (try dsimp only at hSw); go_simp; (try (with_reducible rfl))) (by assumption) ?_
                  simp only [Act.put, List.setIfInBounds_toArray, List.set_cons_zero, List.set_cons_succ]
                  refine held_take 37 64 (.pointer (some ⟨b, off + i * 11, none⟩)) rfl rfl (by kernel_rfl) (by kernel_rfl) (by kernel_rfl) (fun _ _ _ h => h) (by rfl) (by intro w' hSw; (try dsimp only at hSw); go_simp; (try (with_reducible rfl))) (by assumption) ?_
                  simp only [Act.put, List.setIfInBounds_toArray, List.set_cons_zero, List.set_cons_succ]
                  refine held_take 38 65 (.pointer (some ⟨b, off + i * 11, none⟩)) rfl rfl (by kernel_rfl) (by kernel_rfl) (by kernel_rfl) (fun _ _ _ h => h) (by rfl) (by intro w' hSw; (try dsimp only at hSw); go_simp; (try (with_reducible rfl))) (by assumption) ?_
                  simp only [Act.put, List.setIfInBounds_toArray, List.set_cons_zero, List.set_cons_succ]
                  refine held_take 39 66 (.string x.id) rfl rfl (by kernel_rfl) (by kernel_rfl) (by kernel_rfl) (fun _ _ _ h => h) (by rfl) (by intro w' hSw; (try dsimp only at hSw); go_simp; (try (with_reducible rfl))) (by assumption) ?_
                  simp only [Act.put, List.setIfInBounds_toArray, List.set_cons_zero, List.set_cons_succ]
                  refine held_take 40 67 (.slice (some ⟨b, off, none⟩) l.length cl) rfl rfl (by kernel_rfl) (by kernel_rfl) (by kernel_rfl) (fun _ _ _ h => h) (by rfl) (by intro w' hSw; (try dsimp only at hSw); go_simp; (try (with_reducible rfl))) (by assumption) ?_
                  simp only [Act.put, List.setIfInBounds_toArray, List.set_cons_zero, List.set_cons_succ]
                  refine held_take 41 68 (.int .i64 j) rfl rfl (by kernel_rfl) (by kernel_rfl) (by kernel_rfl) (fun _ _ _ h => h) (by rfl) (by intro w' hSw; (try dsimp only at hSw); go_simp; (try (with_reducible rfl))) (by assumption) ?_
                  simp only [Act.put, List.setIfInBounds_toArray, List.set_cons_zero, List.set_cons_succ]
                  refine held_take 42 69 (.pointer (some ⟨b, off + j * 11, none⟩)) rfl rfl (by kernel_rfl) (by kernel_rfl) (by kernel_rfl) (fun _ _ _ h => h) (by rfl) (by intro w' hSw; (try dsimp only at hSw); go_simp; (try (with_reducible rfl))) (by assumption) ?_
                  simp only [Act.put, List.setIfInBounds_toArray, List.set_cons_zero, List.set_cons_succ]
                  refine held_take 43 70 (.pointer (some ⟨b, off + j * 11, none⟩)) rfl rfl (by kernel_rfl) (by kernel_rfl) (by kernel_rfl) (fun _ _ _ h => h) (by rfl) (by intro w' hSw; (try dsimp only at hSw); go_simp; (try (with_reducible rfl))) (by assumption) ?_
                  simp only [Act.put, List.setIfInBounds_toArray, List.set_cons_zero, List.set_cons_succ]
                  refine held_take 44 71 (.string y.id) rfl rfl (by kernel_rfl) (by kernel_rfl) (by kernel_rfl) (fun _ _ _ h => h) (by rfl) (by intro w' hSw; (try dsimp only at hSw); go_simp; (try (with_reducible rfl))) (by assumption) ?_
                  simp only [Act.put, List.setIfInBounds_toArray, List.set_cons_zero, List.set_cons_succ]
                  refine held_take 45 72 (.bool false) rfl rfl (by kernel_rfl) (by kernel_rfl) (by kernel_rfl) (fun _ _ _ h => h) (by rfl) (by intro w' hSw; (try dsimp only at hSw); go_simp; (first | done | with_reducible rfl | exact HBL.out)) (by assumption) ?_
                  simp only [Act.put, List.setIfInBounds_toArray, List.set_cons_zero, List.set_cons_succ]
                  refine held_take 46 73 (.bool false) rfl rfl (by kernel_rfl) (by kernel_rfl) (by kernel_rfl) (fun _ _ _ h => h) (by rfl) (by intro w' hSw; (try dsimp only at hSw); go_simp; (try (with_reducible rfl))) (by assumption) ?_
                  simp only [Act.put, List.setIfInBounds_toArray, List.set_cons_zero, List.set_cons_succ]
                  refine held_take 47 74 (.bool false) rfl rfl (by kernel_rfl) (by kernel_rfl) (by kernel_rfl) (fun _ _ _ h => h) (by rfl) (by intro w' hSw; (try dsimp only at hSw); go_simp; (try (with_reducible rfl))) (by assumption) ?_
                  simp only [Act.put, List.setIfInBounds_toArray, List.set_cons_zero, List.set_cons_succ]
                  refine held_take 48 75 (.bool false) rfl rfl (by kernel_rfl) (by kernel_rfl) (by kernel_rfl) (fun _ _ _ h => h) (by rfl) (by intro w' hSw; (try dsimp only at hSw); go_simp; (try (with_reducible rfl))) (by assumption) ?_
                  simp only [Act.put, List.setIfInBounds_toArray, List.set_cons_zero, List.set_cons_succ]
                  refine wpAnyH_done (by kernel_rfl) ?_ _
                  clear hHeld
                  go_wp2_with fail
                  go_roundw
                  case rel => exact ⟨i + 1, (j : Int), by omega, rfl, by go_num, HN.out, HP.out⟩
                  case measure => simp [intOf]; omega
                · have HG := Lib.hid h2
                  have HBL := Lib.hid h3
                  have HN := Lib.hid (HBET.out ((vlt_iff _ _).2 (.inr ⟨h2, h3⟩)))
                  clear h1 h2 h3 HBET HWOR
                  go_wp2_with fail
                  have HQd := Lib.hid HQ.out.drew
                  have HRd := Lib.hid HRi.out.drew
                  obtain ⟨q0, q1, q2, q3, q4, q5, q6, q7, q8, q9, q10⟩ := HQd.out.pb.pd
                  obtain ⟨x0, x1, x2, x3, x4, x5, x6, x7, x8, x9, x10⟩ := HRd.out.pdAt (Below.refl _ _) HXI.out
                  obtain ⟨y0, y1, y2, y3, y4, y5, y6, y7, y8, y9, y10⟩ := HRd.out.pdAt (Below.refl _ _) HYJ.out
                  refine wp_region_held_drew (S := (fun w' => w'.cell? ⟨w.heap.size + 1, 0, none⟩ = some (.string p.id) ∧ w'.cell? ⟨w.heap.size + 1, 1, none⟩ = some (.int .i64 p.prio) ∧ w'.cell? ⟨w.heap.size + 1, 2, none⟩ = some (.bool p.crit) ∧ w'.cell? ⟨w.heap.size + 1, 3, none⟩ = some (.int .i64 p.q0) ∧ w'.cell? ⟨w.heap.size + 1, 4, none⟩ = some (.int .i64 p.q1) ∧ w'.cell? ⟨w.heap.size + 1, 5, none⟩ = some (.int .i64 p.q2) ∧ w'.cell? ⟨w.heap.size + 1, 6, none⟩ = some (.int .i64 p.l0) ∧ w'.cell? ⟨w.heap.size + 1, 7, none⟩ = some (.int .i64 p.l1) ∧ w'.cell? ⟨w.heap.size + 1, 8, none⟩ = some (.int .i64 p.l2) ∧ w'.cell? ⟨w.heap.size + 1, 9, none⟩ = some (.string p.image) ∧ w'.cell? ⟨w.heap.size + 1, 10, none⟩ = some (.int .i64 p.size) ∧ w'.cell? ⟨b, off + i * 11, none⟩ = some (.string x.id) ∧ w'.cell? ⟨b, off + i * 11 + 1, none⟩ = some (.int .i64 x.prio) ∧ w'.cell? ⟨b, off + i * 11 + 2, none⟩ = some (.bool x.crit) ∧ w'.cell? ⟨b, off + i * 11 + 3, none⟩ = some (.int .i64 x.q0) ∧ w'.cell? ⟨b, off + i * 11 + 4, none⟩ = some (.int .i64 x.q1) ∧ w'.cell? ⟨b, off + i * 11 + 5, none⟩ = some (.int .i64 x.q2) ∧ w'.cell? ⟨b, off + i * 11 + 6, none⟩ = some (.int .i64 x.l0) ∧ w'.cell? ⟨b, off + i * 11 + 7, none⟩ = some (.int .i64 x.l1) ∧ w'.cell? ⟨b, off + i * 11 + 8, none⟩ = some (.int .i64 x.l2) ∧ w'.cell? ⟨b, off + i * 11 + 9, none⟩ = some (.string x.image) ∧ w'.cell? ⟨b, off + i * 11 + 10, none⟩ = some (.int .i64 x.size) ∧ w'.cell? ⟨b, off + j * 11, none⟩ = some (.string y.id) ∧ w'.cell? ⟨b, off + j * 11 + 1, none⟩ = some (.int .i64 y.prio) ∧ w'.cell? ⟨b, off + j * 11 + 2, none⟩ = some (.bool y.crit) ∧ w'.cell? ⟨b, off + j * 11 + 3, none⟩ = some (.int .i64 y.q0) ∧ w'.cell? ⟨b, off + j * 11 + 4, none⟩ = some (.int .i64 y.q1) ∧ w'.cell? ⟨b, off + j * 11 + 5, none⟩ = some (.int .i64 y.q2) ∧ w'.cell? ⟨b, off + j * 11 + 6, none⟩ = some (.int .i64 y.l0) ∧ w'.cell? ⟨b, off + j * 11 + 7, none⟩ = some (.int .i64 y.l1) ∧ w'.cell? ⟨b, off + j * 11 + 8, none⟩ = some (.int .i64 y.l2) ∧ w'.cell? ⟨b, off + j * 11 + 9, none⟩ = some (.string y.image) ∧ w'.cell? ⟨b, off + j * 11 + 10, none⟩ = some (.int .i64 y.size))) (by kernel_rfl) (⟨q0, q1, q2, q3, q4, q5, q6, q7, q8, q9, q10, x0, x1, x2, x3, x4, x5, x6, x7, x8, x9, x10, y0, y1, y2, y3, y4, y5, y6, y7, y8, y9, y10⟩) (fun hHeld => ?_)
                  clear q0 q1 q2 q3 q4 q5 q6 q7 q8 q9 q10 x0 x1 x2 x3 x4 x5 x6 x7 x8 x9 x10 y0 y1 y2 y3 y4 y5 y6 y7 y8 y9 y10
                  refine held_take 0 27 (.agg #[.string p.id, .int .i64 p.prio, .bool p.crit, .int .i64 p.q0, .int .i64 p.q1, .int .i64 p.q2, .int .i64 p.l0, .int .i64 p.l1, .int .i64 p.l2, .string p.image, .int .i64 p.size]) rfl rfl (by kernel_rfl) (by kernel_rfl) (by kernel_rfl) (fun _ _ _ h => h) (by rfl) (by intro w' hSw; (try dsimp only at hSw); go_simp; (try (with_reducible rfl))) (by assumption) ?_
                  simp only [Act.put, List.setIfInBounds_toArray, List.set_cons_zero, List.set_cons_succ]
                  refine held_take 1 28 (.slice (some ⟨b, off, none⟩) l.length cl) rfl rfl (by kernel_rfl) (by kernel_rfl) (by kernel_rfl) (fun _ _ _ h => h) (by rfl) (by intro w' hSw; (try dsimp only at hSw); go_simp; (try (with_reducible rfl))) (by assumption) ?_
                  simp only [Act.put, List.setIfInBounds_toArray, List.set_cons_zero, List.set_cons_succ]
                  refine held_take 2 29 (.int .i64 i) rfl rfl (by kernel_rfl) (by kernel_rfl) (by kernel_rfl) (fun _ _ _ h => h) (by rfl) (by intro w' hSw; (try dsimp only at hSw); go_simp; (try (with_reducible rfl))) (by assumption) ?_
                  simp only [Act.put, List.setIfInBounds_toArray, List.set_cons_zero, List.set_cons_succ]
                  refine held_take 3 30 (.pointer (some ⟨b, off + i * 11, none⟩)) rfl rfl (by kernel_rfl) (by kernel_rfl) (by kernel_rfl) (fun _ _ _ h => h) (by rfl) (by intro w' hSw; (try dsimp only at hSw); go_simp; (try (with_reducible rfl))) (by assumption) ?_
                  simp only [Act.put, List.setIfInBounds_toArray, List.set_cons_zero, List.set_cons_succ]
                  refine held_take 4 31 (.agg #[.string x.id, .int .i64 x.prio, .bool x.crit, .int .i64 x.q0, .int .i64 x.q1, .int .i64 x.q2, .int .i64 x.l0, .int .i64 x.l1, .int .i64 x.l2, .string x.image, .int .i64 x.size]) rfl rfl (by kernel_rfl) (by kernel_rfl) (by kernel_rfl) (fun _ _ _ h => h) (by rfl) (by intro w' hSw; (try dsimp only at hSw); go_simp; (try (with_reducible rfl))) (by assumption) ?_
                  simp only [Act.put, List.setIfInBounds_toArray, List.set_cons_zero, List.set_cons_succ]
                  refine held_call 5 32 rfl rfl (by kernel_rfl) (by rfl) (fun K hK => ?_)
                  go_simp
                  go_at_call 15; with_reducible refine (refVmayV HM.out _).mono ?_; rintro e v1 ⟨rfl, hb⟩
                  have HP := Lib.hid (HP.out.drew.trans (hb.mono HP.out.drew.size))
                  have HQ := Lib.hid (HQd.out.below hb)
                  have HRi := Lib.hid (HRd.out.below hb)
                  clear hb
                  obtain ⟨q0, q1, q2, q3, q4, q5, q6, q7, q8, q9, q10⟩ := HQ.out.pb.pd
                  obtain ⟨x0, x1, x2, x3, x4, x5, x6, x7, x8, x9, x10⟩ := HRi.out.pdAt (Below.refl _ _) HXI.out
                  obtain ⟨y0, y1, y2, y3, y4, y5, y6, y7, y8, y9, y10⟩ := HRi.out.pdAt (Below.refl _ _) HYJ.out
                  refine hK _ _ (⟨q0, q1, q2, q3, q4, q5, q6, q7, q8, q9, q10, x0, x1, x2, x3, x4, x5, x6, x7, x8, x9, x10, y0, y1, y2, y3, y4, y5, y6, y7, y8, y9, y10⟩) ?_
                  have hHeld := (show v1.cell? ⟨w.heap.size + 1, 0, none⟩ = some (.string p.id) ∧ v1.cell? ⟨w.heap.size + 1, 1, none⟩ = some (.int .i64 p.prio) ∧ v1.cell? ⟨w.heap.size + 1, 2, none⟩ = some (.bool p.crit) ∧ v1.cell? ⟨w.heap.size + 1, 3, none⟩ = some (.int .i64 p.q0) ∧ v1.cell? ⟨w.heap.size + 1, 4, none⟩ = some (.int .i64 p.q1) ∧ v1.cell? ⟨w.heap.size + 1, 5, none⟩ = some (.int .i64 p.q2) ∧ v1.cell? ⟨w.heap.size + 1, 6, none⟩ = some (.int .i64 p.l0) ∧ v1.cell? ⟨w.heap.size + 1, 7, none⟩ = some (.int .i64 p.l1) ∧ v1.cell? ⟨w.heap.size + 1, 8, none⟩ = some (.int .i64 p.l2) ∧ v1.cell? ⟨w.heap.size + 1, 9, none⟩ = some (.string p.image) ∧ v1.cell? ⟨w.heap.size + 1, 10, none⟩ = some (.int .i64 p.size) ∧ v1.cell? ⟨b, off + i * 11, none⟩ = some (.string x.id) ∧ v1.cell? ⟨b, off + i * 11 + 1, none⟩ = some (.int .i64 x.prio) ∧ v1.cell? ⟨b, off + i * 11 + 2, none⟩ = some (.bool x.crit) ∧ v1.cell? ⟨b, off + i * 11 + 3, none⟩ = some (.int .i64 x.q0) ∧ v1.cell? ⟨b, off + i * 11 + 4, none⟩ = some (.int .i64 x.q1) ∧ v1.cell? ⟨b, off + i * 11 + 5, none⟩ = some (.int .i64 x.q2) ∧ v1.cell? ⟨b, off + i * 11 + 6, none⟩ = some (.int .i64 x.l0) ∧ v1.cell? ⟨b, off + i * 11 + 7, none⟩ = some (.int .i64 x.l1) ∧ v1.cell? ⟨b, off + i * 11 + 8, none⟩ = some (.int .i64 x.l2) ∧ v1.cell? ⟨b, off + i * 11 + 9, none⟩ = some (.string x.image) ∧ v1.cell? ⟨b, off + i * 11 + 10, none⟩ = some (.int .i64 x.size) ∧ v1.cell? ⟨b, off + j * 11, none⟩ = some (.string y.id) ∧ v1.cell? ⟨b, off + j * 11 + 1, none⟩ = some (.int .i64 y.prio) ∧ v1.cell? ⟨b, off + j * 11 + 2, none⟩ = some (.bool y.crit) ∧ v1.cell? ⟨b, off + j * 11 + 3, none⟩ = some (.int .i64 y.q0) ∧ v1.cell? ⟨b, off + j * 11 + 4, none⟩ = some (.int .i64 y.q1) ∧ v1.cell? ⟨b, off + j * 11 + 5, none⟩ = some (.int .i64 y.q2) ∧ v1.cell? ⟨b, off + j * 11 + 6, none⟩ = some (.int .i64 y.l0) ∧ v1.cell? ⟨b, off + j * 11 + 7, none⟩ = some (.int .i64 y.l1) ∧ v1.cell? ⟨b, off + j * 11 + 8, none⟩ = some (.int .i64 y.l2) ∧ v1.cell? ⟨b, off + j * 11 + 9, none⟩ = some (.string y.image) ∧ v1.cell? ⟨b, off + j * 11 + 10, none⟩ = some (.int .i64 y.size) from ⟨q0, q1, q2, q3, q4, q5, q6, q7, q8, q9, q10, x0, x1, x2, x3, x4, x5, x6, x7, x8, x9, x10, y0, y1, y2, y3, y4, y5, y6, y7, y8, y9, y10⟩)
                  clear hK K q0 q1 q2 q3 q4 q5 q6 q7 q8 q9 q10 x0 x1 x2 x3 x4 x5 x6 x7 x8 x9 x10 y0 y1 y2 y3 y4 y5 y6 y7 y8 y9 y10
                  simp only [Act.put, List.setIfInBounds_toArray, List.set_cons_zero, List.set_cons_succ]
                  refine held_take 6 33 (.bool true) rfl rfl (by kernel_rfl) (by kernel_rfl) (by kernel_rfl) (fun _ _ _ h => h) (by rfl) (by intro w' hSw; (try dsimp only at hSw); go_simp; (try (with_reducible rfl))) (by assumption) ?_
                  simp only [Act.put, List.setIfInBounds_toArray, List.set_cons_zero, List.set_cons_succ]
                  refine held_take 7 34 (.int .i64 j) rfl rfl (by kernel_rfl) (by kernel_rfl) (by kernel_rfl) (fun _ _ _ h => h) (by rfl) (by intro w' hSw; (try dsimp only at hSw); go_simp; (try (with_reducible rfl))) (by assumption) ?_
                  simp only [Act.put, List.setIfInBounds_toArray, List.set_cons_zero, List.set_cons_succ]
                  refine held_take 8 35 (.bool false) rfl rfl (by kernel_rfl) (by kernel_rfl) (by kernel_rfl) (fun _ _ _ h => h) (by rfl) (by intro w' hSw; (try dsimp only at hSw); go_simp; (try (with_reducible rfl))) (by assumption) ?_
                  simp only [Act.put, List.setIfInBounds_toArray, List.set_cons_zero, List.set_cons_succ]
                  refine held_take 9 36 (.bool false) rfl rfl (by kernel_rfl) (by kernel_rfl) (by kernel_rfl) (fun _ _ _ h => h) (by rfl) (by intro w' hSw; (try dsimp only at hSw); go_simp; (try (with_reducible rfl))) (by assumption) ?_
                  simp only [Act.put, List.setIfInBounds_toArray, List.set_cons_zero, List.set_cons_succ]
                  refine held_take 10 37 (.slice (some ⟨b, off, none⟩) l.length cl) rfl rfl (by kernel_rfl) (by kernel_rfl) (by kernel_rfl) (fun _ _ _ h => h) (by rfl) (by intro w' hSw; (try dsimp only at hSw); go_simp; (try (with_reducible rfl))) (by assumption) ?_
                  simp only [Act.put, List.setIfInBounds_toArray, List.set_cons_zero, List.set_cons_succ]
                  refine held_take 11 38 (.int .i64 i) rfl rfl (by kernel_rfl) (by kernel_rfl) (by kernel_rfl) (fun _ _ _ h => h) (by rfl) (by intro w' hSw; (try dsimp only at hSw); go_simp; (try (with_reducible rfl))) (by assumption) ?_
                  simp only [Act.put, List.setIfInBounds_toArray, List.set_cons_zero, List.set_cons_succ]
                  refine held_take 12 39 (.pointer (some ⟨b, off + i * 11, none⟩)) rfl rfl (by kernel_rfl) (by kernel_rfl) (by kernel_rfl) (fun _ _ _ h => h) (by rfl) (by intro w' hSw; (try dsimp only at hSw); go_simp; (try (with_reducible rfl))) (by assumption) ?_
                  simp only [Act.put, List.setIfInBounds_toArray, List.set_cons_zero, List.set_cons_succ]
                  refine held_take 13 40 (.pointer (some ⟨b, off + i * 11 + 1, none⟩)) rfl rfl (by kernel_rfl) (by kernel_rfl) (by kernel_rfl) (fun _ _ _ h => h) (by rfl) (by intro w' hSw; (try dsimp only at hSw); go_simp; (try (with_reducible rfl))) (by assumption) ?_
                  simp only [Act.put, List.setIfInBounds_toArray, List.set_cons_zero, List.set_cons_succ]
                  refine held_take 14 41 (.int .i64 x.prio) rfl rfl (by kernel_rfl) (by kernel_rfl) (by kernel_rfl) (fun _ _ _ h => h) (by rfl) (by intro w' hSw; (try dsimp only at hSw); go_simp; (try (with_reducible rfl))) (by assumption) ?_
                  simp only [Act.put, List.setIfInBounds_toArray, List.set_cons_zero, List.set_cons_succ]
                  refine held_take 15 42 (.slice (some ⟨b, off, none⟩) l.length cl) rfl rfl (by kernel_rfl) (by kernel_rfl) (by kernel_rfl) (fun _ _ _ h => h) (by rfl) (by intro w' hSw; (try dsimp only at hSw); go_simp; (try (with_reducible rfl))) (by assumption) ?_
                  simp only [Act.put, List.setIfInBounds_toArray, List.set_cons_zero, List.set_cons_succ]
                  refine held_take 16 43 (.int .i64 j) rfl rfl (by kernel_rfl) (by kernel_rfl) (by kernel_rfl) (fun _ _ _ h => h) (by rfl) (by intro w' hSw; (try dsimp only at hSw); go_simp; (try (with_reducible rfl))) (by assumption) ?_
                  simp only [Act.put, List.setIfInBounds_toArray, List.set_cons_zero, List.set_cons_succ]
                  refine held_take 17 44 (.pointer (some ⟨b, off + j * 11, none⟩)) rfl rfl (by kernel_rfl) (by kernel_rfl) (by kernel_rfl) (fun _ _ _ h => h) (by rfl) (by intro w' hSw; (try dsimp only at hSw); go_simp; (try (with_reducible rfl))) (by assumption) ?_
                  simp only [Act.put, List.setIfInBounds_toArray, List.set_cons_zero, List.set_cons_succ]
                  refine held_take 18 45 (.pointer (some ⟨b, off + j * 11 + 1, none⟩)) rfl rfl (by kernel_rfl) (by kernel_rfl) (by kernel_rfl) (fun _ _ _ h => h) (by rfl) (by intro w' hSw; (try dsimp only at hSw); go_simp; (try (with_reducible rfl))) (by assumption) ?_
                  simp only [Act.put, List.setIfInBounds_toArray, List.set_cons_zero, List.set_cons_succ]
                  refine held_take 19 46 (.int .i64 y.prio) rfl rfl (by kernel_rfl) (by kernel_rfl) (by kernel_rfl) (fun _ _ _ h => h) (by rfl) (by intro w' hSw; (try dsimp only at hSw); go_simp; (try (with_reducible rfl))) (by assumption) ?_
                  simp only [Act.put, List.setIfInBounds_toArray, List.set_cons_zero, List.set_cons_succ]
                  refine held_take 20 47 (.bool false) rfl rfl (by kernel_rfl) (by kernel_rfl) (by kernel_rfl) (fun _ _ _ h => h) (by rfl) (by intro w' hSw; (try dsimp only at hSw); go_simp; (first | done | with_reducible rfl | (have hh := HG.out; first | omega | (simp; omega)))) (by assumption) ?_
                  simp only [Act.put, List.setIfInBounds_toArray, List.set_cons_zero, List.set_cons_succ]
                  refine held_take 21 48 (.bool false) rfl rfl (by kernel_rfl) (by kernel_rfl) (by kernel_rfl) (fun _ _ _ h => h) (by rfl) (by intro w' hSw; (try dsimp only at hSw); go_simp; (try (with_reducible rfl))) (by assumption) ?_
                  simp only [Act.put, List.setIfInBounds_toArray, List.set_cons_zero, List.set_cons_succ]
                  refine held_take 22 49 (.bool false) rfl rfl (by kernel_rfl) (by kernel_rfl) (by kernel_rfl) (fun _ _ _ h => h) (by rfl) (by intro w' hSw; (try dsimp only at hSw); go_simp; (try (with_reducible rfl))) (by assumption) ?_
                  simp only [Act.put, List.setIfInBounds_toArray, List.set_cons_zero, List.set_cons_succ]
                  refine held_take 23 50 (.slice (some ⟨b, off, none⟩) l.length cl) rfl rfl (by kernel_rfl) (by kernel_rfl) (by kernel_rfl) (fun _ _ _ h => h) (by rfl) (by intro w' hSw; (try dsimp only at hSw); go_simp; (try (with_reducible rfl))) (by assumption) ?_
                  simp only [Act.put, List.setIfInBounds_toArray, List.set_cons_zero, List.set_cons_succ]
                  refine held_take 24 51 (.int .i64 i) rfl rfl (by kernel_rfl) (by kernel_rfl) (by kernel_rfl) (fun _ _ _ h => h) (by rfl) (by intro w' hSw; (try dsimp only at hSw); go_simp; (try (with_reducible rfl))) (by assumption) ?_
                  simp only [Act.put, List.setIfInBounds_toArray, List.set_cons_zero, List.set_cons_succ]
                  refine held_take 25 52 (.pointer (some ⟨b, off + i * 11, none⟩)) rfl rfl (by kernel_rfl) (by kernel_rfl) (by kernel_rfl) (fun _ _ _ h => h) (by rfl) (by intro w' hSw; (try dsimp only at hSw); go_simp; (try (with_reducible rfl))) (by assumption) ?_
                  simp only [Act.put, List.setIfInBounds_toArray, List.set_cons_zero, List.set_cons_succ]
                  refine held_take 26 53 (.pointer (some ⟨b, off + i * 11 + 1, none⟩)) rfl rfl (by kernel_rfl) (by kernel_rfl) (by kernel_rfl) (fun _ _ _ h => h) (by rfl) (by intro w' hSw; (try dsimp only at hSw); go_simp; (try (with_reducible rfl))) (by assumption) ?_
                  simp only [Act.put, List.setIfInBounds_toArray, List.set_cons_zero, List.set_cons_succ]
                  refine held_take 27 54 (.int .i64 x.prio) rfl rfl (by kernel_rfl) (by kernel_rfl) (by kernel_rfl) (fun _ _ _ h => h) (by rfl) (by intro w' hSw; (try dsimp only at hSw); go_simp; (try (with_reducible rfl))) (by assumption) ?_
                  simp only [Act.put, List.setIfInBounds_toArray, List.set_cons_zero, List.set_cons_succ]
                  refine held_take 28 55 (.slice (some ⟨b, off, none⟩) l.length cl) rfl rfl (by kernel_rfl) (by kernel_rfl) (by kernel_rfl) (fun _ _ _ h => h) (by rfl) (by intro w' hSw; (try dsimp only at hSw); go_simp; (try (with_reducible rfl))) (by assumption) ?_
                  simp only [Act.put, List.setIfInBounds_toArray, List.set_cons_zero, List.set_cons_succ]
                  refine held_take 29 56 (.int .i64 j) rfl rfl (by kernel_rfl) (by kernel_rfl) (by kernel_rfl) (fun _ _ _ h => h) (by rfl) (by intro w' hSw; (try dsimp only at hSw); go_simp; (try (with_reducible rfl))) (by assumption) ?_
                  simp only [Act.put, List.setIfInBounds_toArray, List.set_cons_zero, List.set_cons_succ]
                  refine held_take 30 57 (.pointer (some ⟨b, off + j * 11, none⟩)) rfl rfl (by kernel_rfl) (by kernel_rfl) (by kernel_rfl) (fun _ _ _ h => h) (by rfl) (by intro w' hSw; (try dsimp only at hSw); go_simp; (try (with_reducible rfl))) (by assumption) ?_
                  simp only [Act.put, List.setIfInBounds_toArray, List.set_cons_zero, List.set_cons_succ]
                  refine held_take 31 58 (.pointer (some ⟨b, off + j * 11 + 1, none⟩)) rfl rfl (by kernel_rfl) (by kernel_rfl) (by kernel_rfl) (fun _ _ _ h => h) (by rfl) (by intro w' hSw; (try dsimp only at hSw); go_simp; (try (with_reducible rfl))) (by assumption) ?_
                  simp only [Act.put, List.setIfInBounds_toArray, List.set_cons_zero, List.set_cons_succ]
                  refine held_take 32 59 (.int .i64 y.prio) rfl rfl (by kernel_rfl) (by kernel_rfl) (by kernel_rfl) (fun _ _ _ h => h) (by rfl) (by intro w' hSw; (try dsimp only at hSw); go_simp; (try (with_reducible rfl))) (by assumption) ?_
                  simp only [Act.put, List.setIfInBounds_toArray, List.set_cons_zero, List.set_cons_succ]
                  refine held_take 33 60 (.bool true) rfl rfl (by kernel_rfl) (by kernel_rfl) (by kernel_rfl) (fun _ _ _ h => h) (by rfl) (by intro w' hSw; (try dsimp only at hSw); go_simp; (first | done | with_reducible rfl | (have hh := HG.out; first | omega | (simp; omega)))) (by assumption) ?_
                  simp only [Act.put, List.setIfInBounds_toArray, List.set_cons_zero, List.set_cons_succ]
                  refine held_take 34 61 (.bool true) rfl rfl (by kernel_rfl) (by kernel_rfl) (by kernel_rfl) (fun _ _ _ h => h) (by rfl) (by intro w' hSw; (try dsimp only at hSw); go_simp; (try (with_reducible rfl))) (by assumption) ?_
                  simp only [Act.put, List.setIfInBounds_toArray, List.set_cons_zero, List.set_cons_succ]
                  refine held_take 35 62 (.slice (some ⟨b, off, none⟩) l.length cl) rfl rfl (by kernel_rfl) (by kernel_rfl) (by kernel_rfl) (fun _ _ _ h => h) (by rfl) (by intro w' hSw; (try dsimp only at hSw); go_simp; (try (with_reducible rfl))) (by assumption) ?_
                  simp only [Act.put, List.setIfInBounds_toArray, List.set_cons_zero, List.set_cons_succ]
                  refine held_take 36 63 (.int .i64 i) rfl rfl (by kernel_rfl) (by kernel_rfl) (by kernel_rfl) (fun _ _ _ h => h) (by rfl) (by intro w' hSw; (try dsimp only at hSw); go_simp; (try (with_reducible rfl))) (by assumption) ?_
                  simp only [Act.put, List.setIfInBounds_toArray, List.set_cons_zero, List.set_cons_succ]
                  refine held_take 37 64 (.pointer (some ⟨b, off + i * 11, none⟩)) rfl rfl (by kernel_rfl) (by kernel_rfl) (by kernel_rfl) (fun _ _ _ h => h) (by rfl) (by intro w' hSw; (try dsimp only at hSw); go_simp; (try (with_reducible rfl))) (by assumption) ?_
                  simp only [Act.put, List.setIfInBounds_toArray, List.set_cons_zero, List.set_cons_succ]
                  refine held_take 38 65 (.pointer (some ⟨b, off + i * 11, none⟩)) rfl rfl (by kernel_rfl) (by kernel_rfl) (by kernel_rfl) (fun _ _ _ h => h) (by rfl) (by intro w' hSw; (try dsimp only at hSw); go_simp; (try (with_reducible rfl))) (by assumption) ?_
                  simp only [Act.put, List.setIfInBounds_toArray, List.set_cons_zero, List.set_cons_succ]
                  refine held_take 39 66 (.string x.id) rfl rfl (by kernel_rfl) (by kernel_rfl) (by kernel_rfl) (fun _ _ _ h => h) (by rfl) (by intro w' hSw; (try dsimp only at hSw); go_simp; (try (with_reducible rfl))) (by assumption) ?_
                  simp only [Act.put, List.setIfInBounds_toArray, List.set_cons_zero, List.set_cons_succ]
                  refine held_take 40 67 (.slice (some ⟨b, off, none⟩) l.length cl) rfl rfl (by kernel_rfl) (by kernel_rfl) (by kernel_rfl) (fun _ _ _ h => h) (by rfl) (by intro w' hSw; (try dsimp only at hSw); go_simp; (try (with_reducible rfl))) (by assumption) ?_
                  simp only [Act.put, List.setIfInBounds_toArray, List.set_cons_zero, List.set_cons_succ]
                  refine held_take 41 68 (.int .i64 j) rfl rfl (by kernel_rfl) (by kernel_rfl) (by kernel_rfl) (fun _ _ _ h => h) (by rfl) (by intro w' hSw; (try dsimp only at hSw); go_simp; (try (with_reducible rfl))) (by assumption) ?_
                  simp only [Act.put, List.setIfInBounds_toArray, List.set_cons_zero, List.set_cons_succ]
                  refine held_take 42 69 (.pointer (some ⟨b, off + j * 11, none⟩)) rfl rfl (by kernel_rfl) (by kernel_rfl) (by kernel_rfl) (fun _ _ _ h => h) (by rfl) (by intro w' hSw; (try dsimp only at hSw); go_simp; (try (with_reducible rfl))) (by assumption) ?_
                  simp only [Act.put, List.setIfInBounds_toArray, List.set_cons_zero, List.set_cons_succ]
                  refine held_take 43 70 (.pointer (some ⟨b, off + j * 11, none⟩)) rfl rfl (by kernel_rfl) (by kernel_rfl) (by kernel_rfl) (fun _ _ _ h => h) (by rfl) (by intro w' hSw; (try dsimp only at hSw); go_simp; (try (with_reducible rfl))) (by assumption) ?_
                  simp only [Act.put, List.setIfInBounds_toArray, List.set_cons_zero, List.set_cons_succ]
                  refine held_take 44 71 (.string y.id) rfl rfl (by kernel_rfl) (by kernel_rfl) (by kernel_rfl) (fun _ _ _ h => h) (by rfl) (by intro w' hSw; (try dsimp only at hSw); go_simp; (try (with_reducible rfl))) (by assumption) ?_
                  simp only [Act.put, List.setIfInBounds_toArray, List.set_cons_zero, List.set_cons_succ]
                  refine held_take 45 72 (.bool true) rfl rfl (by kernel_rfl) (by kernel_rfl) (by kernel_rfl) (fun _ _ _ h => h) (by rfl) (by intro w' hSw; (try dsimp only at hSw); go_simp; (first | done | with_reducible rfl | exact HBL.out)) (by assumption) ?_
                  simp only [Act.put, List.setIfInBounds_toArray, List.set_cons_zero, List.set_cons_succ]
                  refine held_take 46 73 (.bool true) rfl rfl (by kernel_rfl) (by kernel_rfl) (by kernel_rfl) (fun _ _ _ h => h) (by rfl) (by intro w' hSw; (try dsimp only at hSw); go_simp; (try (with_reducible rfl))) (by assumption) ?_
                  simp only [Act.put, List.setIfInBounds_toArray, List.set_cons_zero, List.set_cons_succ]
                  refine held_take 47 74 (.bool true) rfl rfl (by kernel_rfl) (by kernel_rfl) (by kernel_rfl) (fun _ _ _ h => h) (by rfl) (by intro w' hSw; (try dsimp only at hSw); go_simp; (try (with_reducible rfl))) (by assumption) ?_
                  simp only [Act.put, List.setIfInBounds_toArray, List.set_cons_zero, List.set_cons_succ]
                  refine held_take 48 75 (.bool true) rfl rfl (by kernel_rfl) (by kernel_rfl) (by kernel_rfl) (fun _ _ _ h => h) (by rfl) (by intro w' hSw; (try dsimp only at hSw); go_simp; (try (with_reducible rfl))) (by assumption) ?_
                  simp only [Act.put, List.setIfInBounds_toArray, List.set_cons_zero, List.set_cons_succ]
                  refine wpAnyH_done (by kernel_rfl) ?_ _
                  clear hHeld
                  go_wp2_with fail
                  go_roundw
                  case rel => exact ⟨i + 1, (i : Int), by omega, rfl, by go_num, HN.out, HP.out⟩
                  case measure => simp [intOf]; omega
      · obtain rfl : i = l.length := by omega
        have dk : decide ((l.length : Int) < (l.length : Int)) = false := by simp
        have crm := HQ.out.rm.cell
        have cp := HQ.out.pb.cell
        go_wp2_with fail
        refine (chooseW (room := room) (p := p) Al cl _ HRi.out (by omega) HW.out HPW.out).mono ?_; rintro e w2 ⟨O, bb, Ax, cx, rfl, hwho, ho, hb⟩
        have HWH := Lib.hid hwho
        have hOl := hwho.len
        have HQ := Lib.hid (HQ.out.below hb)
        have HRi := Lib.hid (HRi.out.below hb)
        have HRX := Lib.hid ho.toRds
        clear hwho ho hb crm cp
        have hz : z = -1 ∨ ∃ j, j < l.length ∧ z = (j : Int) := HBA.out.cases_
        rcases hz with hz | ⟨j, hj, hz⟩
        · obtain rfl : z = -1 := hz
          obtain rfl : O = [] := spares_none HBA.out HWH.out
          go_wp2_with fail
          go_ret
          exact ⟨rfl, HQ.out.bel⟩
        · obtain rfl : z = (j : Int) := hz
          have dz : decide ((j : Int) < 0) = false := decide_eq_false (by omega)
          have dj2 : (j : Int) < (l.length : Int) := by omega
          cases bb
          · obtain rfl : O = [] := (by obtain ⟨_, _, _, _, _, h⟩ := HWH.out; exact h rfl)
            go_wp2_with fail
            go_ret
            exact ⟨rfl, HQ.out.bel⟩
          · obtain ⟨b, off, hA⟩ := HR.out.some_ hj
            obtain rfl : Al = some ⟨b, off, none⟩ := hA
            have HYJ := Lib.hid (List.getElem?_eq_getElem hj)
            obtain ⟨fv, hfv⟩ : ∃ v, fitsB room (fixD p l ++ [l[j]]) = v := ⟨_, rfl⟩
            have HHV := Lib.hid (spares_law HF.out hj HBA.out HWH.out)
            rw [hfv] at HHV
            have HFV := Lib.hid hfv
            have HW7 := Lib.hid (show ∀ x ∈ fixD p l ++ [l[j]], x.Wf from fun x hx => by
              rcases List.mem_append.1 hx with h | h
              · unfold fixD at h
                rcases List.mem_append.1 h with h | h
                · exact HW.out x (List.mem_filter.1 h).1
                · rw [List.mem_singleton.1 h]; exact HPW.out
              · rw [List.mem_singleton.1 h]; exact HW.out _ (List.getElem_mem hj))
            have hfl : (fixD p l).length ≤ 65 := by unfold fixD; have := fixT_len p l; unfold fixT at this; simp; omega
            have hl7 : (fixD p l ++ [l[j]]).length ≤ 66 := by simp; omega
            clear hfv hl7
            obtain ⟨hv, hhv⟩ : ∃ v, (!fv) = v := ⟨_, rfl⟩
            have hxor : (hv != fv) = true := by subst hhv; cases fv <;> rfl
            rw [hhv] at HHV
            clear hhv HBA HWH
            generalize l[j] = y at *
            go_wp2_with fail
            have HQd := Lib.hid HQ.out.drew
            have HRd := Lib.hid HRi.out.drew
            have HRXd := Lib.hid HRX.out.drew
            refine wp_region_held_drew (S := (fun w' => w'.cell? ⟨w.heap.size, 0, none⟩ = some (.int .i64 room.a) ∧ w'.cell? ⟨w.heap.size, 1, none⟩ = some (.int .i64 room.b) ∧ w'.cell? ⟨w.heap.size, 2, none⟩ = some (.int .i64 room.c) ∧ w'.cell? ⟨w.heap.size + 1, 0, none⟩ = some (.string p.id) ∧ w'.cell? ⟨w.heap.size + 1, 1, none⟩ = some (.int .i64 p.prio) ∧ w'.cell? ⟨w.heap.size + 1, 2, none⟩ = some (.bool p.crit) ∧ w'.cell? ⟨w.heap.size + 1, 3, none⟩ = some (.int .i64 p.q0) ∧ w'.cell? ⟨w.heap.size + 1, 4, none⟩ = some (.int .i64 p.q1) ∧ w'.cell? ⟨w.heap.size + 1, 5, none⟩ = some (.int .i64 p.q2) ∧ w'.cell? ⟨w.heap.size + 1, 6, none⟩ = some (.int .i64 p.l0) ∧ w'.cell? ⟨w.heap.size + 1, 7, none⟩ = some (.int .i64 p.l1) ∧ w'.cell? ⟨w.heap.size + 1, 8, none⟩ = some (.int .i64 p.l2) ∧ w'.cell? ⟨w.heap.size + 1, 9, none⟩ = some (.string p.image) ∧ w'.cell? ⟨w.heap.size + 1, 10, none⟩ = some (.int .i64 p.size) ∧ w'.cell? ⟨b, off + j * 11, none⟩ = some (.string y.id) ∧ w'.cell? ⟨b, off + j * 11 + 1, none⟩ = some (.int .i64 y.prio) ∧ w'.cell? ⟨b, off + j * 11 + 2, none⟩ = some (.bool y.crit) ∧ w'.cell? ⟨b, off + j * 11 + 3, none⟩ = some (.int .i64 y.q0) ∧ w'.cell? ⟨b, off + j * 11 + 4, none⟩ = some (.int .i64 y.q1) ∧ w'.cell? ⟨b, off + j * 11 + 5, none⟩ = some (.int .i64 y.q2) ∧ w'.cell? ⟨b, off + j * 11 + 6, none⟩ = some (.int .i64 y.l0) ∧ w'.cell? ⟨b, off + j * 11 + 7, none⟩ = some (.int .i64 y.l1) ∧ w'.cell? ⟨b, off + j * 11 + 8, none⟩ = some (.int .i64 y.l2) ∧ w'.cell? ⟨b, off + j * 11 + 9, none⟩ = some (.string y.image) ∧ w'.cell? ⟨b, off + j * 11 + 10, none⟩ = some (.int .i64 y.size))) (by kernel_rfl) (spCells HQd.out HRd.out HYJ.out) (fun hHeld => ?_)
            generalize w2.drew = wd at *
            have hb0 : Below wd.heap.size wd wd := Below.refl _ _
            have HB := Lib.hid hb0
            clear hb0
            have HQ := HQd
            have HRi := HRd
            have HRX := HRXd
            refine held_take 0 93 (.slice Ax O.length cx) rfl rfl (by kernel_rfl) (by kernel_rfl) (by kernel_rfl) (fun _ _ _ h => h) (by rfl) (by intro w' hSw; (try dsimp only at hSw); go_simp; (try (with_reducible rfl))) (by assumption) ?_
            simp only [Act.put, List.setIfInBounds_toArray, List.set_cons_zero, List.set_cons_succ]
            refine held_take 1 94 (.slice (some ⟨b, off, none⟩) l.length cl) rfl rfl (by kernel_rfl) (by kernel_rfl) (by kernel_rfl) (fun _ _ _ h => h) (by rfl) (by intro w' hSw; (try dsimp only at hSw); go_simp; (try (with_reducible rfl))) (by assumption) ?_
            simp only [Act.put, List.setIfInBounds_toArray, List.set_cons_zero, List.set_cons_succ]
            refine held_take 2 95 (.int .i64 j) rfl rfl (by kernel_rfl) (by kernel_rfl) (by kernel_rfl) (fun _ _ _ h => h) (by rfl) (by intro w' hSw; (try dsimp only at hSw); go_simp; (try (with_reducible rfl))) (by assumption) ?_
            simp only [Act.put, List.setIfInBounds_toArray, List.set_cons_zero, List.set_cons_succ]
            refine held_take 3 96 (.pointer (some ⟨b, off + j * 11, none⟩)) rfl rfl (by kernel_rfl) (by kernel_rfl) (by kernel_rfl) (fun _ _ _ h => h) (by rfl) (by intro w' hSw; (try dsimp only at hSw); go_simp; (try (with_reducible rfl))) (by assumption) ?_
            simp only [Act.put, List.setIfInBounds_toArray, List.set_cons_zero, List.set_cons_succ]
            refine held_take 4 97 (.pointer (some ⟨b, off + j * 11, none⟩)) rfl rfl (by kernel_rfl) (by kernel_rfl) (by kernel_rfl) (fun _ _ _ h => h) (by rfl) (by intro w' hSw; (try dsimp only at hSw); go_simp; (try (with_reducible rfl))) (by assumption) ?_
            simp only [Act.put, List.setIfInBounds_toArray, List.set_cons_zero, List.set_cons_succ]
            refine held_take 5 98 (.string y.id) rfl rfl (by kernel_rfl) (by kernel_rfl) (by kernel_rfl) (fun _ _ _ h => h) (by rfl) (by intro w' hSw; (try dsimp only at hSw); go_simp; (try (with_reducible rfl))) (by assumption) ?_
            simp only [Act.put, List.setIfInBounds_toArray, List.set_cons_zero, List.set_cons_succ]
            refine held_take 7 100 (.agg #[.int .i64 room.a, .int .i64 room.b, .int .i64 room.c]) rfl rfl (by kernel_rfl) (by kernel_rfl) (by kernel_rfl) (fun _ _ _ h => h) (by rfl) (by intro w' hSw; (try dsimp only at hSw); go_simp; (try (with_reducible rfl))) (by assumption) ?_
            simp only [Act.put, List.setIfInBounds_toArray, List.set_cons_zero, List.set_cons_succ]
            refine held_take 8 101 (.slice (some ⟨b, off, none⟩) l.length cl) rfl rfl (by kernel_rfl) (by kernel_rfl) (by kernel_rfl) (fun _ _ _ h => h) (by rfl) (by intro w' hSw; (try dsimp only at hSw); go_simp; (try (with_reducible rfl))) (by assumption) ?_
            simp only [Act.put, List.setIfInBounds_toArray, List.set_cons_zero, List.set_cons_succ]
            refine held_take 9 102 (.agg #[.string p.id, .int .i64 p.prio, .bool p.crit, .int .i64 p.q0, .int .i64 p.q1, .int .i64 p.q2, .int .i64 p.l0, .int .i64 p.l1, .int .i64 p.l2, .string p.image, .int .i64 p.size]) rfl rfl (by kernel_rfl) (by kernel_rfl) (by kernel_rfl) (fun _ _ _ h => h) (by rfl) (by intro w' hSw; (try dsimp only at hSw); go_simp; (try (with_reducible rfl))) (by assumption) ?_
            simp only [Act.put, List.setIfInBounds_toArray, List.set_cons_zero, List.set_cons_succ]
            refine held_take 11 104 (.slice (some ⟨b, off, none⟩) l.length cl) rfl rfl (by kernel_rfl) (by kernel_rfl) (by kernel_rfl) (fun _ _ _ h => h) (by rfl) (by intro w' hSw; (try dsimp only at hSw); go_simp; (try (with_reducible rfl))) (by assumption) ?_
            simp only [Act.put, List.setIfInBounds_toArray, List.set_cons_zero, List.set_cons_succ]
            refine held_take 12 105 (.int .i64 j) rfl rfl (by kernel_rfl) (by kernel_rfl) (by kernel_rfl) (fun _ _ _ h => h) (by rfl) (by intro w' hSw; (try dsimp only at hSw); go_simp; (try (with_reducible rfl))) (by assumption) ?_
            simp only [Act.put, List.setIfInBounds_toArray, List.set_cons_zero, List.set_cons_succ]
            refine held_take 13 106 (.pointer (some ⟨b, off + j * 11, none⟩)) rfl rfl (by kernel_rfl) (by kernel_rfl) (by kernel_rfl) (fun _ _ _ h => h) (by rfl) (by intro w' hSw; (try dsimp only at hSw); go_simp; (try (with_reducible rfl))) (by assumption) ?_
            simp only [Act.put, List.setIfInBounds_toArray, List.set_cons_zero, List.set_cons_succ]
            refine held_take 14 107 (.agg #[.string y.id, .int .i64 y.prio, .bool y.crit, .int .i64 y.q0, .int .i64 y.q1, .int .i64 y.q2, .int .i64 y.l0, .int .i64 y.l1, .int .i64 y.l2, .string y.image, .int .i64 y.size]) rfl rfl (by kernel_rfl) (by kernel_rfl) (by kernel_rfl) (fun _ _ _ h => h) (by rfl) (by intro w' hSw; (try dsimp only at hSw); go_simp; (try (with_reducible rfl))) (by assumption) ?_
            simp only [Act.put, List.setIfInBounds_toArray, List.set_cons_zero, List.set_cons_succ]
            refine held_twoD 6 15 99 108 rfl rfl rfl rfl (by kernel_rfl) (by rfl) (by rfl) (fun K hK => ?_) (fun K hK => ?_)
            · go_simp
              go_at_call 23; with_reducible refine (hasV HHV.out Ax cx _ HRX.out (by omega)).mono ?_; rintro e v1 ⟨rfl, rfl⟩
              refine hK _ _ (spCells HQ.out HRi.out HYJ.out) ?_
              have hHeld := (show wd.cell? ⟨w.heap.size, 0, none⟩ = some (.int .i64 room.a) ∧ wd.cell? ⟨w.heap.size, 1, none⟩ = some (.int .i64 room.b) ∧ wd.cell? ⟨w.heap.size, 2, none⟩ = some (.int .i64 room.c) ∧ wd.cell? ⟨w.heap.size + 1, 0, none⟩ = some (.string p.id) ∧ wd.cell? ⟨w.heap.size + 1, 1, none⟩ = some (.int .i64 p.prio) ∧ wd.cell? ⟨w.heap.size + 1, 2, none⟩ = some (.bool p.crit) ∧ wd.cell? ⟨w.heap.size + 1, 3, none⟩ = some (.int .i64 p.q0) ∧ wd.cell? ⟨w.heap.size + 1, 4, none⟩ = some (.int .i64 p.q1) ∧ wd.cell? ⟨w.heap.size + 1, 5, none⟩ = some (.int .i64 p.q2) ∧ wd.cell? ⟨w.heap.size + 1, 6, none⟩ = some (.int .i64 p.l0) ∧ wd.cell? ⟨w.heap.size + 1, 7, none⟩ = some (.int .i64 p.l1) ∧ wd.cell? ⟨w.heap.size + 1, 8, none⟩ = some (.int .i64 p.l2) ∧ wd.cell? ⟨w.heap.size + 1, 9, none⟩ = some (.string p.image) ∧ wd.cell? ⟨w.heap.size + 1, 10, none⟩ = some (.int .i64 p.size) ∧ wd.cell? ⟨b, off + j * 11, none⟩ = some (.string y.id) ∧ wd.cell? ⟨b, off + j * 11 + 1, none⟩ = some (.int .i64 y.prio) ∧ wd.cell? ⟨b, off + j * 11 + 2, none⟩ = some (.bool y.crit) ∧ wd.cell? ⟨b, off + j * 11 + 3, none⟩ = some (.int .i64 y.q0) ∧ wd.cell? ⟨b, off + j * 11 + 4, none⟩ = some (.int .i64 y.q1) ∧ wd.cell? ⟨b, off + j * 11 + 5, none⟩ = some (.int .i64 y.q2) ∧ wd.cell? ⟨b, off + j * 11 + 6, none⟩ = some (.int .i64 y.l0) ∧ wd.cell? ⟨b, off + j * 11 + 7, none⟩ = some (.int .i64 y.l1) ∧ wd.cell? ⟨b, off + j * 11 + 8, none⟩ = some (.int .i64 y.l2) ∧ wd.cell? ⟨b, off + j * 11 + 9, none⟩ = some (.string y.image) ∧ wd.cell? ⟨b, off + j * 11 + 10, none⟩ = some (.int .i64 y.size) from spCells HQ.out HRi.out HYJ.out)
              clear hK K
              simp only [Act.put, List.setIfInBounds_toArray, List.set_cons_zero, List.set_cons_succ]
              refine held_twoD 10 15 103 108 rfl rfl rfl rfl (by kernel_rfl) (by rfl) (by rfl) (fun K hK => ?_) (fun K hK => ?_)
              · go_simp
                go_at_call 24; with_reducible refine (fixed_any p l (some ⟨b, off, none⟩) cl _ HRi.out (by omega)).mono ?_; rintro e w5 ⟨A5, c5, rfl, ho, hb⟩
                have HBS5 := Lib.hid HB.out.size
                have HOW := Lib.hid (ho.mono HBS5.out)
                have HB := Lib.hid (below_rV HB.out hb)
                clear ho hb
                have HQ := Lib.hid (HQd.out.below HB.out)
                have HRi := Lib.hid (HRd.out.below HB.out)
                refine hK _ _ (spCells HQ.out HRi.out HYJ.out) ?_
                have hHeld := (show w5.cell? ⟨w.heap.size, 0, none⟩ = some (.int .i64 room.a) ∧ w5.cell? ⟨w.heap.size, 1, none⟩ = some (.int .i64 room.b) ∧ w5.cell? ⟨w.heap.size, 2, none⟩ = some (.int .i64 room.c) ∧ w5.cell? ⟨w.heap.size + 1, 0, none⟩ = some (.string p.id) ∧ w5.cell? ⟨w.heap.size + 1, 1, none⟩ = some (.int .i64 p.prio) ∧ w5.cell? ⟨w.heap.size + 1, 2, none⟩ = some (.bool p.crit) ∧ w5.cell? ⟨w.heap.size + 1, 3, none⟩ = some (.int .i64 p.q0) ∧ w5.cell? ⟨w.heap.size + 1, 4, none⟩ = some (.int .i64 p.q1) ∧ w5.cell? ⟨w.heap.size + 1, 5, none⟩ = some (.int .i64 p.q2) ∧ w5.cell? ⟨w.heap.size + 1, 6, none⟩ = some (.int .i64 p.l0) ∧ w5.cell? ⟨w.heap.size + 1, 7, none⟩ = some (.int .i64 p.l1) ∧ w5.cell? ⟨w.heap.size + 1, 8, none⟩ = some (.int .i64 p.l2) ∧ w5.cell? ⟨w.heap.size + 1, 9, none⟩ = some (.string p.image) ∧ w5.cell? ⟨w.heap.size + 1, 10, none⟩ = some (.int .i64 p.size) ∧ w5.cell? ⟨b, off + j * 11, none⟩ = some (.string y.id) ∧ w5.cell? ⟨b, off + j * 11 + 1, none⟩ = some (.int .i64 y.prio) ∧ w5.cell? ⟨b, off + j * 11 + 2, none⟩ = some (.bool y.crit) ∧ w5.cell? ⟨b, off + j * 11 + 3, none⟩ = some (.int .i64 y.q0) ∧ w5.cell? ⟨b, off + j * 11 + 4, none⟩ = some (.int .i64 y.q1) ∧ w5.cell? ⟨b, off + j * 11 + 5, none⟩ = some (.int .i64 y.q2) ∧ w5.cell? ⟨b, off + j * 11 + 6, none⟩ = some (.int .i64 y.l0) ∧ w5.cell? ⟨b, off + j * 11 + 7, none⟩ = some (.int .i64 y.l1) ∧ w5.cell? ⟨b, off + j * 11 + 8, none⟩ = some (.int .i64 y.l2) ∧ w5.cell? ⟨b, off + j * 11 + 9, none⟩ = some (.string y.image) ∧ w5.cell? ⟨b, off + j * 11 + 10, none⟩ = some (.int .i64 y.size) from spCells HQ.out HRi.out HYJ.out)
                clear hK K
                simp only [Act.put, List.setIfInBounds_toArray, List.set_cons_zero, List.set_cons_succ]
                refine held_call 15 108 rfl rfl (by kernel_rfl) (by rfl) (fun K hK => ?_)
                go_simp
                have HRW := Lib.hid (Rds.made (w5) encP [y] 25 #[.string y.id, .int .i64 y.prio, .bool y.crit, .int .i64 y.q0, .int .i64 y.q1, .int .i64 y.q2, .int .i64 y.l0, .int .i64 y.l1, .int .i64 y.l2, .string y.image, .int .i64 y.size] (0, 0) rfl)
                have HB := Lib.hid (HB.out.alloc HB.out.size (.cells #[.string y.id, .int .i64 y.prio, .bool y.crit, .int .i64 y.q0, .int .i64 y.q1, .int .i64 y.q2, .int .i64 y.l0, .int .i64 y.l1, .int .i64 y.l2, .string y.image, .int .i64 y.size] 25))
                have HQ := Lib.hid (HQd.out.below HB.out)
                have HRi := Lib.hid (HRd.out.below HB.out)
                have HRX := Lib.hid (HRXd.out.below HB.out)
                have HOW := Lib.hid (HOW.out.alloc (.cells #[.string y.id, .int .i64 y.prio, .bool y.crit, .int .i64 y.q0, .int .i64 y.q1, .int .i64 y.q2, .int .i64 y.l0, .int .i64 y.l1, .int .i64 y.l2, .string y.image, .int .i64 y.size] 25))
                refine hK _ _ (spCells HQ.out HRi.out HYJ.out) ?_
                have hHeld := (show ((w5).alloc (.cells #[.string y.id, .int .i64 y.prio, .bool y.crit, .int .i64 y.q0, .int .i64 y.q1, .int .i64 y.q2, .int .i64 y.l0, .int .i64 y.l1, .int .i64 y.l2, .string y.image, .int .i64 y.size] 25)).cell? ⟨w.heap.size, 0, none⟩ = some (.int .i64 room.a) ∧ ((w5).alloc (.cells #[.string y.id, .int .i64 y.prio, .bool y.crit, .int .i64 y.q0, .int .i64 y.q1, .int .i64 y.q2, .int .i64 y.l0, .int .i64 y.l1, .int .i64 y.l2, .string y.image, .int .i64 y.size] 25)).cell? ⟨w.heap.size, 1, none⟩ = some (.int .i64 room.b) ∧ ((w5).alloc (.cells #[.string y.id, .int .i64 y.prio, .bool y.crit, .int .i64 y.q0, .int .i64 y.q1, .int .i64 y.q2, .int .i64 y.l0, .int .i64 y.l1, .int .i64 y.l2, .string y.image, .int .i64 y.size] 25)).cell? ⟨w.heap.size, 2, none⟩ = some (.int .i64 room.c) ∧ ((w5).alloc (.cells #[.string y.id, .int .i64 y.prio, .bool y.crit, .int .i64 y.q0, .int .i64 y.q1, .int .i64 y.q2, .int .i64 y.l0, .int .i64 y.l1, .int .i64 y.l2, .string y.image, .int .i64 y.size] 25)).cell? ⟨w.heap.size + 1, 0, none⟩ = some (.string p.id) ∧ ((w5).alloc (.cells #[.string y.id, .int .i64 y.prio, .bool y.crit, .int .i64 y.q0, .int .i64 y.q1, .int .i64 y.q2, .int .i64 y.l0, .int .i64 y.l1, .int .i64 y.l2, .string y.image, .int .i64 y.size] 25)).cell? ⟨w.heap.size + 1, 1, none⟩ = some (.int .i64 p.prio) ∧ ((w5).alloc (.cells #[.string y.id, .int .i64 y.prio, .bool y.crit, .int .i64 y.q0, .int .i64 y.q1, .int .i64 y.q2, .int .i64 y.l0, .int .i64 y.l1, .int .i64 y.l2, .string y.image, .int .i64 y.size] 25)).cell? ⟨w.heap.size + 1, 2, none⟩ = some (.bool p.crit) ∧ ((w5).alloc (.cells #[.string y.id, .int .i64 y.prio, .bool y.crit, .int .i64 y.q0, .int .i64 y.q1, .int .i64 y.q2, .int .i64 y.l0, .int .i64 y.l1, .int .i64 y.l2, .string y.image, .int .i64 y.size] 25)).cell? ⟨w.heap.size + 1, 3, none⟩ = some (.int .i64 p.q0) ∧ ((w5).alloc (.cells #[.string y.id, .int .i64 y.prio, .bool y.crit, .int .i64 y.q0, .int .i64 y.q1, .int .i64 y.q2, .int .i64 y.l0, .int .i64 y.l1, .int .i64 y.l2, .string y.image, .int .i64 y.size] 25)).cell? ⟨w.heap.size + 1, 4, none⟩ = some (.int .i64 p.q1) ∧ ((w5).alloc (.cells #[.string y.id, .int .i64 y.prio, .bool y.crit, .int .i64 y.q0, .int .i64 y.q1, .int .i64 y.q2, .int .i64 y.l0, .int .i64 y.l1, .int .i64 y.l2, .string y.image, .int .i64 y.size] 25)).cell? ⟨w.heap.size + 1, 5, none⟩ = some (.int .i64 p.q2) ∧ ((w5).alloc (.cells #[.string y.id, .int .i64 y.prio, .bool y.crit, .int .i64 y.q0, .int .i64 y.q1, .int .i64 y.q2, .int .i64 y.l0, .int .i64 y.l1, .int .i64 y.l2, .string y.image, .int .i64 y.size] 25)).cell? ⟨w.heap.size + 1, 6, none⟩ = some (.int .i64 p.l0) ∧ ((w5).alloc (.cells #[.string y.id, .int .i64 y.prio, .bool y.crit, .int .i64 y.q0, .int .i64 y.q1, .int .i64 y.q2, .int .i64 y.l0, .int .i64 y.l1, .int .i64 y.l2, .string y.image, .int .i64 y.size] 25)).cell? ⟨w.heap.size + 1, 7, none⟩ = some (.int .i64 p.l1) ∧ ((w5).alloc (.cells #[.string y.id, .int .i64 y.prio, .bool y.crit, .int .i64 y.q0, .int .i64 y.q1, .int .i64 y.q2, .int .i64 y.l0, .int .i64 y.l1, .int .i64 y.l2, .string y.image, .int .i64 y.size] 25)).cell? ⟨w.heap.size + 1, 8, none⟩ = some (.int .i64 p.l2) ∧ ((w5).alloc (.cells #[.string y.id, .int .i64 y.prio, .bool y.crit, .int .i64 y.q0, .int .i64 y.q1, .int .i64 y.q2, .int .i64 y.l0, .int .i64 y.l1, .int .i64 y.l2, .string y.image, .int .i64 y.size] 25)).cell? ⟨w.heap.size + 1, 9, none⟩ = some (.string p.image) ∧ ((w5).alloc (.cells #[.string y.id, .int .i64 y.prio, .bool y.crit, .int .i64 y.q0, .int .i64 y.q1, .int .i64 y.q2, .int .i64 y.l0, .int .i64 y.l1, .int .i64 y.l2, .string y.image, .int .i64 y.size] 25)).cell? ⟨w.heap.size + 1, 10, none⟩ = some (.int .i64 p.size) ∧ ((w5).alloc (.cells #[.string y.id, .int .i64 y.prio, .bool y.crit, .int .i64 y.q0, .int .i64 y.q1, .int .i64 y.q2, .int .i64 y.l0, .int .i64 y.l1, .int .i64 y.l2, .string y.image, .int .i64 y.size] 25)).cell? ⟨b, off + j * 11, none⟩ = some (.string y.id) ∧ ((w5).alloc (.cells #[.string y.id, .int .i64 y.prio, .bool y.crit, .int .i64 y.q0, .int .i64 y.q1, .int .i64 y.q2, .int .i64 y.l0, .int .i64 y.l1, .int .i64 y.l2, .string y.image, .int .i64 y.size] 25)).cell? ⟨b, off + j * 11 + 1, none⟩ = some (.int .i64 y.prio) ∧ ((w5).alloc (.cells #[.string y.id, .int .i64 y.prio, .bool y.crit, .int .i64 y.q0, .int .i64 y.q1, .int .i64 y.q2, .int .i64 y.l0, .int .i64 y.l1, .int .i64 y.l2, .string y.image, .int .i64 y.size] 25)).cell? ⟨b, off + j * 11 + 2, none⟩ = some (.bool y.crit) ∧ ((w5).alloc (.cells #[.string y.id, .int .i64 y.prio, .bool y.crit, .int .i64 y.q0, .int .i64 y.q1, .int .i64 y.q2, .int .i64 y.l0, .int .i64 y.l1, .int .i64 y.l2, .string y.image, .int .i64 y.size] 25)).cell? ⟨b, off + j * 11 + 3, none⟩ = some (.int .i64 y.q0) ∧ ((w5).alloc (.cells #[.string y.id, .int .i64 y.prio, .bool y.crit, .int .i64 y.q0, .int .i64 y.q1, .int .i64 y.q2, .int .i64 y.l0, .int .i64 y.l1, .int .i64 y.l2, .string y.image, .int .i64 y.size] 25)).cell? ⟨b, off + j * 11 + 4, none⟩ = some (.int .i64 y.q1) ∧ ((w5).alloc (.cells #[.string y.id, .int .i64 y.prio, .bool y.crit, .int .i64 y.q0, .int .i64 y.q1, .int .i64 y.q2, .int .i64 y.l0, .int .i64 y.l1, .int .i64 y.l2, .string y.image, .int .i64 y.size] 25)).cell? ⟨b, off + j * 11 + 5, none⟩ = some (.int .i64 y.q2) ∧ ((w5).alloc (.cells #[.string y.id, .int .i64 y.prio, .bool y.crit, .int .i64 y.q0, .int .i64 y.q1, .int .i64 y.q2, .int .i64 y.l0, .int .i64 y.l1, .int .i64 y.l2, .string y.image, .int .i64 y.size] 25)).cell? ⟨b, off + j * 11 + 6, none⟩ = some (.int .i64 y.l0) ∧ ((w5).alloc (.cells #[.string y.id, .int .i64 y.prio, .bool y.crit, .int .i64 y.q0, .int .i64 y.q1, .int .i64 y.q2, .int .i64 y.l0, .int .i64 y.l1, .int .i64 y.l2, .string y.image, .int .i64 y.size] 25)).cell? ⟨b, off + j * 11 + 7, none⟩ = some (.int .i64 y.l1) ∧ ((w5).alloc (.cells #[.string y.id, .int .i64 y.prio, .bool y.crit, .int .i64 y.q0, .int .i64 y.q1, .int .i64 y.q2, .int .i64 y.l0, .int .i64 y.l1, .int .i64 y.l2, .string y.image, .int .i64 y.size] 25)).cell? ⟨b, off + j * 11 + 8, none⟩ = some (.int .i64 y.l2) ∧ ((w5).alloc (.cells #[.string y.id, .int .i64 y.prio, .bool y.crit, .int .i64 y.q0, .int .i64 y.q1, .int .i64 y.q2, .int .i64 y.l0, .int .i64 y.l1, .int .i64 y.l2, .string y.image, .int .i64 y.size] 25)).cell? ⟨b, off + j * 11 + 9, none⟩ = some (.string y.image) ∧ ((w5).alloc (.cells #[.string y.id, .int .i64 y.prio, .bool y.crit, .int .i64 y.q0, .int .i64 y.q1, .int .i64 y.q2, .int .i64 y.l0, .int .i64 y.l1, .int .i64 y.l2, .string y.image, .int .i64 y.size] 25)).cell? ⟨b, off + j * 11 + 10, none⟩ = some (.int .i64 y.size) from spCells HQ.out HRi.out HYJ.out)
                clear hK K
                simp only [Act.put, List.setIfInBounds_toArray, List.set_cons_zero, List.set_cons_succ]
                refine held_call 16 109 rfl rfl (by kernel_rfl) (by rfl) (fun K hK => ?_)
                refine wp_app ((w5).alloc (.cells #[.string y.id, .int .i64 y.prio, .bool y.crit, .int .i64 y.q0, .int .i64 y.q1, .int .i64 y.q2, .int .i64 y.l0, .int .i64 y.l1, .int .i64 y.l2, .string y.image, .int .i64 y.size] 25)) elemP encP (.tmp 103) (.tmp 108) rfl wd.heap.size _ (fixD p l) (by simp [Act.eval]) HOW.out _ [y] 1 (by simp [Act.eval]) HRW.out (by simp; omega) (by simp; omega) HB.out.size ?_
                intro A7 c7 w7 ho hg _
                have hb7 := HOW.out.belowGrown HB.out hg (Nat.le_refl _) HB.out.size
                have HOW := Lib.hid ho
                have HB := Lib.hid hb7
                have HQ := Lib.hid (HQd.out.below HB.out)
                have HRi := Lib.hid (HRd.out.below HB.out)
                clear ho hg hb7
                refine hK _ _ (spCells HQ.out HRi.out HYJ.out) ?_
                have hHeld := (show w7.cell? ⟨w.heap.size, 0, none⟩ = some (.int .i64 room.a) ∧ w7.cell? ⟨w.heap.size, 1, none⟩ = some (.int .i64 room.b) ∧ w7.cell? ⟨w.heap.size, 2, none⟩ = some (.int .i64 room.c) ∧ w7.cell? ⟨w.heap.size + 1, 0, none⟩ = some (.string p.id) ∧ w7.cell? ⟨w.heap.size + 1, 1, none⟩ = some (.int .i64 p.prio) ∧ w7.cell? ⟨w.heap.size + 1, 2, none⟩ = some (.bool p.crit) ∧ w7.cell? ⟨w.heap.size + 1, 3, none⟩ = some (.int .i64 p.q0) ∧ w7.cell? ⟨w.heap.size + 1, 4, none⟩ = some (.int .i64 p.q1) ∧ w7.cell? ⟨w.heap.size + 1, 5, none⟩ = some (.int .i64 p.q2) ∧ w7.cell? ⟨w.heap.size + 1, 6, none⟩ = some (.int .i64 p.l0) ∧ w7.cell? ⟨w.heap.size + 1, 7, none⟩ = some (.int .i64 p.l1) ∧ w7.cell? ⟨w.heap.size + 1, 8, none⟩ = some (.int .i64 p.l2) ∧ w7.cell? ⟨w.heap.size + 1, 9, none⟩ = some (.string p.image) ∧ w7.cell? ⟨w.heap.size + 1, 10, none⟩ = some (.int .i64 p.size) ∧ w7.cell? ⟨b, off + j * 11, none⟩ = some (.string y.id) ∧ w7.cell? ⟨b, off + j * 11 + 1, none⟩ = some (.int .i64 y.prio) ∧ w7.cell? ⟨b, off + j * 11 + 2, none⟩ = some (.bool y.crit) ∧ w7.cell? ⟨b, off + j * 11 + 3, none⟩ = some (.int .i64 y.q0) ∧ w7.cell? ⟨b, off + j * 11 + 4, none⟩ = some (.int .i64 y.q1) ∧ w7.cell? ⟨b, off + j * 11 + 5, none⟩ = some (.int .i64 y.q2) ∧ w7.cell? ⟨b, off + j * 11 + 6, none⟩ = some (.int .i64 y.l0) ∧ w7.cell? ⟨b, off + j * 11 + 7, none⟩ = some (.int .i64 y.l1) ∧ w7.cell? ⟨b, off + j * 11 + 8, none⟩ = some (.int .i64 y.l2) ∧ w7.cell? ⟨b, off + j * 11 + 9, none⟩ = some (.string y.image) ∧ w7.cell? ⟨b, off + j * 11 + 10, none⟩ = some (.int .i64 y.size) from spCells HQ.out HRi.out HYJ.out)
                clear hK K
                simp only [Act.put, List.setIfInBounds_toArray, List.set_cons_zero, List.set_cons_succ]
                refine held_call 17 110 rfl rfl (by kernel_rfl) (by rfl) (fun K hK => ?_)
                go_simp
                have HO7 := Lib.hid (show Rds w7 encP A7 (fixD p l ++ [y]) from HOW.out.toRds)
                go_at_call 18; with_reducible refine (fitsN (show (fixD p l).length + 1 = (fixD p l ++ [y]).length by simp) HFV.out HO7.out HW7.out (by simp; omega)).mono ?_; rintro e w9 ⟨rfl, hb⟩
                have HB := Lib.hid (below_rV HB.out hb)
                have HQ := Lib.hid (HQd.out.below HB.out)
                have HRi := Lib.hid (HRd.out.below HB.out)
                clear hb
                refine hK _ _ (spCells HQ.out HRi.out HYJ.out) ?_
                have hHeld := (show w9.cell? ⟨w.heap.size, 0, none⟩ = some (.int .i64 room.a) ∧ w9.cell? ⟨w.heap.size, 1, none⟩ = some (.int .i64 room.b) ∧ w9.cell? ⟨w.heap.size, 2, none⟩ = some (.int .i64 room.c) ∧ w9.cell? ⟨w.heap.size + 1, 0, none⟩ = some (.string p.id) ∧ w9.cell? ⟨w.heap.size + 1, 1, none⟩ = some (.int .i64 p.prio) ∧ w9.cell? ⟨w.heap.size + 1, 2, none⟩ = some (.bool p.crit) ∧ w9.cell? ⟨w.heap.size + 1, 3, none⟩ = some (.int .i64 p.q0) ∧ w9.cell? ⟨w.heap.size + 1, 4, none⟩ = some (.int .i64 p.q1) ∧ w9.cell? ⟨w.heap.size + 1, 5, none⟩ = some (.int .i64 p.q2) ∧ w9.cell? ⟨w.heap.size + 1, 6, none⟩ = some (.int .i64 p.l0) ∧ w9.cell? ⟨w.heap.size + 1, 7, none⟩ = some (.int .i64 p.l1) ∧ w9.cell? ⟨w.heap.size + 1, 8, none⟩ = some (.int .i64 p.l2) ∧ w9.cell? ⟨w.heap.size + 1, 9, none⟩ = some (.string p.image) ∧ w9.cell? ⟨w.heap.size + 1, 10, none⟩ = some (.int .i64 p.size) ∧ w9.cell? ⟨b, off + j * 11, none⟩ = some (.string y.id) ∧ w9.cell? ⟨b, off + j * 11 + 1, none⟩ = some (.int .i64 y.prio) ∧ w9.cell? ⟨b, off + j * 11 + 2, none⟩ = some (.bool y.crit) ∧ w9.cell? ⟨b, off + j * 11 + 3, none⟩ = some (.int .i64 y.q0) ∧ w9.cell? ⟨b, off + j * 11 + 4, none⟩ = some (.int .i64 y.q1) ∧ w9.cell? ⟨b, off + j * 11 + 5, none⟩ = some (.int .i64 y.q2) ∧ w9.cell? ⟨b, off + j * 11 + 6, none⟩ = some (.int .i64 y.l0) ∧ w9.cell? ⟨b, off + j * 11 + 7, none⟩ = some (.int .i64 y.l1) ∧ w9.cell? ⟨b, off + j * 11 + 8, none⟩ = some (.int .i64 y.l2) ∧ w9.cell? ⟨b, off + j * 11 + 9, none⟩ = some (.string y.image) ∧ w9.cell? ⟨b, off + j * 11 + 10, none⟩ = some (.int .i64 y.size) from spCells HQ.out HRi.out HYJ.out)
                clear hK K
                simp only [Act.put, List.setIfInBounds_toArray, List.set_cons_zero, List.set_cons_succ]
                refine held_take 18 111 (.bool true) rfl rfl (by kernel_rfl) (by kernel_rfl) (by kernel_rfl) (fun _ _ _ h => h) (by rfl) (by intro w' hSw; (try dsimp only at hSw); go_simp; (first | done | with_reducible rfl | (revert hxor; cases hv <;> cases fv <;> simp))) (by assumption) ?_
                simp only [Act.put, List.setIfInBounds_toArray, List.set_cons_zero, List.set_cons_succ]
                refine held_take 19 6 (.bool true) rfl rfl (by kernel_rfl) (by kernel_rfl) (by kernel_rfl) (fun _ _ _ h => h) (by rfl) (by intro w' hSw; (try dsimp only at hSw); go_simp; (try (with_reducible rfl))) (by assumption) ?_
                simp only [Act.put, List.setIfInBounds_toArray, List.set_cons_zero, List.set_cons_succ]
                refine wpAnyH_done (by kernel_rfl) ?_ _
                go_wp2_with fail
                go_ret
                exact ⟨rfl, HQ.out.bel⟩
              · go_simp
                have HRW := Lib.hid (Rds.made (wd) encP [y] 25 #[.string y.id, .int .i64 y.prio, .bool y.crit, .int .i64 y.q0, .int .i64 y.q1, .int .i64 y.q2, .int .i64 y.l0, .int .i64 y.l1, .int .i64 y.l2, .string y.image, .int .i64 y.size] (0, 0) rfl)
                have HB := Lib.hid (HB.out.alloc HB.out.size (.cells #[.string y.id, .int .i64 y.prio, .bool y.crit, .int .i64 y.q0, .int .i64 y.q1, .int .i64 y.q2, .int .i64 y.l0, .int .i64 y.l1, .int .i64 y.l2, .string y.image, .int .i64 y.size] 25))
                have HQ := Lib.hid (HQd.out.below HB.out)
                have HRi := Lib.hid (HRd.out.below HB.out)
                have HRX := Lib.hid (HRXd.out.below HB.out)
                refine hK _ _ (spCells HQ.out HRi.out HYJ.out) ?_
                have hHeld := (show ((wd).alloc (.cells #[.string y.id, .int .i64 y.prio, .bool y.crit, .int .i64 y.q0, .int .i64 y.q1, .int .i64 y.q2, .int .i64 y.l0, .int .i64 y.l1, .int .i64 y.l2, .string y.image, .int .i64 y.size] 25)).cell? ⟨w.heap.size, 0, none⟩ = some (.int .i64 room.a) ∧ ((wd).alloc (.cells #[.string y.id, .int .i64 y.prio, .bool y.crit, .int .i64 y.q0, .int .i64 y.q1, .int .i64 y.q2, .int .i64 y.l0, .int .i64 y.l1, .int .i64 y.l2, .string y.image, .int .i64 y.size] 25)).cell? ⟨w.heap.size, 1, none⟩ = some (.int .i64 room.b) ∧ ((wd).alloc (.cells #[.string y.id, .int .i64 y.prio, .bool y.crit, .int .i64 y.q0, .int .i64 y.q1, .int .i64 y.q2, .int .i64 y.l0, .int .i64 y.l1, .int .i64 y.l2, .string y.image, .int .i64 y.size] 25)).cell? ⟨w.heap.size, 2, none⟩ = some (.int .i64 room.c) ∧ ((wd).alloc (.cells #[.string y.id, .int .i64 y.prio, .bool y.crit, .int .i64 y.q0, .int .i64 y.q1, .int .i64 y.q2, .int .i64 y.l0, .int .i64 y.l1, .int .i64 y.l2, .string y.image, .int .i64 y.size] 25)).cell? ⟨w.heap.size + 1, 0, none⟩ = some (.string p.id) ∧ ((wd).alloc (.cells #[.string y.id, .int .i64 y.prio, .bool y.crit, .int .i64 y.q0, .int .i64 y.q1, .int .i64 y.q2, .int .i64 y.l0, .int .i64 y.l1, .int .i64 y.l2, .string y.image, .int .i64 y.size] 25)).cell? ⟨w.heap.size + 1, 1, none⟩ = some (.int .i64 p.prio) ∧ ((wd).alloc (.cells #[.string y.id, .int .i64 y.prio, .bool y.crit, .int .i64 y.q0, .int .i64 y.q1, .int .i64 y.q2, .int .i64 y.l0, .int .i64 y.l1, .int .i64 y.l2, .string y.image, .int .i64 y.size] 25)).cell? ⟨w.heap.size + 1, 2, none⟩ = some (.bool p.crit) ∧ ((wd).alloc (.cells #[.string y.id, .int .i64 y.prio, .bool y.crit, .int .i64 y.q0, .int .i64 y.q1, .int .i64 y.q2, .int .i64 y.l0, .int .i64 y.l1, .int .i64 y.l2, .string y.image, .int .i64 y.size] 25)).cell? ⟨w.heap.size + 1, 3, none⟩ = some (.int .i64 p.q0) ∧ ((wd).alloc (.cells #[.string y.id, .int .i64 y.prio, .bool y.crit, .int .i64 y.q0, .int .i64 y.q1, .int .i64 y.q2, .int .i64 y.l0, .int .i64 y.l1, .int .i64 y.l2, .string y.image, .int .i64 y.size] 25)).cell? ⟨w.heap.size + 1, 4, none⟩ = some (.int .i64 p.q1) ∧ ((wd).alloc (.cells #[.string y.id, .int .i64 y.prio, .bool y.crit, .int .i64 y.q0, .int .i64 y.q1, .int .i64 y.q2, .int .i64 y.l0, .int .i64 y.l1, .int .i64 y.l2, .string y.image, .int .i64 y.size] 25)).cell? ⟨w.heap.size + 1, 5, none⟩ = some (.int .i64 p.q2) ∧ ((wd).alloc (.cells #[.string y.id, .int .i64 y.prio, .bool y.crit, .int .i64 y.q0, .int .i64 y.q1, .int .i64 y.q2, .int .i64 y.l0, .int .i64 y.l1, .int .i64 y.l2, .string y.image, .int .i64 y.size] 25)).cell? ⟨w.heap.size + 1, 6, none⟩ = some (.int .i64 p.l0) ∧ ((wd).alloc (.cells #[.string y.id, .int .i64 y.prio, .bool y.crit, .int .i64 y.q0, .int .i64 y.q1, .int .i64 y.q2, .int .i64 y.l0, .int .i64 y.l1, .int .i64 y.l2, .string y.image, .int .i64 y.size] 25)).cell? ⟨w.heap.size + 1, 7, none⟩ = some (.int .i64 p.l1) ∧ ((wd).alloc (.cells #[.string y.id, .int .i64 y.prio, .bool y.crit, .int .i64 y.q0, .int .i64 y.q1, .int .i64 y.q2, .int .i64 y.l0, .int .i64 y.l1, .int .i64 y.l2, .string y.image, .int .i64 y.size] 25)).cell? ⟨w.heap.size + 1, 8, none⟩ = some (.int .i64 p.l2) ∧ ((wd).alloc (.cells #[.string y.id, .int .i64 y.prio, .bool y.crit, .int .i64 y.q0, .int .i64 y.q1, .int .i64 y.q2, .int .i64 y.l0, .int .i64 y.l1, .int .i64 y.l2, .string y.image, .int .i64 y.size] 25)).cell? ⟨w.heap.size + 1, 9, none⟩ = some (.string p.image) ∧ ((wd).alloc (.cells #[.string y.id, .int .i64 y.prio, .bool y.crit, .int .i64 y.q0, .int .i64 y.q1, .int .i64 y.q2, .int .i64 y.l0, .int .i64 y.l1, .int .i64 y.l2, .string y.image, .int .i64 y.size] 25)).cell? ⟨w.heap.size + 1, 10, none⟩ = some (.int .i64 p.size) ∧ ((wd).alloc (.cells #[.string y.id, .int .i64 y.prio, .bool y.crit, .int .i64 y.q0, .int .i64 y.q1, .int .i64 y.q2, .int .i64 y.l0, .int .i64 y.l1, .int .i64 y.l2, .string y.image, .int .i64 y.size] 25)).cell? ⟨b, off + j * 11, none⟩ = some (.string y.id) ∧ ((wd).alloc (.cells #[.string y.id, .int .i64 y.prio, .bool y.crit, .int .i64 y.q0, .int .i64 y.q1, .int .i64 y.q2, .int .i64 y.l0, .int .i64 y.l1, .int .i64 y.l2, .string y.image, .int .i64 y.size] 25)).cell? ⟨b, off + j * 11 + 1, none⟩ = some (.int .i64 y.prio) ∧ ((wd).alloc (.cells #[.string y.id, .int .i64 y.prio, .bool y.crit, .int .i64 y.q0, .int .i64 y.q1, .int .i64 y.q2, .int .i64 y.l0, .int .i64 y.l1, .int .i64 y.l2, .string y.image, .int .i64 y.size] 25)).cell? ⟨b, off + j * 11 + 2, none⟩ = some (.bool y.crit) ∧ ((wd).alloc (.cells #[.string y.id, .int .i64 y.prio, .bool y.crit, .int .i64 y.q0, .int .i64 y.q1, .int .i64 y.q2, .int .i64 y.l0, .int .i64 y.l1, .int .i64 y.l2, .string y.image, .int .i64 y.size] 25)).cell? ⟨b, off + j * 11 + 3, none⟩ = some (.int .i64 y.q0) ∧ ((wd).alloc (.cells #[.string y.id, .int .i64 y.prio, .bool y.crit, .int .i64 y.q0, .int .i64 y.q1, .int .i64 y.q2, .int .i64 y.l0, .int .i64 y.l1, .int .i64 y.l2, .string y.image, .int .i64 y.size] 25)).cell? ⟨b, off + j * 11 + 4, none⟩ = some (.int .i64 y.q1) ∧ ((wd).alloc (.cells #[.string y.id, .int .i64 y.prio, .bool y.crit, .int .i64 y.q0, .int .i64 y.q1, .int .i64 y.q2, .int .i64 y.l0, .int .i64 y.l1, .int .i64 y.l2, .string y.image, .int .i64 y.size] 25)).cell? ⟨b, off + j * 11 + 5, none⟩ = some (.int .i64 y.q2) ∧ ((wd).alloc (.cells #[.string y.id, .int .i64 y.prio, .bool y.crit, .int .i64 y.q0, .int .i64 y.q1, .int .i64 y.q2, .int .i64 y.l0, .int .i64 y.l1, .int .i64 y.l2, .string y.image, .int .i64 y.size] 25)).cell? ⟨b, off + j * 11 + 6, none⟩ = some (.int .i64 y.l0) ∧ ((wd).alloc (.cells #[.string y.id, .int .i64 y.prio, .bool y.crit, .int .i64 y.q0, .int .i64 y.q1, .int .i64 y.q2, .int .i64 y.l0, .int .i64 y.l1, .int .i64 y.l2, .string y.image, .int .i64 y.size] 25)).cell? ⟨b, off + j * 11 + 7, none⟩ = some (.int .i64 y.l1) ∧ ((wd).alloc (.cells #[.string y.id, .int .i64 y.prio, .bool y.crit, .int .i64 y.q0, .int .i64 y.q1, .int .i64 y.q2, .int .i64 y.l0, .int .i64 y.l1, .int .i64 y.l2, .string y.image, .int .i64 y.size] 25)).cell? ⟨b, off + j * 11 + 8, none⟩ = some (.int .i64 y.l2) ∧ ((wd).alloc (.cells #[.string y.id, .int .i64 y.prio, .bool y.crit, .int .i64 y.q0, .int .i64 y.q1, .int .i64 y.q2, .int .i64 y.l0, .int .i64 y.l1, .int .i64 y.l2, .string y.image, .int .i64 y.size] 25)).cell? ⟨b, off + j * 11 + 9, none⟩ = some (.string y.image) ∧ ((wd).alloc (.cells #[.string y.id, .int .i64 y.prio, .bool y.crit, .int .i64 y.q0, .int .i64 y.q1, .int .i64 y.q2, .int .i64 y.l0, .int .i64 y.l1, .int .i64 y.l2, .string y.image, .int .i64 y.size] 25)).cell? ⟨b, off + j * 11 + 10, none⟩ = some (.int .i64 y.size) from spCells HQ.out HRi.out HYJ.out)
                clear hK K
                simp only [Act.put, List.setIfInBounds_toArray, List.set_cons_zero, List.set_cons_succ]
                refine held_call 10 103 rfl rfl (by kernel_rfl) (by rfl) (fun K hK => ?_)
                go_simp
                go_at_call 24; with_reducible refine (fixed_any p l (some ⟨b, off, none⟩) cl _ HRi.out (by omega)).mono ?_; rintro e w5 ⟨A5, c5, rfl, ho, hb⟩
                have HBS5 := Lib.hid HB.out.size
                have HOW := Lib.hid (ho.mono HBS5.out)
                have HRW := Lib.hid (HRW.out.below hb)
                have HB := Lib.hid (below_rV HB.out hb)
                clear ho hb
                have HQ := Lib.hid (HQd.out.below HB.out)
                have HRi := Lib.hid (HRd.out.below HB.out)
                refine hK _ _ (spCells HQ.out HRi.out HYJ.out) ?_
                have hHeld := (show w5.cell? ⟨w.heap.size, 0, none⟩ = some (.int .i64 room.a) ∧ w5.cell? ⟨w.heap.size, 1, none⟩ = some (.int .i64 room.b) ∧ w5.cell? ⟨w.heap.size, 2, none⟩ = some (.int .i64 room.c) ∧ w5.cell? ⟨w.heap.size + 1, 0, none⟩ = some (.string p.id) ∧ w5.cell? ⟨w.heap.size + 1, 1, none⟩ = some (.int .i64 p.prio) ∧ w5.cell? ⟨w.heap.size + 1, 2, none⟩ = some (.bool p.crit) ∧ w5.cell? ⟨w.heap.size + 1, 3, none⟩ = some (.int .i64 p.q0) ∧ w5.cell? ⟨w.heap.size + 1, 4, none⟩ = some (.int .i64 p.q1) ∧ w5.cell? ⟨w.heap.size + 1, 5, none⟩ = some (.int .i64 p.q2) ∧ w5.cell? ⟨w.heap.size + 1, 6, none⟩ = some (.int .i64 p.l0) ∧ w5.cell? ⟨w.heap.size + 1, 7, none⟩ = some (.int .i64 p.l1) ∧ w5.cell? ⟨w.heap.size + 1, 8, none⟩ = some (.int .i64 p.l2) ∧ w5.cell? ⟨w.heap.size + 1, 9, none⟩ = some (.string p.image) ∧ w5.cell? ⟨w.heap.size + 1, 10, none⟩ = some (.int .i64 p.size) ∧ w5.cell? ⟨b, off + j * 11, none⟩ = some (.string y.id) ∧ w5.cell? ⟨b, off + j * 11 + 1, none⟩ = some (.int .i64 y.prio) ∧ w5.cell? ⟨b, off + j * 11 + 2, none⟩ = some (.bool y.crit) ∧ w5.cell? ⟨b, off + j * 11 + 3, none⟩ = some (.int .i64 y.q0) ∧ w5.cell? ⟨b, off + j * 11 + 4, none⟩ = some (.int .i64 y.q1) ∧ w5.cell? ⟨b, off + j * 11 + 5, none⟩ = some (.int .i64 y.q2) ∧ w5.cell? ⟨b, off + j * 11 + 6, none⟩ = some (.int .i64 y.l0) ∧ w5.cell? ⟨b, off + j * 11 + 7, none⟩ = some (.int .i64 y.l1) ∧ w5.cell? ⟨b, off + j * 11 + 8, none⟩ = some (.int .i64 y.l2) ∧ w5.cell? ⟨b, off + j * 11 + 9, none⟩ = some (.string y.image) ∧ w5.cell? ⟨b, off + j * 11 + 10, none⟩ = some (.int .i64 y.size) from spCells HQ.out HRi.out HYJ.out)
                clear hK K
                simp only [Act.put, List.setIfInBounds_toArray, List.set_cons_zero, List.set_cons_succ]
                refine held_call 16 109 rfl rfl (by kernel_rfl) (by rfl) (fun K hK => ?_)
                refine wp_app (w5) elemP encP (.tmp 103) (.tmp 108) rfl wd.heap.size _ (fixD p l) (by simp [Act.eval]) HOW.out _ [y] 1 (by simp [Act.eval]) HRW.out (by simp; omega) (by simp; omega) HB.out.size ?_
                intro A7 c7 w7 ho hg _
                have hb7 := HOW.out.belowGrown HB.out hg (Nat.le_refl _) HB.out.size
                have HOW := Lib.hid ho
                have HB := Lib.hid hb7
                have HQ := Lib.hid (HQd.out.below HB.out)
                have HRi := Lib.hid (HRd.out.below HB.out)
                clear ho hg hb7
                refine hK _ _ (spCells HQ.out HRi.out HYJ.out) ?_
                have hHeld := (show w7.cell? ⟨w.heap.size, 0, none⟩ = some (.int .i64 room.a) ∧ w7.cell? ⟨w.heap.size, 1, none⟩ = some (.int .i64 room.b) ∧ w7.cell? ⟨w.heap.size, 2, none⟩ = some (.int .i64 room.c) ∧ w7.cell? ⟨w.heap.size + 1, 0, none⟩ = some (.string p.id) ∧ w7.cell? ⟨w.heap.size + 1, 1, none⟩ = some (.int .i64 p.prio) ∧ w7.cell? ⟨w.heap.size + 1, 2, none⟩ = some (.bool p.crit) ∧ w7.cell? ⟨w.heap.size + 1, 3, none⟩ = some (.int .i64 p.q0) ∧ w7.cell? ⟨w.heap.size + 1, 4, none⟩ = some (.int .i64 p.q1) ∧ w7.cell? ⟨w.heap.size + 1, 5, none⟩ = some (.int .i64 p.q2) ∧ w7.cell? ⟨w.heap.size + 1, 6, none⟩ = some (.int .i64 p.l0) ∧ w7.cell? ⟨w.heap.size + 1, 7, none⟩ = some (.int .i64 p.l1) ∧ w7.cell? ⟨w.heap.size + 1, 8, none⟩ = some (.int .i64 p.l2) ∧ w7.cell? ⟨w.heap.size + 1, 9, none⟩ = some (.string p.image) ∧ w7.cell? ⟨w.heap.size + 1, 10, none⟩ = some (.int .i64 p.size) ∧ w7.cell? ⟨b, off + j * 11, none⟩ = some (.string y.id) ∧ w7.cell? ⟨b, off + j * 11 + 1, none⟩ = some (.int .i64 y.prio) ∧ w7.cell? ⟨b, off + j * 11 + 2, none⟩ = some (.bool y.crit) ∧ w7.cell? ⟨b, off + j * 11 + 3, none⟩ = some (.int .i64 y.q0) ∧ w7.cell? ⟨b, off + j * 11 + 4, none⟩ = some (.int .i64 y.q1) ∧ w7.cell? ⟨b, off + j * 11 + 5, none⟩ = some (.int .i64 y.q2) ∧ w7.cell? ⟨b, off + j * 11 + 6, none⟩ = some (.int .i64 y.l0) ∧ w7.cell? ⟨b, off + j * 11 + 7, none⟩ = some (.int .i64 y.l1) ∧ w7.cell? ⟨b, off + j * 11 + 8, none⟩ = some (.int .i64 y.l2) ∧ w7.cell? ⟨b, off + j * 11 + 9, none⟩ = some (.string y.image) ∧ w7.cell? ⟨b, off + j * 11 + 10, none⟩ = some (.int .i64 y.size) from spCells HQ.out HRi.out HYJ.out)
                clear hK K
                simp only [Act.put, List.setIfInBounds_toArray, List.set_cons_zero, List.set_cons_succ]
                refine held_call 17 110 rfl rfl (by kernel_rfl) (by rfl) (fun K hK => ?_)
                go_simp
                have HO7 := Lib.hid (show Rds w7 encP A7 (fixD p l ++ [y]) from HOW.out.toRds)
                go_at_call 18; with_reducible refine (fitsN (show (fixD p l).length + 1 = (fixD p l ++ [y]).length by simp) HFV.out HO7.out HW7.out (by simp; omega)).mono ?_; rintro e w9 ⟨rfl, hb⟩
                have HB := Lib.hid (below_rV HB.out hb)
                have HQ := Lib.hid (HQd.out.below HB.out)
                have HRi := Lib.hid (HRd.out.below HB.out)
                clear hb
                refine hK _ _ (spCells HQ.out HRi.out HYJ.out) ?_
                have hHeld := (show w9.cell? ⟨w.heap.size, 0, none⟩ = some (.int .i64 room.a) ∧ w9.cell? ⟨w.heap.size, 1, none⟩ = some (.int .i64 room.b) ∧ w9.cell? ⟨w.heap.size, 2, none⟩ = some (.int .i64 room.c) ∧ w9.cell? ⟨w.heap.size + 1, 0, none⟩ = some (.string p.id) ∧ w9.cell? ⟨w.heap.size + 1, 1, none⟩ = some (.int .i64 p.prio) ∧ w9.cell? ⟨w.heap.size + 1, 2, none⟩ = some (.bool p.crit) ∧ w9.cell? ⟨w.heap.size + 1, 3, none⟩ = some (.int .i64 p.q0) ∧ w9.cell? ⟨w.heap.size + 1, 4, none⟩ = some (.int .i64 p.q1) ∧ w9.cell? ⟨w.heap.size + 1, 5, none⟩ = some (.int .i64 p.q2) ∧ w9.cell? ⟨w.heap.size + 1, 6, none⟩ = some (.int .i64 p.l0) ∧ w9.cell? ⟨w.heap.size + 1, 7, none⟩ = some (.int .i64 p.l1) ∧ w9.cell? ⟨w.heap.size + 1, 8, none⟩ = some (.int .i64 p.l2) ∧ w9.cell? ⟨w.heap.size + 1, 9, none⟩ = some (.string p.image) ∧ w9.cell? ⟨w.heap.size + 1, 10, none⟩ = some (.int .i64 p.size) ∧ w9.cell? ⟨b, off + j * 11, none⟩ = some (.string y.id) ∧ w9.cell? ⟨b, off + j * 11 + 1, none⟩ = some (.int .i64 y.prio) ∧ w9.cell? ⟨b, off + j * 11 + 2, none⟩ = some (.bool y.crit) ∧ w9.cell? ⟨b, off + j * 11 + 3, none⟩ = some (.int .i64 y.q0) ∧ w9.cell? ⟨b, off + j * 11 + 4, none⟩ = some (.int .i64 y.q1) ∧ w9.cell? ⟨b, off + j * 11 + 5, none⟩ = some (.int .i64 y.q2) ∧ w9.cell? ⟨b, off + j * 11 + 6, none⟩ = some (.int .i64 y.l0) ∧ w9.cell? ⟨b, off + j * 11 + 7, none⟩ = some (.int .i64 y.l1) ∧ w9.cell? ⟨b, off + j * 11 + 8, none⟩ = some (.int .i64 y.l2) ∧ w9.cell? ⟨b, off + j * 11 + 9, none⟩ = some (.string y.image) ∧ w9.cell? ⟨b, off + j * 11 + 10, none⟩ = some (.int .i64 y.size) from spCells HQ.out HRi.out HYJ.out)
                clear hK K
                simp only [Act.put, List.setIfInBounds_toArray, List.set_cons_zero, List.set_cons_succ]
                refine held_take 18 111 (.bool true) rfl rfl (by kernel_rfl) (by kernel_rfl) (by kernel_rfl) (fun _ _ _ h => h) (by rfl) (by intro w' hSw; (try dsimp only at hSw); go_simp; (first | done | with_reducible rfl | (revert hxor; cases hv <;> cases fv <;> simp))) (by assumption) ?_
                simp only [Act.put, List.setIfInBounds_toArray, List.set_cons_zero, List.set_cons_succ]
                refine held_take 19 6 (.bool true) rfl rfl (by kernel_rfl) (by kernel_rfl) (by kernel_rfl) (fun _ _ _ h => h) (by rfl) (by intro w' hSw; (try dsimp only at hSw); go_simp; (try (with_reducible rfl))) (by assumption) ?_
                simp only [Act.put, List.setIfInBounds_toArray, List.set_cons_zero, List.set_cons_succ]
                refine wpAnyH_done (by kernel_rfl) ?_ _
                go_wp2_with fail
                go_ret
                exact ⟨rfl, HQ.out.bel⟩
            · go_simp
              have HRW := Lib.hid (Rds.made (wd) encP [y] 25 #[.string y.id, .int .i64 y.prio, .bool y.crit, .int .i64 y.q0, .int .i64 y.q1, .int .i64 y.q2, .int .i64 y.l0, .int .i64 y.l1, .int .i64 y.l2, .string y.image, .int .i64 y.size] (0, 0) rfl)
              have HB := Lib.hid (HB.out.alloc HB.out.size (.cells #[.string y.id, .int .i64 y.prio, .bool y.crit, .int .i64 y.q0, .int .i64 y.q1, .int .i64 y.q2, .int .i64 y.l0, .int .i64 y.l1, .int .i64 y.l2, .string y.image, .int .i64 y.size] 25))
              have HQ := Lib.hid (HQd.out.below HB.out)
              have HRi := Lib.hid (HRd.out.below HB.out)
              have HRX := Lib.hid (HRXd.out.below HB.out)
              refine hK _ _ (spCells HQ.out HRi.out HYJ.out) ?_
              have hHeld := (show ((wd).alloc (.cells #[.string y.id, .int .i64 y.prio, .bool y.crit, .int .i64 y.q0, .int .i64 y.q1, .int .i64 y.q2, .int .i64 y.l0, .int .i64 y.l1, .int .i64 y.l2, .string y.image, .int .i64 y.size] 25)).cell? ⟨w.heap.size, 0, none⟩ = some (.int .i64 room.a) ∧ ((wd).alloc (.cells #[.string y.id, .int .i64 y.prio, .bool y.crit, .int .i64 y.q0, .int .i64 y.q1, .int .i64 y.q2, .int .i64 y.l0, .int .i64 y.l1, .int .i64 y.l2, .string y.image, .int .i64 y.size] 25)).cell? ⟨w.heap.size, 1, none⟩ = some (.int .i64 room.b) ∧ ((wd).alloc (.cells #[.string y.id, .int .i64 y.prio, .bool y.crit, .int .i64 y.q0, .int .i64 y.q1, .int .i64 y.q2, .int .i64 y.l0, .int .i64 y.l1, .int .i64 y.l2, .string y.image, .int .i64 y.size] 25)).cell? ⟨w.heap.size, 2, none⟩ = some (.int .i64 room.c) ∧ ((wd).alloc (.cells #[.string y.id, .int .i64 y.prio, .bool y.crit, .int .i64 y.q0, .int .i64 y.q1, .int .i64 y.q2, .int .i64 y.l0, .int .i64 y.l1, .int .i64 y.l2, .string y.image, .int .i64 y.size] 25)).cell? ⟨w.heap.size + 1, 0, none⟩ = some (.string p.id) ∧ ((wd).alloc (.cells #[.string y.id, .int .i64 y.prio, .bool y.crit, .int .i64 y.q0, .int .i64 y.q1, .int .i64 y.q2, .int .i64 y.l0, .int .i64 y.l1, .int .i64 y.l2, .string y.image, .int .i64 y.size] 25)).cell? ⟨w.heap.size + 1, 1, none⟩ = some (.int .i64 p.prio) ∧ ((wd).alloc (.cells #[.string y.id, .int .i64 y.prio, .bool y.crit, .int .i64 y.q0, .int .i64 y.q1, .int .i64 y.q2, .int .i64 y.l0, .int .i64 y.l1, .int .i64 y.l2, .string y.image, .int .i64 y.size] 25)).cell? ⟨w.heap.size + 1, 2, none⟩ = some (.bool p.crit) ∧ ((wd).alloc (.cells #[.string y.id, .int .i64 y.prio, .bool y.crit, .int .i64 y.q0, .int .i64 y.q1, .int .i64 y.q2, .int .i64 y.l0, .int .i64 y.l1, .int .i64 y.l2, .string y.image, .int .i64 y.size] 25)).cell? ⟨w.heap.size + 1, 3, none⟩ = some (.int .i64 p.q0) ∧ ((wd).alloc (.cells #[.string y.id, .int .i64 y.prio, .bool y.crit, .int .i64 y.q0, .int .i64 y.q1, .int .i64 y.q2, .int .i64 y.l0, .int .i64 y.l1, .int .i64 y.l2, .string y.image, .int .i64 y.size] 25)).cell? ⟨w.heap.size + 1, 4, none⟩ = some (.int .i64 p.q1) ∧ ((wd).alloc (.cells #[.string y.id, .int .i64 y.prio, .bool y.crit, .int .i64 y.q0, .int .i64 y.q1, .int .i64 y.q2, .int .i64 y.l0, .int .i64 y.l1, .int .i64 y.l2, .string y.image, .int .i64 y.size] 25)).cell? ⟨w.heap.size + 1, 5, none⟩ = some (.int .i64 p.q2) ∧ ((wd).alloc (.cells #[.string y.id, .int .i64 y.prio, .bool y.crit, .int .i64 y.q0, .int .i64 y.q1, .int .i64 y.q2, .int .i64 y.l0, .int .i64 y.l1, .int .i64 y.l2, .string y.image, .int .i64 y.size] 25)).cell? ⟨w.heap.size + 1, 6, none⟩ = some (.int .i64 p.l0) ∧ ((wd).alloc (.cells #[.string y.id, .int .i64 y.prio, .bool y.crit, .int .i64 y.q0, .int .i64 y.q1, .int .i64 y.q2, .int .i64 y.l0, .int .i64 y.l1, .int .i64 y.l2, .string y.image, .int .i64 y.size] 25)).cell? ⟨w.heap.size + 1, 7, none⟩ = some (.int .i64 p.l1) ∧ ((wd).alloc (.cells #[.string y.id, .int .i64 y.prio, .bool y.crit, .int .i64 y.q0, .int .i64 y.q1, .int .i64 y.q2, .int .i64 y.l0, .int .i64 y.l1, .int .i64 y.l2, .string y.image, .int .i64 y.size] 25)).cell? ⟨w.heap.size + 1, 8, none⟩ = some (.int .i64 p.l2) ∧ ((wd).alloc (.cells #[.string y.id, .int .i64 y.prio, .bool y.crit, .int .i64 y.q0, .int .i64 y.q1, .int .i64 y.q2, .int .i64 y.l0, .int .i64 y.l1, .int .i64 y.l2, .string y.image, .int .i64 y.size] 25)).cell? ⟨w.heap.size + 1, 9, none⟩ = some (.string p.image) ∧ ((wd).alloc (.cells #[.string y.id, .int .i64 y.prio, .bool y.crit, .int .i64 y.q0, .int .i64 y.q1, .int .i64 y.q2, .int .i64 y.l0, .int .i64 y.l1, .int .i64 y.l2, .string y.image, .int .i64 y.size] 25)).cell? ⟨w.heap.size + 1, 10, none⟩ = some (.int .i64 p.size) ∧ ((wd).alloc (.cells #[.string y.id, .int .i64 y.prio, .bool y.crit, .int .i64 y.q0, .int .i64 y.q1, .int .i64 y.q2, .int .i64 y.l0, .int .i64 y.l1, .int .i64 y.l2, .string y.image, .int .i64 y.size] 25)).cell? ⟨b, off + j * 11, none⟩ = some (.string y.id) ∧ ((wd).alloc (.cells #[.string y.id, .int .i64 y.prio, .bool y.crit, .int .i64 y.q0, .int .i64 y.q1, .int .i64 y.q2, .int .i64 y.l0, .int .i64 y.l1, .int .i64 y.l2, .string y.image, .int .i64 y.size] 25)).cell? ⟨b, off + j * 11 + 1, none⟩ = some (.int .i64 y.prio) ∧ ((wd).alloc (.cells #[.string y.id, .int .i64 y.prio, .bool y.crit, .int .i64 y.q0, .int .i64 y.q1, .int .i64 y.q2, .int .i64 y.l0, .int .i64 y.l1, .int .i64 y.l2, .string y.image, .int .i64 y.size] 25)).cell? ⟨b, off + j * 11 + 2, none⟩ = some (.bool y.crit) ∧ ((wd).alloc (.cells #[.string y.id, .int .i64 y.prio, .bool y.crit, .int .i64 y.q0, .int .i64 y.q1, .int .i64 y.q2, .int .i64 y.l0, .int .i64 y.l1, .int .i64 y.l2, .string y.image, .int .i64 y.size] 25)).cell? ⟨b, off + j * 11 + 3, none⟩ = some (.int .i64 y.q0) ∧ ((wd).alloc (.cells #[.string y.id, .int .i64 y.prio, .bool y.crit, .int .i64 y.q0, .int .i64 y.q1, .int .i64 y.q2, .int .i64 y.l0, .int .i64 y.l1, .int .i64 y.l2, .string y.image, .int .i64 y.size] 25)).cell? ⟨b, off + j * 11 + 4, none⟩ = some (.int .i64 y.q1) ∧ ((wd).alloc (.cells #[.string y.id, .int .i64 y.prio, .bool y.crit, .int .i64 y.q0, .int .i64 y.q1, .int .i64 y.q2, .int .i64 y.l0, .int .i64 y.l1, .int .i64 y.l2, .string y.image, .int .i64 y.size] 25)).cell? ⟨b, off + j * 11 + 5, none⟩ = some (.int .i64 y.q2) ∧ ((wd).alloc (.cells #[.string y.id, .int .i64 y.prio, .bool y.crit, .int .i64 y.q0, .int .i64 y.q1, .int .i64 y.q2, .int .i64 y.l0, .int .i64 y.l1, .int .i64 y.l2, .string y.image, .int .i64 y.size] 25)).cell? ⟨b, off + j * 11 + 6, none⟩ = some (.int .i64 y.l0) ∧ ((wd).alloc (.cells #[.string y.id, .int .i64 y.prio, .bool y.crit, .int .i64 y.q0, .int .i64 y.q1, .int .i64 y.q2, .int .i64 y.l0, .int .i64 y.l1, .int .i64 y.l2, .string y.image, .int .i64 y.size] 25)).cell? ⟨b, off + j * 11 + 7, none⟩ = some (.int .i64 y.l1) ∧ ((wd).alloc (.cells #[.string y.id, .int .i64 y.prio, .bool y.crit, .int .i64 y.q0, .int .i64 y.q1, .int .i64 y.q2, .int .i64 y.l0, .int .i64 y.l1, .int .i64 y.l2, .string y.image, .int .i64 y.size] 25)).cell? ⟨b, off + j * 11 + 8, none⟩ = some (.int .i64 y.l2) ∧ ((wd).alloc (.cells #[.string y.id, .int .i64 y.prio, .bool y.crit, .int .i64 y.q0, .int .i64 y.q1, .int .i64 y.q2, .int .i64 y.l0, .int .i64 y.l1, .int .i64 y.l2, .string y.image, .int .i64 y.size] 25)).cell? ⟨b, off + j * 11 + 9, none⟩ = some (.string y.image) ∧ ((wd).alloc (.cells #[.string y.id, .int .i64 y.prio, .bool y.crit, .int .i64 y.q0, .int .i64 y.q1, .int .i64 y.q2, .int .i64 y.l0, .int .i64 y.l1, .int .i64 y.l2, .string y.image, .int .i64 y.size] 25)).cell? ⟨b, off + j * 11 + 10, none⟩ = some (.int .i64 y.size) from spCells HQ.out HRi.out HYJ.out)
              clear hK K
              simp only [Act.put, List.setIfInBounds_toArray, List.set_cons_zero, List.set_cons_succ]
              refine held_call 6 99 rfl rfl (by kernel_rfl) (by rfl) (fun K hK => ?_)
              go_simp
              go_at_call 23; with_reducible refine (hasV HHV.out Ax cx _ HRX.out (by omega)).mono ?_; rintro e v1 ⟨rfl, rfl⟩
              refine hK _ _ (spCells HQ.out HRi.out HYJ.out) ?_
              have hHeld := (show ((wd).alloc (.cells #[.string y.id, .int .i64 y.prio, .bool y.crit, .int .i64 y.q0, .int .i64 y.q1, .int .i64 y.q2, .int .i64 y.l0, .int .i64 y.l1, .int .i64 y.l2, .string y.image, .int .i64 y.size] 25)).cell? ⟨w.heap.size, 0, none⟩ = some (.int .i64 room.a) ∧ ((wd).alloc (.cells #[.string y.id, .int .i64 y.prio, .bool y.crit, .int .i64 y.q0, .int .i64 y.q1, .int .i64 y.q2, .int .i64 y.l0, .int .i64 y.l1, .int .i64 y.l2, .string y.image, .int .i64 y.size] 25)).cell? ⟨w.heap.size, 1, none⟩ = some (.int .i64 room.b) ∧ ((wd).alloc (.cells #[.string y.id, .int .i64 y.prio, .bool y.crit, .int .i64 y.q0, .int .i64 y.q1, .int .i64 y.q2, .int .i64 y.l0, .int .i64 y.l1, .int .i64 y.l2, .string y.image, .int .i64 y.size] 25)).cell? ⟨w.heap.size, 2, none⟩ = some (.int .i64 room.c) ∧ ((wd).alloc (.cells #[.string y.id, .int .i64 y.prio, .bool y.crit, .int .i64 y.q0, .int .i64 y.q1, .int .i64 y.q2, .int .i64 y.l0, .int .i64 y.l1, .int .i64 y.l2, .string y.image, .int .i64 y.size] 25)).cell? ⟨w.heap.size + 1, 0, none⟩ = some (.string p.id) ∧ ((wd).alloc (.cells #[.string y.id, .int .i64 y.prio, .bool y.crit, .int .i64 y.q0, .int .i64 y.q1, .int .i64 y.q2, .int .i64 y.l0, .int .i64 y.l1, .int .i64 y.l2, .string y.image, .int .i64 y.size] 25)).cell? ⟨w.heap.size + 1, 1, none⟩ = some (.int .i64 p.prio) ∧ ((wd).alloc (.cells #[.string y.id, .int .i64 y.prio, .bool y.crit, .int .i64 y.q0, .int .i64 y.q1, .int .i64 y.q2, .int .i64 y.l0, .int .i64 y.l1, .int .i64 y.l2, .string y.image, .int .i64 y.size] 25)).cell? ⟨w.heap.size + 1, 2, none⟩ = some (.bool p.crit) ∧ ((wd).alloc (.cells #[.string y.id, .int .i64 y.prio, .bool y.crit, .int .i64 y.q0, .int .i64 y.q1, .int .i64 y.q2, .int .i64 y.l0, .int .i64 y.l1, .int .i64 y.l2, .string y.image, .int .i64 y.size] 25)).cell? ⟨w.heap.size + 1, 3, none⟩ = some (.int .i64 p.q0) ∧ ((wd).alloc (.cells #[.string y.id, .int .i64 y.prio, .bool y.crit, .int .i64 y.q0, .int .i64 y.q1, .int .i64 y.q2, .int .i64 y.l0, .int .i64 y.l1, .int .i64 y.l2, .string y.image, .int .i64 y.size] 25)).cell? ⟨w.heap.size + 1, 4, none⟩ = some (.int .i64 p.q1) ∧ ((wd).alloc (.cells #[.string y.id, .int .i64 y.prio, .bool y.crit, .int .i64 y.q0, .int .i64 y.q1, .int .i64 y.q2, .int .i64 y.l0, .int .i64 y.l1, .int .i64 y.l2, .string y.image, .int .i64 y.size] 25)).cell? ⟨w.heap.size + 1, 5, none⟩ = some (.int .i64 p.q2) ∧ ((wd).alloc (.cells #[.string y.id, .int .i64 y.prio, .bool y.crit, .int .i64 y.q0, .int .i64 y.q1, .int .i64 y.q2, .int .i64 y.l0, .int .i64 y.l1, .int .i64 y.l2, .string y.image, .int .i64 y.size] 25)).cell? ⟨w.heap.size + 1, 6, none⟩ = some (.int .i64 p.l0) ∧ ((wd).alloc (.cells #[.string y.id, .int .i64 y.prio, .bool y.crit, .int .i64 y.q0, .int .i64 y.q1, .int .i64 y.q2, .int .i64 y.l0, .int .i64 y.l1, .int .i64 y.l2, .string y.image, .int .i64 y.size] 25)).cell? ⟨w.heap.size + 1, 7, none⟩ = some (.int .i64 p.l1) ∧ ((wd).alloc (.cells #[.string y.id, .int .i64 y.prio, .bool y.crit, .int .i64 y.q0, .int .i64 y.q1, .int .i64 y.q2, .int .i64 y.l0, .int .i64 y.l1, .int .i64 y.l2, .string y.image, .int .i64 y.size] 25)).cell? ⟨w.heap.size + 1, 8, none⟩ = some (.int .i64 p.l2) ∧ ((wd).alloc (.cells #[.string y.id, .int .i64 y.prio, .bool y.crit, .int .i64 y.q0, .int .i64 y.q1, .int .i64 y.q2, .int .i64 y.l0, .int .i64 y.l1, .int .i64 y.l2, .string y.image, .int .i64 y.size] 25)).cell? ⟨w.heap.size + 1, 9, none⟩ = some (.string p.image) ∧ ((wd).alloc (.cells #[.string y.id, .int .i64 y.prio, .bool y.crit, .int .i64 y.q0, .int .i64 y.q1, .int .i64 y.q2, .int .i64 y.l0, .int .i64 y.l1, .int .i64 y.l2, .string y.image, .int .i64 y.size] 25)).cell? ⟨w.heap.size + 1, 10, none⟩ = some (.int .i64 p.size) ∧ ((wd).alloc (.cells #[.string y.id, .int .i64 y.prio, .bool y.crit, .int .i64 y.q0, .int .i64 y.q1, .int .i64 y.q2, .int .i64 y.l0, .int .i64 y.l1, .int .i64 y.l2, .string y.image, .int .i64 y.size] 25)).cell? ⟨b, off + j * 11, none⟩ = some (.string y.id) ∧ ((wd).alloc (.cells #[.string y.id, .int .i64 y.prio, .bool y.crit, .int .i64 y.q0, .int .i64 y.q1, .int .i64 y.q2, .int .i64 y.l0, .int .i64 y.l1, .int .i64 y.l2, .string y.image, .int .i64 y.size] 25)).cell? ⟨b, off + j * 11 + 1, none⟩ = some (.int .i64 y.prio) ∧ ((wd).alloc (.cells #[.string y.id, .int .i64 y.prio, .bool y.crit, .int .i64 y.q0, .int .i64 y.q1, .int .i64 y.q2, .int .i64 y.l0, .int .i64 y.l1, .int .i64 y.l2, .string y.image, .int .i64 y.size] 25)).cell? ⟨b, off + j * 11 + 2, none⟩ = some (.bool y.crit) ∧ ((wd).alloc (.cells #[.string y.id, .int .i64 y.prio, .bool y.crit, .int .i64 y.q0, .int .i64 y.q1, .int .i64 y.q2, .int .i64 y.l0, .int .i64 y.l1, .int .i64 y.l2, .string y.image, .int .i64 y.size] 25)).cell? ⟨b, off + j * 11 + 3, none⟩ = some (.int .i64 y.q0) ∧ ((wd).alloc (.cells #[.string y.id, .int .i64 y.prio, .bool y.crit, .int .i64 y.q0, .int .i64 y.q1, .int .i64 y.q2, .int .i64 y.l0, .int .i64 y.l1, .int .i64 y.l2, .string y.image, .int .i64 y.size] 25)).cell? ⟨b, off + j * 11 + 4, none⟩ = some (.int .i64 y.q1) ∧ ((wd).alloc (.cells #[.string y.id, .int .i64 y.prio, .bool y.crit, .int .i64 y.q0, .int .i64 y.q1, .int .i64 y.q2, .int .i64 y.l0, .int .i64 y.l1, .int .i64 y.l2, .string y.image, .int .i64 y.size] 25)).cell? ⟨b, off + j * 11 + 5, none⟩ = some (.int .i64 y.q2) ∧ ((wd).alloc (.cells #[.string y.id, .int .i64 y.prio, .bool y.crit, .int .i64 y.q0, .int .i64 y.q1, .int .i64 y.q2, .int .i64 y.l0, .int .i64 y.l1, .int .i64 y.l2, .string y.image, .int .i64 y.size] 25)).cell? ⟨b, off + j * 11 + 6, none⟩ = some (.int .i64 y.l0) ∧ ((wd).alloc (.cells #[.string y.id, .int .i64 y.prio, .bool y.crit, .int .i64 y.q0, .int .i64 y.q1, .int .i64 y.q2, .int .i64 y.l0, .int .i64 y.l1, .int .i64 y.l2, .string y.image, .int .i64 y.size] 25)).cell? ⟨b, off + j * 11 + 7, none⟩ = some (.int .i64 y.l1) ∧ ((wd).alloc (.cells #[.string y.id, .int .i64 y.prio, .bool y.crit, .int .i64 y.q0, .int .i64 y.q1, .int .i64 y.q2, .int .i64 y.l0, .int .i64 y.l1, .int .i64 y.l2, .string y.image, .int .i64 y.size] 25)).cell? ⟨b, off + j * 11 + 8, none⟩ = some (.int .i64 y.l2) ∧ ((wd).alloc (.cells #[.string y.id, .int .i64 y.prio, .bool y.crit, .int .i64 y.q0, .int .i64 y.q1, .int .i64 y.q2, .int .i64 y.l0, .int .i64 y.l1, .int .i64 y.l2, .string y.image, .int .i64 y.size] 25)).cell? ⟨b, off + j * 11 + 9, none⟩ = some (.string y.image) ∧ ((wd).alloc (.cells #[.string y.id, .int .i64 y.prio, .bool y.crit, .int .i64 y.q0, .int .i64 y.q1, .int .i64 y.q2, .int .i64 y.l0, .int .i64 y.l1, .int .i64 y.l2, .string y.image, .int .i64 y.size] 25)).cell? ⟨b, off + j * 11 + 10, none⟩ = some (.int .i64 y.size) from spCells HQ.out HRi.out HYJ.out)
              clear hK K
              simp only [Act.put, List.setIfInBounds_toArray, List.set_cons_zero, List.set_cons_succ]
              refine held_call 10 103 rfl rfl (by kernel_rfl) (by rfl) (fun K hK => ?_)
              go_simp
              go_at_call 24; with_reducible refine (fixed_any p l (some ⟨b, off, none⟩) cl _ HRi.out (by omega)).mono ?_; rintro e w5 ⟨A5, c5, rfl, ho, hb⟩
              have HBS5 := Lib.hid HB.out.size
              have HOW := Lib.hid (ho.mono HBS5.out)
              have HRW := Lib.hid (HRW.out.below hb)
              have HB := Lib.hid (below_rV HB.out hb)
              clear ho hb
              have HQ := Lib.hid (HQd.out.below HB.out)
              have HRi := Lib.hid (HRd.out.below HB.out)
              refine hK _ _ (spCells HQ.out HRi.out HYJ.out) ?_
              have hHeld := (show w5.cell? ⟨w.heap.size, 0, none⟩ = some (.int .i64 room.a) ∧ w5.cell? ⟨w.heap.size, 1, none⟩ = some (.int .i64 room.b) ∧ w5.cell? ⟨w.heap.size, 2, none⟩ = some (.int .i64 room.c) ∧ w5.cell? ⟨w.heap.size + 1, 0, none⟩ = some (.string p.id) ∧ w5.cell? ⟨w.heap.size + 1, 1, none⟩ = some (.int .i64 p.prio) ∧ w5.cell? ⟨w.heap.size + 1, 2, none⟩ = some (.bool p.crit) ∧ w5.cell? ⟨w.heap.size + 1, 3, none⟩ = some (.int .i64 p.q0) ∧ w5.cell? ⟨w.heap.size + 1, 4, none⟩ = some (.int .i64 p.q1) ∧ w5.cell? ⟨w.heap.size + 1, 5, none⟩ = some (.int .i64 p.q2) ∧ w5.cell? ⟨w.heap.size + 1, 6, none⟩ = some (.int .i64 p.l0) ∧ w5.cell? ⟨w.heap.size + 1, 7, none⟩ = some (.int .i64 p.l1) ∧ w5.cell? ⟨w.heap.size + 1, 8, none⟩ = some (.int .i64 p.l2) ∧ w5.cell? ⟨w.heap.size + 1, 9, none⟩ = some (.string p.image) ∧ w5.cell? ⟨w.heap.size + 1, 10, none⟩ = some (.int .i64 p.size) ∧ w5.cell? ⟨b, off + j * 11, none⟩ = some (.string y.id) ∧ w5.cell? ⟨b, off + j * 11 + 1, none⟩ = some (.int .i64 y.prio) ∧ w5.cell? ⟨b, off + j * 11 + 2, none⟩ = some (.bool y.crit) ∧ w5.cell? ⟨b, off + j * 11 + 3, none⟩ = some (.int .i64 y.q0) ∧ w5.cell? ⟨b, off + j * 11 + 4, none⟩ = some (.int .i64 y.q1) ∧ w5.cell? ⟨b, off + j * 11 + 5, none⟩ = some (.int .i64 y.q2) ∧ w5.cell? ⟨b, off + j * 11 + 6, none⟩ = some (.int .i64 y.l0) ∧ w5.cell? ⟨b, off + j * 11 + 7, none⟩ = some (.int .i64 y.l1) ∧ w5.cell? ⟨b, off + j * 11 + 8, none⟩ = some (.int .i64 y.l2) ∧ w5.cell? ⟨b, off + j * 11 + 9, none⟩ = some (.string y.image) ∧ w5.cell? ⟨b, off + j * 11 + 10, none⟩ = some (.int .i64 y.size) from spCells HQ.out HRi.out HYJ.out)
              clear hK K
              simp only [Act.put, List.setIfInBounds_toArray, List.set_cons_zero, List.set_cons_succ]
              refine held_call 16 109 rfl rfl (by kernel_rfl) (by rfl) (fun K hK => ?_)
              refine wp_app (w5) elemP encP (.tmp 103) (.tmp 108) rfl wd.heap.size _ (fixD p l) (by simp [Act.eval]) HOW.out _ [y] 1 (by simp [Act.eval]) HRW.out (by simp; omega) (by simp; omega) HB.out.size ?_
              intro A7 c7 w7 ho hg _
              have hb7 := HOW.out.belowGrown HB.out hg (Nat.le_refl _) HB.out.size
              have HOW := Lib.hid ho
              have HB := Lib.hid hb7
              have HQ := Lib.hid (HQd.out.below HB.out)
              have HRi := Lib.hid (HRd.out.below HB.out)
              clear ho hg hb7
              refine hK _ _ (spCells HQ.out HRi.out HYJ.out) ?_
              have hHeld := (show w7.cell? ⟨w.heap.size, 0, none⟩ = some (.int .i64 room.a) ∧ w7.cell? ⟨w.heap.size, 1, none⟩ = some (.int .i64 room.b) ∧ w7.cell? ⟨w.heap.size, 2, none⟩ = some (.int .i64 room.c) ∧ w7.cell? ⟨w.heap.size + 1, 0, none⟩ = some (.string p.id) ∧ w7.cell? ⟨w.heap.size + 1, 1, none⟩ = some (.int .i64 p.prio) ∧ w7.cell? ⟨w.heap.size + 1, 2, none⟩ = some (.bool p.crit) ∧ w7.cell? ⟨w.heap.size + 1, 3, none⟩ = some (.int .i64 p.q0) ∧ w7.cell? ⟨w.heap.size + 1, 4, none⟩ = some (.int .i64 p.q1) ∧ w7.cell? ⟨w.heap.size + 1, 5, none⟩ = some (.int .i64 p.q2) ∧ w7.cell? ⟨w.heap.size + 1, 6, none⟩ = some (.int .i64 p.l0) ∧ w7.cell? ⟨w.heap.size + 1, 7, none⟩ = some (.int .i64 p.l1) ∧ w7.cell? ⟨w.heap.size + 1, 8, none⟩ = some (.int .i64 p.l2) ∧ w7.cell? ⟨w.heap.size + 1, 9, none⟩ = some (.string p.image) ∧ w7.cell? ⟨w.heap.size + 1, 10, none⟩ = some (.int .i64 p.size) ∧ w7.cell? ⟨b, off + j * 11, none⟩ = some (.string y.id) ∧ w7.cell? ⟨b, off + j * 11 + 1, none⟩ = some (.int .i64 y.prio) ∧ w7.cell? ⟨b, off + j * 11 + 2, none⟩ = some (.bool y.crit) ∧ w7.cell? ⟨b, off + j * 11 + 3, none⟩ = some (.int .i64 y.q0) ∧ w7.cell? ⟨b, off + j * 11 + 4, none⟩ = some (.int .i64 y.q1) ∧ w7.cell? ⟨b, off + j * 11 + 5, none⟩ = some (.int .i64 y.q2) ∧ w7.cell? ⟨b, off + j * 11 + 6, none⟩ = some (.int .i64 y.l0) ∧ w7.cell? ⟨b, off + j * 11 + 7, none⟩ = some (.int .i64 y.l1) ∧ w7.cell? ⟨b, off + j * 11 + 8, none⟩ = some (.int .i64 y.l2) ∧ w7.cell? ⟨b, off + j * 11 + 9, none⟩ = some (.string y.image) ∧ w7.cell? ⟨b, off + j * 11 + 10, none⟩ = some (.int .i64 y.size) from spCells HQ.out HRi.out HYJ.out)
              clear hK K
              simp only [Act.put, List.setIfInBounds_toArray, List.set_cons_zero, List.set_cons_succ]
              refine held_call 17 110 rfl rfl (by kernel_rfl) (by rfl) (fun K hK => ?_)
              go_simp
              have HO7 := Lib.hid (show Rds w7 encP A7 (fixD p l ++ [y]) from HOW.out.toRds)
              go_at_call 18; with_reducible refine (fitsN (show (fixD p l).length + 1 = (fixD p l ++ [y]).length by simp) HFV.out HO7.out HW7.out (by simp; omega)).mono ?_; rintro e w9 ⟨rfl, hb⟩
              have HB := Lib.hid (below_rV HB.out hb)
              have HQ := Lib.hid (HQd.out.below HB.out)
              have HRi := Lib.hid (HRd.out.below HB.out)
              clear hb
              refine hK _ _ (spCells HQ.out HRi.out HYJ.out) ?_
              have hHeld := (show w9.cell? ⟨w.heap.size, 0, none⟩ = some (.int .i64 room.a) ∧ w9.cell? ⟨w.heap.size, 1, none⟩ = some (.int .i64 room.b) ∧ w9.cell? ⟨w.heap.size, 2, none⟩ = some (.int .i64 room.c) ∧ w9.cell? ⟨w.heap.size + 1, 0, none⟩ = some (.string p.id) ∧ w9.cell? ⟨w.heap.size + 1, 1, none⟩ = some (.int .i64 p.prio) ∧ w9.cell? ⟨w.heap.size + 1, 2, none⟩ = some (.bool p.crit) ∧ w9.cell? ⟨w.heap.size + 1, 3, none⟩ = some (.int .i64 p.q0) ∧ w9.cell? ⟨w.heap.size + 1, 4, none⟩ = some (.int .i64 p.q1) ∧ w9.cell? ⟨w.heap.size + 1, 5, none⟩ = some (.int .i64 p.q2) ∧ w9.cell? ⟨w.heap.size + 1, 6, none⟩ = some (.int .i64 p.l0) ∧ w9.cell? ⟨w.heap.size + 1, 7, none⟩ = some (.int .i64 p.l1) ∧ w9.cell? ⟨w.heap.size + 1, 8, none⟩ = some (.int .i64 p.l2) ∧ w9.cell? ⟨w.heap.size + 1, 9, none⟩ = some (.string p.image) ∧ w9.cell? ⟨w.heap.size + 1, 10, none⟩ = some (.int .i64 p.size) ∧ w9.cell? ⟨b, off + j * 11, none⟩ = some (.string y.id) ∧ w9.cell? ⟨b, off + j * 11 + 1, none⟩ = some (.int .i64 y.prio) ∧ w9.cell? ⟨b, off + j * 11 + 2, none⟩ = some (.bool y.crit) ∧ w9.cell? ⟨b, off + j * 11 + 3, none⟩ = some (.int .i64 y.q0) ∧ w9.cell? ⟨b, off + j * 11 + 4, none⟩ = some (.int .i64 y.q1) ∧ w9.cell? ⟨b, off + j * 11 + 5, none⟩ = some (.int .i64 y.q2) ∧ w9.cell? ⟨b, off + j * 11 + 6, none⟩ = some (.int .i64 y.l0) ∧ w9.cell? ⟨b, off + j * 11 + 7, none⟩ = some (.int .i64 y.l1) ∧ w9.cell? ⟨b, off + j * 11 + 8, none⟩ = some (.int .i64 y.l2) ∧ w9.cell? ⟨b, off + j * 11 + 9, none⟩ = some (.string y.image) ∧ w9.cell? ⟨b, off + j * 11 + 10, none⟩ = some (.int .i64 y.size) from spCells HQ.out HRi.out HYJ.out)
              clear hK K
              simp only [Act.put, List.setIfInBounds_toArray, List.set_cons_zero, List.set_cons_succ]
              refine held_take 18 111 (.bool true) rfl rfl (by kernel_rfl) (by kernel_rfl) (by kernel_rfl) (fun _ _ _ h => h) (by rfl) (by intro w' hSw; (try dsimp only at hSw); go_simp; (first | done | with_reducible rfl | (revert hxor; cases hv <;> cases fv <;> simp))) (by assumption) ?_
              simp only [Act.put, List.setIfInBounds_toArray, List.set_cons_zero, List.set_cons_succ]
              refine held_take 19 6 (.bool true) rfl rfl (by kernel_rfl) (by kernel_rfl) (by kernel_rfl) (fun _ _ _ h => h) (by rfl) (by intro w' hSw; (try dsimp only at hSw); go_simp; (try (with_reducible rfl))) (by assumption) ?_
              simp only [Act.put, List.setIfInBounds_toArray, List.set_cons_zero, List.set_cons_succ]
              refine wpAnyH_done (by kernel_rfl) ?_ _
              go_wp2_with fail
              go_ret
              exact ⟨rfl, HQ.out.bel⟩
end Go.Proofs.Ytabbkembpghfdaa
