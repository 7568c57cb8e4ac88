/- bilgeref21.Without: those whose Ids aren't told. -/
import Derived.Test.YtlhmhcidknadmaaDoorVPlain2
namespace Go.Proofs.YtlhmhcidknadmaaDoor
open Go.RowKit

def leftD (ids : List ByteArray) (l : List Pd) : List Pd := l.filter fun x => !hasD ids x.id
theorem leftD_snoc (ids : List ByteArray) (l : List Pd) (v : Pd) : leftD ids (l ++ [v]) = leftD ids l ++ (if hasD ids v.id then [] else [v]) := by
  unfold leftD
  rw [List.filter_append]
  congr 1
  cases h : hasD ids v.id <;> simp [h]
theorem leftD_len (ids : List ByteArray) (l : List Pd) : (leftD ids l).length ≤ l.length := List.length_filter_le _ _
theorem hasD_next (l : List ByteArray) (s : ByteArray) (k : Nat) (hk : k < l.length) : hasD (l.take (k + 1)) s = (hasD (l.take k) s || (l[k].toList == s.toList)) := by
  unfold hasD
  rw [List.take_succ_eq_append_getElem hk, List.any_append]
  simp
set_option maxRecDepth 100000 in
set_option maxHeartbeats 8000000 in
theorem without_any (l : List Pd) (ids : List ByteArray) (A B : Option Addr) (c d : Nat) (w : World) (hr : Rds w encP A l) (hs : Rds w encS B ids) (hn : l.length ≤ 50000) (hm : ids.length ≤ 50000) :
    Calls Tryd.prog 13 #[.slice A l.length c, .slice B ids.length d] w fun e w' => ∃ A c, e = .returned (.slice A (leftD ids l).length c) ∧ Own w' w.heap.size 29 encP (.slice A (leftD ids l).length c) (leftD ids l) ∧ Below w.heap.size w w' := by
  have HR := Lib.hid hr
  have HI := Lib.hid hs
  clear hr hs
  go_enter Tryd.func13, Tryd.ntmps13
  go_wp2_with fail
  go_loopw [5, 6, 7, 8] (fun st ii jj kk wr => ∃ (i : Nat) (A : Option Addr) (c : Nat), i ≤ l.length ∧ ii = .int .i64 i ∧ st = .slice A (leftD ids (l.take i)).length c ∧ Own wr w.heap.size 29 encP (.slice A (leftD ids (l.take i)).length c) (leftD ids (l.take i)) ∧ Below w.heap.size w wr) (fun _ ii _ _ _ => l.length - (intOf ii).toNat)
  case atStart => exact ⟨0, none, 0, by omega, rfl, rfl, Own.nil_ _ _ _ _, Below.refl _ _⟩
  case round =>
    obtain ⟨i, A1, c1, hi, rfl, rfl, ho, hbl⟩ := hrel
    have HP := Lib.hid (And.intro ho hbl)
    clear ho hbl
    have hsl := leftD_len ids (l.take i)
    rw [List.length_take] at hsl
    by_cases hlt : i < l.length
    · have dk : decide ((i : Int) < (l.length : Int)) = true := decide_eq_true (by omega)
      have dk2 : (i : Int) < (l.length : Int) := by omega
      obtain ⟨b, off, hA⟩ := HR.out.some_ hlt
      obtain rfl : A = some ⟨b, off, none⟩ := hA
      have HSN := Lib.hid (show leftD ids (l.take (i + 1)) = leftD ids (l.take i) ++ (if hasD ids l[i].id then [] else [l[i]]) by rw [List.take_succ_eq_append_getElem hlt, leftD_snoc])
      have HXI := Lib.hid (List.getElem?_eq_getElem hlt)
      generalize leftD ids (l.take i) = S at *
      generalize l[i] = x at *
      have HCX := Lib.hid (fun (W : World) (hB : Below w.heap.size w W) => (HR.out.pdAt hB HXI.out).1)
      go_wp2_with fail
      go_loopw [7, 8] (fun jj kk wq => ∃ k : Nat, k ≤ ids.length ∧ jj = .bool (hasD (ids.take k) x.id) ∧ kk = .int .i64 k ∧ Below w.heap.size w wq ∧ Own wq w.heap.size 29 encP (.slice A1 S.length c1) S) (fun _ kk _ => ids.length - (intOf kk).toNat)
      case atStart => exact ⟨0, by omega, rfl, rfl, HP.out.2, HP.out.1⟩
      case round =>
        clear HP
        obtain ⟨k, hk, rfl, rfl, hbl, ho⟩ := hrel
        have HQB := Lib.hid hbl
        have HO := Lib.hid ho
        clear hbl ho
        by_cases hkt : k < ids.length
        · have dq : decide ((k : Int) < (ids.length : Int)) = true := decide_eq_true (by omega)
          have dq2 : (k : Int) < (ids.length : Int) := by omega
          obtain ⟨bi, oi, hB⟩ : ∃ bi oi, B = some ⟨bi, oi, none⟩ := by obtain ⟨bi, oi, e, _⟩ := HI.out.str hkt; exact ⟨bi, oi, e⟩
          obtain rfl : B = some ⟨bi, oi, none⟩ := hB
          have HCS := Lib.hid (fun (W : World) (hB : Below w.heap.size w W) => show W.cell? ⟨bi, oi + k, none⟩ = some (.string ids[k]) from by
            obtain ⟨b', off', e, _, h⟩ := (HI.out.below hB).str hkt
            injection e with e; injection e with e1 e2; subst e1; subst e2; exact h)
          have HHN := Lib.hid (hasD_next ids x.id k hkt)
          generalize ids[k] = s at *
          cases h1 : hasD (ids.take k) x.id
          · cases h2 : (s.toList == x.id.toList)
            · have HN : Hid (Value.bool false = Value.bool (hasD (ids.take (k + 1)) x.id)) := by show _ = _; rw [HHN.out, h1, h2]; rfl
              have HE := Lib.hid h2
              clear h1 h2 HHN
              go_wp2_with fail
              have HO := Lib.hid HO.out.drew
              have HQB := Lib.hid HQB.out.drew
              have z0 := (HCX.out _ HQB.out)
              have z1 := (HCS.out _ HQB.out)
              refine wp_region_held_drew (S := (fun w' => w'.cell? ⟨b, off + i * 11, none⟩ = some (.string x.id) ∧ w'.cell? ⟨bi, oi + k, none⟩ = some (.string s))) (by kernel_rfl) (⟨z0, z1⟩) (fun hHeld => ?_)
              clear z0 z1
              refine held_take 0 21 (.bool false) rfl rfl (by kernel_rfl) (by kernel_rfl) (by kernel_rfl) (fun _ _ _ h => h) (by rfl) (by intro w' hSw; (try dsimp only at hSw); go_simp; (try (with_reducible rfl))) (by assumption) ?_
              simp only [Act.put, List.setIfInBounds_toArray, List.set_cons_zero, List.set_cons_succ]
              refine held_take 1 22 (.bool false) rfl rfl (by kernel_rfl) (by kernel_rfl) (by kernel_rfl) (fun _ _ _ h => h) (by rfl) (by intro w' hSw; (try dsimp only at hSw); go_simp; (try (with_reducible rfl))) (by assumption) ?_
              simp only [Act.put, List.setIfInBounds_toArray, List.set_cons_zero, List.set_cons_succ]
              refine held_take 2 23 (.slice (some ⟨bi, oi, none⟩) ids.length d) rfl rfl (by kernel_rfl) (by kernel_rfl) (by kernel_rfl) (fun _ _ _ h => h) (by rfl) (by intro w' hSw; (try dsimp only at hSw); go_simp; (try (with_reducible rfl))) (by assumption) ?_
              simp only [Act.put, List.setIfInBounds_toArray, List.set_cons_zero, List.set_cons_succ]
              refine held_take 3 24 (.int .i64 k) rfl rfl (by kernel_rfl) (by kernel_rfl) (by kernel_rfl) (fun _ _ _ h => h) (by rfl) (by intro w' hSw; (try dsimp only at hSw); go_simp; (try (with_reducible rfl))) (by assumption) ?_
              simp only [Act.put, List.setIfInBounds_toArray, List.set_cons_zero, List.set_cons_succ]
              refine held_take 4 25 (.pointer (some ⟨bi, oi + k, none⟩)) rfl rfl (by kernel_rfl) (by kernel_rfl) (by kernel_rfl) (fun _ _ _ h => h) (by rfl) (by intro w' hSw; (try dsimp only at hSw); go_simp; (try (with_reducible rfl))) (by assumption) ?_
              simp only [Act.put, List.setIfInBounds_toArray, List.set_cons_zero, List.set_cons_succ]
              refine held_take 5 26 (.string s) rfl rfl (by kernel_rfl) (by kernel_rfl) (by kernel_rfl) (fun _ _ _ h => h) (by rfl) (by intro w' hSw; (try dsimp only at hSw); go_simp; (try (with_reducible rfl))) (by assumption) ?_
              simp only [Act.put, List.setIfInBounds_toArray, List.set_cons_zero, List.set_cons_succ]
              refine held_take 6 27 (.slice (some ⟨b, off, none⟩) l.length c) rfl rfl (by kernel_rfl) (by kernel_rfl) (by kernel_rfl) (fun _ _ _ h => h) (by rfl) (by intro w' hSw; (try dsimp only at hSw); go_simp; (try (with_reducible rfl))) (by assumption) ?_
              simp only [Act.put, List.setIfInBounds_toArray, List.set_cons_zero, List.set_cons_succ]
              refine held_take 7 28 (.int .i64 i) rfl rfl (by kernel_rfl) (by kernel_rfl) (by kernel_rfl) (fun _ _ _ h => h) (by rfl) (by intro w' hSw; (try dsimp only at hSw); go_simp; (try (with_reducible rfl))) (by assumption) ?_
              simp only [Act.put, List.setIfInBounds_toArray, List.set_cons_zero, List.set_cons_succ]
              refine held_take 8 29 (.pointer (some ⟨b, off + i * 11, none⟩)) rfl rfl (by kernel_rfl) (by kernel_rfl) (by kernel_rfl) (fun _ _ _ h => h) (by rfl) (by intro w' hSw; (try dsimp only at hSw); go_simp; (try (with_reducible rfl))) (by assumption) ?_
              simp only [Act.put, List.setIfInBounds_toArray, List.set_cons_zero, List.set_cons_succ]
              refine held_take 9 30 (.pointer (some ⟨b, off + i * 11, none⟩)) rfl rfl (by kernel_rfl) (by kernel_rfl) (by kernel_rfl) (fun _ _ _ h => h) (by rfl) (by intro w' hSw; (try dsimp only at hSw); go_simp; (try (with_reducible rfl))) (by assumption) ?_
              simp only [Act.put, List.setIfInBounds_toArray, List.set_cons_zero, List.set_cons_succ]
              refine held_take 10 31 (.string x.id) rfl rfl (by kernel_rfl) (by kernel_rfl) (by kernel_rfl) (fun _ _ _ h => h) (by rfl) (by intro w' hSw; (try dsimp only at hSw); go_simp; (try (with_reducible rfl))) (by assumption) ?_
              simp only [Act.put, List.setIfInBounds_toArray, List.set_cons_zero, List.set_cons_succ]
              refine held_take 11 32 (.bool false) rfl rfl (by kernel_rfl) (by kernel_rfl) (by kernel_rfl) (fun _ _ _ h => h) (by rfl) (by intro w' hSw; (try dsimp only at hSw); go_simp; (first | done | with_reducible rfl | (have hh := HE.out; simpa using hh))) (by assumption) ?_
              simp only [Act.put, List.setIfInBounds_toArray, List.set_cons_zero, List.set_cons_succ]
              refine held_take 12 33 (.bool false) rfl rfl (by kernel_rfl) (by kernel_rfl) (by kernel_rfl) (fun _ _ _ h => h) (by rfl) (by intro w' hSw; (try dsimp only at hSw); go_simp; (try (with_reducible rfl))) (by assumption) ?_
              simp only [Act.put, List.setIfInBounds_toArray, List.set_cons_zero, List.set_cons_succ]
              refine held_take 13 7 (.bool false) rfl rfl (by kernel_rfl) (by kernel_rfl) (by kernel_rfl) (fun _ _ _ h => h) (by rfl) (by intro w' hSw; (try dsimp only at hSw); go_simp; (try (with_reducible rfl))) (by assumption) ?_
              simp only [Act.put, List.setIfInBounds_toArray, List.set_cons_zero, List.set_cons_succ]
              refine wpAnyH_done (by kernel_rfl) ?_ _
              clear hHeld
              go_wp2_with fail
              go_roundw
              case rel => exact ⟨k + 1, by omega, HN.out, by go_num, HQB.out, HO.out⟩
              case measure => simp [intOf]; omega
            · have HN : Hid (Value.bool true = Value.bool (hasD (ids.take (k + 1)) x.id)) := by show _ = _; rw [HHN.out, h1, h2]; rfl
              have HE := Lib.hid h2
              clear h1 h2 HHN
              go_wp2_with fail
              have HO := Lib.hid HO.out.drew
              have HQB := Lib.hid HQB.out.drew
              have z0 := (HCX.out _ HQB.out)
              have z1 := (HCS.out _ HQB.out)
              refine wp_region_held_drew (S := (fun w' => w'.cell? ⟨b, off + i * 11, none⟩ = some (.string x.id) ∧ w'.cell? ⟨bi, oi + k, none⟩ = some (.string s))) (by kernel_rfl) (⟨z0, z1⟩) (fun hHeld => ?_)
              clear z0 z1
              refine held_take 0 21 (.bool false) rfl rfl (by kernel_rfl) (by kernel_rfl) (by kernel_rfl) (fun _ _ _ h => h) (by rfl) (by intro w' hSw; (try dsimp only at hSw); go_simp; (try (with_reducible rfl))) (by assumption) ?_
              simp only [Act.put, List.setIfInBounds_toArray, List.set_cons_zero, List.set_cons_succ]
              refine held_take 1 22 (.bool false) rfl rfl (by kernel_rfl) (by kernel_rfl) (by kernel_rfl) (fun _ _ _ h => h) (by rfl) (by intro w' hSw; (try dsimp only at hSw); go_simp; (try (with_reducible rfl))) (by assumption) ?_
              simp only [Act.put, List.setIfInBounds_toArray, List.set_cons_zero, List.set_cons_succ]
              refine held_take 2 23 (.slice (some ⟨bi, oi, none⟩) ids.length d) rfl rfl (by kernel_rfl) (by kernel_rfl) (by kernel_rfl) (fun _ _ _ h => h) (by rfl) (by intro w' hSw; (try dsimp only at hSw); go_simp; (try (with_reducible rfl))) (by assumption) ?_
              simp only [Act.put, List.setIfInBounds_toArray, List.set_cons_zero, List.set_cons_succ]
              refine held_take 3 24 (.int .i64 k) rfl rfl (by kernel_rfl) (by kernel_rfl) (by kernel_rfl) (fun _ _ _ h => h) (by rfl) (by intro w' hSw; (try dsimp only at hSw); go_simp; (try (with_reducible rfl))) (by assumption) ?_
              simp only [Act.put, List.setIfInBounds_toArray, List.set_cons_zero, List.set_cons_succ]
              refine held_take 4 25 (.pointer (some ⟨bi, oi + k, none⟩)) rfl rfl (by kernel_rfl) (by kernel_rfl) (by kernel_rfl) (fun _ _ _ h => h) (by rfl) (by intro w' hSw; (try dsimp only at hSw); go_simp; (try (with_reducible rfl))) (by assumption) ?_
              simp only [Act.put, List.setIfInBounds_toArray, List.set_cons_zero, List.set_cons_succ]
              refine held_take 5 26 (.string s) rfl rfl (by kernel_rfl) (by kernel_rfl) (by kernel_rfl) (fun _ _ _ h => h) (by rfl) (by intro w' hSw; (try dsimp only at hSw); go_simp; (try (with_reducible rfl))) (by assumption) ?_
              simp only [Act.put, List.setIfInBounds_toArray, List.set_cons_zero, List.set_cons_succ]
              refine held_take 6 27 (.slice (some ⟨b, off, none⟩) l.length c) rfl rfl (by kernel_rfl) (by kernel_rfl) (by kernel_rfl) (fun _ _ _ h => h) (by rfl) (by intro w' hSw; (try dsimp only at hSw); go_simp; (try (with_reducible rfl))) (by assumption) ?_
              simp only [Act.put, List.setIfInBounds_toArray, List.set_cons_zero, List.set_cons_succ]
              refine held_take 7 28 (.int .i64 i) rfl rfl (by kernel_rfl) (by kernel_rfl) (by kernel_rfl) (fun _ _ _ h => h) (by rfl) (by intro w' hSw; (try dsimp only at hSw); go_simp; (try (with_reducible rfl))) (by assumption) ?_
              simp only [Act.put, List.setIfInBounds_toArray, List.set_cons_zero, List.set_cons_succ]
              refine held_take 8 29 (.pointer (some ⟨b, off + i * 11, none⟩)) rfl rfl (by kernel_rfl) (by kernel_rfl) (by kernel_rfl) (fun _ _ _ h => h) (by rfl) (by intro w' hSw; (try dsimp only at hSw); go_simp; (try (with_reducible rfl))) (by assumption) ?_
              simp only [Act.put, List.setIfInBounds_toArray, List.set_cons_zero, List.set_cons_succ]
              refine held_take 9 30 (.pointer (some ⟨b, off + i * 11, none⟩)) rfl rfl (by kernel_rfl) (by kernel_rfl) (by kernel_rfl) (fun _ _ _ h => h) (by rfl) (by intro w' hSw; (try dsimp only at hSw); go_simp; (try (with_reducible rfl))) (by assumption) ?_
              simp only [Act.put, List.setIfInBounds_toArray, List.set_cons_zero, List.set_cons_succ]
              refine held_take 10 31 (.string x.id) rfl rfl (by kernel_rfl) (by kernel_rfl) (by kernel_rfl) (fun _ _ _ h => h) (by rfl) (by intro w' hSw; (try dsimp only at hSw); go_simp; (try (with_reducible rfl))) (by assumption) ?_
              simp only [Act.put, List.setIfInBounds_toArray, List.set_cons_zero, List.set_cons_succ]
              refine held_take 11 32 (.bool true) rfl rfl (by kernel_rfl) (by kernel_rfl) (by kernel_rfl) (fun _ _ _ h => h) (by rfl) (by intro w' hSw; (try dsimp only at hSw); go_simp; (first | done | with_reducible rfl | (have hh := HE.out; simpa using hh))) (by assumption) ?_
              simp only [Act.put, List.setIfInBounds_toArray, List.set_cons_zero, List.set_cons_succ]
              refine held_take 12 33 (.bool true) rfl rfl (by kernel_rfl) (by kernel_rfl) (by kernel_rfl) (fun _ _ _ h => h) (by rfl) (by intro w' hSw; (try dsimp only at hSw); go_simp; (try (with_reducible rfl))) (by assumption) ?_
              simp only [Act.put, List.setIfInBounds_toArray, List.set_cons_zero, List.set_cons_succ]
              refine held_take 13 7 (.bool true) rfl rfl (by kernel_rfl) (by kernel_rfl) (by kernel_rfl) (fun _ _ _ h => h) (by rfl) (by intro w' hSw; (try dsimp only at hSw); go_simp; (try (with_reducible rfl))) (by assumption) ?_
              simp only [Act.put, List.setIfInBounds_toArray, List.set_cons_zero, List.set_cons_succ]
              refine wpAnyH_done (by kernel_rfl) ?_ _
              clear hHeld
              go_wp2_with fail
              go_roundw
              case rel => exact ⟨k + 1, by omega, HN.out, by go_num, HQB.out, HO.out⟩
              case measure => simp [intOf]; omega
          · have HN : Hid (Value.bool true = Value.bool (hasD (ids.take (k + 1)) x.id)) := by show _ = _; rw [HHN.out, h1]; rfl
            clear h1 HHN
            go_wp2_with fail
            have HO := Lib.hid HO.out.drew
            have HQB := Lib.hid HQB.out.drew
            have z0 := (HCX.out _ HQB.out)
            have z1 := (HCS.out _ HQB.out)
            refine wp_region_held_drew (S := (fun w' => w'.cell? ⟨b, off + i * 11, none⟩ = some (.string x.id) ∧ w'.cell? ⟨bi, oi + k, none⟩ = some (.string s))) (by kernel_rfl) (⟨z0, z1⟩) (fun hHeld => ?_)
            clear z0 z1
            refine held_take 0 21 (.bool true) rfl rfl (by kernel_rfl) (by kernel_rfl) (by kernel_rfl) (fun _ _ _ h => h) (by rfl) (by intro w' hSw; (try dsimp only at hSw); go_simp; (try (with_reducible rfl))) (by assumption) ?_
            simp only [Act.put, List.setIfInBounds_toArray, List.set_cons_zero, List.set_cons_succ]
            refine held_take 1 22 (.bool true) rfl rfl (by kernel_rfl) (by kernel_rfl) (by kernel_rfl) (fun _ _ _ h => h) (by rfl) (by intro w' hSw; (try dsimp only at hSw); go_simp; (try (with_reducible rfl))) (by assumption) ?_
            simp only [Act.put, List.setIfInBounds_toArray, List.set_cons_zero, List.set_cons_succ]
            refine held_skip 2 23 rfl rfl (by kernel_rfl) (by kernel_rfl) (by kernel_rfl) (fun _ _ _ h => h) (by rfl) (by assumption) ?_
            simp only [Act.put, List.setIfInBounds_toArray, List.set_cons_zero, List.set_cons_succ]
            refine held_skip 3 24 rfl rfl (by kernel_rfl) (by kernel_rfl) (by kernel_rfl) (fun _ _ _ h => h) (by rfl) (by assumption) ?_
            simp only [Act.put, List.setIfInBounds_toArray, List.set_cons_zero, List.set_cons_succ]
            refine held_skip 4 25 rfl rfl (by kernel_rfl) (by kernel_rfl) (by kernel_rfl) (fun _ _ _ h => h) (by rfl) (by assumption) ?_
            simp only [Act.put, List.setIfInBounds_toArray, List.set_cons_zero, List.set_cons_succ]
            refine held_skip 5 26 rfl rfl (by kernel_rfl) (by kernel_rfl) (by kernel_rfl) (fun _ _ _ h => h) (by rfl) (by assumption) ?_
            simp only [Act.put, List.setIfInBounds_toArray, List.set_cons_zero, List.set_cons_succ]
            refine held_skip 6 27 rfl rfl (by kernel_rfl) (by kernel_rfl) (by kernel_rfl) (fun _ _ _ h => h) (by rfl) (by assumption) ?_
            simp only [Act.put, List.setIfInBounds_toArray, List.set_cons_zero, List.set_cons_succ]
            refine held_skip 7 28 rfl rfl (by kernel_rfl) (by kernel_rfl) (by kernel_rfl) (fun _ _ _ h => h) (by rfl) (by assumption) ?_
            simp only [Act.put, List.setIfInBounds_toArray, List.set_cons_zero, List.set_cons_succ]
            refine held_skip 8 29 rfl rfl (by kernel_rfl) (by kernel_rfl) (by kernel_rfl) (fun _ _ _ h => h) (by rfl) (by assumption) ?_
            simp only [Act.put, List.setIfInBounds_toArray, List.set_cons_zero, List.set_cons_succ]
            refine held_skip 9 30 rfl rfl (by kernel_rfl) (by kernel_rfl) (by kernel_rfl) (fun _ _ _ h => h) (by rfl) (by assumption) ?_
            simp only [Act.put, List.setIfInBounds_toArray, List.set_cons_zero, List.set_cons_succ]
            refine held_skip 10 31 rfl rfl (by kernel_rfl) (by kernel_rfl) (by kernel_rfl) (fun _ _ _ h => h) (by rfl) (by assumption) ?_
            simp only [Act.put, List.setIfInBounds_toArray, List.set_cons_zero, List.set_cons_succ]
            refine held_skip 11 32 rfl rfl (by kernel_rfl) (by kernel_rfl) (by kernel_rfl) (fun _ _ _ h => h) (by rfl) (by assumption) ?_
            simp only [Act.put, List.setIfInBounds_toArray, List.set_cons_zero, List.set_cons_succ]
            refine held_take 12 33 (.bool true) rfl rfl (by kernel_rfl) (by kernel_rfl) (by kernel_rfl) (fun _ _ _ h => h) (by rfl) (by intro w' hSw; (try dsimp only at hSw); go_simp; (try (with_reducible rfl))) (by assumption) ?_
            simp only [Act.put, List.setIfInBounds_toArray, List.set_cons_zero, List.set_cons_succ]
            refine held_take 13 7 (.bool true) rfl rfl (by kernel_rfl) (by kernel_rfl) (by kernel_rfl) (fun _ _ _ h => h) (by rfl) (by intro w' hSw; (try dsimp only at hSw); go_simp; (try (with_reducible rfl))) (by assumption) ?_
            simp only [Act.put, List.setIfInBounds_toArray, List.set_cons_zero, List.set_cons_succ]
            refine wpAnyH_done (by kernel_rfl) ?_ _
            clear hHeld
            go_wp2_with fail
            go_roundw
            case rel => exact ⟨k + 1, by omega, HN.out, by go_num, HQB.out, HO.out⟩
            case measure => simp [intOf]; omega
        · obtain rfl : k = ids.length := by omega
          have dq : decide ((ids.length : Int) < (ids.length : Int)) = false := by simp
          rw [List.take_length]
          obtain ⟨hv, hhv⟩ : ∃ v, hasD ids x.id = v := ⟨_, rfl⟩
          rw [hhv] at HSN ⊢
          clear hhv
          cases hv
          · have HN2 : Hid (leftD ids (l.take (i + 1)) = S ++ [x]) := HSN.out
            obtain ⟨x0, x1, x2, x3, x4, x5, x6, x7, x8, x9, x10⟩ := HR.out.pdAt HQB.out HXI.out
            go_wp2_with (at_builtin; refine wl_push elemP encP rfl (.tmp 36) (.tmp 41) rfl x #[.string x.id, .int .i64 x.prio, .bool x.crit, .int .i64 x.q0, .int .i64 x.q1, .int .i64 x.q2, .int .i64 x.l0, .int .i64 x.l1, .int .i64 x.l2, .string x.image, .int .i64 x.size] rfl w.heap.size _ S rfl HO.out rfl rfl HQB.out (by omega) (by omega) HQB.out.size ?_; intro A3 k3 w3 ho hb _; have HX3 := Lib.hid (And.intro ho hb); clear ho hb)
            go_roundw
            case rel => exact ⟨i + 1, A3, k3, by omega, by go_num, by rw [HN2.out, List.length_append]; rfl, by rw [HN2.out]; exact own_len1 HX3.out.1, HX3.out.2⟩
            case measure => simp [intOf]; omega
          · have HN2 : Hid (leftD ids (l.take (i + 1)) = S) := by show _ = _; rw [HSN.out]; simp
            go_wp2_with fail
            go_roundw
            case rel => exact ⟨i + 1, A1, c1, by omega, by go_num, by rw [HN2.out], by rw [HN2.out]; exact HO.out, HQB.out⟩
            case measure => simp [intOf]; omega
    · obtain rfl : i = l.length := by omega
      have dk : decide ((l.length : Int) < (l.length : Int)) = false := by simp
      rw [List.take_length] at HP hsl ⊢
      go_wp2_with fail
      go_ret
      exact ⟨A1, c1, rfl, HP.out.1, HP.out.2⟩
end Go.Proofs.YtlhmhcidknadmaaDoor
