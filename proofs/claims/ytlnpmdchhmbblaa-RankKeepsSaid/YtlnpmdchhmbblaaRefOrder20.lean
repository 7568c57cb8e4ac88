/- bilgeref20.Order: the first, then the first of the others. -/
import Derived.Test.YtlnpmdchhmbblaaRankLaw
namespace Go.Proofs.Ytlnpmdchhmbblaa
open Go.RowKit

theorem elemN : Elem Try.prog 52 48 12 112 := by
  obtain ⟨i, h1, h2, h3, h4⟩ := info_parts (show (Try.prog.info? 48).map (fun i => (i.zero, i.size, i.bytes)) = some (some (.agg #[.string ⟨#[]⟩, .int .i64 0, .bool false, .int .i64 0, .int .i64 0, .int .i64 0, .int .i64 0, .int .i64 0, .int .i64 0, .string ⟨#[]⟩, .int .i64 0, .int .i64 0]), 12, 112) by kernel_rfl)
  exact ⟨Try.underlying52, i, _, h1, h2, h3, h4, rfl⟩
theorem own_apartT {w : World} {b1 b2 : Nat} {e1 e2 : TypeId} {α β : Type} {s1 s2 : Nat} {E1 : Enc α s1} {E2 : Enc β s2} {v1 v2 : Value} {l1 : List α} {l2 : List β} (h1 : Own w b1 e1 E1 v1 l1) (h2 : Own w b2 e2 E2 v2 l2) (he : e1 ≠ e2) : v1.ownBlock = none ∨ v1.ownBlock ≠ v2.ownBlock := by
  rcases h1.2 with ⟨rfl, _⟩ | ⟨g, cap, cur, rfl, _, hh, _⟩
  · exact .inl rfl
  · rcases h2.2 with ⟨rfl, _⟩ | ⟨g', cap', cur', rfl, _, hh', _⟩
    · right; simp [Value.ownBlock]
    · right
      intro e
      have e : g = g' := by simpa [Value.ownBlock] using e
      subst e
      rw [hh] at hh'
      injection hh' with hh'
      injection hh' with _ ht
      exact he ht
/-- it gives these texts, in memory of its own -/
def GivesT (L : List ByteArray) (w : World) (e : Ending) (w' : World) : Prop := ∃ A c, e = .returned (.slice A L.length c) ∧ Own w' w.heap.size 9 encS (.slice A L.length c) L ∧ Below w.heap.size w w'
theorem refFirstV {k : Int} (hk : k = 0 ∨ k = 1 ∨ k = 2) {l : List En} {A : Option Addr} {c : Nat} {s : Sp} {w : World} (hr : Rds w encU s.A s.uses) (hu : UsOk k s.uses) (hrn : Rds w encN A l) (hln : l.length ≤ 100000) (hx : ∀ x ∈ l, x.pod.Wf ∧ x.pod.right = true) :
    Calls Try.prog 28 #[.int .i64 k, .slice A l.length c, .agg s.cells] w (GivesB k l s.uses w) := refFirst_any k hk l A c s w hr hu.len hu.s hrn hln fun x h => hu.ex _ (hx x h).1 (hx x h).2
def lenV : Value → Nat
  | .slice _ n _ => n
  | _ => 0
/-- the state of Order's loop -/
structure RQ20 (s : Sp) (L : List En) (O : List ByteArray) (A1 A2 : Option Addr) (c1 c2 : Nat) (w W : World) : Prop where
  smp : Blk W w.heap.size 36 s.cells
  ol : Own W w.heap.size 48 encN (.slice A1 L.length c1) L
  oo : Own W w.heap.size 9 encS (.slice A2 O.length c2) O
  bel : Below w.heap.size w W
set_option maxRecDepth 100000 in
set_option maxHeartbeats 8000000 in
theorem refOrder20_any (k : Int) (hk : k = 0 ∨ k = 1 ∨ k = 2) (l : List En) (A : Option Addr) (c : Nat) (s : Sp) (w : World) (hr : Rds w encU s.A s.uses) (hu : UsOk k s.uses) (hrn : Rds w encN A l) (hln : l.length ≤ 100000) (hx : ∀ x ∈ l, x.pod.Wf ∧ x.pod.right = true) :
    Calls Try.prog 30 #[.int .i64 k, .slice A l.length c, .agg s.cells] w (GivesT (orderD k l s.uses) w) := by
  have mixed : Try.prog.follows Departure.mixedOrders = true := by kernel_rfl
  have HRU := Lib.hid hr
  have HU := Lib.hid hu
  have HXX := Lib.hid hx
  have HKK := Lib.hid hk
  have HB0 := Lib.hid ((Below.refl w.heap.size w).alloc (Nat.le_refl _) (.cells s.cells 36))
  have HS0 := Lib.hid (Blk.new w 36 s.cells)
  have HN0 := Lib.hid (hrn.below HB0.out)
  clear hr hu hrn hx hk
  go_enter Try.func30, Try.ntmps30
  go_wp2_with (at_builtin; go_loud (refine wl_copy elemN encN rfl (.tmp 10) (.tmp 11) rfl (by simp [Act.eval]) A l c rfl HN0.out (by omega) (by omega) ?_); intro A1 c1 w2 ho hb; have HO1 := Lib.hid (And.intro (ho.mono HB0.out.size) (And.intro (HS0.out.belowAll hb) (HB0.out.trans (hb.mono HB0.out.size)))); have cs := HO1.out.2.1.cell; clear ho hb)
  refine (refFirstV HKK.out (HRU.out.below HO1.out.2.2) HU.out HO1.out.1.toRds hln HXX.out).mono ?_; rintro e w3 ⟨bo, hbo, rfl, hb⟩
  have HI : Hid (RQ20 s l [] A1 none c1 0 w w3 ∧ BestTo k l s.uses l.length bo) := ⟨⟨HO1.out.2.1.belowAll hb, HO1.out.1.below hb (Nat.le_refl _), Own.nil_ _ _ _ _, HO1.out.2.2.trans (hb.mono HO1.out.2.2.size)⟩, hbo⟩
  clear hb hbo cs HO1 HB0 HS0 HN0
  obtain ⟨z0, hz0⟩ : ∃ z, bestV bo = z := ⟨_, rfl⟩
  have HZ0 := Lib.hid hz0
  rw [hz0]
  clear hz0
  go_wp2_with fail
  go_loopw [7, 8, 9] (fun o lf kk wr => ∃ (L : List En) (O : List ByteArray) (A1 A2 : Option Addr) (c1 c2 : Nat) (bo : Option Nat) (z : Int), o = .slice A2 O.length c2 ∧ lf = .slice A1 L.length c1 ∧ kk = .int .i64 z ∧ z = bestV bo ∧ BestTo k L s.uses L.length bo ∧ L.length ≤ 100000 ∧ O.length + L.length ≤ 100000 ∧ orderD k l s.uses = O ++ orderD k L s.uses ∧ (∀ x ∈ L, x.pod.Wf ∧ x.pod.right = true) ∧ RQ20 s L O A1 A2 c1 c2 w wr) (fun _ lf _ _ => lenV lf)
  case atStart => exact ⟨l, [], A1, none, c1, 0, bo, z0, rfl, rfl, rfl, HZ0.out.symm, HI.out.2, hln, by simpa using hln, rfl, HXX.out, HI.out.1⟩
  case round =>
    clear HI HXX hln HZ0
    obtain ⟨L, O, A1, A2, c1, c2, bo, z, rfl, rfl, rfl, hz, hbo, hL, hOL, hord, hx, hq⟩ := hrel
    have HBO := Lib.hid hbo
    have HORD := Lib.hid hord
    have HXX := Lib.hid hx
    have HQ := Lib.hid hq
    clear hbo hord hx hq
    cases bo with
    | none =>
      obtain rfl : z = -1 := hz
      have dz : decide ((0 : Int) ≤ -1) = false := rfl
      have HF : Hid (O = orderD k l s.uses) := by show _ = _; rw [HORD.out, orderD_nil HBO.out, List.append_nil]
      go_wp2_with fail
      go_ret
      exact ⟨A2, c2, by rw [← HF.out]; rfl, by rw [← HF.out]; exact HQ.out.oo, HQ.out.bel⟩
    | some j =>
      obtain rfl : z = (j : Int) := hz
      have hj : j < L.length := by obtain ⟨hj, _⟩ := HBO.out; exact hj
      have HO2 := Lib.hid (orderD_cons hj HBO.out)
      have hcap := HQ.out.ol.cap
      obtain ⟨g, hg, _⟩ := own_some HQ.out.ol (by intro e; subst e; simp at hj)
      obtain rfl : A1 = some ⟨g, 0, none⟩ := hg
      have dz : decide ((0 : Int) ≤ (j : Int)) = true := decide_eq_true (by omega)
      have dj2 : (j : Int) < (L.length : Int) := by omega
      obtain ⟨b, off, hA, hb0, c0, _⟩ := HQ.out.ol.toRds.en hj
      injection hA with hA
      injection hA with h1 h2
      subst h1 h2
      obtain ⟨id, hid⟩ : ∃ id, L[j].pod.id = id := ⟨_, rfl⟩
      rw [hid] at c0 HO2
      simp only [Nat.zero_add] at c0
      clear hid hb0
      have HC := Lib.hid (And.intro hcap.2.1 hcap.2.2)
      clear hcap
      go_wp2_with (at_builtin; refine wl_push elemS encS rfl (.tmp 19) (.tmp 26) rfl id #[.string id] rfl w.heap.size _ O rfl HQ.out.oo rfl rfl HQ.out.bel (by omega) (by omega) HQ.out.bel.size ?_; intro A3 k3 w3 ho hb hg; have HX3 : Hid (RQ20 s L (O ++ [id]) (some ⟨g, 0, none⟩) A3 c1 k3 w w3) := ⟨(HQ.out.smp.alloc _).grown hg ((HQ.out.oo.alloc (.cells #[.string id] 9)).ne_blk (HQ.out.smp.alloc _) (by decide)), (HQ.out.ol.alloc _).grown hg (own_apartT (HQ.out.ol.alloc (.cells #[.string id] 9)) (HQ.out.oo.alloc _) (by decide)), own_len1 ho, hb⟩; clear ho hb hg)
      go_cut [8] (fun v W => ∃ A' c', v = .slice A' (L.take j ++ L.drop (j + 1)).length c' ∧ RQ20 s (L.take j ++ L.drop (j + 1)) (O ++ [id]) A' A3 c' k3 w W)
      case first =>
        have HXd : Hid (RQ20 s L (O ++ [id]) (some ⟨g, 0, none⟩) A3 c1 k3 w w3.drew) := ⟨HX3.out.smp.drew, HX3.out.ol.drew, HX3.out.oo.drew, HX3.out.bel.drew⟩
        have HJ : Hid (j ≤ L.length) := by show j ≤ L.length; omega
        have hw1 : IntKind.i64.wrap ((j : Int) + 1) = (j : Int) + 1 := by rw [IntKind.wrap_i64]; omega
        have hcl := HC.out.1
        have hcl2 := HC.out.2
        have dj3 : (j : Int) ≤ (c1 : Int) := by omega
        have dj4 : (j : Int) + 1 ≤ (L.length : Int) := by omega
        have dj5 : (0 : Int) ≤ (j : Int) + 1 := by omega
        have dj6 : ((j : Int) + 1).toNat = j + 1 := by omega
        refine wp_region_held_drew (S := fun _ => True) (by kernel_rfl) trivial (fun _ => ?_)
        generalize w3.drew = wz at *
        have HW0 : Hid (Own (wz.alloc (.cells #[] 48)) wz.heap.size 48 encN (.slice (some ⟨wz.heap.size, 0, none⟩) 0 0) [] ∧ Below wz.heap.size wz (wz.alloc (.cells #[] 48)) ∧ Rds (wz.alloc (.cells #[] 48)) encN (some ⟨g, 0, none⟩) (L.take j) ∧ Rds wz encN (if c1 = j + 1 then some ⟨g, 0, none⟩ else some ⟨g, (j + 1) * 12, none⟩) (L.drop (j + 1))) := ⟨Own.made wz wz.heap.size 48 encN [] #[] rfl (Nat.le_refl _) (by simp), (Below.refl _ _).alloc (Nat.le_refl _) _, (HXd.out.ol.toRds.alloc _).take j, by have h := HXd.out.ol.toRds.drop (j + 1) c1 HC.out.1; simpa [add_mk] using h⟩
        refine held_take 1 29 (.slice (some ⟨g, 0, none⟩) L.length c1) rfl rfl (by kernel_rfl) (by kernel_rfl) (by kernel_rfl) (fun _ _ _ h => h) (by rfl) (by intro w' _; go_simp; (try (with_reducible rfl))) trivial ?_
        simp only [Act.put, List.setIfInBounds_toArray, List.set_cons_zero, List.set_cons_succ]
        refine held_take 2 30 (.int .i64 j) rfl rfl (by kernel_rfl) (by kernel_rfl) (by kernel_rfl) (fun _ _ _ h => h) (by rfl) (by intro w' _; go_simp; (try (with_reducible rfl))) trivial ?_
        simp only [Act.put, List.setIfInBounds_toArray, List.set_cons_zero, List.set_cons_succ]
        refine held_take 3 31 (.slice (some ⟨g, 0, none⟩) j c1) rfl rfl (by kernel_rfl) (by kernel_rfl) (by kernel_rfl) (fun _ _ _ h => h) (by rfl) (by intro w' _; go_simp; (try (with_reducible rfl))) trivial ?_
        simp only [Act.put, List.setIfInBounds_toArray, List.set_cons_zero, List.set_cons_succ]
        refine held_take 5 33 (.slice (some ⟨g, 0, none⟩) L.length c1) rfl rfl (by kernel_rfl) (by kernel_rfl) (by kernel_rfl) (fun _ _ _ h => h) (by rfl) (by intro w' _; go_simp; (try (with_reducible rfl))) trivial ?_
        simp only [Act.put, List.setIfInBounds_toArray, List.set_cons_zero, List.set_cons_succ]
        refine held_take 6 34 (.int .i64 j) rfl rfl (by kernel_rfl) (by kernel_rfl) (by kernel_rfl) (fun _ _ _ h => h) (by rfl) (by intro w' _; go_simp; (try (with_reducible rfl))) trivial ?_
        simp only [Act.put, List.setIfInBounds_toArray, List.set_cons_zero, List.set_cons_succ]
        refine held_take 7 35 (.int .i64 (j + 1)) rfl rfl (by kernel_rfl) (by kernel_rfl) (by kernel_rfl) (fun _ _ _ h => h) (by rfl) (by intro w' _; go_simp; (try (with_reducible rfl))) trivial ?_
        simp only [Act.put, List.setIfInBounds_toArray, List.set_cons_zero, List.set_cons_succ]
        refine held_take 8 36 (.slice (if c1 = j + 1 then some ⟨g, 0, none⟩ else some ⟨g, (j + 1) * 12, none⟩) (L.length - (j + 1)) (c1 - (j + 1))) rfl rfl (by kernel_rfl) (by kernel_rfl) (by kernel_rfl) (fun _ _ _ h => h) (by rfl) (by intro w' _; go_simp; (try (with_reducible rfl))) trivial ?_
        simp only [Act.put, List.setIfInBounds_toArray, List.set_cons_zero, List.set_cons_succ]
        refine held_call 0 28 rfl rfl (by kernel_rfl) (by rfl) (fun K hK => ?_)
        go_simp
        refine hK _ _ trivial ?_
        clear hK K
        simp only [Act.put, List.setIfInBounds_toArray, List.set_cons_zero, List.set_cons_succ]
        refine held_call 4 32 rfl rfl (by kernel_rfl) (by rfl) (fun K hK => ?_)
        refine wp_app _ elemN encN (.tmp 28) (.tmp 31) rfl wz.heap.size _ [] (by simp [Act.eval]) HW0.out.1 _ (L.take j) c1 (by simp [Act.eval, List.length_take, Nat.min_eq_left HJ.out]) HW0.out.2.2.1 (by simp; omega) (by simp; omega) HW0.out.2.1.size ?_
        intro A3 k3 w3 ho hg _
        have HX3 := Lib.hid (And.intro ho (HW0.out.1.belowGrown HW0.out.2.1 hg (Nat.le_refl _) HW0.out.2.1.size))
        clear ho hg
        refine hK _ _ trivial ?_
        clear hK K
        simp only [Act.put, List.setIfInBounds_toArray, List.set_cons_zero, List.set_cons_succ]
        refine held_call 9 37 rfl rfl (by kernel_rfl) (by rfl) (fun K hK => ?_)
        refine wp_app _ elemN encN (.tmp 32) (.tmp 36) rfl wz.heap.size _ ([] ++ L.take j) (by simp [Act.eval]) HX3.out.1 _ (L.drop (j + 1)) (c1 - (j + 1)) (by simp [Act.eval, List.length_drop]) (HW0.out.2.2.2.below HX3.out.2) (by simp; omega) (by simp; omega) HX3.out.2.size ?_
        intro A4 k4 w4 ho hg _
        have HX4 := Lib.hid (And.intro ho (HX3.out.1.belowGrown HX3.out.2 hg (Nat.le_refl _) HX3.out.2.size))
        clear ho hg
        refine hK _ _ trivial ?_
        clear hK K
        simp only [Act.put, List.setIfInBounds_toArray, List.set_cons_zero, List.set_cons_succ]
        refine held_take 10 8 (.slice A4 (([] ++ L.take j).length + (L.drop (j + 1)).length) k4) rfl rfl (by kernel_rfl) (by kernel_rfl) (by kernel_rfl) (fun _ _ _ h => h) (by rfl) (by intro w' _; go_simp; (try (with_reducible rfl))) trivial ?_
        simp only [Act.put, List.setIfInBounds_toArray, List.set_cons_zero, List.set_cons_succ]
        refine wpAnyH_done (by kernel_rfl) ?_ _
        have hq1 : (O ++ [id]).length = O.length + 1 := by simp
        have HQ4 : Hid (RQ20 s (L.take j ++ L.drop (j + 1)) (O ++ [id]) A4 _ k4 _ w w4) := ⟨HXd.out.smp.belowAll HX4.out.2, (by have h := HX4.out.1.mono HXd.out.bel.size; simpa [List.length_append] using h), HXd.out.oo.below HX4.out.2 (Nat.le_refl _), HXd.out.bel.trans (HX4.out.2.mono HXd.out.bel.size)⟩
        go_wp2_with fail
        all_goals
          go_meet
          exact ⟨A4, k4, by simp, HQ4.out⟩
      case rest =>
        obtain ⟨A', c', rfl, hq⟩ := hcut
        have HQ := Lib.hid hq
        clear hq HX3
        have hlen : (L.take j ++ L.drop (j + 1)).length + 1 = L.length := by simp; omega
        have HXX2 := Lib.hid (show ∀ x ∈ L.take j ++ L.drop (j + 1), x.pod.Wf ∧ x.pod.right = true from fun x hx => by
          rcases List.mem_append.1 hx with h | h
          · exact HXX.out x (List.mem_of_mem_take h)
          · exact HXX.out x (List.mem_of_mem_drop h))
        have HORD2 := Lib.hid (show orderD k l s.uses = (O ++ [id]) ++ orderD k (L.take j ++ L.drop (j + 1)) s.uses by rw [HORD.out, HO2.out, List.append_cons])
        clear HXX HORD HO2 HBO
        generalize L.take j ++ L.drop (j + 1) = L' at *
        have cs := HQ.out.smp.cell
        go_wp2_with fail
        refine (refFirstV HKK.out (HRU.out.below HQ.out.bel) HU.out HQ.out.ol.toRds (by omega) HXX2.out).mono ?_; rintro e w5 ⟨bo2, hbo2, rfl, hb⟩
        have HQ5 : Hid (RQ20 s L' (O ++ [id]) A' A3 c' k3 w w5) := ⟨HQ.out.smp.belowAll hb, HQ.out.ol.below hb (Nat.le_refl _), HQ.out.oo.below hb (Nat.le_refl _), HQ.out.bel.trans (hb.mono HQ.out.bel.size)⟩
        have HBO2 := Lib.hid hbo2
        clear hb hbo2 cs
        obtain ⟨z, hz⟩ : ∃ z, bestV bo2 = z := ⟨_, rfl⟩
        have HZ := Lib.hid hz
        rw [hz]
        clear hz
        go_wp2_with fail
        go_roundw
        case rel => exact ⟨L', O ++ [id], A', A3, c', k3, bo2, z, by simp, rfl, rfl, HZ.out.symm, HBO2.out, by omega, by simp; omega, HORD2.out, HXX2.out, HQ5.out⟩
        case measure => simp [lenV]; omega
end Go.Proofs.Ytlnpmdchhmbblaa
