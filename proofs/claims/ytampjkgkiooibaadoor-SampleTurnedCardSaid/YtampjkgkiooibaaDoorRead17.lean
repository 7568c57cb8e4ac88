/- bilgeref17.Read: what is read of a raw sample. -/
import Derived.Test.YtampjkgkiooibaaDoorReadD17
import Derived.BigQuiet
import Derived.Deep.QuietTactic
namespace Go.Proofs.YtampjkgkiooibaaDoor
open Go.RowKit

def GivesS (t V0 V1 V2 : Int) (L : List Us) (w : World) (e : Ending) (w' : World) : Prop :=
  ∃ A c, e = .returned (.agg #[.int .i64 t, .int .i64 V0, .int .i64 V1, .int .i64 V2, .slice A L.length c]) ∧ Own w' w.heap.size 51 encU (.slice A L.length c) L ∧ Below w.heap.size w w'
theorem szS : (Tryd.prog.info? 32).map (·.size) = some 5 := by kernel_rfl
set_option maxRecDepth 100000 in
set_option maxHeartbeats 16000000 in
theorem read17_walk {t V0 V1 V2 : Int} {v0 v1 v2 c : Nat} {A : Option Addr} {l : List Ug} (w : World) (hr : Rw.Wf ⟨t, v0, v1, v2, A, l, c⟩ w) (hl : l.length ≤ 128) (hV0 : readN v0 = V0) (hV1 : readN v1 = V1) (hV2 : readN v2 = V2) :
    Calls Tryd.prog 16 #[.agg #[.int .i64 t, .float .f64 v0, .float .f64 v1, .float .f64 v2, .slice A l.length c]] w (GivesS t V0 V1 V2 (readUses l) w) := by
  have mixed : Tryd.prog.follows Departure.mixedOrders = true := by kernel_rfl
  have HQd : Hid (DQ (⟨t, v0, v1, v2, A, l, c⟩ : Rw) w ((w.alloc (.cells #[.int .i64 t, .float .f64 v0, .float .f64 v1, .float .f64 v2, .slice A l.length c] 26)).alloc (.cells #[.int .i64 0, .int .i64 0, .int .i64 0, .int .i64 0, .slice none 0 0] 32))) := DQ.new _ w hr.rds
  have HU : Hid (∀ g ∈ l, g.Wf) := hr.us
  have HW : Hid (v0 < 18446744073709551616 ∧ v1 < 18446744073709551616 ∧ v2 < 18446744073709551616) := ⟨hr.h0, hr.h1, hr.h2⟩
  have HV : Hid (readN v0 = V0 ∧ readN v1 = V1 ∧ readN v2 = V2) := ⟨hV0, hV1, hV2⟩
  clear hr hV0 hV1 hV2
  go_enter Tryd.func16, Tryd.ntmps16
  go_wp2_with fail
  generalize ((w.alloc (.cells #[.int .i64 t, .float .f64 v0, .float .f64 v1, .float .f64 v2, .slice A l.length c] 26)).alloc (.cells #[.int .i64 0, .int .i64 0, .int .i64 0, .int .i64 0, .slice none 0 0] 32)) = W0 at *
  have HQ := Lib.hid HQd.out.drew
  go_cut [3] (fun v W => ∃ n, v = .pointer (some ⟨n, 0, none⟩) ∧ w.heap.size + 1 < n ∧ Blk W n 32 #[.int .i64 t, .int .i64 V0, .int .i64 V1, .int .i64 V2, .slice none 0 0] ∧ DQ (⟨t, v0, v1, v2, A, l, c⟩ : Rw) w W)
  case first =>
    go_region_held3 (fun w' => w'.cell? ⟨w.heap.size, 0, none⟩ = some (.int .i64 t) ∧ w'.cell? ⟨w.heap.size, 1, none⟩ = some (.float .f64 v0) ∧ w'.cell? ⟨w.heap.size, 2, none⟩ = some (.float .f64 v1) ∧ w'.cell? ⟨w.heap.size, 3, none⟩ = some (.float .f64 v2)) (first | with_reducible exact (HQ.out.cells) | with_reducible exact ((HQ.out.alloc _).cells) | with_reducible exact ((HQd.out.alloc _).drew.cells) | with_reducible exact ((((((HQ.out.far NN.out _).far NN.out _).far NN.out _).far NN.out _).far NN.out _).cells))
     (first
        | (go_at_call 24; with_reducible refine (wholeD HW.out HV.out HQ.out).mono ?_; rintro e v1 ⟨rfl, hb⟩; have HQ := Lib.hid (HQ.out.below hb); clear hb)
        | (go_at_call 24; with_reducible refine (wholeD HW.out HV.out (HQ.out.alloc _)).mono ?_; rintro e v1 ⟨rfl, hb⟩; have NN := Lib.hid HQ.out.lt; have NB := Lib.hid ((Blk.new _ 32 #[.int .i64 0, .int .i64 0, .int .i64 0, .int .i64 0, .slice none 0 0]).belowAll hb); have HQ := Lib.hid ((HQ.out.alloc _).below hb); have nc0 := NB.out.cell 0; have nc1 := NB.out.cell 1; have nc2 := NB.out.cell 2; have nc3 := NB.out.cell 3; have nc4 := NB.out.cell 4; simp only [List.getElem?_toArray, List.getElem?_cons_zero, List.getElem?_cons_succ] at nc0 nc1 nc2 nc3 nc4; have nf0 := NB.out.frozen 0; have nf1 := NB.out.frozen 1; have nf2 := NB.out.frozen 2; have nf3 := NB.out.frozen 3; have nf4 := NB.out.frozen 4; clear hb)
        | (go_at_call 24; with_reducible refine (wholeD HW.out HV.out ((HQd.out.alloc _).drew)).mono ?_; rintro e v1 ⟨rfl, hb⟩; have NN := Lib.hid HQ.out.lt; have NB := Lib.hid ((Blk.new _ 32 #[.int .i64 0, .int .i64 0, .int .i64 0, .int .i64 0, .slice none 0 0]).drew.belowAll hb); have HQ := Lib.hid (((HQd.out.alloc _).drew).below hb); have nc0 := NB.out.cell 0; have nc1 := NB.out.cell 1; have nc2 := NB.out.cell 2; have nc3 := NB.out.cell 3; have nc4 := NB.out.cell 4; simp only [List.getElem?_toArray, List.getElem?_cons_zero, List.getElem?_cons_succ] at nc0 nc1 nc2 nc3 nc4; have nf0 := NB.out.frozen 0; have nf1 := NB.out.frozen 1; have nf2 := NB.out.frozen 2; have nf3 := NB.out.frozen 3; have nf4 := NB.out.frozen 4; clear hb))
    all_goals
      go_wp2_with fail
      go_meet
      first
        | exact ⟨_, rfl, HQ.out.lt, Blk.new _ _ _, (HQ.out.alloc _)⟩
        | exact ⟨_, rfl, NN.out, (by simpa using (((((NB.out.set_ 0 _).set_ 1 _).set_ 2 _).set_ 3 _).set_ 4 _)), (((((HQ.out.far NN.out _).far NN.out _).far NN.out _).far NN.out _).far NN.out _)⟩
  case rest =>
    obtain ⟨n, rfl, hn, hB, hD⟩ := hcut
    clear HQ HQd HW HV
    have HL0 : Hid (DQ (⟨t, v0, v1, v2, A, l, c⟩ : Rw) w wc ∧ Blk wc n 32 #[.int .i64 t, .int .i64 V0, .int .i64 V1, .int .i64 V2, .slice none 0 0]) := ⟨hD, hB⟩
    clear hD hB
    go_wp2_with fail
    go_loopw [4] (fun i wr => ∃ (k : Nat) (m : List Us) (A' : Option Addr) (c' : Nat), k ≤ l.length ∧ i = .int .i64 k ∧ m = readUses (l.take k) ∧ Own wr w.heap.size 51 encU (.slice A' m.length c') m ∧ Blk wr n 32 #[.int .i64 t, .int .i64 V0, .int .i64 V1, .int .i64 V2, .slice A' m.length c'] ∧ DQ (⟨t, v0, v1, v2, A, l, c⟩ : Rw) w wr) (fun i _ => l.length - (intOf i).toNat)
    case atStart => exact ⟨0, [], none, 0, by omega, rfl, rfl, Own.nil_ _ _ _ _, HL0.out.2, HL0.out.1⟩
    case round =>
      clear HL0
      obtain ⟨k, m, A', c', hk, rfl, hm, hO, hS, hD⟩ := hrel
      have HM := Lib.hid hm
      have hml : m.length ≤ 128 := by rw [hm, readUses_len, List.length_take]; omega
      have HP := Lib.hid (And.intro hO (And.intro hS hD))
      clear hm hO hS hD
      have cb : ∀ i, wr.cell? ⟨w.heap.size, i, none⟩ = (#[.int .i64 t, .float .f64 v0, .float .f64 v1, .float .f64 v2, .slice A l.length c] : Array Value)[i]? := HP.out.2.2.rq.box.cell
      by_cases hlt : k < l.length
      · obtain ⟨b, off, hA, hb0, k0, k1, k2, k3⟩ := HP.out.2.2.rq.rds.ug hlt
        obtain rfl : A = some ⟨b, off, none⟩ := hA
        clear hb0 k0 k1 k2 k3
        have dk : decide ((k : Int) < (l.length : Int)) = true := decide_eq_true (by omega)
        have dk3 : (k : Int) < (l.length : Int) := by omega
        obtain ⟨g, hg⟩ : ∃ g, l[k] = g := ⟨_, rfl⟩
        have HWG := Lib.hid (show g.Wf by rw [← hg]; exact HU.out _ (List.getElem_mem hlt))
        have HWF : Hid (g.f0 < 18446744073709551616 ∧ g.f1 < 18446744073709551616 ∧ g.f2 < 18446744073709551616) := ⟨HWG.out.h0, HWG.out.h1, HWG.out.h2⟩
        have HT := Lib.hid (show readUses (l.take (k + 1)) = insU m (toUs g) by rw [readUses_snoc l k hlt, hg, ← HM.out])
        have HG := Lib.hid (show ∃ hk : k < l.length, l[k] = g from ⟨hlt, hg⟩)
        clear hg HWG HM
        obtain ⟨x, y, z, HX⟩ : ∃ x y z, Hid (readN g.f0 = x ∧ readN g.f1 = y ∧ readN g.f2 = z) := ⟨_, _, _, ⟨rfl, rfl, rfl⟩⟩
        have HUS := Lib.hid (show toUs g = ⟨g.id, x, y, z⟩ by unfold toUs; rw [HX.out.1, HX.out.2.1, HX.out.2.2])
        have HQd : Hid (LQ (⟨t, v0, v1, v2, some ⟨b, off, none⟩, l, c⟩ : Rw) n wr.heap.size V0 V1 V2 m A' c' w wr) := ⟨HP.out.2.2, HP.out.2.1, HP.out.1, fun k hk => (HP.out.1.block_lt k hk).2, HP.out.2.1.lt, hn, Nat.le_refl _⟩
        have HQ := Lib.hid HQd.out.drew
        generalize wr.heap.size = B at HQd HQ
        clear HP cb
        have cb : ∀ i, wr.cell? ⟨w.heap.size, i, none⟩ = (#[.int .i64 t, .float .f64 v0, .float .f64 v1, .float .f64 v2, .slice (some ⟨b, off, none⟩) l.length c] : Array Value)[i]? := HQd.out.d.rq.box.cell
        go_wp2_with fail
        clear cb
        go_cut [5] (fun v W => ∃ nu, v = .pointer (some ⟨nu, 0, none⟩) ∧ B ≤ nu ∧ Blk W nu 51 (⟨g.id, x, y, z⟩ : Us).cells ∧ LQ (⟨t, v0, v1, v2, some ⟨b, off, none⟩, l, c⟩ : Rw) n B V0 V1 V2 m A' c' w W)
        case first =>
          go_region_held3 (fun w' => w'.cell? ⟨w.heap.size, 4, none⟩ = some (.slice (some ⟨b, off, none⟩) l.length c) ∧ w'.cell? ⟨b, off + k * 4, none⟩ = some (.string g.id) ∧ w'.cell? ⟨b, off + k * 4 + 1, none⟩ = some (.float .f64 g.f0) ∧ w'.cell? ⟨b, off + k * 4 + 2, none⟩ = some (.float .f64 g.f1) ∧ w'.cell? ⟨b, off + k * 4 + 3, none⟩ = some (.float .f64 g.f2)) (first | with_reducible exact (HQ.out.cells HG.out) | with_reducible exact ((HQ.out.alloc _).cells HG.out) | with_reducible exact ((HQd.out.alloc _).drew.cells HG.out) | with_reducible exact (((((HQ.out.far NN.out _).far NN.out _).far NN.out _).far NN.out _).cells HG.out))
           (first
              | (go_at_call 24; with_reducible refine (wholeL HWF.out HX.out HQ.out).mono ?_; rintro e v1 ⟨rfl, hb⟩; have HQ := Lib.hid (HQ.out.below hb); clear hb)
              | (go_at_call 24; with_reducible refine (wholeL HWF.out HX.out (HQ.out.alloc _)).mono ?_; rintro e v1 ⟨rfl, hb⟩; have NN := Lib.hid (show B ≤ wr.heap.size from HQd.out.sz); have NB := Lib.hid ((Blk.new _ 51 #[.string ⟨#[]⟩, .int .i64 0, .int .i64 0, .int .i64 0]).belowAll hb); have HQ := Lib.hid ((HQ.out.alloc _).below hb); have nc0 := NB.out.cell 0; have nc1 := NB.out.cell 1; have nc2 := NB.out.cell 2; have nc3 := NB.out.cell 3; simp only [List.getElem?_toArray, List.getElem?_cons_zero, List.getElem?_cons_succ] at nc0 nc1 nc2 nc3; have nf0 := NB.out.frozen 0; have nf1 := NB.out.frozen 1; have nf2 := NB.out.frozen 2; have nf3 := NB.out.frozen 3; clear hb)
              | (go_at_call 24; with_reducible refine (wholeL HWF.out HX.out ((HQd.out.alloc _).drew)).mono ?_; rintro e v1 ⟨rfl, hb⟩; have NN := Lib.hid (show B ≤ wr.heap.size from HQd.out.sz); have NB := Lib.hid ((Blk.new _ 51 #[.string ⟨#[]⟩, .int .i64 0, .int .i64 0, .int .i64 0]).drew.belowAll hb); have HQ := Lib.hid (((HQd.out.alloc _).drew).below hb); have nc0 := NB.out.cell 0; have nc1 := NB.out.cell 1; have nc2 := NB.out.cell 2; have nc3 := NB.out.cell 3; simp only [List.getElem?_toArray, List.getElem?_cons_zero, List.getElem?_cons_succ] at nc0 nc1 nc2 nc3; have nf0 := NB.out.frozen 0; have nf1 := NB.out.frozen 1; have nf2 := NB.out.frozen 2; have nf3 := NB.out.frozen 3; clear hb))
          all_goals
            go_wp2_with fail
            go_meet
            first
              | exact ⟨_, rfl, HQ.out.lt, Blk.new _ _ _, (HQ.out.alloc _)⟩
              | exact ⟨_, rfl, NN.out, (by simpa using ((((NB.out.set_ 0 _).set_ 1 _).set_ 2 _).set_ 3 _)), ((((HQ.out.far NN.out _).far NN.out _).far NN.out _).far NN.out _)⟩
        case rest =>
          obtain ⟨nu, rfl, hnu, hBu, hLQ⟩ := hcut
          clear HQ HQd HWF HX
          have HL := Lib.hid (And.intro hBu hLQ)
          have HNU := Lib.hid hnu
          clear hBu hLQ hnu
          have HT2 := Lib.hid (show readUses (l.take (k + 1)) = insU m ⟨g.id, x, y, z⟩ by rw [HT.out, HUS.out])
          clear HT HUS HG
          obtain ⟨u, hu⟩ : ∃ u : Us, u = ⟨g.id, x, y, z⟩ := ⟨_, rfl⟩
          rw [← hu] at HL HT2
          clear hu
          go_wp2_with fail
          go_loopw [6, 7, 8] (fun out d i wr => ∃ (j : Nat) (q : List Us) (Ao : Option Addr) (co : Nat) (dn : Bool), j ≤ m.length ∧ i = .int .i64 j ∧ d = .bool dn ∧ insSt m u q j dn ∧ out = .slice Ao q.length co ∧ IQ wc q Ao co wr) (fun _ _ i _ => m.length - (intOf i).toNat)
          case atStart => exact ⟨0, [], none, 0, false, by omega, rfl, rfl, insSt.start m u, rfl, Own.nil_ _ _ _ _, Below.refl _ _⟩
          case round =>
            obtain ⟨j, q, Ao, co, dn, hj, rfl, rfl, hst, rfl, hIQ⟩ := hrel
            have hql : q.length ≤ 129 := by have := hst.len; omega
            have HST := Lib.hid hst
            have HI := Lib.hid hIQ
            clear hst hIQ
            have HS := Lib.hid (And.intro (HL.out.1.belowAll HI.out.bel) (HL.out.2.below HI.out.bel))
            have csm : ∀ i, wr.cell? ⟨n, i, none⟩ = (#[.int .i64 t, .int .i64 V0, .int .i64 V1, .int .i64 V2, .slice A' m.length c'] : Array Value)[i]? := HS.out.2.smp.cell
            have cu : ∀ i, wr.cell? ⟨nu, i, none⟩ = (#[.string u.id, .int .i64 u.a0, .int .i64 u.a1, .int .i64 u.a2] : Array Value)[i]? := HS.out.1.cell
            by_cases hjm : j < m.length
            · obtain ⟨b2, off2, hA2, hb2, m0, m1, m2, m3⟩ := HS.out.2.rds.us hjm
              have dj : decide ((j : Int) < (m.length : Int)) = true := decide_eq_true (by omega)
              have dj3 : (j : Int) < (m.length : Int) := by omega
              obtain rfl : A' = some ⟨b2, off2, none⟩ := hA2
              have HYes := Lib.hid (insSt.yes (u := u) (q := q) hjm)
              have HNo := Lib.hid (insSt.no (u := u) (q := q) hjm)
              have HDone := Lib.hid (insSt.done (u := u) (q := q) hjm)
              have HCell := Lib.hid (fun (W : World) (h : Rds W encU (some ⟨b2, off2, none⟩) m) => h.usAt hjm)
              generalize m[j] = s at *
              clear hb2
              cases dn
              · cases hb : blt u.id s.id
                · have hb3 : (!Op.bytesLess s.id.toList u.id.toList && !s.id.toList == u.id.toList) = false := (gtS s.id u.id).trans hb
                  have HN := Lib.hid (HNo.out HST.out hb)
                  clear HST HYes HNo HDone HCell hb HT2 HNU HS
                  go_wp2_with fail
                  go_quiet (fail)
                  go_wp2_with (at_builtin; refine wl_push elemU encU rfl (.tmp 60) (.tmp 66) rfl s s.cells rfl wc.heap.size _ q rfl (HI.out.quiet _).own rfl (by simp) (HI.out.quiet _).bel (by first | omega | (simp; omega)) (by first | omega | (simp; omega)) (HI.out.quiet _).bel.size ?_; intro A3 k3 w3 ho hb hg; have HX3 : Hid (IQ wc (q ++ [s]) A3 k3 w3) := ⟨own_len1 ho, hb⟩; clear ho hb hg)
                  go_roundw
                  case rel => exact ⟨j + 1, q ++ [s], A3, k3, false, by omega, by go_num, rfl, HN.out, by simp, HX3.out⟩
                  case measure => simp [intOf]; omega
                · have hb3 : (!Op.bytesLess s.id.toList u.id.toList && !s.id.toList == u.id.toList) = true := (gtS s.id u.id).trans hb
                  have HN := Lib.hid (HYes.out HST.out hb)
                  clear HST HYes HNo HDone hb HT2 HNU HS
                  go_wp2_with fail
                  go_quiet (fail)
                  go_wp2_with (first
                    | (at_builtin; refine wl_push elemU encU rfl (.tmp 56) (.tmp 58) rfl u u.cells rfl wc.heap.size _ q rfl (HI.out.quiet _).own rfl (by simp) (HI.out.quiet _).bel (by first | omega | (simp; omega)) (by first | omega | (simp; omega)) (HI.out.quiet _).bel.size ?_; intro A3 k3 w3 ho hb hg; have HX3 : Hid (IQ wc (q ++ [u]) A3 k3 w3) := ⟨own_len1 ho, hb⟩; have HX3r := Lib.hid ho; clear ho hb hg csm cu m0 m1 m2 m3; have HS := Lib.hid (HL.out.2.below HX3.out.bel); have csm : ∀ i, w3.cell? ⟨n, i, none⟩ = (#[.int .i64 t, .int .i64 V0, .int .i64 V1, .int .i64 V2, .slice (some ⟨b2, off2, none⟩) m.length c'] : Array Value)[i]? := HS.out.smp.cell; obtain ⟨m0, m1, m2, m3⟩ := HCell.out _ HS.out.rds; clear HS HI; have HI := HX3)
                    | (at_builtin; refine wl_push elemU encU rfl (.tmp 60) (.tmp 66) rfl s s.cells rfl wc.heap.size (.slice A3 (q.length + 1) k3) (q ++ [u]) rfl HX3r.out rfl rfl HI.out.bel (by first | omega | (simp; omega)) (by first | omega | (simp; omega)) HI.out.bel.size ?_; intro A4 k4 w4 ho hb hg; have HX4 : Hid (IQ wc ((q ++ [u]) ++ [s]) A4 k4 w4) := ⟨own_len1 ho, hb⟩; clear ho hb hg))
                  go_roundw
                  case rel => exact ⟨j + 1, q ++ [u] ++ [s], A4, k4, true, by omega, by go_num, rfl, HN.out, by simp, HX4.out⟩
                  case measure => simp [intOf]; omega
              · have HN := Lib.hid (HDone.out HST.out)
                clear HST HYes HNo HDone HCell HT2 HNU HS
                go_wp2_with fail
                go_quiet (fail)
                go_wp2_with (at_builtin; refine wl_push elemU encU rfl (.tmp 60) (.tmp 66) rfl s s.cells rfl wc.heap.size _ q rfl (HI.out.quiet _).own rfl (by simp) (HI.out.quiet _).bel (by first | omega | (simp; omega)) (by first | omega | (simp; omega)) (HI.out.quiet _).bel.size ?_; intro A3 k3 w3 ho hb hg; have HX3 : Hid (IQ wc (q ++ [s]) A3 k3 w3) := ⟨own_len1 ho, hb⟩; clear ho hb hg)
                go_roundw
                case rel => exact ⟨j + 1, q ++ [s], A3, k3, true, by omega, by go_num, rfl, HN.out, by simp, HX3.out⟩
                case measure => simp [intOf]; omega
            · obtain rfl : j = m.length := by omega
              have dj : decide ((m.length : Int) < (m.length : Int)) = false := by simp
              have fsm := HS.out.2.smp.frozen 4
              have hwB : w.heap.size ≤ wc.heap.size := HL.out.2.d.bel.size
              cases dn
              · have HE := Lib.hid HST.out.endF
                clear HST hwB fsm
                go_wp2_with (at_builtin; go_loud (refine wl_push elemU encU rfl (.tmp 70) (.tmp 72) rfl u u.cells rfl wc.heap.size _ q rfl HI.out.own rfl rfl HI.out.bel (by omega) (by omega) HI.out.bel.size ?_); go_loud (intro A3 k3 w3 ho hb hg); go_loud (have HX3 : Hid (IQ wc (q ++ [u]) A3 k3 w3) := ⟨own_len1 ho, hb⟩); go_loud (clear ho hb hg csm cu); go_loud (have HS2 := Lib.hid (HL.out.2.below HX3.out.bel)); go_loud (have HH : Hid (Own (w3.setCell ⟨n, 4, none⟩ (.slice A3 (q ++ [u]).length k3)) w.heap.size 51 encU (.slice A3 (q ++ [u]).length k3) (q ++ [u]) ∧ Blk (w3.setCell ⟨n, 4, none⟩ (.slice A3 (q ++ [u]).length k3)) n 32 #[.int .i64 t, .int .i64 V0, .int .i64 V1, .int .i64 V2, .slice A3 (q ++ [u]).length k3] ∧ DQ (⟨t, v0, v1, v2, some ⟨b, off, none⟩, l, c⟩ : Rw) w (w3.setCell ⟨n, 4, none⟩ (.slice A3 (q ++ [u]).length k3))) := ⟨(HX3.out.own.mono HL.out.2.d.bel.size).setFar HS2.out.smp (by decide) 4 _, HS2.out.smp.set_ 4 _, HS2.out.d.far (by show _ < n; have := HS2.out.hn; omega) _⟩); go_loud (have csm : ∀ i, w3.cell? ⟨n, i, none⟩ = (#[.int .i64 t, .int .i64 V0, .int .i64 V1, .int .i64 V2, .slice A' m.length c'] : Array Value)[i]? := HS2.out.smp.cell); go_loud (have fsm := HS2.out.smp.frozen 4); go_loud (have hq1 : (q ++ [u]).length = q.length + 1 := by simp); go_loud (rw [hq1] at HH); go_loud (clear HS2 hq1))
                go_roundw
                case rel => exact ⟨k + 1, q ++ [u], A3, k3, by omega, by go_num, by rw [HT2.out]; exact HE.out, by rw [List.length_append]; exact HH.out.1, by rw [List.length_append]; exact HH.out.2.1, HH.out.2.2⟩
                case measure => simp [intOf]; omega
              · have HE := Lib.hid HST.out.endT
                have HH : Hid (Own (wr.setCell ⟨n, 4, none⟩ (.slice Ao q.length co)) w.heap.size 51 encU (.slice Ao q.length co) q ∧ Blk (wr.setCell ⟨n, 4, none⟩ (.slice Ao q.length co)) n 32 #[.int .i64 t, .int .i64 V0, .int .i64 V1, .int .i64 V2, .slice Ao q.length co] ∧ DQ (⟨t, v0, v1, v2, some ⟨b, off, none⟩, l, c⟩ : Rw) w (wr.setCell ⟨n, 4, none⟩ (.slice Ao q.length co))) :=
                  ⟨(HI.out.own.mono hwB).setFar HS.out.2.smp (by decide) 4 _, HS.out.2.smp.set_ 4 _, HS.out.2.d.far (by show _ < n; have := HS.out.2.hn; omega) _⟩
                clear HST hwB HS HI
                go_wp2_with fail
                go_roundw
                case rel => exact ⟨k + 1, q, Ao, co, by omega, by go_num, by rw [HT2.out]; exact HE.out, HH.out.1, HH.out.2.1, HH.out.2.2⟩
                case measure => simp [intOf]; omega
      · obtain rfl : k = l.length := by omega
        have dk : decide ((l.length : Int) < (l.length : Int)) = false := by simp
        rw [List.take_length] at HM
        have csm : ∀ i, wr.cell? ⟨n, i, none⟩ = (#[.int .i64 t, .int .i64 V0, .int .i64 V1, .int .i64 V2, .slice A' m.length c'] : Array Value)[i]? := HP.out.2.1.cell
        go_wp2_with (refine wl_store_blk rfl 32 (.tmp 2) (.tmp 76) rfl (w.heap.size + 1) 32 #[.int .i64 0, .int .i64 0, .int .i64 0, .int .i64 0, .slice none 0 0] #[.int .i64 t, .int .i64 V0, .int .i64 V1, .int .i64 V2, .slice A' m.length c'] rfl rfl HP.out.2.2.res rfl szS (by simp [Value.oneCell']) ?_; intro w5 hR5 hg5 hs5)
        have hl5 : ∀ i, w5.cell? ⟨w.heap.size + 1, i, none⟩ = (#[.int .i64 t, .int .i64 V0, .int .i64 V1, .int .i64 V2, .slice A' m.length c'] : Array Value)[i]? := hR5.cell
        have HOWN := Lib.hid (HP.out.1.grown hg5 (.inr (HP.out.1.ne_blk HP.out.2.2.res (by decide)).symm))
        have HBB := Lib.hid (HP.out.2.2.bel.grown hg5 HP.out.2.2.bel.size (by intro k hk; cases hk; omega))
        exact bodyPost_ret (v := .agg #[.int .i64 t, .int .i64 V0, .int .i64 V1, .int .i64 V2, .slice A' m.length c']) (by simp [results, Tryd.results16, go_sem, hl5]) rfl ⟨A', c', by rw [← HM.out], by rw [← HM.out]; exact HOWN.out, HBB.out⟩
theorem read17_any (r : Rw) (w : World) (hr : r.Wf w) (hl : r.uses.length ≤ 128) :
    Calls Tryd.prog 16 #[.agg r.cells] w (GivesS r.time (readN r.v0) (readN r.v1) (readN r.v2) (readUses r.uses) w) := read17_walk w hr hl rfl rfl rfl
end Go.Proofs.YtampjkgkiooibaaDoor
