/- bilgelaw20.RankFirst: the first may be evicted, and goes ahead of all others that may; there is none just if none may. -/
import Derived.Test.YtlnpmdchhmbblaaRankTab
import Derived.Test.YtlnpmdchhmbblaaHeld
namespace Go.Proofs.Ytlnpmdchhmbblaa
open Go.RowKit
/-- what the first loop knows of the first i -/
structure AtTo (l : List En) (x : ByteArray) (i : Nat) (za : Int) (sb : Bool) : Prop where
  some : sb = (l.take i).any mayB
  at_ : (za = -1 ∧ ∀ t (ht : t < l.length), t < i → mayB l[t] = true → l[t].pod.id ≠ x) ∨ ∃ (t : Nat) (ht : t < l.length), t < i ∧ za = (t : Int) ∧ mayB l[t] = true ∧ l[t].pod.id = x
theorem AtTo.start (l : List En) (x : ByteArray) : AtTo l x 0 (-1) false := ⟨rfl, .inl ⟨rfl, fun _ _ h => by omega⟩⟩
theorem AtTo.step {l : List En} {x : ByteArray} {i : Nat} {za : Int} {sb : Bool} (h : AtTo l x i za sb) (hi : i < l.length) {v q : Bool} (hv : mayB l[i] = v) (hq : (l[i].pod.id.toList == x.toList) = q) : AtTo l x (i + 1) (if (v && q) = true then (i : Int) else za) (sb || v) := by
  refine ⟨by rw [List.take_succ_eq_append_getElem hi, List.any_append, ← h.some, List.any_cons, hv]; simp, ?_⟩
  cases hvq : (v && q)
  · rw [if_neg (by simp)]
    rcases h.at_ with ⟨h1, h2⟩ | ⟨t, ht, h1, h2, h3, h4⟩
    · refine .inl ⟨h1, fun t ht h3 h4 => ?_⟩
      by_cases e : t = i
      · subst e
        rw [hv] at h4
        subst h4
        have : q = false := by simpa using hvq
        rw [this] at hq
        exact toList_ne hq
      · exact h2 t ht (by omega) h4
    · exact .inr ⟨t, ht, by omega, h2, h3, h4⟩
  · rw [if_pos rfl]
    obtain ⟨h1, h2⟩ := (Bool.and_eq_true _ _).mp hvq
    exact .inr ⟨i, hi, by omega, rfl, by rw [hv]; exact h1, toList_inj (by rw [hq]; exact h2)⟩
theorem may_phase {x : En} (h1 : 1 ≤ x.phase) (h3 : x.phase ≤ 3) : mayB x = (!x.pod.crit && (x.phase != 3)) := by
  unfold mayB
  congr 1
  have : x.phase = 1 ∨ x.phase = 2 ∨ x.phase = 3 := by omega
  rcases this with h | h | h <;> rw [h] <;> rfl
theorem at_none {k : Int} {l : List En} {us : List Us} {x : ByteArray} {za : Int} {sb : Bool} (hb : BestTo k l us l.length none) (h : AtTo l x l.length za sb) : za = -1 ∧ sb = false := by
  constructor
  · rcases h.at_ with ⟨h1, _⟩ | ⟨t, ht, h1, _, h3, _⟩
    · exact h1
    · rw [hb t ht ht] at h3; cases h3
  · rw [h.some, List.take_length, List.any_eq_false]
    intro y hy
    obtain ⟨t, ht, rfl⟩ := List.getElem_of_mem hy
    rw [hb t ht ht]; simp
theorem at_some {k : Int} {l : List En} {us : List Us} {j : Nat} (hj : j < l.length) {za : Int} {sb : Bool} (hf : FitE l) (hb : BestTo k l us l.length (some j)) (h : AtTo l l[j].pod.id l.length za sb) : za = (j : Int) ∧ sb = true := by
  obtain ⟨_, _, hm, _⟩ := hb
  constructor
  · rcases h.at_ with ⟨_, h2⟩ | ⟨t, ht, _, h2, _, h4⟩
    · exact absurd rfl (h2 j hj hj hm)
    · rcases Nat.lt_trichotomy t j with e | e | e
      · exact absurd h4 ((hf.ok j hj hj).d t e)
      · subst e; exact h2
      · exact absurd h4.symm ((hf.ok t ht ht).d j e)
  · rw [h.some, List.take_length, List.any_eq_true]
    exact ⟨l[j], List.getElem_mem hj, hm⟩
theorem best_ahead {k : Int} {l : List En} {us : List Us} {i j : Nat} (hi : i < l.length) (hj : j < l.length) (hf : FitE l) (hb : BestTo k l us l.length (some j)) (hne : i ≠ j) (hm : mayB l[i] = true) : aheadB k l[j].pod l[i].pod us = true := by
  obtain ⟨_, _, _, h3⟩ := hb
  have h4 := h3 i hi hi hm
  have hid : l[i].pod.id ≠ l[j].pod.id := by
    rcases Nat.lt_or_ge i j with h | h
    · exact (hf.ok j hj hj).d i h
    · exact fun e => (hf.ok i hi hi).d j (by omega) e.symm
  rw [ahead_flip hid, h4]; rfl
theorem OT.cells2 {l : List En} {b0 off : Nat} {r : Rw} {w W : World} (h : OT l (some ⟨b0, off, none⟩) r w W) {s : Sp} {n : Nat} (hs : SB s n W) {i j : Nat} {x y : En} (hx : l[i]? = some x) (hy : l[j]? = some y) : W.cell? ⟨b0, off + i * 12, none⟩ = some (.string x.pod.id) ∧ W.cell? ⟨b0, off + i * 12 + 1, none⟩ = some (.int .i64 x.pod.prio) ∧ W.cell? ⟨b0, off + i * 12 + 2, none⟩ = some (.bool x.pod.crit) ∧ W.cell? ⟨b0, off + i * 12 + 3, none⟩ = some (.int .i64 x.pod.q0) ∧ W.cell? ⟨b0, off + i * 12 + 4, none⟩ = some (.int .i64 x.pod.q1) ∧ W.cell? ⟨b0, off + i * 12 + 5, none⟩ = some (.int .i64 x.pod.q2) ∧ W.cell? ⟨b0, off + i * 12 + 6, none⟩ = some (.int .i64 x.pod.l0) ∧ W.cell? ⟨b0, off + i * 12 + 7, none⟩ = some (.int .i64 x.pod.l1) ∧ W.cell? ⟨b0, off + i * 12 + 8, none⟩ = some (.int .i64 x.pod.l2) ∧ W.cell? ⟨b0, off + i * 12 + 9, none⟩ = some (.string x.pod.image) ∧ W.cell? ⟨b0, off + i * 12 + 10, none⟩ = some (.int .i64 x.pod.size) ∧ W.cell? ⟨b0, off + i * 12 + 11, none⟩ = some (.int .i64 x.phase) ∧ W.cell? ⟨b0, off + j * 12, none⟩ = some (.string y.pod.id) ∧ W.cell? ⟨b0, off + j * 12 + 1, none⟩ = some (.int .i64 y.pod.prio) ∧ W.cell? ⟨b0, off + j * 12 + 2, none⟩ = some (.bool y.pod.crit) ∧ W.cell? ⟨b0, off + j * 12 + 3, none⟩ = some (.int .i64 y.pod.q0) ∧ W.cell? ⟨b0, off + j * 12 + 4, none⟩ = some (.int .i64 y.pod.q1) ∧ W.cell? ⟨b0, off + j * 12 + 5, none⟩ = some (.int .i64 y.pod.q2) ∧ W.cell? ⟨b0, off + j * 12 + 6, none⟩ = some (.int .i64 y.pod.l0) ∧ W.cell? ⟨b0, off + j * 12 + 7, none⟩ = some (.int .i64 y.pod.l1) ∧ W.cell? ⟨b0, off + j * 12 + 8, none⟩ = some (.int .i64 y.pod.l2) ∧ W.cell? ⟨b0, off + j * 12 + 9, none⟩ = some (.string y.pod.image) ∧ W.cell? ⟨b0, off + j * 12 + 10, none⟩ = some (.int .i64 y.pod.size) ∧ W.cell? ⟨n, 0, none⟩ = some (.int .i64 s.time) ∧ W.cell? ⟨n, 1, none⟩ = some (.int .i64 s.v0) ∧ W.cell? ⟨n, 2, none⟩ = some (.int .i64 s.v1) ∧ W.cell? ⟨n, 3, none⟩ = some (.int .i64 s.v2) ∧ W.cell? ⟨n, 4, none⟩ = some (.slice s.A s.uses.length s.c) := by
  obtain ⟨a0, a1, a2, a3, a4, a5, a6, a7, a8, a9, a10, a11⟩ := h.tb.enAt (Below.refl _ _) hx
  obtain ⟨c0, c1, c2, c3, c4, c5, c6, c7, c8, c9, c10, c11⟩ := h.tb.enAt (Below.refl _ _) hy
  exact ⟨a0, a1, a2, a3, a4, a5, a6, a7, a8, a9, a10, a11, c0, c1, c2, c3, c4, c5, c6, c7, c8, c9, c10, hs.smp.cell 0, hs.smp.cell 1, hs.smp.cell 2, hs.smp.cell 3, hs.smp.cell 4⟩
set_option maxRecDepth 100000 in
set_option maxHeartbeats 16000000 in
theorem rankFirst_any (n : UInt8) (l : List En) (A : Option Addr) (c : Nat) (r : Rw) (w : World) (ht : Rds w encN A l) (hw : ∀ x ∈ l, x.pod.Wf ∧ I64 x.phase) (hm : l.length ≤ 9223372036854775807) (hr : r.Wf w) :
    Calls Try.prog 8 #[.int .u8 n.toNat, .slice A l.length c, .agg r.cells] w fun e w' => e = .returned (.bool true) ∧ Below w.heap.size w w' := by
  have mixed : Try.prog.follows Departure.mixedOrders = true := by kernel_rfl
  have HQ := Lib.hid (OT.new l A r w hr ht)
  have HW := Lib.hid hw
  clear hw hr ht
  go_enter Try.func8, Try.ntmps8
  go_wp2_with fail
  refine (awake20_any _).mono ?_; rintro e w1 ⟨rfl, hb⟩
  have HQ := Lib.hid (HQ.out.below hb)
  clear hb
  
  by_cases hft : FitE l
  rotate_left
  · go_wp2_with fail
    refine (fitN_any hft HQ.out.tb HW.out hm).mono ?_; rintro e wv ⟨rfl, hb⟩
    have HQ := Lib.hid (HQ.out.below hb)
    clear hb 
    clear hft
    go_wp2_with fail
    refine (awake20_any _).mono ?_; rintro e w9 ⟨rfl, hb⟩
    have HQ := Lib.hid (HQ.out.below hb)
    clear hb
    go_wp2_with fail
    go_ret
    exact ⟨rfl, HQ.out.bel⟩
  · go_wp2_with fail
    refine (fitY_any hft HQ.out.tb HW.out hm).mono ?_; rintro e wv ⟨rfl, hb⟩
    have HQ := Lib.hid (HQ.out.below hb)
    clear hb 
    have Hhft := Lib.hid hft
    clear hft
    have crw := HQ.out.rw.cell
    cases hfr : fewR r.uses
    · go_wp2_with fail
      refine (fewW_any hfr HQ.out.wf).mono ?_; rintro e wv ⟨rfl, hb⟩
      have HQ := Lib.hid (HQ.out.below hb)
      clear hb crw
      clear hfr
      go_wp2_with fail
      refine (awake20_any _).mono ?_; rintro e w9 ⟨rfl, hb⟩
      have HQ := Lib.hid (HQ.out.below hb)
      clear hb
      go_wp2_with fail
      go_ret
      exact ⟨rfl, HQ.out.bel⟩
    · go_wp2_with fail
      refine (fewW_any hfr HQ.out.wf).mono ?_; rintro e wv ⟨rfl, hb⟩
      have HQ := Lib.hid (HQ.out.below hb)
      clear hb crw
      have Hhfr := Lib.hid hfr
      clear hfr
      have crw := HQ.out.rw.cell
      by_cases hr : RightR r
      rotate_left
      · go_wp2_with fail
        refine (rightN_any hr HQ.out.wf).mono ?_; rintro e wv ⟨rfl, hb⟩
        have HQ := Lib.hid (HQ.out.below hb)
        clear hb crw
        clear hr
        go_wp2_with fail
        refine (awake20_any _).mono ?_; rintro e w9 ⟨rfl, hb⟩
        have HQ := Lib.hid (HQ.out.below hb)
        clear hb
        go_wp2_with fail
        go_ret
        exact ⟨rfl, HQ.out.bel⟩
      · go_wp2_with fail
        refine (rightY_any hr HQ.out.wf).mono ?_; rintro e wv ⟨rfl, hb⟩
        have HQ := Lib.hid (HQ.out.below hb)
        clear hb crw
        have Hhr := Lib.hid hr
        clear hr
        obtain ⟨k, hk⟩ : ∃ k : Int, (n.toNat : Int) % 3 = k := ⟨_, rfl⟩
        have HKK : Hid (k = 0 ∨ k = 1 ∨ k = 2) := by show _ ∨ _; rw [← hk]; exact signal_cases n
        have HSG := Lib.hid (fun W => signalV hk W)
        clear hk
        obtain ⟨V0, HV0⟩ : ∃ V, Hid (readN r.v0 = V) := ⟨_, Lib.hid rfl⟩
        obtain ⟨V1, HV1⟩ : ∃ V, Hid (readN r.v1 = V) := ⟨_, Lib.hid rfl⟩
        obtain ⟨V2, HV2⟩ : ∃ V, Hid (readN r.v2 = V) := ⟨_, Lib.hid rfl⟩
        obtain ⟨us, HUS⟩ : ∃ us, Hid (readUses r.uses = us) := ⟨_, Lib.hid rfl⟩
        have HU : Hid (UsOk k us) := by show UsOk k us; rw [← HUS.out]; exact usOk_raw Hhr.out k
        go_wp2_with fail
        refine (HSG.out _).mono ?_; rintro e wk ⟨rfl, rfl⟩
        have crw := HQ.out.rw.cell
        go_wp2_with fail
        refine (readW_any HV0.out HV1.out HV2.out HUS.out Hhr.out HQ.out.wf).mono ?_; rintro e wr ⟨AU, cU, rfl, hO, hb⟩
        have HQ := Lib.hid (HQ.out.below hb)
        have HRU := Lib.hid hO.toRds
        clear hb hO crw HSG HV0 HV1 HV2 HUS
        have HTB := Lib.hid (Tb.of Hhft.out HW.out)
        have hlen : l.length ≤ 64 := Hhft.out.len
        have HQ := Lib.hid (HQ.out.alloc (.cells #[.int .i64 r.time, .int .i64 V0, .int .i64 V1, .int .i64 V2, .slice AU us.length cU] 36))
        have HS : Hid (SB (⟨r.time, V0, V1, V2, AU, us, cU⟩ : Sp) wr.heap.size (wr.alloc (.cells #[.int .i64 r.time, .int .i64 V0, .int .i64 V1, .int .i64 V2, .slice AU us.length cU] 36))) := SB.new (⟨r.time, V0, V1, V2, AU, us, cU⟩ : Sp) wr HRU.out
        clear HRU
        obtain ⟨O, HO⟩ : ∃ O, Hid (orderD k l us = O) := ⟨_, Lib.hid rfl⟩
        have hOl : O.length ≤ 64 := by rw [← HO.out]; exact Nat.le_trans (orderD_le k l us) hlen
        clear hOl HO
        have csm := HS.out.smp.cell
        go_wp2_with fail
        obtain ⟨W2, hW2⟩ : ∃ W2, W2 = (wr.alloc (.cells #[.int .i64 r.time, .int .i64 V0, .int .i64 V1, .int .i64 V2, .slice AU us.length cU] 36)) := ⟨_, rfl⟩
        rw [← hW2] at HQ HS ⊢
        clear hW2
        generalize wr.heap.size = n at *
        refine (firstT (s := (⟨r.time, V0, V1, V2, AU, us, cU⟩ : Sp)) HKK.out HS.out HU.out HQ.out.tb (by omega) HTB.out).mono ?_; rintro e w3 ⟨b1, hb1, rfl, hb⟩
        have HQ := Lib.hid (HQ.out.below hb)
        have HS := Lib.hid (HS.out.below hb)
        have HB1 := Lib.hid hb1
        clear hb hb1 csm
        obtain ⟨x1, HX1⟩ : ∃ x, Hid (bestId l b1 = x) := ⟨_, Lib.hid rfl⟩
        obtain ⟨ok1, HK1⟩ : ∃ x, Hid (b1.isSome = x) := ⟨_, Lib.hid rfl⟩
        rw [HX1.out, HK1.out]
        go_wp2_with fail
        go_loop [11, 12, 13] (fun at_ sm ii => ∃ (i : Nat) (za : Int) (sb : Bool), i ≤ l.length ∧ ii = .int .i64 i ∧ at_ = .int .i64 za ∧ sm = .bool sb ∧ AtTo l x1 i za sb) (fun _ _ ii => l.length - (intOf ii).toNat)
        case atStart => exact ⟨0, -1, false, by omega, rfl, rfl, rfl, AtTo.start _ _⟩
        case round =>
          obtain ⟨i, za, sb, hi, rfl, rfl, rfl, hat⟩ := hrel
          have HAT := Lib.hid hat
          clear hat
          by_cases hlt : i < l.length
          · obtain ⟨b0, off, hA, hjk⟩ := HQ.out.tb.en hlt
            clear hjk
            obtain rfl : A = some ⟨b0, off, none⟩ := hA
            have dk : decide ((i : Int) < (l.length : Int)) = true := decide_eq_true (by omega)
            have dk2 : (i : Int) < (l.length : Int) := by omega
            have HXI := Lib.hid (List.getElem?_eq_getElem hlt)
            have HSt := Lib.hid (fun (v q : Bool) (hv : mayB l[i] = v) (hq : (l[i].pod.id.toList == x1.toList) = q) => HAT.out.step hlt hv hq)
            have HMP := Lib.hid (show mayB l[i] = (!l[i].pod.crit && (l[i].phase != 3)) from may_phase (Hhft.out.ok i hlt hlt).lo (Hhft.out.ok i hlt hlt).hi)
            generalize l[i] = x at *
            obtain ⟨e0, e1, e2, e3, e4, e5, e6, e7, e8, e9, e10, e11⟩ := HQ.out.tb.enAt (Below.refl _ _) HXI.out
            cases hcr : x.pod.crit <;> cases hph : (x.phase != 3) <;> cases sb <;> cases hq : (x.pod.id.toList == x1.toList)
            all_goals
              rw [hcr] at e2
              have HN := Lib.hid (HSt.out _ _ (HMP.out.trans (by rw [hcr, hph])) hq)
              clear HMP HSt hcr
              go_wp2_with fail
              go_round
              case rel => exact ⟨i + 1, _, _, by omega, by go_num, rfl, rfl, by simpa using HN.out⟩
              case measure => simp [intOf]; omega
          · obtain rfl : i = l.length := by omega
            have dk : decide ((l.length : Int) < (l.length : Int)) = false := by simp
            cases b1 with
            | none =>
              obtain ⟨rfl, rfl⟩ := at_none HB1.out HAT.out
              obtain rfl : ok1 = false := HK1.out.symm
              clear HAT HB1 HX1 HK1
              go_wp2_with fail
              go_loop [15] (fun ii => ∃ i : Nat, i ≤ l.length ∧ ii = .int .i64 i) (fun ii => l.length - (intOf ii).toNat)
              case atStart => exact ⟨0, by omega, rfl⟩
              case round =>
                obtain ⟨i, hi, rfl⟩ := hrel
                by_cases dk4 : i < l.length
                all_goals
                  go_wp2_with fail
                  all_goals
                    go_ret
                    exact ⟨rfl, HQ.out.bel⟩
            | some j =>
              have hj : j < l.length := by obtain ⟨hj, _⟩ := HB1.out; exact hj
              obtain rfl : x1 = l[j].pod.id := by rw [← HX1.out, bestId_some hj]
              obtain ⟨rfl, rfl⟩ := at_some hj Hhft.out HB1.out HAT.out
              obtain rfl : ok1 = true := HK1.out.symm
              obtain ⟨b0, off, hA, hjk⟩ := HQ.out.tb.en hj
              clear hjk
              obtain rfl : A = some ⟨b0, off, none⟩ := hA
              have HYJ := Lib.hid (List.getElem?_eq_getElem hj)
              have HTY := Lib.hid (HTB.out _ (List.getElem_mem hj))
              have dj : decide ((j : Int) < 0) = false := decide_eq_false (by omega)
              have dj2 : (j : Int) < (l.length : Int) := by omega
              have HBA := Lib.hid (fun (i : Nat) (hi : i < l.length) (hne : i ≠ j) (hm : mayB l[i] = true) => best_ahead hi hj Hhft.out HB1.out hne hm)
              clear HAT HX1 HK1 HB1
              generalize l[j] = y at *
              go_wp2_with fail
              have HI : Hid (OT l (some ⟨b0, off, none⟩) r w w3 ∧ SB (⟨r.time, V0, V1, V2, AU, us, cU⟩ : Sp) n w3) := ⟨HQ.out, HS.out⟩
              clear HQ HS
              go_loopw [15] (fun ii wr => ∃ i : Nat, i ≤ l.length ∧ ii = .int .i64 i ∧ OT l (some ⟨b0, off, none⟩) r w wr ∧ SB (⟨r.time, V0, V1, V2, AU, us, cU⟩ : Sp) n wr) (fun ii _ => l.length - (intOf ii).toNat)
              case atStart => exact ⟨0, by omega, rfl, HI.out.1, HI.out.2⟩
              case round =>
                clear HI
                obtain ⟨i, hi, rfl, hq, hs⟩ := hrel
                have HQd := Lib.hid hq
                have HSd := Lib.hid hs
                clear hq hs
                by_cases hlt : i < l.length
                · have dk4 : decide ((i : Int) < (l.length : Int)) = true := decide_eq_true (by omega)
                  have dk5 : (i : Int) < (l.length : Int) := by omega
                  have HXI := Lib.hid (List.getElem?_eq_getElem hlt)
                  have HTX := Lib.hid (HTB.out _ (List.getElem_mem hlt))
                  have HBI := Lib.hid (fun (hne : i ≠ j) (hm : mayB l[i] = true) => HBA.out i hlt hne hm)
                  generalize l[i] = x at *
                  have HQ := Lib.hid HQd.out.drew
                  have HS := Lib.hid HSd.out.drew
                  by_cases hij : i = j
                  · have hne : ((i : Int) != (j : Int)) = false := by rw [hij]; simp
                    have HK2 := Lib.hid (OT.cells2 HQ.out HS.out HXI.out HYJ.out)
                    clear hij HBI
                    go_wp2_with fail
                    refine wp_region_held_drew (S := (fun w' => w'.cell? ⟨b0, off + i * 12, none⟩ = some (.string x.pod.id) ∧ w'.cell? ⟨b0, off + i * 12 + 1, none⟩ = some (.int .i64 x.pod.prio) ∧ w'.cell? ⟨b0, off + i * 12 + 2, none⟩ = some (.bool x.pod.crit) ∧ w'.cell? ⟨b0, off + i * 12 + 3, none⟩ = some (.int .i64 x.pod.q0) ∧ w'.cell? ⟨b0, off + i * 12 + 4, none⟩ = some (.int .i64 x.pod.q1) ∧ w'.cell? ⟨b0, off + i * 12 + 5, none⟩ = some (.int .i64 x.pod.q2) ∧ w'.cell? ⟨b0, off + i * 12 + 6, none⟩ = some (.int .i64 x.pod.l0) ∧ w'.cell? ⟨b0, off + i * 12 + 7, none⟩ = some (.int .i64 x.pod.l1) ∧ w'.cell? ⟨b0, off + i * 12 + 8, none⟩ = some (.int .i64 x.pod.l2) ∧ w'.cell? ⟨b0, off + i * 12 + 9, none⟩ = some (.string x.pod.image) ∧ w'.cell? ⟨b0, off + i * 12 + 10, none⟩ = some (.int .i64 x.pod.size) ∧ w'.cell? ⟨b0, off + i * 12 + 11, none⟩ = some (.int .i64 x.phase) ∧ w'.cell? ⟨b0, off + j * 12, none⟩ = some (.string y.pod.id) ∧ w'.cell? ⟨b0, off + j * 12 + 1, none⟩ = some (.int .i64 y.pod.prio) ∧ w'.cell? ⟨b0, off + j * 12 + 2, none⟩ = some (.bool y.pod.crit) ∧ w'.cell? ⟨b0, off + j * 12 + 3, none⟩ = some (.int .i64 y.pod.q0) ∧ w'.cell? ⟨b0, off + j * 12 + 4, none⟩ = some (.int .i64 y.pod.q1) ∧ w'.cell? ⟨b0, off + j * 12 + 5, none⟩ = some (.int .i64 y.pod.q2) ∧ w'.cell? ⟨b0, off + j * 12 + 6, none⟩ = some (.int .i64 y.pod.l0) ∧ w'.cell? ⟨b0, off + j * 12 + 7, none⟩ = some (.int .i64 y.pod.l1) ∧ w'.cell? ⟨b0, off + j * 12 + 8, none⟩ = some (.int .i64 y.pod.l2) ∧ w'.cell? ⟨b0, off + j * 12 + 9, none⟩ = some (.string y.pod.image) ∧ w'.cell? ⟨b0, off + j * 12 + 10, none⟩ = some (.int .i64 y.pod.size) ∧ w'.cell? ⟨n, 0, none⟩ = some (.int .i64 r.time) ∧ w'.cell? ⟨n, 1, none⟩ = some (.int .i64 V0) ∧ w'.cell? ⟨n, 2, none⟩ = some (.int .i64 V1) ∧ w'.cell? ⟨n, 3, none⟩ = some (.int .i64 V2) ∧ w'.cell? ⟨n, 4, none⟩ = some (.slice AU us.length cU))) (by kernel_rfl) (OT.cells2 HQ.out HS.out HXI.out HYJ.out) (fun hHeld => ?_)
                    refine held_take 0 101 (.int .i64 i) rfl rfl (by kernel_rfl) (by kernel_rfl) (by kernel_rfl) (fun _ _ _ h => h) (by rfl) (by intro w' hSw; (try dsimp only at hSw); go_simp; (try (with_reducible rfl))) (by assumption) ?_
                    simp only [Act.put, List.setIfInBounds_toArray, List.set_cons_zero, List.set_cons_succ]
                    refine held_take 1 102 (.int .i64 j) rfl rfl (by kernel_rfl) (by kernel_rfl) (by kernel_rfl) (fun _ _ _ h => h) (by rfl) (by intro w' hSw; (try dsimp only at hSw); go_simp; (try (with_reducible rfl))) (by assumption) ?_
                    simp only [Act.put, List.setIfInBounds_toArray, List.set_cons_zero, List.set_cons_succ]
                    refine held_take 2 103 (.bool false) rfl rfl (by kernel_rfl) (by kernel_rfl) (by kernel_rfl) (fun _ _ _ h => h) (by rfl) (by intro w' hSw; (try dsimp only at hSw); go_simp; (first | done | with_reducible rfl | simpa using hne)) (by assumption) ?_
                    simp only [Act.put, List.setIfInBounds_toArray, List.set_cons_zero, List.set_cons_succ]
                    refine held_take 3 104 (.bool false) rfl rfl (by kernel_rfl) (by kernel_rfl) (by kernel_rfl) (fun _ _ _ h => h) (by rfl) (by intro w' hSw; (try dsimp only at hSw); go_simp; (try (with_reducible rfl))) (by assumption) ?_
                    simp only [Act.put, List.setIfInBounds_toArray, List.set_cons_zero, List.set_cons_succ]
                    refine held_skip 4 105 rfl rfl (by kernel_rfl) (by kernel_rfl) (by kernel_rfl) (fun _ _ _ h => h) (by rfl) (by assumption) ?_
                    simp only [Act.put, List.setIfInBounds_toArray, List.set_cons_zero, List.set_cons_succ]
                    refine held_skip 5 106 rfl rfl (by kernel_rfl) (by kernel_rfl) (by kernel_rfl) (fun _ _ _ h => h) (by rfl) (by assumption) ?_
                    simp only [Act.put, List.setIfInBounds_toArray, List.set_cons_zero, List.set_cons_succ]
                    refine held_skip 6 107 rfl rfl (by kernel_rfl) (by kernel_rfl) (by kernel_rfl) (fun _ _ _ h => h) (by rfl) (by assumption) ?_
                    simp only [Act.put, List.setIfInBounds_toArray, List.set_cons_zero, List.set_cons_succ]
                    refine held_skip 7 108 rfl rfl (by kernel_rfl) (by kernel_rfl) (by kernel_rfl) (fun _ _ _ h => h) (by rfl) (by assumption) ?_
                    simp only [Act.put, List.setIfInBounds_toArray, List.set_cons_zero, List.set_cons_succ]
                    refine held_skip 8 109 rfl rfl (by kernel_rfl) (by kernel_rfl) (by kernel_rfl) (fun _ _ _ h => h) (by rfl) (by assumption) ?_
                    simp only [Act.put, List.setIfInBounds_toArray, List.set_cons_zero, List.set_cons_succ]
                    refine held_take 9 110 (.bool false) rfl rfl (by kernel_rfl) (by kernel_rfl) (by kernel_rfl) (fun _ _ _ h => h) (by rfl) (by intro w' hSw; (try dsimp only at hSw); go_simp; (try (with_reducible rfl))) (by assumption) ?_
                    simp only [Act.put, List.setIfInBounds_toArray, List.set_cons_zero, List.set_cons_succ]
                    refine held_take 10 111 (.bool false) rfl rfl (by kernel_rfl) (by kernel_rfl) (by kernel_rfl) (fun _ _ _ h => h) (by rfl) (by intro w' hSw; (try dsimp only at hSw); go_simp; (try (with_reducible rfl))) (by assumption) ?_
                    simp only [Act.put, List.setIfInBounds_toArray, List.set_cons_zero, List.set_cons_succ]
                    refine held_skip 11 112 rfl rfl (by kernel_rfl) (by kernel_rfl) (by kernel_rfl) (fun _ _ _ h => h) (by rfl) (by assumption) ?_
                    simp only [Act.put, List.setIfInBounds_toArray, List.set_cons_zero, List.set_cons_succ]
                    refine held_skip 12 113 rfl rfl (by kernel_rfl) (by kernel_rfl) (by kernel_rfl) (fun _ _ _ h => h) (by rfl) (by assumption) ?_
                    simp only [Act.put, List.setIfInBounds_toArray, List.set_cons_zero, List.set_cons_succ]
                    refine held_skip 13 114 rfl rfl (by kernel_rfl) (by kernel_rfl) (by kernel_rfl) (fun _ _ _ h => h) (by rfl) (by assumption) ?_
                    simp only [Act.put, List.setIfInBounds_toArray, List.set_cons_zero, List.set_cons_succ]
                    refine held_skip 14 115 rfl rfl (by kernel_rfl) (by kernel_rfl) (by kernel_rfl) (fun _ _ _ h => h) (by rfl) (by assumption) ?_
                    simp only [Act.put, List.setIfInBounds_toArray, List.set_cons_zero, List.set_cons_succ]
                    refine held_skip 15 116 rfl rfl (by kernel_rfl) (by kernel_rfl) (by kernel_rfl) (fun _ _ _ h => h) (by rfl) (by assumption) ?_
                    simp only [Act.put, List.setIfInBounds_toArray, List.set_cons_zero, List.set_cons_succ]
                    refine held_skip 16 117 rfl rfl (by kernel_rfl) (by kernel_rfl) (by kernel_rfl) (fun _ _ _ h => h) (by rfl) (by assumption) ?_
                    simp only [Act.put, List.setIfInBounds_toArray, List.set_cons_zero, List.set_cons_succ]
                    refine held_skip 17 118 rfl rfl (by kernel_rfl) (by kernel_rfl) (by kernel_rfl) (fun _ _ _ h => h) (by rfl) (by assumption) ?_
                    simp only [Act.put, List.setIfInBounds_toArray, List.set_cons_zero, List.set_cons_succ]
                    refine held_skip 18 119 rfl rfl (by kernel_rfl) (by kernel_rfl) (by kernel_rfl) (fun _ _ _ h => h) (by rfl) (by assumption) ?_
                    simp only [Act.put, List.setIfInBounds_toArray, List.set_cons_zero, List.set_cons_succ]
                    refine held_skip 19 120 rfl rfl (by kernel_rfl) (by kernel_rfl) (by kernel_rfl) (fun _ _ _ h => h) (by rfl) (by assumption) ?_
                    simp only [Act.put, List.setIfInBounds_toArray, List.set_cons_zero, List.set_cons_succ]
                    refine held_skip 20 121 rfl rfl (by kernel_rfl) (by kernel_rfl) (by kernel_rfl) (fun _ _ _ h => h) (by rfl) (by assumption) ?_
                    simp only [Act.put, List.setIfInBounds_toArray, List.set_cons_zero, List.set_cons_succ]
                    refine held_skip 21 122 rfl rfl (by kernel_rfl) (by kernel_rfl) (by kernel_rfl) (fun _ _ _ h => h) (by rfl) (by assumption) ?_
                    simp only [Act.put, List.setIfInBounds_toArray, List.set_cons_zero, List.set_cons_succ]
                    refine held_skip 22 123 rfl rfl (by kernel_rfl) (by kernel_rfl) (by kernel_rfl) (fun _ _ _ h => h) (by rfl) (by assumption) ?_
                    simp only [Act.put, List.setIfInBounds_toArray, List.set_cons_zero, List.set_cons_succ]
                    refine held_skip 23 124 rfl rfl (by kernel_rfl) (by kernel_rfl) (by kernel_rfl) (fun _ _ _ h => h) (by rfl) (by assumption) ?_
                    simp only [Act.put, List.setIfInBounds_toArray, List.set_cons_zero, List.set_cons_succ]
                    refine held_skip 24 125 rfl rfl (by kernel_rfl) (by kernel_rfl) (by kernel_rfl) (fun _ _ _ h => h) (by rfl) (by assumption) ?_
                    simp only [Act.put, List.setIfInBounds_toArray, List.set_cons_zero, List.set_cons_succ]
                    refine held_take 25 126 (.bool false) rfl rfl (by kernel_rfl) (by kernel_rfl) (by kernel_rfl) (fun _ _ _ h => h) (by rfl) (by intro w' hSw; (try dsimp only at hSw); go_simp; (try (with_reducible rfl))) (by assumption) ?_
                    simp only [Act.put, List.setIfInBounds_toArray, List.set_cons_zero, List.set_cons_succ]
                    refine wpAnyH_done (by kernel_rfl) ?_ _
                    go_wp2_with fail
                    go_roundw
                    case rel => exact ⟨i + 1, by omega, by go_num, HQ.out, HS.out⟩
                    case measure => simp [intOf]; omega
                  · have hne : ((i : Int) != (j : Int)) = true := by rw [bne_iff_ne]; omega
                    have HIJ := Lib.hid hij
                    clear hij
                    cases hm : mayB x
                    · have HM := Lib.hid hm
                      clear hm HBI
                      go_wp2_with fail
                      refine wp_region_held_drew (S := (fun w' => w'.cell? ⟨b0, off + i * 12, none⟩ = some (.string x.pod.id) ∧ w'.cell? ⟨b0, off + i * 12 + 1, none⟩ = some (.int .i64 x.pod.prio) ∧ w'.cell? ⟨b0, off + i * 12 + 2, none⟩ = some (.bool x.pod.crit) ∧ w'.cell? ⟨b0, off + i * 12 + 3, none⟩ = some (.int .i64 x.pod.q0) ∧ w'.cell? ⟨b0, off + i * 12 + 4, none⟩ = some (.int .i64 x.pod.q1) ∧ w'.cell? ⟨b0, off + i * 12 + 5, none⟩ = some (.int .i64 x.pod.q2) ∧ w'.cell? ⟨b0, off + i * 12 + 6, none⟩ = some (.int .i64 x.pod.l0) ∧ w'.cell? ⟨b0, off + i * 12 + 7, none⟩ = some (.int .i64 x.pod.l1) ∧ w'.cell? ⟨b0, off + i * 12 + 8, none⟩ = some (.int .i64 x.pod.l2) ∧ w'.cell? ⟨b0, off + i * 12 + 9, none⟩ = some (.string x.pod.image) ∧ w'.cell? ⟨b0, off + i * 12 + 10, none⟩ = some (.int .i64 x.pod.size) ∧ w'.cell? ⟨b0, off + i * 12 + 11, none⟩ = some (.int .i64 x.phase) ∧ w'.cell? ⟨b0, off + j * 12, none⟩ = some (.string y.pod.id) ∧ w'.cell? ⟨b0, off + j * 12 + 1, none⟩ = some (.int .i64 y.pod.prio) ∧ w'.cell? ⟨b0, off + j * 12 + 2, none⟩ = some (.bool y.pod.crit) ∧ w'.cell? ⟨b0, off + j * 12 + 3, none⟩ = some (.int .i64 y.pod.q0) ∧ w'.cell? ⟨b0, off + j * 12 + 4, none⟩ = some (.int .i64 y.pod.q1) ∧ w'.cell? ⟨b0, off + j * 12 + 5, none⟩ = some (.int .i64 y.pod.q2) ∧ w'.cell? ⟨b0, off + j * 12 + 6, none⟩ = some (.int .i64 y.pod.l0) ∧ w'.cell? ⟨b0, off + j * 12 + 7, none⟩ = some (.int .i64 y.pod.l1) ∧ w'.cell? ⟨b0, off + j * 12 + 8, none⟩ = some (.int .i64 y.pod.l2) ∧ w'.cell? ⟨b0, off + j * 12 + 9, none⟩ = some (.string y.pod.image) ∧ w'.cell? ⟨b0, off + j * 12 + 10, none⟩ = some (.int .i64 y.pod.size) ∧ w'.cell? ⟨n, 0, none⟩ = some (.int .i64 r.time) ∧ w'.cell? ⟨n, 1, none⟩ = some (.int .i64 V0) ∧ w'.cell? ⟨n, 2, none⟩ = some (.int .i64 V1) ∧ w'.cell? ⟨n, 3, none⟩ = some (.int .i64 V2) ∧ w'.cell? ⟨n, 4, none⟩ = some (.slice AU us.length cU))) (by kernel_rfl) (OT.cells2 HQ.out HS.out HXI.out HYJ.out) (fun hHeld => ?_)
                      refine held_take 0 101 (.int .i64 i) rfl rfl (by kernel_rfl) (by kernel_rfl) (by kernel_rfl) (fun _ _ _ h => h) (by rfl) (by intro w' hSw; (try dsimp only at hSw); go_simp; (try (with_reducible rfl))) (by assumption) ?_
                      simp only [Act.put, List.setIfInBounds_toArray, List.set_cons_zero, List.set_cons_succ]
                      refine held_take 1 102 (.int .i64 j) rfl rfl (by kernel_rfl) (by kernel_rfl) (by kernel_rfl) (fun _ _ _ h => h) (by rfl) (by intro w' hSw; (try dsimp only at hSw); go_simp; (try (with_reducible rfl))) (by assumption) ?_
                      simp only [Act.put, List.setIfInBounds_toArray, List.set_cons_zero, List.set_cons_succ]
                      refine held_take 2 103 (.bool true) rfl rfl (by kernel_rfl) (by kernel_rfl) (by kernel_rfl) (fun _ _ _ h => h) (by rfl) (by intro w' hSw; (try dsimp only at hSw); go_simp; (first | done | with_reducible rfl | simpa using hne)) (by assumption) ?_
                      simp only [Act.put, List.setIfInBounds_toArray, List.set_cons_zero, List.set_cons_succ]
                      refine held_take 3 104 (.bool true) rfl rfl (by kernel_rfl) (by kernel_rfl) (by kernel_rfl) (fun _ _ _ h => h) (by rfl) (by intro w' hSw; (try dsimp only at hSw); go_simp; (try (with_reducible rfl))) (by assumption) ?_
                      simp only [Act.put, List.setIfInBounds_toArray, List.set_cons_zero, List.set_cons_succ]
                      refine held_take 4 105 (.slice (some ⟨b0, off, none⟩) l.length c) rfl rfl (by kernel_rfl) (by kernel_rfl) (by kernel_rfl) (fun _ _ _ h => h) (by rfl) (by intro w' hSw; (try dsimp only at hSw); go_simp; (try (with_reducible rfl))) (by assumption) ?_
                      simp only [Act.put, List.setIfInBounds_toArray, List.set_cons_zero, List.set_cons_succ]
                      refine held_take 5 106 (.int .i64 i) rfl rfl (by kernel_rfl) (by kernel_rfl) (by kernel_rfl) (fun _ _ _ h => h) (by rfl) (by intro w' hSw; (try dsimp only at hSw); go_simp; (try (with_reducible rfl))) (by assumption) ?_
                      simp only [Act.put, List.setIfInBounds_toArray, List.set_cons_zero, List.set_cons_succ]
                      refine held_take 6 107 (.pointer (some ⟨b0, off + i * 12, none⟩)) rfl rfl (by kernel_rfl) (by kernel_rfl) (by kernel_rfl) (fun _ _ _ h => h) (by rfl) (by intro w' hSw; (try dsimp only at hSw); go_simp; (try (with_reducible rfl))) (by assumption) ?_
                      simp only [Act.put, List.setIfInBounds_toArray, List.set_cons_zero, List.set_cons_succ]
                      refine held_take 7 108 (.agg #[.string x.pod.id, .int .i64 x.pod.prio, .bool x.pod.crit, .int .i64 x.pod.q0, .int .i64 x.pod.q1, .int .i64 x.pod.q2, .int .i64 x.pod.l0, .int .i64 x.pod.l1, .int .i64 x.pod.l2, .string x.pod.image, .int .i64 x.pod.size, .int .i64 x.phase]) rfl rfl (by kernel_rfl) (by kernel_rfl) (by kernel_rfl) (fun _ _ _ h => h) (by rfl) (by intro w' hSw; (try dsimp only at hSw); go_simp; (try (with_reducible rfl))) (by assumption) ?_
                      simp only [Act.put, List.setIfInBounds_toArray, List.set_cons_zero, List.set_cons_succ]
                      refine held_call 8 109 rfl rfl (by kernel_rfl) (by rfl) (fun K hK => ?_)
                      go_simp
                      go_at_call 23; with_reducible refine (mayW (x := x) HM.out _).mono ?_; rintro e v1 ⟨rfl, hb⟩; have HQ := Lib.hid (HQ.out.below hb); have HS := Lib.hid (HS.out.below hb); clear hb
                      refine hK _ _ (OT.cells2 HQ.out HS.out HXI.out HYJ.out) ?_
                      have hHeld := OT.cells2 HQ.out HS.out HXI.out HYJ.out
                      clear hK K
                      simp only [Act.put, List.setIfInBounds_toArray, List.set_cons_zero, List.set_cons_succ]
                      refine held_take 9 110 (.bool false) rfl rfl (by kernel_rfl) (by kernel_rfl) (by kernel_rfl) (fun _ _ _ h => h) (by rfl) (by intro w' hSw; (try dsimp only at hSw); go_simp; (try (with_reducible rfl))) (by assumption) ?_
                      simp only [Act.put, List.setIfInBounds_toArray, List.set_cons_zero, List.set_cons_succ]
                      refine held_take 10 111 (.bool false) rfl rfl (by kernel_rfl) (by kernel_rfl) (by kernel_rfl) (fun _ _ _ h => h) (by rfl) (by intro w' hSw; (try dsimp only at hSw); go_simp; (try (with_reducible rfl))) (by assumption) ?_
                      simp only [Act.put, List.setIfInBounds_toArray, List.set_cons_zero, List.set_cons_succ]
                      refine held_skip 11 112 rfl rfl (by kernel_rfl) (by kernel_rfl) (by kernel_rfl) (fun _ _ _ h => h) (by rfl) (by assumption) ?_
                      simp only [Act.put, List.setIfInBounds_toArray, List.set_cons_zero, List.set_cons_succ]
                      refine held_skip 12 113 rfl rfl (by kernel_rfl) (by kernel_rfl) (by kernel_rfl) (fun _ _ _ h => h) (by rfl) (by assumption) ?_
                      simp only [Act.put, List.setIfInBounds_toArray, List.set_cons_zero, List.set_cons_succ]
                      refine held_skip 13 114 rfl rfl (by kernel_rfl) (by kernel_rfl) (by kernel_rfl) (fun _ _ _ h => h) (by rfl) (by assumption) ?_
                      simp only [Act.put, List.setIfInBounds_toArray, List.set_cons_zero, List.set_cons_succ]
                      refine held_skip 14 115 rfl rfl (by kernel_rfl) (by kernel_rfl) (by kernel_rfl) (fun _ _ _ h => h) (by rfl) (by assumption) ?_
                      simp only [Act.put, List.setIfInBounds_toArray, List.set_cons_zero, List.set_cons_succ]
                      refine held_skip 15 116 rfl rfl (by kernel_rfl) (by kernel_rfl) (by kernel_rfl) (fun _ _ _ h => h) (by rfl) (by assumption) ?_
                      simp only [Act.put, List.setIfInBounds_toArray, List.set_cons_zero, List.set_cons_succ]
                      refine held_skip 16 117 rfl rfl (by kernel_rfl) (by kernel_rfl) (by kernel_rfl) (fun _ _ _ h => h) (by rfl) (by assumption) ?_
                      simp only [Act.put, List.setIfInBounds_toArray, List.set_cons_zero, List.set_cons_succ]
                      refine held_skip 17 118 rfl rfl (by kernel_rfl) (by kernel_rfl) (by kernel_rfl) (fun _ _ _ h => h) (by rfl) (by assumption) ?_
                      simp only [Act.put, List.setIfInBounds_toArray, List.set_cons_zero, List.set_cons_succ]
                      refine held_skip 18 119 rfl rfl (by kernel_rfl) (by kernel_rfl) (by kernel_rfl) (fun _ _ _ h => h) (by rfl) (by assumption) ?_
                      simp only [Act.put, List.setIfInBounds_toArray, List.set_cons_zero, List.set_cons_succ]
                      refine held_skip 19 120 rfl rfl (by kernel_rfl) (by kernel_rfl) (by kernel_rfl) (fun _ _ _ h => h) (by rfl) (by assumption) ?_
                      simp only [Act.put, List.setIfInBounds_toArray, List.set_cons_zero, List.set_cons_succ]
                      refine held_skip 20 121 rfl rfl (by kernel_rfl) (by kernel_rfl) (by kernel_rfl) (fun _ _ _ h => h) (by rfl) (by assumption) ?_
                      simp only [Act.put, List.setIfInBounds_toArray, List.set_cons_zero, List.set_cons_succ]
                      refine held_skip 21 122 rfl rfl (by kernel_rfl) (by kernel_rfl) (by kernel_rfl) (fun _ _ _ h => h) (by rfl) (by assumption) ?_
                      simp only [Act.put, List.setIfInBounds_toArray, List.set_cons_zero, List.set_cons_succ]
                      refine held_skip 22 123 rfl rfl (by kernel_rfl) (by kernel_rfl) (by kernel_rfl) (fun _ _ _ h => h) (by rfl) (by assumption) ?_
                      simp only [Act.put, List.setIfInBounds_toArray, List.set_cons_zero, List.set_cons_succ]
                      refine held_skip 23 124 rfl rfl (by kernel_rfl) (by kernel_rfl) (by kernel_rfl) (fun _ _ _ h => h) (by rfl) (by assumption) ?_
                      simp only [Act.put, List.setIfInBounds_toArray, List.set_cons_zero, List.set_cons_succ]
                      refine held_skip 24 125 rfl rfl (by kernel_rfl) (by kernel_rfl) (by kernel_rfl) (fun _ _ _ h => h) (by rfl) (by assumption) ?_
                      simp only [Act.put, List.setIfInBounds_toArray, List.set_cons_zero, List.set_cons_succ]
                      refine held_take 25 126 (.bool false) rfl rfl (by kernel_rfl) (by kernel_rfl) (by kernel_rfl) (fun _ _ _ h => h) (by rfl) (by intro w' hSw; (try dsimp only at hSw); go_simp; (try (with_reducible rfl))) (by assumption) ?_
                      simp only [Act.put, List.setIfInBounds_toArray, List.set_cons_zero, List.set_cons_succ]
                      refine wpAnyH_done (by kernel_rfl) ?_ _
                      go_wp2_with fail
                      go_roundw
                      case rel => exact ⟨i + 1, by omega, by go_num, HQ.out, HS.out⟩
                      case measure => simp [intOf]; omega
                    · have HAH := Lib.hid (HBI.out HIJ.out hm)
                      have HM := Lib.hid hm
                      clear hm HBI
                      go_wp2_with fail
                      refine wp_region_held_drew (S := (fun w' => w'.cell? ⟨b0, off + i * 12, none⟩ = some (.string x.pod.id) ∧ w'.cell? ⟨b0, off + i * 12 + 1, none⟩ = some (.int .i64 x.pod.prio) ∧ w'.cell? ⟨b0, off + i * 12 + 2, none⟩ = some (.bool x.pod.crit) ∧ w'.cell? ⟨b0, off + i * 12 + 3, none⟩ = some (.int .i64 x.pod.q0) ∧ w'.cell? ⟨b0, off + i * 12 + 4, none⟩ = some (.int .i64 x.pod.q1) ∧ w'.cell? ⟨b0, off + i * 12 + 5, none⟩ = some (.int .i64 x.pod.q2) ∧ w'.cell? ⟨b0, off + i * 12 + 6, none⟩ = some (.int .i64 x.pod.l0) ∧ w'.cell? ⟨b0, off + i * 12 + 7, none⟩ = some (.int .i64 x.pod.l1) ∧ w'.cell? ⟨b0, off + i * 12 + 8, none⟩ = some (.int .i64 x.pod.l2) ∧ w'.cell? ⟨b0, off + i * 12 + 9, none⟩ = some (.string x.pod.image) ∧ w'.cell? ⟨b0, off + i * 12 + 10, none⟩ = some (.int .i64 x.pod.size) ∧ w'.cell? ⟨b0, off + i * 12 + 11, none⟩ = some (.int .i64 x.phase) ∧ w'.cell? ⟨b0, off + j * 12, none⟩ = some (.string y.pod.id) ∧ w'.cell? ⟨b0, off + j * 12 + 1, none⟩ = some (.int .i64 y.pod.prio) ∧ w'.cell? ⟨b0, off + j * 12 + 2, none⟩ = some (.bool y.pod.crit) ∧ w'.cell? ⟨b0, off + j * 12 + 3, none⟩ = some (.int .i64 y.pod.q0) ∧ w'.cell? ⟨b0, off + j * 12 + 4, none⟩ = some (.int .i64 y.pod.q1) ∧ w'.cell? ⟨b0, off + j * 12 + 5, none⟩ = some (.int .i64 y.pod.q2) ∧ w'.cell? ⟨b0, off + j * 12 + 6, none⟩ = some (.int .i64 y.pod.l0) ∧ w'.cell? ⟨b0, off + j * 12 + 7, none⟩ = some (.int .i64 y.pod.l1) ∧ w'.cell? ⟨b0, off + j * 12 + 8, none⟩ = some (.int .i64 y.pod.l2) ∧ w'.cell? ⟨b0, off + j * 12 + 9, none⟩ = some (.string y.pod.image) ∧ w'.cell? ⟨b0, off + j * 12 + 10, none⟩ = some (.int .i64 y.pod.size) ∧ w'.cell? ⟨n, 0, none⟩ = some (.int .i64 r.time) ∧ w'.cell? ⟨n, 1, none⟩ = some (.int .i64 V0) ∧ w'.cell? ⟨n, 2, none⟩ = some (.int .i64 V1) ∧ w'.cell? ⟨n, 3, none⟩ = some (.int .i64 V2) ∧ w'.cell? ⟨n, 4, none⟩ = some (.slice AU us.length cU))) (by kernel_rfl) (OT.cells2 HQ.out HS.out HXI.out HYJ.out) (fun hHeld => ?_)
                      refine held_take 0 101 (.int .i64 i) rfl rfl (by kernel_rfl) (by kernel_rfl) (by kernel_rfl) (fun _ _ _ h => h) (by rfl) (by intro w' hSw; (try dsimp only at hSw); go_simp; (try (with_reducible rfl))) (by assumption) ?_
                      simp only [Act.put, List.setIfInBounds_toArray, List.set_cons_zero, List.set_cons_succ]
                      refine held_take 1 102 (.int .i64 j) rfl rfl (by kernel_rfl) (by kernel_rfl) (by kernel_rfl) (fun _ _ _ h => h) (by rfl) (by intro w' hSw; (try dsimp only at hSw); go_simp; (try (with_reducible rfl))) (by assumption) ?_
                      simp only [Act.put, List.setIfInBounds_toArray, List.set_cons_zero, List.set_cons_succ]
                      refine held_take 2 103 (.bool true) rfl rfl (by kernel_rfl) (by kernel_rfl) (by kernel_rfl) (fun _ _ _ h => h) (by rfl) (by intro w' hSw; (try dsimp only at hSw); go_simp; (first | done | with_reducible rfl | simpa using hne)) (by assumption) ?_
                      simp only [Act.put, List.setIfInBounds_toArray, List.set_cons_zero, List.set_cons_succ]
                      refine held_take 3 104 (.bool true) rfl rfl (by kernel_rfl) (by kernel_rfl) (by kernel_rfl) (fun _ _ _ h => h) (by rfl) (by intro w' hSw; (try dsimp only at hSw); go_simp; (try (with_reducible rfl))) (by assumption) ?_
                      simp only [Act.put, List.setIfInBounds_toArray, List.set_cons_zero, List.set_cons_succ]
                      refine held_take 4 105 (.slice (some ⟨b0, off, none⟩) l.length c) rfl rfl (by kernel_rfl) (by kernel_rfl) (by kernel_rfl) (fun _ _ _ h => h) (by rfl) (by intro w' hSw; (try dsimp only at hSw); go_simp; (try (with_reducible rfl))) (by assumption) ?_
                      simp only [Act.put, List.setIfInBounds_toArray, List.set_cons_zero, List.set_cons_succ]
                      refine held_take 5 106 (.int .i64 i) rfl rfl (by kernel_rfl) (by kernel_rfl) (by kernel_rfl) (fun _ _ _ h => h) (by rfl) (by intro w' hSw; (try dsimp only at hSw); go_simp; (try (with_reducible rfl))) (by assumption) ?_
                      simp only [Act.put, List.setIfInBounds_toArray, List.set_cons_zero, List.set_cons_succ]
                      refine held_take 6 107 (.pointer (some ⟨b0, off + i * 12, none⟩)) rfl rfl (by kernel_rfl) (by kernel_rfl) (by kernel_rfl) (fun _ _ _ h => h) (by rfl) (by intro w' hSw; (try dsimp only at hSw); go_simp; (try (with_reducible rfl))) (by assumption) ?_
                      simp only [Act.put, List.setIfInBounds_toArray, List.set_cons_zero, List.set_cons_succ]
                      refine held_take 7 108 (.agg #[.string x.pod.id, .int .i64 x.pod.prio, .bool x.pod.crit, .int .i64 x.pod.q0, .int .i64 x.pod.q1, .int .i64 x.pod.q2, .int .i64 x.pod.l0, .int .i64 x.pod.l1, .int .i64 x.pod.l2, .string x.pod.image, .int .i64 x.pod.size, .int .i64 x.phase]) rfl rfl (by kernel_rfl) (by kernel_rfl) (by kernel_rfl) (fun _ _ _ h => h) (by rfl) (by intro w' hSw; (try dsimp only at hSw); go_simp; (try (with_reducible rfl))) (by assumption) ?_
                      simp only [Act.put, List.setIfInBounds_toArray, List.set_cons_zero, List.set_cons_succ]
                      refine held_call 8 109 rfl rfl (by kernel_rfl) (by rfl) (fun K hK => ?_)
                      go_simp
                      go_at_call 23; with_reducible refine (mayW (x := x) HM.out _).mono ?_; rintro e v1 ⟨rfl, hb⟩; have HQ := Lib.hid (HQ.out.below hb); have HS := Lib.hid (HS.out.below hb); clear hb
                      refine hK _ _ (OT.cells2 HQ.out HS.out HXI.out HYJ.out) ?_
                      have hHeld := OT.cells2 HQ.out HS.out HXI.out HYJ.out
                      clear hK K
                      simp only [Act.put, List.setIfInBounds_toArray, List.set_cons_zero, List.set_cons_succ]
                      refine held_take 9 110 (.bool true) rfl rfl (by kernel_rfl) (by kernel_rfl) (by kernel_rfl) (fun _ _ _ h => h) (by rfl) (by intro w' hSw; (try dsimp only at hSw); go_simp; (try (with_reducible rfl))) (by assumption) ?_
                      simp only [Act.put, List.setIfInBounds_toArray, List.set_cons_zero, List.set_cons_succ]
                      refine held_take 10 111 (.bool true) rfl rfl (by kernel_rfl) (by kernel_rfl) (by kernel_rfl) (fun _ _ _ h => h) (by rfl) (by intro w' hSw; (try dsimp only at hSw); go_simp; (try (with_reducible rfl))) (by assumption) ?_
                      simp only [Act.put, List.setIfInBounds_toArray, List.set_cons_zero, List.set_cons_succ]
                      refine held_take 11 112 (.int .i64 k) rfl rfl (by kernel_rfl) (by kernel_rfl) (by kernel_rfl) (fun _ _ _ h => h) (by rfl) (by intro w' hSw; (try dsimp only at hSw); go_simp; (try (with_reducible rfl))) (by assumption) ?_
                      simp only [Act.put, List.setIfInBounds_toArray, List.set_cons_zero, List.set_cons_succ]
                      refine held_take 12 113 (.slice (some ⟨b0, off, none⟩) l.length c) rfl rfl (by kernel_rfl) (by kernel_rfl) (by kernel_rfl) (fun _ _ _ h => h) (by rfl) (by intro w' hSw; (try dsimp only at hSw); go_simp; (try (with_reducible rfl))) (by assumption) ?_
                      simp only [Act.put, List.setIfInBounds_toArray, List.set_cons_zero, List.set_cons_succ]
                      refine held_take 13 114 (.int .i64 j) rfl rfl (by kernel_rfl) (by kernel_rfl) (by kernel_rfl) (fun _ _ _ h => h) (by rfl) (by intro w' hSw; (try dsimp only at hSw); go_simp; (try (with_reducible rfl))) (by assumption) ?_
                      simp only [Act.put, List.setIfInBounds_toArray, List.set_cons_zero, List.set_cons_succ]
                      refine held_take 14 115 (.pointer (some ⟨b0, off + j * 12, none⟩)) rfl rfl (by kernel_rfl) (by kernel_rfl) (by kernel_rfl) (fun _ _ _ h => h) (by rfl) (by intro w' hSw; (try dsimp only at hSw); go_simp; (try (with_reducible rfl))) (by assumption) ?_
                      simp only [Act.put, List.setIfInBounds_toArray, List.set_cons_zero, List.set_cons_succ]
                      refine held_take 15 116 (.pointer (some ⟨b0, off + j * 12, none⟩)) rfl rfl (by kernel_rfl) (by kernel_rfl) (by kernel_rfl) (fun _ _ _ h => h) (by rfl) (by intro w' hSw; (try dsimp only at hSw); go_simp; (try (with_reducible rfl))) (by assumption) ?_
                      simp only [Act.put, List.setIfInBounds_toArray, List.set_cons_zero, List.set_cons_succ]
                      refine held_take 16 117 (.agg #[.string y.pod.id, .int .i64 y.pod.prio, .bool y.pod.crit, .int .i64 y.pod.q0, .int .i64 y.pod.q1, .int .i64 y.pod.q2, .int .i64 y.pod.l0, .int .i64 y.pod.l1, .int .i64 y.pod.l2, .string y.pod.image, .int .i64 y.pod.size]) rfl rfl (by kernel_rfl) (by kernel_rfl) (by kernel_rfl) (fun _ _ _ h => h) (by rfl) (by intro w' hSw; (try dsimp only at hSw); go_simp; (try (with_reducible rfl))) (by assumption) ?_
                      simp only [Act.put, List.setIfInBounds_toArray, List.set_cons_zero, List.set_cons_succ]
                      refine held_take 17 118 (.slice (some ⟨b0, off, none⟩) l.length c) rfl rfl (by kernel_rfl) (by kernel_rfl) (by kernel_rfl) (fun _ _ _ h => h) (by rfl) (by intro w' hSw; (try dsimp only at hSw); go_simp; (try (with_reducible rfl))) (by assumption) ?_
                      simp only [Act.put, List.setIfInBounds_toArray, List.set_cons_zero, List.set_cons_succ]
                      refine held_take 18 119 (.int .i64 i) rfl rfl (by kernel_rfl) (by kernel_rfl) (by kernel_rfl) (fun _ _ _ h => h) (by rfl) (by intro w' hSw; (try dsimp only at hSw); go_simp; (try (with_reducible rfl))) (by assumption) ?_
                      simp only [Act.put, List.setIfInBounds_toArray, List.set_cons_zero, List.set_cons_succ]
                      refine held_take 19 120 (.pointer (some ⟨b0, off + i * 12, none⟩)) rfl rfl (by kernel_rfl) (by kernel_rfl) (by kernel_rfl) (fun _ _ _ h => h) (by rfl) (by intro w' hSw; (try dsimp only at hSw); go_simp; (try (with_reducible rfl))) (by assumption) ?_
                      simp only [Act.put, List.setIfInBounds_toArray, List.set_cons_zero, List.set_cons_succ]
                      refine held_take 20 121 (.pointer (some ⟨b0, off + i * 12, none⟩)) rfl rfl (by kernel_rfl) (by kernel_rfl) (by kernel_rfl) (fun _ _ _ h => h) (by rfl) (by intro w' hSw; (try dsimp only at hSw); go_simp; (try (with_reducible rfl))) (by assumption) ?_
                      simp only [Act.put, List.setIfInBounds_toArray, List.set_cons_zero, List.set_cons_succ]
                      refine held_take 21 122 (.agg #[.string x.pod.id, .int .i64 x.pod.prio, .bool x.pod.crit, .int .i64 x.pod.q0, .int .i64 x.pod.q1, .int .i64 x.pod.q2, .int .i64 x.pod.l0, .int .i64 x.pod.l1, .int .i64 x.pod.l2, .string x.pod.image, .int .i64 x.pod.size]) rfl rfl (by kernel_rfl) (by kernel_rfl) (by kernel_rfl) (fun _ _ _ h => h) (by rfl) (by intro w' hSw; (try dsimp only at hSw); go_simp; (try (with_reducible rfl))) (by assumption) ?_
                      simp only [Act.put, List.setIfInBounds_toArray, List.set_cons_zero, List.set_cons_succ]
                      refine held_take 22 123 (.agg #[.int .i64 r.time, .int .i64 V0, .int .i64 V1, .int .i64 V2, .slice AU us.length cU]) rfl rfl (by kernel_rfl) (by kernel_rfl) (by kernel_rfl) (fun _ _ _ h => h) (by rfl) (by intro w' hSw; (try dsimp only at hSw); go_simp; (try (with_reducible rfl))) (by assumption) ?_
                      simp only [Act.put, List.setIfInBounds_toArray, List.set_cons_zero, List.set_cons_succ]
                      refine held_call 23 124 rfl rfl (by kernel_rfl) (by rfl) (fun K hK => ?_)
                      go_simp
                      go_at_call 15; with_reducible refine (aheadS (s := (⟨r.time, V0, V1, V2, AU, us, cU⟩ : Sp)) HKK.out HAH.out HS.out HU.out HTY.out HTX.out).mono ?_; rintro e v1 ⟨rfl, hb⟩; have HQ := Lib.hid (HQ.out.below hb); have HS := Lib.hid (HS.out.below hb); clear hb
                      refine hK _ _ (OT.cells2 HQ.out HS.out HXI.out HYJ.out) ?_
                      have hHeld := OT.cells2 HQ.out HS.out HXI.out HYJ.out
                      clear hK K
                      simp only [Act.put, List.setIfInBounds_toArray, List.set_cons_zero, List.set_cons_succ]
                      refine held_take 24 125 (.bool false) rfl rfl (by kernel_rfl) (by kernel_rfl) (by kernel_rfl) (fun _ _ _ h => h) (by rfl) (by intro w' hSw; (try dsimp only at hSw); go_simp; (try (with_reducible rfl))) (by assumption) ?_
                      simp only [Act.put, List.setIfInBounds_toArray, List.set_cons_zero, List.set_cons_succ]
                      refine held_take 25 126 (.bool false) rfl rfl (by kernel_rfl) (by kernel_rfl) (by kernel_rfl) (fun _ _ _ h => h) (by rfl) (by intro w' hSw; (try dsimp only at hSw); go_simp; (try (with_reducible rfl))) (by assumption) ?_
                      simp only [Act.put, List.setIfInBounds_toArray, List.set_cons_zero, List.set_cons_succ]
                      refine wpAnyH_done (by kernel_rfl) ?_ _
                      go_wp2_with fail
                      go_roundw
                      case rel => exact ⟨i + 1, by omega, by go_num, HQ.out, HS.out⟩
                      case measure => simp [intOf]; omega
                · obtain rfl : i = l.length := by omega
                  have dk4 : decide ((l.length : Int) < (l.length : Int)) = false := by simp
                  go_wp2_with fail
                  go_ret
                  exact ⟨rfl, HQd.out.bel⟩
end Go.Proofs.Ytlnpmdchhmbblaa
