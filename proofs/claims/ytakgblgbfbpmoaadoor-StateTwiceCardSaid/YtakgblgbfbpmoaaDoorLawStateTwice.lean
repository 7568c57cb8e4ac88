/- bilgelaw24.StateTwice: an entry that is put in is found; put in again the state is the same; taken out again, what is left is what there was without its Id. -/
import Derived.Test.YtakgblgbfbpmoaaDoorMV
namespace Go.Proofs.YtakgblgbfbpmoaaDoor
open Go.RowKit

structure TcQ (rd : Int) (A : Option Addr) (n c : Nat) (o0 o1 o2 : Bool) (e : En) (w W : World) : Prop where
  sb : Blk W (w.heap.size) 25 #[.int .i64 rd, .slice A n c, .bool o0, .bool o1, .bool o2]
  eb : Blk W (w.heap.size + 1) 46 #[.string e.pod.id, .int .i64 e.pod.prio, .bool e.pod.crit, .int .i64 e.pod.q0, .int .i64 e.pod.q1, .int .i64 e.pod.q2, .int .i64 e.pod.l0, .int .i64 e.pod.l1, .int .i64 e.pod.l2, .string e.pod.image, .int .i64 e.pod.size, .int .i64 e.phase]
  bel : Below w.heap.size w W
theorem TcQ.below {rd : Int} {A : Option Addr} {n c : Nat} {o0 o1 o2 : Bool} {e : En} {w W W' : World} (h : TcQ rd A n c o0 o1 o2 e w W) (hb : Below W.heap.size W W') : TcQ rd A n c o0 o1 o2 e w W' := ⟨h.sb.belowAll hb, h.eb.belowAll hb, h.bel.trans (hb.mono h.bel.size)⟩
theorem TcQ.alloc {rd : Int} {A : Option Addr} {n c : Nat} {o0 o1 o2 : Bool} {e : En} {w W : World} (h : TcQ rd A n c o0 o1 o2 e w W) (o : Obj) : TcQ rd A n c o0 o1 o2 e w (W.alloc o) := ⟨h.sb.alloc o, h.eb.alloc o, h.bel.alloc h.bel.size o⟩
theorem TcQ.drew {rd : Int} {A : Option Addr} {n c : Nat} {o0 o1 o2 : Bool} {e : En} {w W : World} (h : TcQ rd A n c o0 o1 o2 e w W) : TcQ rd A n c o0 o1 o2 e w W.drew := ⟨h.sb.drew, h.eb.drew, h.bel.drew⟩
theorem TcQ.new (rd : Int) (A : Option Addr) (n c : Nat) (o0 o1 o2 : Bool) (e : En) (w : World) : TcQ rd A n c o0 o1 o2 e w ((w.alloc (.cells #[.int .i64 rd, .slice A n c, .bool o0, .bool o1, .bool o2] 25)).alloc (.cells #[.string e.pod.id, .int .i64 e.pod.prio, .bool e.pod.crit, .int .i64 e.pod.q0, .int .i64 e.pod.q1, .int .i64 e.pod.q2, .int .i64 e.pod.l0, .int .i64 e.pod.l1, .int .i64 e.pod.l2, .string e.pod.image, .int .i64 e.pod.size, .int .i64 e.phase] 46)) := by
  have z1 : (w.alloc (.cells #[.int .i64 rd, .slice A n c, .bool o0, .bool o1, .bool o2] 25)).heap.size = w.heap.size + 1 := by simp
  have b0 := Blk.new w 25 #[.int .i64 rd, .slice A n c, .bool o0, .bool o1, .bool o2]
  have b1 := Blk.new (w.alloc (.cells #[.int .i64 rd, .slice A n c, .bool o0, .bool o1, .bool o2] 25)) 46 #[.string e.pod.id, .int .i64 e.pod.prio, .bool e.pod.crit, .int .i64 e.pod.q0, .int .i64 e.pod.q1, .int .i64 e.pod.q2, .int .i64 e.pod.l0, .int .i64 e.pod.l1, .int .i64 e.pod.l2, .string e.pod.image, .int .i64 e.pod.size, .int .i64 e.phase]
  rw [z1] at b1
  have bel : Below w.heap.size w ((w.alloc (.cells #[.int .i64 rd, .slice A n c, .bool o0, .bool o1, .bool o2] 25)).alloc (.cells #[.string e.pod.id, .int .i64 e.pod.prio, .bool e.pod.crit, .int .i64 e.pod.q0, .int .i64 e.pod.q1, .int .i64 e.pod.q2, .int .i64 e.pod.l0, .int .i64 e.pod.l1, .int .i64 e.pod.l2, .string e.pod.image, .int .i64 e.pod.size, .int .i64 e.phase] 46)) := ((Below.refl w.heap.size w).alloc (Nat.le_refl _) _).alloc (by rw [z1]; omega) _
  exact ⟨(b0.alloc _), b1, bel⟩
theorem eqB3 (a b c x y z : Bool) (w : World) : (Op.equalIn 10000 23 (.agg #[.bool a, .bool b, .bool c]) (.agg #[.bool x, .bool y, .bool z])).run Tryd.prog w = .ok ((a == x) && ((b == y) && (c == z))) w := eqB3_d 9998 a b c x y z w
theorem len_was {l : List En} {e : En} (h : isAt l e.pod.id = true) : (withD l e).length = l.length := by unfold withD; rw [if_pos h, List.length_set]
theorem len_new {l : List En} {e : En} (h : isAt l e.pod.id = false) : (withD l e).length = l.length + 1 := by unfold withD; rw [h]; exact insI_len l _ _ (lowerI_le l _)
theorem without_no {l : List En} (hs : SortedN l) {s : ByteArray} : isAt (withoutS l s) s = false := isAt_no fun _ hj _ => withoutS_no hs s _ (List.getElem_mem hj)
theorem dropS_insE {m : List En} {e : En} (hn : ∀ x ∈ m, x.pod.id ≠ e.pod.id) : dropS (insE m e) e.pod.id = m := by
  have hk : ∀ x ∈ m, (!(x.pod.id.toList == e.pod.id.toList)) = true := fun x hx => by
    cases h : (x.pod.id.toList == e.pod.id.toList)
    · rfl
    · exact absurd (toList_inj h) (hn x hx)
  induction m with
  | nil => simp [insE, dropS]
  | cons y m ih =>
    have hy := hk y (by simp)
    have ht := dropS_all (l := m) (s := e.pod.id) fun x hx => hn x (by simp [hx])
    unfold insE
    split
    · have hz : dropS (e :: y :: m) e.pod.id = dropS (y :: m) e.pod.id := List.filter_cons_of_neg (by simp)
      have hz2 : dropS (y :: m) e.pod.id = y :: dropS m e.pod.id := List.filter_cons_of_pos (p := fun x : En => !(x.pod.id.toList == e.pod.id.toList)) hy
      rw [hz, hz2, ht]
    · have hz2 : dropS (y :: insE m e) e.pod.id = y :: dropS (insE m e) e.pod.id := List.filter_cons_of_pos (p := fun x : En => !(x.pod.id.toList == e.pod.id.toList)) hy
      rw [hz2, ih (fun x hx => hn x (by simp [hx])) fun x hx => hk x (by simp [hx])]
theorem twice_plain {l : List En} (hs : SortedN l) (e : En) : lowerI (withD l e) e.pod.id < (withD l e).length ∧ (withD l e)[lowerI (withD l e) e.pod.id]? = some e ∧ isAt (withD l e) e.pod.id = true ∧ withD (withD l e) e = withD l e ∧ withoutS (withD l e) e.pod.id = withoutS l e.pod.id := by
  have hS := withD_sorted hs e
  have hm : e ∈ withD l e := by rw [← insE_with hs e]; exact mem_insE.2 (.inl rfl)
  obtain ⟨t, ht, hte⟩ := List.getElem_of_mem hm
  have h1 : lowerI (withD l e) e.pod.id = t := by have := lower_at hS ht; rwa [hte] at this
  have h2 : isAt (withD l e) e.pod.id = true := by have := isAt_at hS ht; rwa [hte] at this
  have h3 : withoutS (withD l e) e.pod.id = withoutS l e.pod.id := by
    rw [← dropS_sorted hS, ← dropS_sorted hs, ← insE_with hs e]
    exact dropS_insE fun x hx => by
      rw [dropS_sorted hs] at hx
      exact withoutS_no hs _ x hx
  refine ⟨by rw [h1]; exact ht, by rw [h1, List.getElem?_eq_getElem ht, hte], h2, ?_, h3⟩
  have : withD (withD l e) e = (withD l e).set (lowerI (withD l e) e.pod.id) e := by
    generalize withD l e = L at *
    unfold withD
    rw [if_pos h2]
  rw [this, h1]
  refine List.ext_getElem (by rw [List.length_set]) fun i hi hi2 => ?_
  rw [List.getElem_set]
  split
  · rename_i h; subst h; exact hte.symm
  · rfl
set_option maxRecDepth 100000 in
set_option maxHeartbeats 16000000 in
theorem stateTwice_any (rd : Int) (l : List En) (e : En) (A : Option Addr) (c : Nat) (o0 o1 o2 : Bool) (w : World) (hr : Rds w encN A l) (hw : ∀ x ∈ l, x.pod.Wf ∧ I64 x.phase) (hm : l.length ≤ 9223372036854775807) (he : e.pod.Wf) (hep : I64 e.phase) :
    Calls Tryd.prog 8 #[.agg #[.int .i64 rd, .slice A l.length c, .bool o0, .bool o1, .bool o2], .agg #[.string e.pod.id, .int .i64 e.pod.prio, .bool e.pod.crit, .int .i64 e.pod.q0, .int .i64 e.pod.q1, .int .i64 e.pod.q2, .int .i64 e.pod.l0, .int .i64 e.pod.l1, .int .i64 e.pod.l2, .string e.pod.image, .int .i64 e.pod.size, .int .i64 e.phase]] w fun e w' => e = .returned (.bool true) ∧ Below w.heap.size w w' := by
  have mixed : Tryd.prog.follows Departure.mixedOrders = true := by kernel_rfl
  have HQ := Lib.hid (TcQ.new rd A l.length c o0 o1 o2 e w)
  have HR := Lib.hid hr
  have HWE := Lib.hid hw
  have HW := Lib.hid (show ∀ x ∈ l, x.pod.Wf from fun x hx => (hw x hx).1)
  have HE := Lib.hid (And.intro he hep)
  clear he hep
  clear hr hw
  go_enter Tryd.func8, Tryd.ntmps8
  go_wp2_with fail
  refine (awake24_any _).mono ?_; rintro e w1 ⟨rfl, hb⟩
  have HQ := Lib.hid (HQ.out.below hb)
  clear hb
  have cs := HQ.out.sb.cell
  go_wp2_with fail
  obtain ⟨v1, hv1⟩ : ∃ v, fewS l = v := ⟨_, rfl⟩
  have HFW := Lib.hid hv1
  clear hv1
  refine (few24_any HFW.out rd A c o0 o1 o2 _ (HR.out.below HQ.out.bel) hm).mono ?_; rintro e w2 ⟨rfl, hb⟩
  have HQ := Lib.hid (HQ.out.below hb)
  clear hb cs
  cases v1
  · go_wp2_with fail
    refine (awake24_any _).mono ?_; rintro e w9 ⟨rfl, hb⟩
    have HQ := Lib.hid (HQ.out.below hb)
    clear hb
    go_wp2_with fail
    go_ret
    exact ⟨rfl, HQ.out.bel⟩
  have hl70 : l.length ≤ 70 := (fewS_small HFW.out).1
  have cs := HQ.out.sb.cell
  go_wp2_with fail
  by_cases hR : RightS rd l
  rotate_left
  · have HN := Lib.hid hR
    clear hR
    refine (refStRightV_any (v := false) (RightS.iffNo HN.out) A c o0 o1 o2 _ (HR.out.below HQ.out.bel) HW.out hm).mono ?_; rintro e w3 ⟨rfl, hb⟩
    have HQ := Lib.hid (HQ.out.below hb)
    clear hb cs
    go_wp2_with fail
    refine (awake24_any _).mono ?_; rintro e w9 ⟨rfl, hb⟩
    have HQ := Lib.hid (HQ.out.below hb)
    clear hb
    go_wp2_with fail
    go_ret
    exact ⟨rfl, HQ.out.bel⟩
  have HRS := Lib.hid hR
  clear hR
  refine (refStRightV_any (v := true) (RightS.iffYes HRS.out) A c o0 o1 o2 _ (HR.out.below HQ.out.bel) HW.out hm).mono ?_; rintro e w3 ⟨rfl, hb⟩
  have HQ := Lib.hid (HQ.out.below hb)
  have HSO := Lib.hid HRS.out.sorted
  clear hb cs
  have ce := HQ.out.eb.cell
  go_wp2_with fail
  obtain ⟨v2, hv2⟩ : ∃ v, e.pod.small = v := ⟨_, rfl⟩
  have HSM := Lib.hid hv2
  clear hv2
  refine (smallV_any HSM.out _).mono ?_; rintro x w4 ⟨rfl, hb⟩
  have HQ := Lib.hid (HQ.out.below hb)
  clear hb ce
  cases v2
  · go_wp2_with fail
    refine (awake24_any _).mono ?_; rintro e w9 ⟨rfl, hb⟩
    have HQ := Lib.hid (HQ.out.below hb)
    clear hb
    go_wp2_with fail
    go_ret
    exact ⟨rfl, HQ.out.bel⟩
  have ce := HQ.out.eb.cell
  go_wp2_with fail
  obtain ⟨v3, hv3⟩ : ∃ v, e.pod.right = v := ⟨_, rfl⟩
  have HER := Lib.hid hv3
  clear hv3
  refine (rightV_any HER.out _ HE.out.1).mono ?_; rintro x w5 ⟨rfl, hb⟩
  have HQ := Lib.hid (HQ.out.below hb)
  clear hb ce
  cases v3
  · go_wp2_with fail
    refine (awake24_any _).mono ?_; rintro e w9 ⟨rfl, hb⟩
    have HQ := Lib.hid (HQ.out.below hb)
    clear hb
    go_wp2_with fail
    go_ret
    exact ⟨rfl, HQ.out.bel⟩
  have ce := HQ.out.eb.cell
  by_cases hp1 : e.phase < 1
  · have d1 : decide (e.phase < 1) = true := decide_eq_true hp1
    clear hp1
    go_wp2_with fail
    refine (awake24_any _).mono ?_; rintro e w9 ⟨rfl, hb⟩
    have HQ := Lib.hid (HQ.out.below hb)
    clear hb
    go_wp2_with fail
    go_ret
    exact ⟨rfl, HQ.out.bel⟩
  have d1 : decide (e.phase < 1) = false := decide_eq_false hp1
  by_cases hp3 : 3 < e.phase
  · have d3 : decide (3 < e.phase) = true := decide_eq_true hp3
    clear hp1 hp3
    go_wp2_with fail
    refine (awake24_any _).mono ?_; rintro e w9 ⟨rfl, hb⟩
    have HQ := Lib.hid (HQ.out.below hb)
    clear hb
    go_wp2_with fail
    go_ret
    exact ⟨rfl, HQ.out.bel⟩
  have d3 : decide (3 < e.phase) = false := decide_eq_false hp3
  have HRE := Lib.hid (rightE_parts HER.out (by omega) (by omega))
  clear hp1 hp3
  have cs := HQ.out.sb.cell
  have ce := HQ.out.eb.cell
  go_wp2_with fail
  obtain ⟨⟨fi, fv⟩, hfi⟩ : ∃ v, findS l e.pod.id = v := ⟨_, rfl⟩
  refine (find_any hfi rd A c o0 o1 o2 _ (HR.out.below HQ.out.bel) (by omega) HSO.out).mono ?_; rintro x w6 ⟨rfl, hb⟩
  have HQ := Lib.hid (HQ.out.below hb)
  clear hb cs ce
  cases hat : isAt l e.pod.id
  · obtain ⟨rfl, rfl⟩ : (0 : Int) = fi ∧ false = fv := by unfold findS at hfi; rw [hat] at hfi; simpa using hfi
    clear hfi
    by_cases h64 : 64 ≤ l.length
    · have dl : decide ((64 : Int) ≤ (l.length : Int)) = true := decide_eq_true (by omega)
      have dln : decide (64 ≤ l.length) = true := decide_eq_true h64
      clear h64 hat
      have cs := HQ.out.sb.cell
      go_wp2_with fail
      go_ret
      exact ⟨rfl, HQ.out.bel⟩
    · have dl : decide ((64 : Int) ≤ (l.length : Int)) = false := decide_eq_false (by omega)
      have dln : decide (64 ≤ l.length) = false := decide_eq_false h64
      clear h64
      have cs := HQ.out.sb.cell
      have ce := HQ.out.eb.cell
      go_wp2_with fail
      refine (with_any rd l e A c o0 o1 o2 _ (HR.out.below HQ.out.bel) (by omega) HSO.out).mono ?_; rintro x w7 ⟨Aa, ca, rfl, ho, hb⟩
      have HPL := Lib.hid (twice_plain HSO.out e)
      have HWS := Lib.hid (withD_sorted HSO.out e)
      have HLD := Lib.hid (withD_len HSO.out e)
      have HMA := Lib.hid (show ∀ x ∈ withD l e, x.pod.Wf from fun x hx => by
        rcases withD_mem HSO.out hx with rfl | hx
        · exact HE.out.1
        · exact HW.out x hx)
      have HLEN := Lib.hid (show (withD l e).length = l.length + 1 from len_new hat)
      generalize withD l e = LA at *
      have RA := Lib.hid (ho.toRds.alloc (.cells #[.int .i64 rd, .slice Aa LA.length ca, .bool o0, .bool o1, .bool o2] 25))
      have HA := Lib.hid (Blk.new w7 25 #[.int .i64 rd, .slice Aa LA.length ca, .bool o0, .bool o1, .bool o2])
      have HQ := Lib.hid (HQ.out.below hb)
      have HQ := Lib.hid (HQ.out.alloc (.cells #[.int .i64 rd, .slice Aa LA.length ca, .bool o0, .bool o1, .bool o2] 25))
      clear ho hb cs ce
      obtain ⟨li, hli⟩ : ∃ i, lowerI LA e.pod.id = i := ⟨_, rfl⟩
      have HLI := Lib.hid (show li < LA.length by have := HPL.out.1; rw [hli] at this; exact this)
      have HAT := Lib.hid (show LA[li]? = some e by have := HPL.out.2.1; rw [hli] at this; exact this)
      have HFA := Lib.hid (show findS LA e.pod.id = ((li : Int), true) by unfold findS; rw [if_pos HPL.out.2.2.1, hli])
      obtain ⟨ba, oa, hA, _⟩ := RA.out.en HLI.out
      obtain rfl : Aa = some ⟨ba, oa, none⟩ := hA
      clear hli
      have cax := HA.out.cell
      have ce := HQ.out.eb.cell
      go_wp2_with fail
      refine (find_any HFA.out rd (some ⟨ba, oa, none⟩) ca o0 o1 o2 _ RA.out (by have := HLD.out; omega) HWS.out).mono ?_; rintro x w8 ⟨rfl, hb⟩
      have HQ := Lib.hid (HQ.out.below hb)
      have HA := Lib.hid (HA.out.belowAll hb)
      have RA := Lib.hid (RA.out.below hb)
      clear hb cax ce
      have dli : (li : Int) < (LA.length : Int) := by have := HLI.out; omega
      have dln2 : ¬ LA.length ≤ li := by have := HLI.out; omega
      go_wp2_with fail
      have HQ := Lib.hid HQ.out.drew
      have HA := Lib.hid HA.out.drew
      have RA := Lib.hid RA.out.drew
      obtain ⟨z0, z1, z2, z3, z4, z5, z6, z7, z8, z9, z10, z11⟩ := RA.out.enAt (Below.refl _ _) HAT.out
      refine wp_region_held_drew (S := (fun w' => w'.cell? ⟨w7.heap.size, 0, none⟩ = some (.int .i64 rd) ∧ w'.cell? ⟨w7.heap.size, 1, none⟩ = some (.slice (some ⟨ba, oa, none⟩) LA.length ca) ∧ w'.cell? ⟨w7.heap.size, 2, none⟩ = some (.bool o0) ∧ w'.cell? ⟨w7.heap.size, 3, none⟩ = some (.bool o1) ∧ w'.cell? ⟨w7.heap.size, 4, none⟩ = some (.bool o2) ∧ w'.cell? ⟨w.heap.size, 0, none⟩ = some (.int .i64 rd) ∧ w'.cell? ⟨w.heap.size, 1, none⟩ = some (.slice A l.length c) ∧ w'.cell? ⟨w.heap.size, 2, none⟩ = some (.bool o0) ∧ w'.cell? ⟨w.heap.size, 3, none⟩ = some (.bool o1) ∧ w'.cell? ⟨w.heap.size, 4, none⟩ = some (.bool o2) ∧ w'.cell? ⟨w.heap.size + 1, 0, none⟩ = some (.string e.pod.id) ∧ w'.cell? ⟨w.heap.size + 1, 1, none⟩ = some (.int .i64 e.pod.prio) ∧ w'.cell? ⟨w.heap.size + 1, 2, none⟩ = some (.bool e.pod.crit) ∧ w'.cell? ⟨w.heap.size + 1, 3, none⟩ = some (.int .i64 e.pod.q0) ∧ w'.cell? ⟨w.heap.size + 1, 4, none⟩ = some (.int .i64 e.pod.q1) ∧ w'.cell? ⟨w.heap.size + 1, 5, none⟩ = some (.int .i64 e.pod.q2) ∧ w'.cell? ⟨w.heap.size + 1, 6, none⟩ = some (.int .i64 e.pod.l0) ∧ w'.cell? ⟨w.heap.size + 1, 7, none⟩ = some (.int .i64 e.pod.l1) ∧ w'.cell? ⟨w.heap.size + 1, 8, none⟩ = some (.int .i64 e.pod.l2) ∧ w'.cell? ⟨w.heap.size + 1, 9, none⟩ = some (.string e.pod.image) ∧ w'.cell? ⟨w.heap.size + 1, 10, none⟩ = some (.int .i64 e.pod.size) ∧ w'.cell? ⟨w.heap.size + 1, 11, none⟩ = some (.int .i64 e.phase) ∧ w'.cell? ⟨ba, oa + li * 12, none⟩ = some (.string e.pod.id) ∧ w'.cell? ⟨ba, oa + li * 12 + 1, none⟩ = some (.int .i64 e.pod.prio) ∧ w'.cell? ⟨ba, oa + li * 12 + 2, none⟩ = some (.bool e.pod.crit) ∧ w'.cell? ⟨ba, oa + li * 12 + 3, none⟩ = some (.int .i64 e.pod.q0) ∧ w'.cell? ⟨ba, oa + li * 12 + 4, none⟩ = some (.int .i64 e.pod.q1) ∧ w'.cell? ⟨ba, oa + li * 12 + 5, none⟩ = some (.int .i64 e.pod.q2) ∧ w'.cell? ⟨ba, oa + li * 12 + 6, none⟩ = some (.int .i64 e.pod.l0) ∧ w'.cell? ⟨ba, oa + li * 12 + 7, none⟩ = some (.int .i64 e.pod.l1) ∧ w'.cell? ⟨ba, oa + li * 12 + 8, none⟩ = some (.int .i64 e.pod.l2) ∧ w'.cell? ⟨ba, oa + li * 12 + 9, none⟩ = some (.string e.pod.image) ∧ w'.cell? ⟨ba, oa + li * 12 + 10, none⟩ = some (.int .i64 e.pod.size) ∧ w'.cell? ⟨ba, oa + li * 12 + 11, none⟩ = some (.int .i64 e.phase))) (by kernel_rfl) (⟨HA.out.cell 0, HA.out.cell 1, HA.out.cell 2, HA.out.cell 3, HA.out.cell 4, HQ.out.sb.cell 0, HQ.out.sb.cell 1, HQ.out.sb.cell 2, HQ.out.sb.cell 3, HQ.out.sb.cell 4, HQ.out.eb.cell 0, HQ.out.eb.cell 1, HQ.out.eb.cell 2, HQ.out.eb.cell 3, HQ.out.eb.cell 4, HQ.out.eb.cell 5, HQ.out.eb.cell 6, HQ.out.eb.cell 7, HQ.out.eb.cell 8, HQ.out.eb.cell 9, HQ.out.eb.cell 10, HQ.out.eb.cell 11, z0, z1, z2, z3, z4, z5, z6, z7, z8, z9, z10, z11⟩) (fun hHeld => ?_)
      clear z0 z1 z2 z3 z4 z5 z6 z7 z8 z9 z10 z11
      refine held_take 0 75 (.bool true) rfl rfl (by kernel_rfl) (by kernel_rfl) (by kernel_rfl) (fun _ _ _ h => h) (by rfl) (by intro w' hSw; (try dsimp only at hSw); go_simp; (try (with_reducible rfl))) (by assumption) ?_
      simp only [Act.put, List.setIfInBounds_toArray, List.set_cons_zero, List.set_cons_succ]
      refine held_take 1 76 (.bool false) rfl rfl (by kernel_rfl) (by kernel_rfl) (by kernel_rfl) (fun _ _ _ h => h) (by rfl) (by intro w' hSw; (try dsimp only at hSw); go_simp; (try (with_reducible rfl))) (by assumption) ?_
      simp only [Act.put, List.setIfInBounds_toArray, List.set_cons_zero, List.set_cons_succ]
      refine held_take 2 77 (.bool false) rfl rfl (by kernel_rfl) (by kernel_rfl) (by kernel_rfl) (fun _ _ _ h => h) (by rfl) (by intro w' hSw; (try dsimp only at hSw); go_simp; (try (with_reducible rfl))) (by assumption) ?_
      simp only [Act.put, List.setIfInBounds_toArray, List.set_cons_zero, List.set_cons_succ]
      refine held_take 3 78 (.int .i64 li) rfl rfl (by kernel_rfl) (by kernel_rfl) (by kernel_rfl) (fun _ _ _ h => h) (by rfl) (by intro w' hSw; (try dsimp only at hSw); go_simp; (try (with_reducible rfl))) (by assumption) ?_
      simp only [Act.put, List.setIfInBounds_toArray, List.set_cons_zero, List.set_cons_succ]
      refine held_take 4 79 (.pointer (some ⟨w7.heap.size, 1, none⟩)) rfl rfl (by kernel_rfl) (by kernel_rfl) (by kernel_rfl) (fun _ _ _ h => h) (by rfl) (by intro w' hSw; (try dsimp only at hSw); go_simp; (try (with_reducible rfl))) (by assumption) ?_
      simp only [Act.put, List.setIfInBounds_toArray, List.set_cons_zero, List.set_cons_succ]
      refine held_take 5 80 (.slice (some ⟨ba, oa, none⟩) LA.length ca) rfl rfl (by kernel_rfl) (by kernel_rfl) (by kernel_rfl) (fun _ _ _ h => h) (by rfl) (by intro w' hSw; (try dsimp only at hSw); go_simp; (try (with_reducible rfl))) (by assumption) ?_
      simp only [Act.put, List.setIfInBounds_toArray, List.set_cons_zero, List.set_cons_succ]
      refine held_take 6 81 (.int .i64 LA.length) rfl rfl (by kernel_rfl) (by kernel_rfl) (by kernel_rfl) (fun _ _ _ h => h) (by rfl) (by intro w' hSw; (try dsimp only at hSw); go_simp; (try (with_reducible rfl))) (by assumption) ?_
      simp only [Act.put, List.setIfInBounds_toArray, List.set_cons_zero, List.set_cons_succ]
      refine held_take 7 82 (.bool false) rfl rfl (by kernel_rfl) (by kernel_rfl) (by kernel_rfl) (fun _ _ _ h => h) (by rfl) (by intro w' hSw; (try dsimp only at hSw); go_simp; (first | done | with_reducible rfl | (first | done | with_reducible rfl | (have h1 := HLEN.out; have h2 := HLI.out; first | omega | (simp; omega) | (rw [IntKind.wrap_i64]; omega))))) (by assumption) ?_
      simp only [Act.put, List.setIfInBounds_toArray, List.set_cons_zero, List.set_cons_succ]
      refine held_take 8 83 (.bool false) rfl rfl (by kernel_rfl) (by kernel_rfl) (by kernel_rfl) (fun _ _ _ h => h) (by rfl) (by intro w' hSw; (try dsimp only at hSw); go_simp; (try (with_reducible rfl))) (by assumption) ?_
      simp only [Act.put, List.setIfInBounds_toArray, List.set_cons_zero, List.set_cons_succ]
      refine held_take 9 84 (.bool false) rfl rfl (by kernel_rfl) (by kernel_rfl) (by kernel_rfl) (fun _ _ _ h => h) (by rfl) (by intro w' hSw; (try dsimp only at hSw); go_simp; (try (with_reducible rfl))) (by assumption) ?_
      simp only [Act.put, List.setIfInBounds_toArray, List.set_cons_zero, List.set_cons_succ]
      refine held_take 10 85 (.pointer (some ⟨w7.heap.size, 1, none⟩)) rfl rfl (by kernel_rfl) (by kernel_rfl) (by kernel_rfl) (fun _ _ _ h => h) (by rfl) (by intro w' hSw; (try dsimp only at hSw); go_simp; (try (with_reducible rfl))) (by assumption) ?_
      simp only [Act.put, List.setIfInBounds_toArray, List.set_cons_zero, List.set_cons_succ]
      refine held_take 11 86 (.slice (some ⟨ba, oa, none⟩) LA.length ca) rfl rfl (by kernel_rfl) (by kernel_rfl) (by kernel_rfl) (fun _ _ _ h => h) (by rfl) (by intro w' hSw; (try dsimp only at hSw); go_simp; (try (with_reducible rfl))) (by assumption) ?_
      simp only [Act.put, List.setIfInBounds_toArray, List.set_cons_zero, List.set_cons_succ]
      refine held_take 12 87 (.int .i64 li) rfl rfl (by kernel_rfl) (by kernel_rfl) (by kernel_rfl) (fun _ _ _ h => h) (by rfl) (by intro w' hSw; (try dsimp only at hSw); go_simp; (try (with_reducible rfl))) (by assumption) ?_
      simp only [Act.put, List.setIfInBounds_toArray, List.set_cons_zero, List.set_cons_succ]
      refine held_take 13 88 (.pointer (some ⟨ba, oa + li * 12, none⟩)) rfl rfl (by kernel_rfl) (by kernel_rfl) (by kernel_rfl) (fun _ _ _ h => h) (by rfl) (by intro w' hSw; (try dsimp only at hSw); go_simp; (try (with_reducible rfl))) (by assumption) ?_
      simp only [Act.put, List.setIfInBounds_toArray, List.set_cons_zero, List.set_cons_succ]
      refine held_take 14 89 (.agg #[.string e.pod.id, .int .i64 e.pod.prio, .bool e.pod.crit, .int .i64 e.pod.q0, .int .i64 e.pod.q1, .int .i64 e.pod.q2, .int .i64 e.pod.l0, .int .i64 e.pod.l1, .int .i64 e.pod.l2, .string e.pod.image, .int .i64 e.pod.size, .int .i64 e.phase]) rfl rfl (by kernel_rfl) (by kernel_rfl) (by kernel_rfl) (fun _ _ _ h => h) (by rfl) (by intro w' hSw; (try dsimp only at hSw); go_simp; (try (with_reducible rfl))) (by assumption) ?_
      simp only [Act.put, List.setIfInBounds_toArray, List.set_cons_zero, List.set_cons_succ]
      refine held_take 15 90 (.agg #[.string e.pod.id, .int .i64 e.pod.prio, .bool e.pod.crit, .int .i64 e.pod.q0, .int .i64 e.pod.q1, .int .i64 e.pod.q2, .int .i64 e.pod.l0, .int .i64 e.pod.l1, .int .i64 e.pod.l2, .string e.pod.image, .int .i64 e.pod.size, .int .i64 e.phase]) rfl rfl (by kernel_rfl) (by kernel_rfl) (by kernel_rfl) (fun _ _ _ h => h) (by rfl) (by intro w' hSw; (try dsimp only at hSw); go_simp; (try (with_reducible rfl))) (by assumption) ?_
      simp only [Act.put, List.setIfInBounds_toArray, List.set_cons_zero, List.set_cons_succ]
      refine held_take 16 91 (.bool false) rfl rfl (by kernel_rfl) (by kernel_rfl) (by kernel_rfl) (fun _ _ _ h => h) (by rfl) (by intro w' hSw; (try dsimp only at hSw); go_simp; (first | done | with_reducible rfl | (simp [eq3]; done))) (by assumption) ?_
      simp only [Act.put, List.setIfInBounds_toArray, List.set_cons_zero, List.set_cons_succ]
      refine held_take 17 92 (.bool false) rfl rfl (by kernel_rfl) (by kernel_rfl) (by kernel_rfl) (fun _ _ _ h => h) (by rfl) (by intro w' hSw; (try dsimp only at hSw); go_simp; (try (with_reducible rfl))) (by assumption) ?_
      simp only [Act.put, List.setIfInBounds_toArray, List.set_cons_zero, List.set_cons_succ]
      refine held_take 18 93 (.bool false) rfl rfl (by kernel_rfl) (by kernel_rfl) (by kernel_rfl) (fun _ _ _ h => h) (by rfl) (by intro w' hSw; (try dsimp only at hSw); go_simp; (try (with_reducible rfl))) (by assumption) ?_
      simp only [Act.put, List.setIfInBounds_toArray, List.set_cons_zero, List.set_cons_succ]
      refine held_take 19 94 (.bool false) rfl rfl (by kernel_rfl) (by kernel_rfl) (by kernel_rfl) (fun _ _ _ h => h) (by rfl) (by intro w' hSw; (try dsimp only at hSw); go_simp; (try (with_reducible rfl))) (by assumption) ?_
      simp only [Act.put, List.setIfInBounds_toArray, List.set_cons_zero, List.set_cons_succ]
      refine held_take 20 95 (.pointer (some ⟨w7.heap.size, 1, none⟩)) rfl rfl (by kernel_rfl) (by kernel_rfl) (by kernel_rfl) (fun _ _ _ h => h) (by rfl) (by intro w' hSw; (try dsimp only at hSw); go_simp; (try (with_reducible rfl))) (by assumption) ?_
      simp only [Act.put, List.setIfInBounds_toArray, List.set_cons_zero, List.set_cons_succ]
      refine held_take 21 96 (.slice (some ⟨ba, oa, none⟩) LA.length ca) rfl rfl (by kernel_rfl) (by kernel_rfl) (by kernel_rfl) (fun _ _ _ h => h) (by rfl) (by intro w' hSw; (try dsimp only at hSw); go_simp; (try (with_reducible rfl))) (by assumption) ?_
      simp only [Act.put, List.setIfInBounds_toArray, List.set_cons_zero, List.set_cons_succ]
      refine held_take 22 97 (.int .i64 LA.length) rfl rfl (by kernel_rfl) (by kernel_rfl) (by kernel_rfl) (fun _ _ _ h => h) (by rfl) (by intro w' hSw; (try dsimp only at hSw); go_simp; (try (with_reducible rfl))) (by assumption) ?_
      simp only [Act.put, List.setIfInBounds_toArray, List.set_cons_zero, List.set_cons_succ]
      refine held_take 23 98 (.pointer (some ⟨w.heap.size, 1, none⟩)) rfl rfl (by kernel_rfl) (by kernel_rfl) (by kernel_rfl) (fun _ _ _ h => h) (by rfl) (by intro w' hSw; (try dsimp only at hSw); go_simp; (try (with_reducible rfl))) (by assumption) ?_
      simp only [Act.put, List.setIfInBounds_toArray, List.set_cons_zero, List.set_cons_succ]
      refine held_take 24 99 (.slice A l.length c) rfl rfl (by kernel_rfl) (by kernel_rfl) (by kernel_rfl) (fun _ _ _ h => h) (by rfl) (by intro w' hSw; (try dsimp only at hSw); go_simp; (try (with_reducible rfl))) (by assumption) ?_
      simp only [Act.put, List.setIfInBounds_toArray, List.set_cons_zero, List.set_cons_succ]
      refine held_take 25 100 (.int .i64 l.length) rfl rfl (by kernel_rfl) (by kernel_rfl) (by kernel_rfl) (fun _ _ _ h => h) (by rfl) (by intro w' hSw; (try dsimp only at hSw); go_simp; (try (with_reducible rfl))) (by assumption) ?_
      simp only [Act.put, List.setIfInBounds_toArray, List.set_cons_zero, List.set_cons_succ]
      refine held_take 26 101 (.bool false) rfl rfl (by kernel_rfl) (by kernel_rfl) (by kernel_rfl) (fun _ _ _ h => h) (by rfl) (by intro w' hSw; (try dsimp only at hSw); go_simp; (first | done | with_reducible rfl | (have h1 := HLEN.out; first | omega | (simp; done) | (simp; omega)))) (by assumption) ?_
      simp only [Act.put, List.setIfInBounds_toArray, List.set_cons_zero, List.set_cons_succ]
      refine held_take 27 102 (.bool false) rfl rfl (by kernel_rfl) (by kernel_rfl) (by kernel_rfl) (fun _ _ _ h => h) (by rfl) (by intro w' hSw; (try dsimp only at hSw); go_simp; (try (with_reducible rfl))) (by assumption) ?_
      simp only [Act.put, List.setIfInBounds_toArray, List.set_cons_zero, List.set_cons_succ]
      refine held_take 28 103 (.bool false) rfl rfl (by kernel_rfl) (by kernel_rfl) (by kernel_rfl) (fun _ _ _ h => h) (by rfl) (by intro w' hSw; (try dsimp only at hSw); go_simp; (try (with_reducible rfl))) (by assumption) ?_
      simp only [Act.put, List.setIfInBounds_toArray, List.set_cons_zero, List.set_cons_succ]
      refine held_take 29 104 (.bool false) rfl rfl (by kernel_rfl) (by kernel_rfl) (by kernel_rfl) (fun _ _ _ h => h) (by rfl) (by intro w' hSw; (try dsimp only at hSw); go_simp; (try (with_reducible rfl))) (by assumption) ?_
      simp only [Act.put, List.setIfInBounds_toArray, List.set_cons_zero, List.set_cons_succ]
      refine held_take 30 105 (.bool false) rfl rfl (by kernel_rfl) (by kernel_rfl) (by kernel_rfl) (fun _ _ _ h => h) (by rfl) (by intro w' hSw; (try dsimp only at hSw); go_simp; (try (with_reducible rfl))) (by assumption) ?_
      simp only [Act.put, List.setIfInBounds_toArray, List.set_cons_zero, List.set_cons_succ]
      refine held_take 31 106 (.bool true) rfl rfl (by kernel_rfl) (by kernel_rfl) (by kernel_rfl) (fun _ _ _ h => h) (by rfl) (by intro w' hSw; (try dsimp only at hSw); go_simp; (try (with_reducible rfl))) (by assumption) ?_
      simp only [Act.put, List.setIfInBounds_toArray, List.set_cons_zero, List.set_cons_succ]
      refine held_take 32 107 (.bool true) rfl rfl (by kernel_rfl) (by kernel_rfl) (by kernel_rfl) (fun _ _ _ h => h) (by rfl) (by intro w' hSw; (try dsimp only at hSw); go_simp; (try (with_reducible rfl))) (by assumption) ?_
      simp only [Act.put, List.setIfInBounds_toArray, List.set_cons_zero, List.set_cons_succ]
      refine held_take 33 108 (.pointer (some ⟨w7.heap.size, 1, none⟩)) rfl rfl (by kernel_rfl) (by kernel_rfl) (by kernel_rfl) (fun _ _ _ h => h) (by rfl) (by intro w' hSw; (try dsimp only at hSw); go_simp; (try (with_reducible rfl))) (by assumption) ?_
      simp only [Act.put, List.setIfInBounds_toArray, List.set_cons_zero, List.set_cons_succ]
      refine held_take 34 109 (.slice (some ⟨ba, oa, none⟩) LA.length ca) rfl rfl (by kernel_rfl) (by kernel_rfl) (by kernel_rfl) (fun _ _ _ h => h) (by rfl) (by intro w' hSw; (try dsimp only at hSw); go_simp; (try (with_reducible rfl))) (by assumption) ?_
      simp only [Act.put, List.setIfInBounds_toArray, List.set_cons_zero, List.set_cons_succ]
      refine held_take 35 110 (.int .i64 LA.length) rfl rfl (by kernel_rfl) (by kernel_rfl) (by kernel_rfl) (fun _ _ _ h => h) (by rfl) (by intro w' hSw; (try dsimp only at hSw); go_simp; (try (with_reducible rfl))) (by assumption) ?_
      simp only [Act.put, List.setIfInBounds_toArray, List.set_cons_zero, List.set_cons_succ]
      refine held_take 36 111 (.pointer (some ⟨w.heap.size, 1, none⟩)) rfl rfl (by kernel_rfl) (by kernel_rfl) (by kernel_rfl) (fun _ _ _ h => h) (by rfl) (by intro w' hSw; (try dsimp only at hSw); go_simp; (try (with_reducible rfl))) (by assumption) ?_
      simp only [Act.put, List.setIfInBounds_toArray, List.set_cons_zero, List.set_cons_succ]
      refine held_take 37 112 (.slice A l.length c) rfl rfl (by kernel_rfl) (by kernel_rfl) (by kernel_rfl) (fun _ _ _ h => h) (by rfl) (by intro w' hSw; (try dsimp only at hSw); go_simp; (try (with_reducible rfl))) (by assumption) ?_
      simp only [Act.put, List.setIfInBounds_toArray, List.set_cons_zero, List.set_cons_succ]
      refine held_take 38 113 (.int .i64 l.length) rfl rfl (by kernel_rfl) (by kernel_rfl) (by kernel_rfl) (fun _ _ _ h => h) (by rfl) (by intro w' hSw; (try dsimp only at hSw); go_simp; (try (with_reducible rfl))) (by assumption) ?_
      simp only [Act.put, List.setIfInBounds_toArray, List.set_cons_zero, List.set_cons_succ]
      refine held_take 39 114 (.int .i64 LA.length) rfl rfl (by kernel_rfl) (by kernel_rfl) (by kernel_rfl) (fun _ _ _ h => h) (by rfl) (by intro w' hSw; (try dsimp only at hSw); go_simp; (first | done | with_reducible rfl | (have h1 := HLEN.out; first | (rw [IntKind.wrap_i64]; omega) | (simp; omega) | omega))) (by assumption) ?_
      simp only [Act.put, List.setIfInBounds_toArray, List.set_cons_zero, List.set_cons_succ]
      refine held_take 40 115 (.bool false) rfl rfl (by kernel_rfl) (by kernel_rfl) (by kernel_rfl) (fun _ _ _ h => h) (by rfl) (by intro w' hSw; (try dsimp only at hSw); go_simp; (try (with_reducible rfl))) (by assumption) ?_
      simp only [Act.put, List.setIfInBounds_toArray, List.set_cons_zero, List.set_cons_succ]
      refine held_take 41 116 (.bool false) rfl rfl (by kernel_rfl) (by kernel_rfl) (by kernel_rfl) (fun _ _ _ h => h) (by rfl) (by intro w' hSw; (try dsimp only at hSw); go_simp; (try (with_reducible rfl))) (by assumption) ?_
      simp only [Act.put, List.setIfInBounds_toArray, List.set_cons_zero, List.set_cons_succ]
      refine held_take 42 117 (.bool false) rfl rfl (by kernel_rfl) (by kernel_rfl) (by kernel_rfl) (fun _ _ _ h => h) (by rfl) (by intro w' hSw; (try dsimp only at hSw); go_simp; (try (with_reducible rfl))) (by assumption) ?_
      simp only [Act.put, List.setIfInBounds_toArray, List.set_cons_zero, List.set_cons_succ]
      refine wpAnyH_done (by kernel_rfl) ?_ _
      clear hHeld
      clear dli dln2
      have cax := HA.out.cell
      have ce := HQ.out.eb.cell
      go_wp2_with fail
      refine (without_any rd LA e.pod.id (some ⟨ba, oa, none⟩) ca o0 o1 o2 _ RA.out (by have := HLD.out; omega) HWS.out).mono ?_; rintro x w9 ⟨Ab, cb, rfl, ho, hb⟩
      rw [HPL.out.2.2.2.2] at ho ⊢
      have HWB := Lib.hid (withoutS_sorted HSO.out e.pod.id)
      have HLB := Lib.hid (withoutS_len HSO.out e.pod.id)
      have HFB := Lib.hid (show findS (withoutS l e.pod.id) e.pod.id = (0, false) by unfold findS; rw [without_no HSO.out]; rfl)
      have HWW := Lib.hid (show ∀ A c w, Rds w encN A LA → Calls Tryd.prog 23 #[.agg #[.int .i64 rd, .slice A LA.length c, .bool o0, .bool o1, .bool o2], .agg #[.string e.pod.id, .int .i64 e.pod.prio, .bool e.pod.crit, .int .i64 e.pod.q0, .int .i64 e.pod.q1, .int .i64 e.pod.q2, .int .i64 e.pod.l0, .int .i64 e.pod.l1, .int .i64 e.pod.l2, .string e.pod.image, .int .i64 e.pod.size, .int .i64 e.phase]] w (GivesSt rd o0 o1 o2 LA w) from fun A c w h => by
        have q := with_any rd LA e A c o0 o1 o2 w h (by have := HLD.out; omega) HWS.out
        rw [HPL.out.2.2.2.1] at q; exact q)
      have HXX := Lib.hid (show ∀ A c w, Rds w encN A l → Calls Tryd.prog 24 #[.agg #[.int .i64 rd, .slice A l.length c, .bool o0, .bool o1, .bool o2], .string e.pod.id] w (GivesSt rd o0 o1 o2 (withoutS l e.pod.id) w) from fun A c w h => without_any rd l e.pod.id A c o0 o1 o2 w h (by omega) HSO.out)
      have HBE := Lib.hid (show withoutS l e.pod.id = l by unfold withoutS; rw [hat]; rfl)
      generalize withoutS l e.pod.id = LB at *
      have RB := Lib.hid (ho.toRds.alloc (.cells #[.int .i64 rd, .slice Ab LB.length cb, .bool o0, .bool o1, .bool o2] 25))
      have HBx := Lib.hid (Blk.new w9 25 #[.int .i64 rd, .slice Ab LB.length cb, .bool o0, .bool o1, .bool o2])
      have HQ := Lib.hid (HQ.out.below hb)
      have HA := Lib.hid (HA.out.belowAll hb)
      have RA := Lib.hid (RA.out.below hb)
      have HQ := Lib.hid (HQ.out.alloc (.cells #[.int .i64 rd, .slice Ab LB.length cb, .bool o0, .bool o1, .bool o2] 25))
      have HA := Lib.hid (HA.out.alloc (.cells #[.int .i64 rd, .slice Ab LB.length cb, .bool o0, .bool o1, .bool o2] 25))
      have RA := Lib.hid (RA.out.alloc (.cells #[.int .i64 rd, .slice Ab LB.length cb, .bool o0, .bool o1, .bool o2] 25))
      clear ho hb cax ce
      have HBL := Lib.hid (show l.length = LB.length by rw [HBE.out])
      have HBL2 := Lib.hid (show ∀ w, Rds w encN A l → Rds w encN A LB from fun w h => by rw [HBE.out]; exact h)
      clear HBE
      have HLEN2 := Lib.hid HLD.out
      have cbx := HBx.out.cell
      have ce := HQ.out.eb.cell
      go_wp2_with fail
      refine (find_any HFB.out rd Ab cb o0 o1 o2 _ RB.out (by have := HLB.out; omega) HWB.out).mono ?_; rintro x wa ⟨rfl, hb⟩
      have HQ := Lib.hid (HQ.out.below hb)
      have HA := Lib.hid (HA.out.belowAll hb)
      have RA := Lib.hid (RA.out.below hb)
      have HBx := Lib.hid (HBx.out.belowAll hb)
      have RB := Lib.hid (RB.out.below hb)
      clear hb cbx ce
      go_wp2_with fail
      have HQ := Lib.hid HQ.out.drew
      have HA := Lib.hid HA.out.drew
      have RA := Lib.hid RA.out.drew
      have HBx := Lib.hid HBx.out.drew
      have RB := Lib.hid RB.out.drew
      refine wp_region_held_drew (S := (fun w' => w'.cell? ⟨w7.heap.size, 0, none⟩ = some (.int .i64 rd) ∧ w'.cell? ⟨w7.heap.size, 1, none⟩ = some (.slice (some ⟨ba, oa, none⟩) LA.length ca) ∧ w'.cell? ⟨w7.heap.size, 2, none⟩ = some (.bool o0) ∧ w'.cell? ⟨w7.heap.size, 3, none⟩ = some (.bool o1) ∧ w'.cell? ⟨w7.heap.size, 4, none⟩ = some (.bool o2) ∧ w'.cell? ⟨w9.heap.size, 0, none⟩ = some (.int .i64 rd) ∧ w'.cell? ⟨w9.heap.size, 1, none⟩ = some (.slice Ab LB.length cb) ∧ w'.cell? ⟨w9.heap.size, 2, none⟩ = some (.bool o0) ∧ w'.cell? ⟨w9.heap.size, 3, none⟩ = some (.bool o1) ∧ w'.cell? ⟨w9.heap.size, 4, none⟩ = some (.bool o2) ∧ w'.cell? ⟨w.heap.size, 0, none⟩ = some (.int .i64 rd) ∧ w'.cell? ⟨w.heap.size, 1, none⟩ = some (.slice A l.length c) ∧ w'.cell? ⟨w.heap.size, 2, none⟩ = some (.bool o0) ∧ w'.cell? ⟨w.heap.size, 3, none⟩ = some (.bool o1) ∧ w'.cell? ⟨w.heap.size, 4, none⟩ = some (.bool o2) ∧ w'.cell? ⟨w.heap.size + 1, 0, none⟩ = some (.string e.pod.id) ∧ w'.cell? ⟨w.heap.size + 1, 1, none⟩ = some (.int .i64 e.pod.prio) ∧ w'.cell? ⟨w.heap.size + 1, 2, none⟩ = some (.bool e.pod.crit) ∧ w'.cell? ⟨w.heap.size + 1, 3, none⟩ = some (.int .i64 e.pod.q0) ∧ w'.cell? ⟨w.heap.size + 1, 4, none⟩ = some (.int .i64 e.pod.q1) ∧ w'.cell? ⟨w.heap.size + 1, 5, none⟩ = some (.int .i64 e.pod.q2) ∧ w'.cell? ⟨w.heap.size + 1, 6, none⟩ = some (.int .i64 e.pod.l0) ∧ w'.cell? ⟨w.heap.size + 1, 7, none⟩ = some (.int .i64 e.pod.l1) ∧ w'.cell? ⟨w.heap.size + 1, 8, none⟩ = some (.int .i64 e.pod.l2) ∧ w'.cell? ⟨w.heap.size + 1, 9, none⟩ = some (.string e.pod.image) ∧ w'.cell? ⟨w.heap.size + 1, 10, none⟩ = some (.int .i64 e.pod.size) ∧ w'.cell? ⟨w.heap.size + 1, 11, none⟩ = some (.int .i64 e.phase))) (by kernel_rfl) (⟨HA.out.cell 0, HA.out.cell 1, HA.out.cell 2, HA.out.cell 3, HA.out.cell 4, HBx.out.cell 0, HBx.out.cell 1, HBx.out.cell 2, HBx.out.cell 3, HBx.out.cell 4, HQ.out.sb.cell 0, HQ.out.sb.cell 1, HQ.out.sb.cell 2, HQ.out.sb.cell 3, HQ.out.sb.cell 4, HQ.out.eb.cell 0, HQ.out.eb.cell 1, HQ.out.eb.cell 2, HQ.out.eb.cell 3, HQ.out.eb.cell 4, HQ.out.eb.cell 5, HQ.out.eb.cell 6, HQ.out.eb.cell 7, HQ.out.eb.cell 8, HQ.out.eb.cell 9, HQ.out.eb.cell 10, HQ.out.eb.cell 11⟩) (fun hHeld => ?_)
      refine held_take 0 131 (.bool false) rfl rfl (by kernel_rfl) (by kernel_rfl) (by kernel_rfl) (fun _ _ _ h => h) (by rfl) (by intro w' hSw; (try dsimp only at hSw); go_simp; (try (with_reducible rfl))) (by assumption) ?_
      simp only [Act.put, List.setIfInBounds_toArray, List.set_cons_zero, List.set_cons_succ]
      refine held_take 1 132 (.bool true) rfl rfl (by kernel_rfl) (by kernel_rfl) (by kernel_rfl) (fun _ _ _ h => h) (by rfl) (by intro w' hSw; (try dsimp only at hSw); go_simp; (try (with_reducible rfl))) (by assumption) ?_
      simp only [Act.put, List.setIfInBounds_toArray, List.set_cons_zero, List.set_cons_succ]
      refine held_take 2 133 (.bool true) rfl rfl (by kernel_rfl) (by kernel_rfl) (by kernel_rfl) (fun _ _ _ h => h) (by rfl) (by intro w' hSw; (try dsimp only at hSw); go_simp; (try (with_reducible rfl))) (by assumption) ?_
      simp only [Act.put, List.setIfInBounds_toArray, List.set_cons_zero, List.set_cons_succ]
      refine held_take 3 134 (.agg #[.int .i64 rd, .slice (some ⟨ba, oa, none⟩) LA.length ca, .bool o0, .bool o1, .bool o2]) rfl rfl (by kernel_rfl) (by kernel_rfl) (by kernel_rfl) (fun _ _ _ h => h) (by rfl) (by intro w' hSw; (try dsimp only at hSw); go_simp; (try (with_reducible rfl))) (by assumption) ?_
      simp only [Act.put, List.setIfInBounds_toArray, List.set_cons_zero, List.set_cons_succ]
      refine held_take 4 135 (.agg #[.string e.pod.id, .int .i64 e.pod.prio, .bool e.pod.crit, .int .i64 e.pod.q0, .int .i64 e.pod.q1, .int .i64 e.pod.q2, .int .i64 e.pod.l0, .int .i64 e.pod.l1, .int .i64 e.pod.l2, .string e.pod.image, .int .i64 e.pod.size, .int .i64 e.phase]) rfl rfl (by kernel_rfl) (by kernel_rfl) (by kernel_rfl) (fun _ _ _ h => h) (by rfl) (by intro w' hSw; (try dsimp only at hSw); go_simp; (try (with_reducible rfl))) (by assumption) ?_
      simp only [Act.put, List.setIfInBounds_toArray, List.set_cons_zero, List.set_cons_succ]
      refine held_take 6 137 (.agg #[.int .i64 rd, .slice (some ⟨ba, oa, none⟩) LA.length ca, .bool o0, .bool o1, .bool o2]) rfl rfl (by kernel_rfl) (by kernel_rfl) (by kernel_rfl) (fun _ _ _ h => h) (by rfl) (by intro w' hSw; (try dsimp only at hSw); go_simp; (try (with_reducible rfl))) (by assumption) ?_
      simp only [Act.put, List.setIfInBounds_toArray, List.set_cons_zero, List.set_cons_succ]
      refine held_call 5 136 rfl rfl (by kernel_rfl) (by rfl) (fun K hK => ?_)
      go_simp
      go_at_call 23; (with_reducible refine (HWW.out (some ⟨ba, oa, none⟩) ca _ RA.out).mono ?_); rintro x wq ⟨A5, c5, rfl, ho, hb⟩
      have R5 := Lib.hid ho.toRds
      clear ho
      have HQ := Lib.hid (HQ.out.below hb)
      have HA := Lib.hid (HA.out.belowAll hb)
      have RA := Lib.hid (RA.out.below hb)
      have HBx := Lib.hid (HBx.out.belowAll hb)
      have RB := Lib.hid (RB.out.below hb)
      clear hb
      refine hK _ _ (⟨HA.out.cell 0, HA.out.cell 1, HA.out.cell 2, HA.out.cell 3, HA.out.cell 4, HBx.out.cell 0, HBx.out.cell 1, HBx.out.cell 2, HBx.out.cell 3, HBx.out.cell 4, HQ.out.sb.cell 0, HQ.out.sb.cell 1, HQ.out.sb.cell 2, HQ.out.sb.cell 3, HQ.out.sb.cell 4, HQ.out.eb.cell 0, HQ.out.eb.cell 1, HQ.out.eb.cell 2, HQ.out.eb.cell 3, HQ.out.eb.cell 4, HQ.out.eb.cell 5, HQ.out.eb.cell 6, HQ.out.eb.cell 7, HQ.out.eb.cell 8, HQ.out.eb.cell 9, HQ.out.eb.cell 10, HQ.out.eb.cell 11⟩) ?_
      have hHeld := (show wq.cell? ⟨w7.heap.size, 0, none⟩ = some (.int .i64 rd) ∧ wq.cell? ⟨w7.heap.size, 1, none⟩ = some (.slice (some ⟨ba, oa, none⟩) LA.length ca) ∧ wq.cell? ⟨w7.heap.size, 2, none⟩ = some (.bool o0) ∧ wq.cell? ⟨w7.heap.size, 3, none⟩ = some (.bool o1) ∧ wq.cell? ⟨w7.heap.size, 4, none⟩ = some (.bool o2) ∧ wq.cell? ⟨w9.heap.size, 0, none⟩ = some (.int .i64 rd) ∧ wq.cell? ⟨w9.heap.size, 1, none⟩ = some (.slice Ab LB.length cb) ∧ wq.cell? ⟨w9.heap.size, 2, none⟩ = some (.bool o0) ∧ wq.cell? ⟨w9.heap.size, 3, none⟩ = some (.bool o1) ∧ wq.cell? ⟨w9.heap.size, 4, none⟩ = some (.bool o2) ∧ wq.cell? ⟨w.heap.size, 0, none⟩ = some (.int .i64 rd) ∧ wq.cell? ⟨w.heap.size, 1, none⟩ = some (.slice A l.length c) ∧ wq.cell? ⟨w.heap.size, 2, none⟩ = some (.bool o0) ∧ wq.cell? ⟨w.heap.size, 3, none⟩ = some (.bool o1) ∧ wq.cell? ⟨w.heap.size, 4, none⟩ = some (.bool o2) ∧ wq.cell? ⟨w.heap.size + 1, 0, none⟩ = some (.string e.pod.id) ∧ wq.cell? ⟨w.heap.size + 1, 1, none⟩ = some (.int .i64 e.pod.prio) ∧ wq.cell? ⟨w.heap.size + 1, 2, none⟩ = some (.bool e.pod.crit) ∧ wq.cell? ⟨w.heap.size + 1, 3, none⟩ = some (.int .i64 e.pod.q0) ∧ wq.cell? ⟨w.heap.size + 1, 4, none⟩ = some (.int .i64 e.pod.q1) ∧ wq.cell? ⟨w.heap.size + 1, 5, none⟩ = some (.int .i64 e.pod.q2) ∧ wq.cell? ⟨w.heap.size + 1, 6, none⟩ = some (.int .i64 e.pod.l0) ∧ wq.cell? ⟨w.heap.size + 1, 7, none⟩ = some (.int .i64 e.pod.l1) ∧ wq.cell? ⟨w.heap.size + 1, 8, none⟩ = some (.int .i64 e.pod.l2) ∧ wq.cell? ⟨w.heap.size + 1, 9, none⟩ = some (.string e.pod.image) ∧ wq.cell? ⟨w.heap.size + 1, 10, none⟩ = some (.int .i64 e.pod.size) ∧ wq.cell? ⟨w.heap.size + 1, 11, none⟩ = some (.int .i64 e.phase) from ⟨HA.out.cell 0, HA.out.cell 1, HA.out.cell 2, HA.out.cell 3, HA.out.cell 4, HBx.out.cell 0, HBx.out.cell 1, HBx.out.cell 2, HBx.out.cell 3, HBx.out.cell 4, HQ.out.sb.cell 0, HQ.out.sb.cell 1, HQ.out.sb.cell 2, HQ.out.sb.cell 3, HQ.out.sb.cell 4, HQ.out.eb.cell 0, HQ.out.eb.cell 1, HQ.out.eb.cell 2, HQ.out.eb.cell 3, HQ.out.eb.cell 4, HQ.out.eb.cell 5, HQ.out.eb.cell 6, HQ.out.eb.cell 7, HQ.out.eb.cell 8, HQ.out.eb.cell 9, HQ.out.eb.cell 10, HQ.out.eb.cell 11⟩)
      clear hK K
      simp only [Act.put, List.setIfInBounds_toArray, List.set_cons_zero, List.set_cons_succ]
      refine held_call 7 138 rfl rfl (by kernel_rfl) (by rfl) (fun K hK => ?_)
      go_simp
      go_at_call 20; (with_reducible refine (same24_any rd LA A5 (some ⟨ba, oa, none⟩) c5 ca o0 o1 o2 _ R5.out RA.out (by have := HLEN2.out; omega)).mono ?_); rintro x wq ⟨rfl, hb⟩
      clear R5
      have HQ := Lib.hid (HQ.out.below hb)
      have HA := Lib.hid (HA.out.belowAll hb)
      have RA := Lib.hid (RA.out.below hb)
      have HBx := Lib.hid (HBx.out.belowAll hb)
      have RB := Lib.hid (RB.out.below hb)
      clear hb
      refine hK _ _ (⟨HA.out.cell 0, HA.out.cell 1, HA.out.cell 2, HA.out.cell 3, HA.out.cell 4, HBx.out.cell 0, HBx.out.cell 1, HBx.out.cell 2, HBx.out.cell 3, HBx.out.cell 4, HQ.out.sb.cell 0, HQ.out.sb.cell 1, HQ.out.sb.cell 2, HQ.out.sb.cell 3, HQ.out.sb.cell 4, HQ.out.eb.cell 0, HQ.out.eb.cell 1, HQ.out.eb.cell 2, HQ.out.eb.cell 3, HQ.out.eb.cell 4, HQ.out.eb.cell 5, HQ.out.eb.cell 6, HQ.out.eb.cell 7, HQ.out.eb.cell 8, HQ.out.eb.cell 9, HQ.out.eb.cell 10, HQ.out.eb.cell 11⟩) ?_
      have hHeld := (show wq.cell? ⟨w7.heap.size, 0, none⟩ = some (.int .i64 rd) ∧ wq.cell? ⟨w7.heap.size, 1, none⟩ = some (.slice (some ⟨ba, oa, none⟩) LA.length ca) ∧ wq.cell? ⟨w7.heap.size, 2, none⟩ = some (.bool o0) ∧ wq.cell? ⟨w7.heap.size, 3, none⟩ = some (.bool o1) ∧ wq.cell? ⟨w7.heap.size, 4, none⟩ = some (.bool o2) ∧ wq.cell? ⟨w9.heap.size, 0, none⟩ = some (.int .i64 rd) ∧ wq.cell? ⟨w9.heap.size, 1, none⟩ = some (.slice Ab LB.length cb) ∧ wq.cell? ⟨w9.heap.size, 2, none⟩ = some (.bool o0) ∧ wq.cell? ⟨w9.heap.size, 3, none⟩ = some (.bool o1) ∧ wq.cell? ⟨w9.heap.size, 4, none⟩ = some (.bool o2) ∧ wq.cell? ⟨w.heap.size, 0, none⟩ = some (.int .i64 rd) ∧ wq.cell? ⟨w.heap.size, 1, none⟩ = some (.slice A l.length c) ∧ wq.cell? ⟨w.heap.size, 2, none⟩ = some (.bool o0) ∧ wq.cell? ⟨w.heap.size, 3, none⟩ = some (.bool o1) ∧ wq.cell? ⟨w.heap.size, 4, none⟩ = some (.bool o2) ∧ wq.cell? ⟨w.heap.size + 1, 0, none⟩ = some (.string e.pod.id) ∧ wq.cell? ⟨w.heap.size + 1, 1, none⟩ = some (.int .i64 e.pod.prio) ∧ wq.cell? ⟨w.heap.size + 1, 2, none⟩ = some (.bool e.pod.crit) ∧ wq.cell? ⟨w.heap.size + 1, 3, none⟩ = some (.int .i64 e.pod.q0) ∧ wq.cell? ⟨w.heap.size + 1, 4, none⟩ = some (.int .i64 e.pod.q1) ∧ wq.cell? ⟨w.heap.size + 1, 5, none⟩ = some (.int .i64 e.pod.q2) ∧ wq.cell? ⟨w.heap.size + 1, 6, none⟩ = some (.int .i64 e.pod.l0) ∧ wq.cell? ⟨w.heap.size + 1, 7, none⟩ = some (.int .i64 e.pod.l1) ∧ wq.cell? ⟨w.heap.size + 1, 8, none⟩ = some (.int .i64 e.pod.l2) ∧ wq.cell? ⟨w.heap.size + 1, 9, none⟩ = some (.string e.pod.image) ∧ wq.cell? ⟨w.heap.size + 1, 10, none⟩ = some (.int .i64 e.pod.size) ∧ wq.cell? ⟨w.heap.size + 1, 11, none⟩ = some (.int .i64 e.phase) from ⟨HA.out.cell 0, HA.out.cell 1, HA.out.cell 2, HA.out.cell 3, HA.out.cell 4, HBx.out.cell 0, HBx.out.cell 1, HBx.out.cell 2, HBx.out.cell 3, HBx.out.cell 4, HQ.out.sb.cell 0, HQ.out.sb.cell 1, HQ.out.sb.cell 2, HQ.out.sb.cell 3, HQ.out.sb.cell 4, HQ.out.eb.cell 0, HQ.out.eb.cell 1, HQ.out.eb.cell 2, HQ.out.eb.cell 3, HQ.out.eb.cell 4, HQ.out.eb.cell 5, HQ.out.eb.cell 6, HQ.out.eb.cell 7, HQ.out.eb.cell 8, HQ.out.eb.cell 9, HQ.out.eb.cell 10, HQ.out.eb.cell 11⟩)
      clear hK K
      simp only [Act.put, List.setIfInBounds_toArray, List.set_cons_zero, List.set_cons_succ]
      refine held_take 8 139 (.bool true) rfl rfl (by kernel_rfl) (by kernel_rfl) (by kernel_rfl) (fun _ _ _ h => h) (by rfl) (by intro w' hSw; (try dsimp only at hSw); go_simp; (try (with_reducible rfl))) (by assumption) ?_
      simp only [Act.put, List.setIfInBounds_toArray, List.set_cons_zero, List.set_cons_succ]
      refine held_take 9 140 (.bool true) rfl rfl (by kernel_rfl) (by kernel_rfl) (by kernel_rfl) (fun _ _ _ h => h) (by rfl) (by intro w' hSw; (try dsimp only at hSw); go_simp; (try (with_reducible rfl))) (by assumption) ?_
      simp only [Act.put, List.setIfInBounds_toArray, List.set_cons_zero, List.set_cons_succ]
      refine held_take 10 141 (.agg #[.int .i64 rd, .slice Ab LB.length cb, .bool o0, .bool o1, .bool o2]) rfl rfl (by kernel_rfl) (by kernel_rfl) (by kernel_rfl) (fun _ _ _ h => h) (by rfl) (by intro w' hSw; (try dsimp only at hSw); go_simp; (try (with_reducible rfl))) (by assumption) ?_
      simp only [Act.put, List.setIfInBounds_toArray, List.set_cons_zero, List.set_cons_succ]
      refine held_take 11 142 (.agg #[.int .i64 rd, .slice A l.length c, .bool o0, .bool o1, .bool o2]) rfl rfl (by kernel_rfl) (by kernel_rfl) (by kernel_rfl) (fun _ _ _ h => h) (by rfl) (by intro w' hSw; (try dsimp only at hSw); go_simp; (try (with_reducible rfl))) (by assumption) ?_
      simp only [Act.put, List.setIfInBounds_toArray, List.set_cons_zero, List.set_cons_succ]
      refine held_take 12 143 (.pointer (some ⟨w.heap.size + 1, 0, none⟩)) rfl rfl (by kernel_rfl) (by kernel_rfl) (by kernel_rfl) (fun _ _ _ h => h) (by rfl) (by intro w' hSw; (try dsimp only at hSw); go_simp; (try (with_reducible rfl))) (by assumption) ?_
      simp only [Act.put, List.setIfInBounds_toArray, List.set_cons_zero, List.set_cons_succ]
      refine held_take 13 144 (.pointer (some ⟨w.heap.size + 1, 0, none⟩)) rfl rfl (by kernel_rfl) (by kernel_rfl) (by kernel_rfl) (fun _ _ _ h => h) (by rfl) (by intro w' hSw; (try dsimp only at hSw); go_simp; (try (with_reducible rfl))) (by assumption) ?_
      simp only [Act.put, List.setIfInBounds_toArray, List.set_cons_zero, List.set_cons_succ]
      refine held_take 14 145 (.string e.pod.id) rfl rfl (by kernel_rfl) (by kernel_rfl) (by kernel_rfl) (fun _ _ _ h => h) (by rfl) (by intro w' hSw; (try dsimp only at hSw); go_simp; (try (with_reducible rfl))) (by assumption) ?_
      simp only [Act.put, List.setIfInBounds_toArray, List.set_cons_zero, List.set_cons_succ]
      refine held_call 15 146 rfl rfl (by kernel_rfl) (by rfl) (fun K hK => ?_)
      go_simp
      go_at_call 24; (with_reducible refine (HXX.out A c _ (HR.out.below HQ.out.bel)).mono ?_); rintro x wq ⟨A6, c6, rfl, ho, hb⟩
      have R6 := Lib.hid ho.toRds
      clear ho
      have HQ := Lib.hid (HQ.out.below hb)
      have HA := Lib.hid (HA.out.belowAll hb)
      have RA := Lib.hid (RA.out.below hb)
      have HBx := Lib.hid (HBx.out.belowAll hb)
      have RB := Lib.hid (RB.out.below hb)
      clear hb
      refine hK _ _ (⟨HA.out.cell 0, HA.out.cell 1, HA.out.cell 2, HA.out.cell 3, HA.out.cell 4, HBx.out.cell 0, HBx.out.cell 1, HBx.out.cell 2, HBx.out.cell 3, HBx.out.cell 4, HQ.out.sb.cell 0, HQ.out.sb.cell 1, HQ.out.sb.cell 2, HQ.out.sb.cell 3, HQ.out.sb.cell 4, HQ.out.eb.cell 0, HQ.out.eb.cell 1, HQ.out.eb.cell 2, HQ.out.eb.cell 3, HQ.out.eb.cell 4, HQ.out.eb.cell 5, HQ.out.eb.cell 6, HQ.out.eb.cell 7, HQ.out.eb.cell 8, HQ.out.eb.cell 9, HQ.out.eb.cell 10, HQ.out.eb.cell 11⟩) ?_
      have hHeld := (show wq.cell? ⟨w7.heap.size, 0, none⟩ = some (.int .i64 rd) ∧ wq.cell? ⟨w7.heap.size, 1, none⟩ = some (.slice (some ⟨ba, oa, none⟩) LA.length ca) ∧ wq.cell? ⟨w7.heap.size, 2, none⟩ = some (.bool o0) ∧ wq.cell? ⟨w7.heap.size, 3, none⟩ = some (.bool o1) ∧ wq.cell? ⟨w7.heap.size, 4, none⟩ = some (.bool o2) ∧ wq.cell? ⟨w9.heap.size, 0, none⟩ = some (.int .i64 rd) ∧ wq.cell? ⟨w9.heap.size, 1, none⟩ = some (.slice Ab LB.length cb) ∧ wq.cell? ⟨w9.heap.size, 2, none⟩ = some (.bool o0) ∧ wq.cell? ⟨w9.heap.size, 3, none⟩ = some (.bool o1) ∧ wq.cell? ⟨w9.heap.size, 4, none⟩ = some (.bool o2) ∧ wq.cell? ⟨w.heap.size, 0, none⟩ = some (.int .i64 rd) ∧ wq.cell? ⟨w.heap.size, 1, none⟩ = some (.slice A l.length c) ∧ wq.cell? ⟨w.heap.size, 2, none⟩ = some (.bool o0) ∧ wq.cell? ⟨w.heap.size, 3, none⟩ = some (.bool o1) ∧ wq.cell? ⟨w.heap.size, 4, none⟩ = some (.bool o2) ∧ wq.cell? ⟨w.heap.size + 1, 0, none⟩ = some (.string e.pod.id) ∧ wq.cell? ⟨w.heap.size + 1, 1, none⟩ = some (.int .i64 e.pod.prio) ∧ wq.cell? ⟨w.heap.size + 1, 2, none⟩ = some (.bool e.pod.crit) ∧ wq.cell? ⟨w.heap.size + 1, 3, none⟩ = some (.int .i64 e.pod.q0) ∧ wq.cell? ⟨w.heap.size + 1, 4, none⟩ = some (.int .i64 e.pod.q1) ∧ wq.cell? ⟨w.heap.size + 1, 5, none⟩ = some (.int .i64 e.pod.q2) ∧ wq.cell? ⟨w.heap.size + 1, 6, none⟩ = some (.int .i64 e.pod.l0) ∧ wq.cell? ⟨w.heap.size + 1, 7, none⟩ = some (.int .i64 e.pod.l1) ∧ wq.cell? ⟨w.heap.size + 1, 8, none⟩ = some (.int .i64 e.pod.l2) ∧ wq.cell? ⟨w.heap.size + 1, 9, none⟩ = some (.string e.pod.image) ∧ wq.cell? ⟨w.heap.size + 1, 10, none⟩ = some (.int .i64 e.pod.size) ∧ wq.cell? ⟨w.heap.size + 1, 11, none⟩ = some (.int .i64 e.phase) from ⟨HA.out.cell 0, HA.out.cell 1, HA.out.cell 2, HA.out.cell 3, HA.out.cell 4, HBx.out.cell 0, HBx.out.cell 1, HBx.out.cell 2, HBx.out.cell 3, HBx.out.cell 4, HQ.out.sb.cell 0, HQ.out.sb.cell 1, HQ.out.sb.cell 2, HQ.out.sb.cell 3, HQ.out.sb.cell 4, HQ.out.eb.cell 0, HQ.out.eb.cell 1, HQ.out.eb.cell 2, HQ.out.eb.cell 3, HQ.out.eb.cell 4, HQ.out.eb.cell 5, HQ.out.eb.cell 6, HQ.out.eb.cell 7, HQ.out.eb.cell 8, HQ.out.eb.cell 9, HQ.out.eb.cell 10, HQ.out.eb.cell 11⟩)
      clear hK K
      simp only [Act.put, List.setIfInBounds_toArray, List.set_cons_zero, List.set_cons_succ]
      refine held_call 16 147 rfl rfl (by kernel_rfl) (by rfl) (fun K hK => ?_)
      go_simp
      go_at_call 20; (with_reducible refine (same24_any rd LB Ab A6 cb c6 o0 o1 o2 _ RB.out R6.out (by have := HLB.out; omega)).mono ?_); rintro x wq ⟨rfl, hb⟩
      clear R6
      have HQ := Lib.hid (HQ.out.below hb)
      have HA := Lib.hid (HA.out.belowAll hb)
      have RA := Lib.hid (RA.out.below hb)
      have HBx := Lib.hid (HBx.out.belowAll hb)
      have RB := Lib.hid (RB.out.below hb)
      clear hb
      refine hK _ _ (⟨HA.out.cell 0, HA.out.cell 1, HA.out.cell 2, HA.out.cell 3, HA.out.cell 4, HBx.out.cell 0, HBx.out.cell 1, HBx.out.cell 2, HBx.out.cell 3, HBx.out.cell 4, HQ.out.sb.cell 0, HQ.out.sb.cell 1, HQ.out.sb.cell 2, HQ.out.sb.cell 3, HQ.out.sb.cell 4, HQ.out.eb.cell 0, HQ.out.eb.cell 1, HQ.out.eb.cell 2, HQ.out.eb.cell 3, HQ.out.eb.cell 4, HQ.out.eb.cell 5, HQ.out.eb.cell 6, HQ.out.eb.cell 7, HQ.out.eb.cell 8, HQ.out.eb.cell 9, HQ.out.eb.cell 10, HQ.out.eb.cell 11⟩) ?_
      have hHeld := (show wq.cell? ⟨w7.heap.size, 0, none⟩ = some (.int .i64 rd) ∧ wq.cell? ⟨w7.heap.size, 1, none⟩ = some (.slice (some ⟨ba, oa, none⟩) LA.length ca) ∧ wq.cell? ⟨w7.heap.size, 2, none⟩ = some (.bool o0) ∧ wq.cell? ⟨w7.heap.size, 3, none⟩ = some (.bool o1) ∧ wq.cell? ⟨w7.heap.size, 4, none⟩ = some (.bool o2) ∧ wq.cell? ⟨w9.heap.size, 0, none⟩ = some (.int .i64 rd) ∧ wq.cell? ⟨w9.heap.size, 1, none⟩ = some (.slice Ab LB.length cb) ∧ wq.cell? ⟨w9.heap.size, 2, none⟩ = some (.bool o0) ∧ wq.cell? ⟨w9.heap.size, 3, none⟩ = some (.bool o1) ∧ wq.cell? ⟨w9.heap.size, 4, none⟩ = some (.bool o2) ∧ wq.cell? ⟨w.heap.size, 0, none⟩ = some (.int .i64 rd) ∧ wq.cell? ⟨w.heap.size, 1, none⟩ = some (.slice A l.length c) ∧ wq.cell? ⟨w.heap.size, 2, none⟩ = some (.bool o0) ∧ wq.cell? ⟨w.heap.size, 3, none⟩ = some (.bool o1) ∧ wq.cell? ⟨w.heap.size, 4, none⟩ = some (.bool o2) ∧ wq.cell? ⟨w.heap.size + 1, 0, none⟩ = some (.string e.pod.id) ∧ wq.cell? ⟨w.heap.size + 1, 1, none⟩ = some (.int .i64 e.pod.prio) ∧ wq.cell? ⟨w.heap.size + 1, 2, none⟩ = some (.bool e.pod.crit) ∧ wq.cell? ⟨w.heap.size + 1, 3, none⟩ = some (.int .i64 e.pod.q0) ∧ wq.cell? ⟨w.heap.size + 1, 4, none⟩ = some (.int .i64 e.pod.q1) ∧ wq.cell? ⟨w.heap.size + 1, 5, none⟩ = some (.int .i64 e.pod.q2) ∧ wq.cell? ⟨w.heap.size + 1, 6, none⟩ = some (.int .i64 e.pod.l0) ∧ wq.cell? ⟨w.heap.size + 1, 7, none⟩ = some (.int .i64 e.pod.l1) ∧ wq.cell? ⟨w.heap.size + 1, 8, none⟩ = some (.int .i64 e.pod.l2) ∧ wq.cell? ⟨w.heap.size + 1, 9, none⟩ = some (.string e.pod.image) ∧ wq.cell? ⟨w.heap.size + 1, 10, none⟩ = some (.int .i64 e.pod.size) ∧ wq.cell? ⟨w.heap.size + 1, 11, none⟩ = some (.int .i64 e.phase) from ⟨HA.out.cell 0, HA.out.cell 1, HA.out.cell 2, HA.out.cell 3, HA.out.cell 4, HBx.out.cell 0, HBx.out.cell 1, HBx.out.cell 2, HBx.out.cell 3, HBx.out.cell 4, HQ.out.sb.cell 0, HQ.out.sb.cell 1, HQ.out.sb.cell 2, HQ.out.sb.cell 3, HQ.out.sb.cell 4, HQ.out.eb.cell 0, HQ.out.eb.cell 1, HQ.out.eb.cell 2, HQ.out.eb.cell 3, HQ.out.eb.cell 4, HQ.out.eb.cell 5, HQ.out.eb.cell 6, HQ.out.eb.cell 7, HQ.out.eb.cell 8, HQ.out.eb.cell 9, HQ.out.eb.cell 10, HQ.out.eb.cell 11⟩)
      clear hK K
      simp only [Act.put, List.setIfInBounds_toArray, List.set_cons_zero, List.set_cons_succ]
      refine held_take 17 148 (.bool true) rfl rfl (by kernel_rfl) (by kernel_rfl) (by kernel_rfl) (fun _ _ _ h => h) (by rfl) (by intro w' hSw; (try dsimp only at hSw); go_simp; (try (with_reducible rfl))) (by assumption) ?_
      simp only [Act.put, List.setIfInBounds_toArray, List.set_cons_zero, List.set_cons_succ]
      refine held_take 18 149 (.bool true) rfl rfl (by kernel_rfl) (by kernel_rfl) (by kernel_rfl) (fun _ _ _ h => h) (by rfl) (by intro w' hSw; (try dsimp only at hSw); go_simp; (try (with_reducible rfl))) (by assumption) ?_
      simp only [Act.put, List.setIfInBounds_toArray, List.set_cons_zero, List.set_cons_succ]
      refine held_take 19 150 (.bool false) rfl rfl (by kernel_rfl) (by kernel_rfl) (by kernel_rfl) (fun _ _ _ h => h) (by rfl) (by intro w' hSw; (try dsimp only at hSw); go_simp; (try (with_reducible rfl))) (by assumption) ?_
      simp only [Act.put, List.setIfInBounds_toArray, List.set_cons_zero, List.set_cons_succ]
      refine held_take 20 151 (.bool false) rfl rfl (by kernel_rfl) (by kernel_rfl) (by kernel_rfl) (fun _ _ _ h => h) (by rfl) (by intro w' hSw; (try dsimp only at hSw); go_simp; (try (with_reducible rfl))) (by assumption) ?_
      simp only [Act.put, List.setIfInBounds_toArray, List.set_cons_zero, List.set_cons_succ]
      refine held_take 21 152 (.agg #[.int .i64 rd, .slice Ab LB.length cb, .bool o0, .bool o1, .bool o2]) rfl rfl (by kernel_rfl) (by kernel_rfl) (by kernel_rfl) (fun _ _ _ h => h) (by rfl) (by intro w' hSw; (try dsimp only at hSw); go_simp; (try (with_reducible rfl))) (by assumption) ?_
      simp only [Act.put, List.setIfInBounds_toArray, List.set_cons_zero, List.set_cons_succ]
      refine held_take 22 153 (.agg #[.int .i64 rd, .slice A l.length c, .bool o0, .bool o1, .bool o2]) rfl rfl (by kernel_rfl) (by kernel_rfl) (by kernel_rfl) (fun _ _ _ h => h) (by rfl) (by intro w' hSw; (try dsimp only at hSw); go_simp; (try (with_reducible rfl))) (by assumption) ?_
      simp only [Act.put, List.setIfInBounds_toArray, List.set_cons_zero, List.set_cons_succ]
      refine held_call 23 154 rfl rfl (by kernel_rfl) (by rfl) (fun K hK => ?_)
      go_simp
      go_at_call 20; (with_reducible refine (same24N rfl HBL.out Ab A cb c o0 o1 o2 _ RB.out (HBL2.out _ (HR.out.below HQ.out.bel)) (by have := HLB.out; omega)).mono ?_); rintro x wq ⟨rfl, hb⟩
      have HQ := Lib.hid (HQ.out.below hb)
      have HA := Lib.hid (HA.out.belowAll hb)
      have RA := Lib.hid (RA.out.below hb)
      have HBx := Lib.hid (HBx.out.belowAll hb)
      have RB := Lib.hid (RB.out.below hb)
      clear hb
      refine hK _ _ (⟨HA.out.cell 0, HA.out.cell 1, HA.out.cell 2, HA.out.cell 3, HA.out.cell 4, HBx.out.cell 0, HBx.out.cell 1, HBx.out.cell 2, HBx.out.cell 3, HBx.out.cell 4, HQ.out.sb.cell 0, HQ.out.sb.cell 1, HQ.out.sb.cell 2, HQ.out.sb.cell 3, HQ.out.sb.cell 4, HQ.out.eb.cell 0, HQ.out.eb.cell 1, HQ.out.eb.cell 2, HQ.out.eb.cell 3, HQ.out.eb.cell 4, HQ.out.eb.cell 5, HQ.out.eb.cell 6, HQ.out.eb.cell 7, HQ.out.eb.cell 8, HQ.out.eb.cell 9, HQ.out.eb.cell 10, HQ.out.eb.cell 11⟩) ?_
      have hHeld := (show wq.cell? ⟨w7.heap.size, 0, none⟩ = some (.int .i64 rd) ∧ wq.cell? ⟨w7.heap.size, 1, none⟩ = some (.slice (some ⟨ba, oa, none⟩) LA.length ca) ∧ wq.cell? ⟨w7.heap.size, 2, none⟩ = some (.bool o0) ∧ wq.cell? ⟨w7.heap.size, 3, none⟩ = some (.bool o1) ∧ wq.cell? ⟨w7.heap.size, 4, none⟩ = some (.bool o2) ∧ wq.cell? ⟨w9.heap.size, 0, none⟩ = some (.int .i64 rd) ∧ wq.cell? ⟨w9.heap.size, 1, none⟩ = some (.slice Ab LB.length cb) ∧ wq.cell? ⟨w9.heap.size, 2, none⟩ = some (.bool o0) ∧ wq.cell? ⟨w9.heap.size, 3, none⟩ = some (.bool o1) ∧ wq.cell? ⟨w9.heap.size, 4, none⟩ = some (.bool o2) ∧ wq.cell? ⟨w.heap.size, 0, none⟩ = some (.int .i64 rd) ∧ wq.cell? ⟨w.heap.size, 1, none⟩ = some (.slice A l.length c) ∧ wq.cell? ⟨w.heap.size, 2, none⟩ = some (.bool o0) ∧ wq.cell? ⟨w.heap.size, 3, none⟩ = some (.bool o1) ∧ wq.cell? ⟨w.heap.size, 4, none⟩ = some (.bool o2) ∧ wq.cell? ⟨w.heap.size + 1, 0, none⟩ = some (.string e.pod.id) ∧ wq.cell? ⟨w.heap.size + 1, 1, none⟩ = some (.int .i64 e.pod.prio) ∧ wq.cell? ⟨w.heap.size + 1, 2, none⟩ = some (.bool e.pod.crit) ∧ wq.cell? ⟨w.heap.size + 1, 3, none⟩ = some (.int .i64 e.pod.q0) ∧ wq.cell? ⟨w.heap.size + 1, 4, none⟩ = some (.int .i64 e.pod.q1) ∧ wq.cell? ⟨w.heap.size + 1, 5, none⟩ = some (.int .i64 e.pod.q2) ∧ wq.cell? ⟨w.heap.size + 1, 6, none⟩ = some (.int .i64 e.pod.l0) ∧ wq.cell? ⟨w.heap.size + 1, 7, none⟩ = some (.int .i64 e.pod.l1) ∧ wq.cell? ⟨w.heap.size + 1, 8, none⟩ = some (.int .i64 e.pod.l2) ∧ wq.cell? ⟨w.heap.size + 1, 9, none⟩ = some (.string e.pod.image) ∧ wq.cell? ⟨w.heap.size + 1, 10, none⟩ = some (.int .i64 e.pod.size) ∧ wq.cell? ⟨w.heap.size + 1, 11, none⟩ = some (.int .i64 e.phase) from ⟨HA.out.cell 0, HA.out.cell 1, HA.out.cell 2, HA.out.cell 3, HA.out.cell 4, HBx.out.cell 0, HBx.out.cell 1, HBx.out.cell 2, HBx.out.cell 3, HBx.out.cell 4, HQ.out.sb.cell 0, HQ.out.sb.cell 1, HQ.out.sb.cell 2, HQ.out.sb.cell 3, HQ.out.sb.cell 4, HQ.out.eb.cell 0, HQ.out.eb.cell 1, HQ.out.eb.cell 2, HQ.out.eb.cell 3, HQ.out.eb.cell 4, HQ.out.eb.cell 5, HQ.out.eb.cell 6, HQ.out.eb.cell 7, HQ.out.eb.cell 8, HQ.out.eb.cell 9, HQ.out.eb.cell 10, HQ.out.eb.cell 11⟩)
      clear hK K
      simp only [Act.put, List.setIfInBounds_toArray, List.set_cons_zero, List.set_cons_succ]
      refine held_take 24 155 (.bool true) rfl rfl (by kernel_rfl) (by kernel_rfl) (by kernel_rfl) (fun _ _ _ h => h) (by rfl) (by intro w' hSw; (try dsimp only at hSw); go_simp; (try (with_reducible rfl))) (by assumption) ?_
      simp only [Act.put, List.setIfInBounds_toArray, List.set_cons_zero, List.set_cons_succ]
      refine held_take 25 156 (.bool true) rfl rfl (by kernel_rfl) (by kernel_rfl) (by kernel_rfl) (fun _ _ _ h => h) (by rfl) (by intro w' hSw; (try dsimp only at hSw); go_simp; (try (with_reducible rfl))) (by assumption) ?_
      simp only [Act.put, List.setIfInBounds_toArray, List.set_cons_zero, List.set_cons_succ]
      refine held_take 26 157 (.bool true) rfl rfl (by kernel_rfl) (by kernel_rfl) (by kernel_rfl) (fun _ _ _ h => h) (by rfl) (by intro w' hSw; (try dsimp only at hSw); go_simp; (try (with_reducible rfl))) (by assumption) ?_
      simp only [Act.put, List.setIfInBounds_toArray, List.set_cons_zero, List.set_cons_succ]
      refine held_take 27 158 (.pointer (some ⟨w7.heap.size, 0, none⟩)) rfl rfl (by kernel_rfl) (by kernel_rfl) (by kernel_rfl) (fun _ _ _ h => h) (by rfl) (by intro w' hSw; (try dsimp only at hSw); go_simp; (try (with_reducible rfl))) (by assumption) ?_
      simp only [Act.put, List.setIfInBounds_toArray, List.set_cons_zero, List.set_cons_succ]
      refine held_take 28 159 (.int .i64 rd) rfl rfl (by kernel_rfl) (by kernel_rfl) (by kernel_rfl) (fun _ _ _ h => h) (by rfl) (by intro w' hSw; (try dsimp only at hSw); go_simp; (try (with_reducible rfl))) (by assumption) ?_
      simp only [Act.put, List.setIfInBounds_toArray, List.set_cons_zero, List.set_cons_succ]
      refine held_take 29 160 (.pointer (some ⟨w.heap.size, 0, none⟩)) rfl rfl (by kernel_rfl) (by kernel_rfl) (by kernel_rfl) (fun _ _ _ h => h) (by rfl) (by intro w' hSw; (try dsimp only at hSw); go_simp; (try (with_reducible rfl))) (by assumption) ?_
      simp only [Act.put, List.setIfInBounds_toArray, List.set_cons_zero, List.set_cons_succ]
      refine held_take 30 161 (.int .i64 rd) rfl rfl (by kernel_rfl) (by kernel_rfl) (by kernel_rfl) (fun _ _ _ h => h) (by rfl) (by intro w' hSw; (try dsimp only at hSw); go_simp; (try (with_reducible rfl))) (by assumption) ?_
      simp only [Act.put, List.setIfInBounds_toArray, List.set_cons_zero, List.set_cons_succ]
      refine held_take 31 162 (.bool true) rfl rfl (by kernel_rfl) (by kernel_rfl) (by kernel_rfl) (fun _ _ _ h => h) (by rfl) (by intro w' hSw; (try dsimp only at hSw); go_simp; (first | done | with_reducible rfl | (simp; done))) (by assumption) ?_
      simp only [Act.put, List.setIfInBounds_toArray, List.set_cons_zero, List.set_cons_succ]
      refine held_take 32 163 (.bool true) rfl rfl (by kernel_rfl) (by kernel_rfl) (by kernel_rfl) (fun _ _ _ h => h) (by rfl) (by intro w' hSw; (try dsimp only at hSw); go_simp; (try (with_reducible rfl))) (by assumption) ?_
      simp only [Act.put, List.setIfInBounds_toArray, List.set_cons_zero, List.set_cons_succ]
      refine held_take 33 164 (.bool true) rfl rfl (by kernel_rfl) (by kernel_rfl) (by kernel_rfl) (fun _ _ _ h => h) (by rfl) (by intro w' hSw; (try dsimp only at hSw); go_simp; (try (with_reducible rfl))) (by assumption) ?_
      simp only [Act.put, List.setIfInBounds_toArray, List.set_cons_zero, List.set_cons_succ]
      refine held_take 34 165 (.pointer (some ⟨w7.heap.size, 2, none⟩)) rfl rfl (by kernel_rfl) (by kernel_rfl) (by kernel_rfl) (fun _ _ _ h => h) (by rfl) (by intro w' hSw; (try dsimp only at hSw); go_simp; (try (with_reducible rfl))) (by assumption) ?_
      simp only [Act.put, List.setIfInBounds_toArray, List.set_cons_zero, List.set_cons_succ]
      refine held_take 35 166 (.agg #[.bool o0, .bool o1, .bool o2]) rfl rfl (by kernel_rfl) (by kernel_rfl) (by kernel_rfl) (fun _ _ _ h => h) (by rfl) (by intro w' hSw; (try dsimp only at hSw); go_simp; (try (with_reducible rfl))) (by assumption) ?_
      simp only [Act.put, List.setIfInBounds_toArray, List.set_cons_zero, List.set_cons_succ]
      refine held_take 36 167 (.pointer (some ⟨w.heap.size, 2, none⟩)) rfl rfl (by kernel_rfl) (by kernel_rfl) (by kernel_rfl) (fun _ _ _ h => h) (by rfl) (by intro w' hSw; (try dsimp only at hSw); go_simp; (try (with_reducible rfl))) (by assumption) ?_
      simp only [Act.put, List.setIfInBounds_toArray, List.set_cons_zero, List.set_cons_succ]
      refine held_take 37 168 (.agg #[.bool o0, .bool o1, .bool o2]) rfl rfl (by kernel_rfl) (by kernel_rfl) (by kernel_rfl) (fun _ _ _ h => h) (by rfl) (by intro w' hSw; (try dsimp only at hSw); go_simp; (try (with_reducible rfl))) (by assumption) ?_
      simp only [Act.put, List.setIfInBounds_toArray, List.set_cons_zero, List.set_cons_succ]
      refine held_take 38 169 (.bool true) rfl rfl (by kernel_rfl) (by kernel_rfl) (by kernel_rfl) (fun _ _ _ h => h) (by rfl) (by intro w' hSw; (try dsimp only at hSw); go_simp; (first | done | with_reducible rfl | (simp [eqB3]; done))) (by assumption) ?_
      simp only [Act.put, List.setIfInBounds_toArray, List.set_cons_zero, List.set_cons_succ]
      refine held_take 39 170 (.bool true) rfl rfl (by kernel_rfl) (by kernel_rfl) (by kernel_rfl) (fun _ _ _ h => h) (by rfl) (by intro w' hSw; (try dsimp only at hSw); go_simp; (try (with_reducible rfl))) (by assumption) ?_
      simp only [Act.put, List.setIfInBounds_toArray, List.set_cons_zero, List.set_cons_succ]
      refine held_take 40 4 (.bool true) rfl rfl (by kernel_rfl) (by kernel_rfl) (by kernel_rfl) (fun _ _ _ h => h) (by rfl) (by intro w' hSw; (try dsimp only at hSw); go_simp; (try (with_reducible rfl))) (by assumption) ?_
      simp only [Act.put, List.setIfInBounds_toArray, List.set_cons_zero, List.set_cons_succ]
      refine wpAnyH_done (by kernel_rfl) ?_ _
      clear hHeld
      go_wp2_with fail
      go_ret
      exact ⟨rfl, HQ.out.bel⟩
  · obtain ⟨rfl, rfl⟩ : (lowerI l e.pod.id : Int) = fi ∧ true = fv := by unfold findS at hfi; rw [hat] at hfi; simpa using hfi
    clear hfi
    have cs := HQ.out.sb.cell
    have ce := HQ.out.eb.cell
    go_wp2_with fail
    refine (with_any rd l e A c o0 o1 o2 _ (HR.out.below HQ.out.bel) (by omega) HSO.out).mono ?_; rintro x w7 ⟨Aa, ca, rfl, ho, hb⟩
    have HPL := Lib.hid (twice_plain HSO.out e)
    have HWS := Lib.hid (withD_sorted HSO.out e)
    have HLD := Lib.hid (withD_len HSO.out e)
    have HMA := Lib.hid (show ∀ x ∈ withD l e, x.pod.Wf from fun x hx => by
      rcases withD_mem HSO.out hx with rfl | hx
      · exact HE.out.1
      · exact HW.out x hx)
    have HLEN := Lib.hid (show (withD l e).length = l.length from len_was hat)
    generalize withD l e = LA at *
    have RA := Lib.hid (ho.toRds.alloc (.cells #[.int .i64 rd, .slice Aa LA.length ca, .bool o0, .bool o1, .bool o2] 25))
    have HA := Lib.hid (Blk.new w7 25 #[.int .i64 rd, .slice Aa LA.length ca, .bool o0, .bool o1, .bool o2])
    have HQ := Lib.hid (HQ.out.below hb)
    have HQ := Lib.hid (HQ.out.alloc (.cells #[.int .i64 rd, .slice Aa LA.length ca, .bool o0, .bool o1, .bool o2] 25))
    clear ho hb cs ce
    obtain ⟨li, hli⟩ : ∃ i, lowerI LA e.pod.id = i := ⟨_, rfl⟩
    have HLI := Lib.hid (show li < LA.length by have := HPL.out.1; rw [hli] at this; exact this)
    have HAT := Lib.hid (show LA[li]? = some e by have := HPL.out.2.1; rw [hli] at this; exact this)
    have HFA := Lib.hid (show findS LA e.pod.id = ((li : Int), true) by unfold findS; rw [if_pos HPL.out.2.2.1, hli])
    obtain ⟨ba, oa, hA, _⟩ := RA.out.en HLI.out
    obtain rfl : Aa = some ⟨ba, oa, none⟩ := hA
    clear hli
    have cax := HA.out.cell
    have ce := HQ.out.eb.cell
    go_wp2_with fail
    refine (find_any HFA.out rd (some ⟨ba, oa, none⟩) ca o0 o1 o2 _ RA.out (by have := HLD.out; omega) HWS.out).mono ?_; rintro x w8 ⟨rfl, hb⟩
    have HQ := Lib.hid (HQ.out.below hb)
    have HA := Lib.hid (HA.out.belowAll hb)
    have RA := Lib.hid (RA.out.below hb)
    clear hb cax ce
    have dli : (li : Int) < (LA.length : Int) := by have := HLI.out; omega
    have dln2 : ¬ LA.length ≤ li := by have := HLI.out; omega
    go_wp2_with fail
    have HQ := Lib.hid HQ.out.drew
    have HA := Lib.hid HA.out.drew
    have RA := Lib.hid RA.out.drew
    obtain ⟨z0, z1, z2, z3, z4, z5, z6, z7, z8, z9, z10, z11⟩ := RA.out.enAt (Below.refl _ _) HAT.out
    refine wp_region_held_drew (S := (fun w' => w'.cell? ⟨w7.heap.size, 0, none⟩ = some (.int .i64 rd) ∧ w'.cell? ⟨w7.heap.size, 1, none⟩ = some (.slice (some ⟨ba, oa, none⟩) LA.length ca) ∧ w'.cell? ⟨w7.heap.size, 2, none⟩ = some (.bool o0) ∧ w'.cell? ⟨w7.heap.size, 3, none⟩ = some (.bool o1) ∧ w'.cell? ⟨w7.heap.size, 4, none⟩ = some (.bool o2) ∧ w'.cell? ⟨w.heap.size, 0, none⟩ = some (.int .i64 rd) ∧ w'.cell? ⟨w.heap.size, 1, none⟩ = some (.slice A l.length c) ∧ w'.cell? ⟨w.heap.size, 2, none⟩ = some (.bool o0) ∧ w'.cell? ⟨w.heap.size, 3, none⟩ = some (.bool o1) ∧ w'.cell? ⟨w.heap.size, 4, none⟩ = some (.bool o2) ∧ w'.cell? ⟨w.heap.size + 1, 0, none⟩ = some (.string e.pod.id) ∧ w'.cell? ⟨w.heap.size + 1, 1, none⟩ = some (.int .i64 e.pod.prio) ∧ w'.cell? ⟨w.heap.size + 1, 2, none⟩ = some (.bool e.pod.crit) ∧ w'.cell? ⟨w.heap.size + 1, 3, none⟩ = some (.int .i64 e.pod.q0) ∧ w'.cell? ⟨w.heap.size + 1, 4, none⟩ = some (.int .i64 e.pod.q1) ∧ w'.cell? ⟨w.heap.size + 1, 5, none⟩ = some (.int .i64 e.pod.q2) ∧ w'.cell? ⟨w.heap.size + 1, 6, none⟩ = some (.int .i64 e.pod.l0) ∧ w'.cell? ⟨w.heap.size + 1, 7, none⟩ = some (.int .i64 e.pod.l1) ∧ w'.cell? ⟨w.heap.size + 1, 8, none⟩ = some (.int .i64 e.pod.l2) ∧ w'.cell? ⟨w.heap.size + 1, 9, none⟩ = some (.string e.pod.image) ∧ w'.cell? ⟨w.heap.size + 1, 10, none⟩ = some (.int .i64 e.pod.size) ∧ w'.cell? ⟨w.heap.size + 1, 11, none⟩ = some (.int .i64 e.phase) ∧ w'.cell? ⟨ba, oa + li * 12, none⟩ = some (.string e.pod.id) ∧ w'.cell? ⟨ba, oa + li * 12 + 1, none⟩ = some (.int .i64 e.pod.prio) ∧ w'.cell? ⟨ba, oa + li * 12 + 2, none⟩ = some (.bool e.pod.crit) ∧ w'.cell? ⟨ba, oa + li * 12 + 3, none⟩ = some (.int .i64 e.pod.q0) ∧ w'.cell? ⟨ba, oa + li * 12 + 4, none⟩ = some (.int .i64 e.pod.q1) ∧ w'.cell? ⟨ba, oa + li * 12 + 5, none⟩ = some (.int .i64 e.pod.q2) ∧ w'.cell? ⟨ba, oa + li * 12 + 6, none⟩ = some (.int .i64 e.pod.l0) ∧ w'.cell? ⟨ba, oa + li * 12 + 7, none⟩ = some (.int .i64 e.pod.l1) ∧ w'.cell? ⟨ba, oa + li * 12 + 8, none⟩ = some (.int .i64 e.pod.l2) ∧ w'.cell? ⟨ba, oa + li * 12 + 9, none⟩ = some (.string e.pod.image) ∧ w'.cell? ⟨ba, oa + li * 12 + 10, none⟩ = some (.int .i64 e.pod.size) ∧ w'.cell? ⟨ba, oa + li * 12 + 11, none⟩ = some (.int .i64 e.phase))) (by kernel_rfl) (⟨HA.out.cell 0, HA.out.cell 1, HA.out.cell 2, HA.out.cell 3, HA.out.cell 4, HQ.out.sb.cell 0, HQ.out.sb.cell 1, HQ.out.sb.cell 2, HQ.out.sb.cell 3, HQ.out.sb.cell 4, HQ.out.eb.cell 0, HQ.out.eb.cell 1, HQ.out.eb.cell 2, HQ.out.eb.cell 3, HQ.out.eb.cell 4, HQ.out.eb.cell 5, HQ.out.eb.cell 6, HQ.out.eb.cell 7, HQ.out.eb.cell 8, HQ.out.eb.cell 9, HQ.out.eb.cell 10, HQ.out.eb.cell 11, z0, z1, z2, z3, z4, z5, z6, z7, z8, z9, z10, z11⟩) (fun hHeld => ?_)
    clear z0 z1 z2 z3 z4 z5 z6 z7 z8 z9 z10 z11
    refine held_take 0 75 (.bool true) rfl rfl (by kernel_rfl) (by kernel_rfl) (by kernel_rfl) (fun _ _ _ h => h) (by rfl) (by intro w' hSw; (try dsimp only at hSw); go_simp; (try (with_reducible rfl))) (by assumption) ?_
    simp only [Act.put, List.setIfInBounds_toArray, List.set_cons_zero, List.set_cons_succ]
    refine held_take 1 76 (.bool false) rfl rfl (by kernel_rfl) (by kernel_rfl) (by kernel_rfl) (fun _ _ _ h => h) (by rfl) (by intro w' hSw; (try dsimp only at hSw); go_simp; (try (with_reducible rfl))) (by assumption) ?_
    simp only [Act.put, List.setIfInBounds_toArray, List.set_cons_zero, List.set_cons_succ]
    refine held_take 2 77 (.bool false) rfl rfl (by kernel_rfl) (by kernel_rfl) (by kernel_rfl) (fun _ _ _ h => h) (by rfl) (by intro w' hSw; (try dsimp only at hSw); go_simp; (try (with_reducible rfl))) (by assumption) ?_
    simp only [Act.put, List.setIfInBounds_toArray, List.set_cons_zero, List.set_cons_succ]
    refine held_take 3 78 (.int .i64 li) rfl rfl (by kernel_rfl) (by kernel_rfl) (by kernel_rfl) (fun _ _ _ h => h) (by rfl) (by intro w' hSw; (try dsimp only at hSw); go_simp; (try (with_reducible rfl))) (by assumption) ?_
    simp only [Act.put, List.setIfInBounds_toArray, List.set_cons_zero, List.set_cons_succ]
    refine held_take 4 79 (.pointer (some ⟨w7.heap.size, 1, none⟩)) rfl rfl (by kernel_rfl) (by kernel_rfl) (by kernel_rfl) (fun _ _ _ h => h) (by rfl) (by intro w' hSw; (try dsimp only at hSw); go_simp; (try (with_reducible rfl))) (by assumption) ?_
    simp only [Act.put, List.setIfInBounds_toArray, List.set_cons_zero, List.set_cons_succ]
    refine held_take 5 80 (.slice (some ⟨ba, oa, none⟩) LA.length ca) rfl rfl (by kernel_rfl) (by kernel_rfl) (by kernel_rfl) (fun _ _ _ h => h) (by rfl) (by intro w' hSw; (try dsimp only at hSw); go_simp; (try (with_reducible rfl))) (by assumption) ?_
    simp only [Act.put, List.setIfInBounds_toArray, List.set_cons_zero, List.set_cons_succ]
    refine held_take 6 81 (.int .i64 LA.length) rfl rfl (by kernel_rfl) (by kernel_rfl) (by kernel_rfl) (fun _ _ _ h => h) (by rfl) (by intro w' hSw; (try dsimp only at hSw); go_simp; (try (with_reducible rfl))) (by assumption) ?_
    simp only [Act.put, List.setIfInBounds_toArray, List.set_cons_zero, List.set_cons_succ]
    refine held_take 7 82 (.bool false) rfl rfl (by kernel_rfl) (by kernel_rfl) (by kernel_rfl) (fun _ _ _ h => h) (by rfl) (by intro w' hSw; (try dsimp only at hSw); go_simp; (first | done | with_reducible rfl | (first | done | with_reducible rfl | (have h1 := HLEN.out; have h2 := HLI.out; first | omega | (simp; omega) | (rw [IntKind.wrap_i64]; omega))))) (by assumption) ?_
    simp only [Act.put, List.setIfInBounds_toArray, List.set_cons_zero, List.set_cons_succ]
    refine held_take 8 83 (.bool false) rfl rfl (by kernel_rfl) (by kernel_rfl) (by kernel_rfl) (fun _ _ _ h => h) (by rfl) (by intro w' hSw; (try dsimp only at hSw); go_simp; (try (with_reducible rfl))) (by assumption) ?_
    simp only [Act.put, List.setIfInBounds_toArray, List.set_cons_zero, List.set_cons_succ]
    refine held_take 9 84 (.bool false) rfl rfl (by kernel_rfl) (by kernel_rfl) (by kernel_rfl) (fun _ _ _ h => h) (by rfl) (by intro w' hSw; (try dsimp only at hSw); go_simp; (try (with_reducible rfl))) (by assumption) ?_
    simp only [Act.put, List.setIfInBounds_toArray, List.set_cons_zero, List.set_cons_succ]
    refine held_take 10 85 (.pointer (some ⟨w7.heap.size, 1, none⟩)) rfl rfl (by kernel_rfl) (by kernel_rfl) (by kernel_rfl) (fun _ _ _ h => h) (by rfl) (by intro w' hSw; (try dsimp only at hSw); go_simp; (try (with_reducible rfl))) (by assumption) ?_
    simp only [Act.put, List.setIfInBounds_toArray, List.set_cons_zero, List.set_cons_succ]
    refine held_take 11 86 (.slice (some ⟨ba, oa, none⟩) LA.length ca) rfl rfl (by kernel_rfl) (by kernel_rfl) (by kernel_rfl) (fun _ _ _ h => h) (by rfl) (by intro w' hSw; (try dsimp only at hSw); go_simp; (try (with_reducible rfl))) (by assumption) ?_
    simp only [Act.put, List.setIfInBounds_toArray, List.set_cons_zero, List.set_cons_succ]
    refine held_take 12 87 (.int .i64 li) rfl rfl (by kernel_rfl) (by kernel_rfl) (by kernel_rfl) (fun _ _ _ h => h) (by rfl) (by intro w' hSw; (try dsimp only at hSw); go_simp; (try (with_reducible rfl))) (by assumption) ?_
    simp only [Act.put, List.setIfInBounds_toArray, List.set_cons_zero, List.set_cons_succ]
    refine held_take 13 88 (.pointer (some ⟨ba, oa + li * 12, none⟩)) rfl rfl (by kernel_rfl) (by kernel_rfl) (by kernel_rfl) (fun _ _ _ h => h) (by rfl) (by intro w' hSw; (try dsimp only at hSw); go_simp; (try (with_reducible rfl))) (by assumption) ?_
    simp only [Act.put, List.setIfInBounds_toArray, List.set_cons_zero, List.set_cons_succ]
    refine held_take 14 89 (.agg #[.string e.pod.id, .int .i64 e.pod.prio, .bool e.pod.crit, .int .i64 e.pod.q0, .int .i64 e.pod.q1, .int .i64 e.pod.q2, .int .i64 e.pod.l0, .int .i64 e.pod.l1, .int .i64 e.pod.l2, .string e.pod.image, .int .i64 e.pod.size, .int .i64 e.phase]) rfl rfl (by kernel_rfl) (by kernel_rfl) (by kernel_rfl) (fun _ _ _ h => h) (by rfl) (by intro w' hSw; (try dsimp only at hSw); go_simp; (try (with_reducible rfl))) (by assumption) ?_
    simp only [Act.put, List.setIfInBounds_toArray, List.set_cons_zero, List.set_cons_succ]
    refine held_take 15 90 (.agg #[.string e.pod.id, .int .i64 e.pod.prio, .bool e.pod.crit, .int .i64 e.pod.q0, .int .i64 e.pod.q1, .int .i64 e.pod.q2, .int .i64 e.pod.l0, .int .i64 e.pod.l1, .int .i64 e.pod.l2, .string e.pod.image, .int .i64 e.pod.size, .int .i64 e.phase]) rfl rfl (by kernel_rfl) (by kernel_rfl) (by kernel_rfl) (fun _ _ _ h => h) (by rfl) (by intro w' hSw; (try dsimp only at hSw); go_simp; (try (with_reducible rfl))) (by assumption) ?_
    simp only [Act.put, List.setIfInBounds_toArray, List.set_cons_zero, List.set_cons_succ]
    refine held_take 16 91 (.bool false) rfl rfl (by kernel_rfl) (by kernel_rfl) (by kernel_rfl) (fun _ _ _ h => h) (by rfl) (by intro w' hSw; (try dsimp only at hSw); go_simp; (first | done | with_reducible rfl | (simp [eq3]; done))) (by assumption) ?_
    simp only [Act.put, List.setIfInBounds_toArray, List.set_cons_zero, List.set_cons_succ]
    refine held_take 17 92 (.bool false) rfl rfl (by kernel_rfl) (by kernel_rfl) (by kernel_rfl) (fun _ _ _ h => h) (by rfl) (by intro w' hSw; (try dsimp only at hSw); go_simp; (try (with_reducible rfl))) (by assumption) ?_
    simp only [Act.put, List.setIfInBounds_toArray, List.set_cons_zero, List.set_cons_succ]
    refine held_take 18 93 (.bool false) rfl rfl (by kernel_rfl) (by kernel_rfl) (by kernel_rfl) (fun _ _ _ h => h) (by rfl) (by intro w' hSw; (try dsimp only at hSw); go_simp; (try (with_reducible rfl))) (by assumption) ?_
    simp only [Act.put, List.setIfInBounds_toArray, List.set_cons_zero, List.set_cons_succ]
    refine held_take 19 94 (.bool true) rfl rfl (by kernel_rfl) (by kernel_rfl) (by kernel_rfl) (fun _ _ _ h => h) (by rfl) (by intro w' hSw; (try dsimp only at hSw); go_simp; (try (with_reducible rfl))) (by assumption) ?_
    simp only [Act.put, List.setIfInBounds_toArray, List.set_cons_zero, List.set_cons_succ]
    refine held_take 20 95 (.pointer (some ⟨w7.heap.size, 1, none⟩)) rfl rfl (by kernel_rfl) (by kernel_rfl) (by kernel_rfl) (fun _ _ _ h => h) (by rfl) (by intro w' hSw; (try dsimp only at hSw); go_simp; (try (with_reducible rfl))) (by assumption) ?_
    simp only [Act.put, List.setIfInBounds_toArray, List.set_cons_zero, List.set_cons_succ]
    refine held_take 21 96 (.slice (some ⟨ba, oa, none⟩) LA.length ca) rfl rfl (by kernel_rfl) (by kernel_rfl) (by kernel_rfl) (fun _ _ _ h => h) (by rfl) (by intro w' hSw; (try dsimp only at hSw); go_simp; (try (with_reducible rfl))) (by assumption) ?_
    simp only [Act.put, List.setIfInBounds_toArray, List.set_cons_zero, List.set_cons_succ]
    refine held_take 22 97 (.int .i64 LA.length) rfl rfl (by kernel_rfl) (by kernel_rfl) (by kernel_rfl) (fun _ _ _ h => h) (by rfl) (by intro w' hSw; (try dsimp only at hSw); go_simp; (try (with_reducible rfl))) (by assumption) ?_
    simp only [Act.put, List.setIfInBounds_toArray, List.set_cons_zero, List.set_cons_succ]
    refine held_take 23 98 (.pointer (some ⟨w.heap.size, 1, none⟩)) rfl rfl (by kernel_rfl) (by kernel_rfl) (by kernel_rfl) (fun _ _ _ h => h) (by rfl) (by intro w' hSw; (try dsimp only at hSw); go_simp; (try (with_reducible rfl))) (by assumption) ?_
    simp only [Act.put, List.setIfInBounds_toArray, List.set_cons_zero, List.set_cons_succ]
    refine held_take 24 99 (.slice A l.length c) rfl rfl (by kernel_rfl) (by kernel_rfl) (by kernel_rfl) (fun _ _ _ h => h) (by rfl) (by intro w' hSw; (try dsimp only at hSw); go_simp; (try (with_reducible rfl))) (by assumption) ?_
    simp only [Act.put, List.setIfInBounds_toArray, List.set_cons_zero, List.set_cons_succ]
    refine held_take 25 100 (.int .i64 l.length) rfl rfl (by kernel_rfl) (by kernel_rfl) (by kernel_rfl) (fun _ _ _ h => h) (by rfl) (by intro w' hSw; (try dsimp only at hSw); go_simp; (try (with_reducible rfl))) (by assumption) ?_
    simp only [Act.put, List.setIfInBounds_toArray, List.set_cons_zero, List.set_cons_succ]
    refine held_take 26 101 (.bool true) rfl rfl (by kernel_rfl) (by kernel_rfl) (by kernel_rfl) (fun _ _ _ h => h) (by rfl) (by intro w' hSw; (try dsimp only at hSw); go_simp; (first | done | with_reducible rfl | (have h1 := HLEN.out; first | omega | (simp; done) | (simp; omega)))) (by assumption) ?_
    simp only [Act.put, List.setIfInBounds_toArray, List.set_cons_zero, List.set_cons_succ]
    refine held_take 27 102 (.bool false) rfl rfl (by kernel_rfl) (by kernel_rfl) (by kernel_rfl) (fun _ _ _ h => h) (by rfl) (by intro w' hSw; (try dsimp only at hSw); go_simp; (try (with_reducible rfl))) (by assumption) ?_
    simp only [Act.put, List.setIfInBounds_toArray, List.set_cons_zero, List.set_cons_succ]
    refine held_take 28 103 (.bool false) rfl rfl (by kernel_rfl) (by kernel_rfl) (by kernel_rfl) (fun _ _ _ h => h) (by rfl) (by intro w' hSw; (try dsimp only at hSw); go_simp; (try (with_reducible rfl))) (by assumption) ?_
    simp only [Act.put, List.setIfInBounds_toArray, List.set_cons_zero, List.set_cons_succ]
    refine held_take 29 104 (.bool false) rfl rfl (by kernel_rfl) (by kernel_rfl) (by kernel_rfl) (fun _ _ _ h => h) (by rfl) (by intro w' hSw; (try dsimp only at hSw); go_simp; (try (with_reducible rfl))) (by assumption) ?_
    simp only [Act.put, List.setIfInBounds_toArray, List.set_cons_zero, List.set_cons_succ]
    refine held_take 30 105 (.bool true) rfl rfl (by kernel_rfl) (by kernel_rfl) (by kernel_rfl) (fun _ _ _ h => h) (by rfl) (by intro w' hSw; (try dsimp only at hSw); go_simp; (try (with_reducible rfl))) (by assumption) ?_
    simp only [Act.put, List.setIfInBounds_toArray, List.set_cons_zero, List.set_cons_succ]
    refine held_take 31 106 (.bool false) rfl rfl (by kernel_rfl) (by kernel_rfl) (by kernel_rfl) (fun _ _ _ h => h) (by rfl) (by intro w' hSw; (try dsimp only at hSw); go_simp; (try (with_reducible rfl))) (by assumption) ?_
    simp only [Act.put, List.setIfInBounds_toArray, List.set_cons_zero, List.set_cons_succ]
    refine held_take 32 107 (.bool false) rfl rfl (by kernel_rfl) (by kernel_rfl) (by kernel_rfl) (fun _ _ _ h => h) (by rfl) (by intro w' hSw; (try dsimp only at hSw); go_simp; (try (with_reducible rfl))) (by assumption) ?_
    simp only [Act.put, List.setIfInBounds_toArray, List.set_cons_zero, List.set_cons_succ]
    refine held_skip 33 108 rfl rfl (by kernel_rfl) (by kernel_rfl) (by kernel_rfl) (fun _ _ _ h => h) (by rfl) (by assumption) ?_
    simp only [Act.put, List.setIfInBounds_toArray, List.set_cons_zero, List.set_cons_succ]
    refine held_skip 34 109 rfl rfl (by kernel_rfl) (by kernel_rfl) (by kernel_rfl) (fun _ _ _ h => h) (by rfl) (by assumption) ?_
    simp only [Act.put, List.setIfInBounds_toArray, List.set_cons_zero, List.set_cons_succ]
    refine held_skip 35 110 rfl rfl (by kernel_rfl) (by kernel_rfl) (by kernel_rfl) (fun _ _ _ h => h) (by rfl) (by assumption) ?_
    simp only [Act.put, List.setIfInBounds_toArray, List.set_cons_zero, List.set_cons_succ]
    refine held_skip 36 111 rfl rfl (by kernel_rfl) (by kernel_rfl) (by kernel_rfl) (fun _ _ _ h => h) (by rfl) (by assumption) ?_
    simp only [Act.put, List.setIfInBounds_toArray, List.set_cons_zero, List.set_cons_succ]
    refine held_skip 37 112 rfl rfl (by kernel_rfl) (by kernel_rfl) (by kernel_rfl) (fun _ _ _ h => h) (by rfl) (by assumption) ?_
    simp only [Act.put, List.setIfInBounds_toArray, List.set_cons_zero, List.set_cons_succ]
    refine held_skip 38 113 rfl rfl (by kernel_rfl) (by kernel_rfl) (by kernel_rfl) (fun _ _ _ h => h) (by rfl) (by assumption) ?_
    simp only [Act.put, List.setIfInBounds_toArray, List.set_cons_zero, List.set_cons_succ]
    refine held_skip 39 114 rfl rfl (by kernel_rfl) (by kernel_rfl) (by kernel_rfl) (fun _ _ _ h => h) (by rfl) (by assumption) ?_
    simp only [Act.put, List.setIfInBounds_toArray, List.set_cons_zero, List.set_cons_succ]
    refine held_skip 40 115 rfl rfl (by kernel_rfl) (by kernel_rfl) (by kernel_rfl) (fun _ _ _ h => h) (by rfl) (by assumption) ?_
    simp only [Act.put, List.setIfInBounds_toArray, List.set_cons_zero, List.set_cons_succ]
    refine held_take 41 116 (.bool false) rfl rfl (by kernel_rfl) (by kernel_rfl) (by kernel_rfl) (fun _ _ _ h => h) (by rfl) (by intro w' hSw; (try dsimp only at hSw); go_simp; (try (with_reducible rfl))) (by assumption) ?_
    simp only [Act.put, List.setIfInBounds_toArray, List.set_cons_zero, List.set_cons_succ]
    refine held_take 42 117 (.bool false) rfl rfl (by kernel_rfl) (by kernel_rfl) (by kernel_rfl) (fun _ _ _ h => h) (by rfl) (by intro w' hSw; (try dsimp only at hSw); go_simp; (try (with_reducible rfl))) (by assumption) ?_
    simp only [Act.put, List.setIfInBounds_toArray, List.set_cons_zero, List.set_cons_succ]
    refine wpAnyH_done (by kernel_rfl) ?_ _
    clear hHeld
    clear dli dln2
    have cax := HA.out.cell
    have ce := HQ.out.eb.cell
    go_wp2_with fail
    refine (without_any rd LA e.pod.id (some ⟨ba, oa, none⟩) ca o0 o1 o2 _ RA.out (by have := HLD.out; omega) HWS.out).mono ?_; rintro x w9 ⟨Ab, cb, rfl, ho, hb⟩
    rw [HPL.out.2.2.2.2] at ho ⊢
    have HWB := Lib.hid (withoutS_sorted HSO.out e.pod.id)
    have HLB := Lib.hid (withoutS_len HSO.out e.pod.id)
    have HFB := Lib.hid (show findS (withoutS l e.pod.id) e.pod.id = (0, false) by unfold findS; rw [without_no HSO.out]; rfl)
    have HWW := Lib.hid (show ∀ A c w, Rds w encN A LA → Calls Tryd.prog 23 #[.agg #[.int .i64 rd, .slice A LA.length c, .bool o0, .bool o1, .bool o2], .agg #[.string e.pod.id, .int .i64 e.pod.prio, .bool e.pod.crit, .int .i64 e.pod.q0, .int .i64 e.pod.q1, .int .i64 e.pod.q2, .int .i64 e.pod.l0, .int .i64 e.pod.l1, .int .i64 e.pod.l2, .string e.pod.image, .int .i64 e.pod.size, .int .i64 e.phase]] w (GivesSt rd o0 o1 o2 LA w) from fun A c w h => by
      have q := with_any rd LA e A c o0 o1 o2 w h (by have := HLD.out; omega) HWS.out
      rw [HPL.out.2.2.2.1] at q; exact q)
    have HXX := Lib.hid (show ∀ A c w, Rds w encN A l → Calls Tryd.prog 24 #[.agg #[.int .i64 rd, .slice A l.length c, .bool o0, .bool o1, .bool o2], .string e.pod.id] w (GivesSt rd o0 o1 o2 (withoutS l e.pod.id) w) from fun A c w h => without_any rd l e.pod.id A c o0 o1 o2 w h (by omega) HSO.out)
    generalize withoutS l e.pod.id = LB at *
    have RB := Lib.hid (ho.toRds.alloc (.cells #[.int .i64 rd, .slice Ab LB.length cb, .bool o0, .bool o1, .bool o2] 25))
    have HBx := Lib.hid (Blk.new w9 25 #[.int .i64 rd, .slice Ab LB.length cb, .bool o0, .bool o1, .bool o2])
    have HQ := Lib.hid (HQ.out.below hb)
    have HA := Lib.hid (HA.out.belowAll hb)
    have RA := Lib.hid (RA.out.below hb)
    have HQ := Lib.hid (HQ.out.alloc (.cells #[.int .i64 rd, .slice Ab LB.length cb, .bool o0, .bool o1, .bool o2] 25))
    have HA := Lib.hid (HA.out.alloc (.cells #[.int .i64 rd, .slice Ab LB.length cb, .bool o0, .bool o1, .bool o2] 25))
    have RA := Lib.hid (RA.out.alloc (.cells #[.int .i64 rd, .slice Ab LB.length cb, .bool o0, .bool o1, .bool o2] 25))
    clear ho hb cax ce
    have HLEN2 := Lib.hid HLD.out
    have cbx := HBx.out.cell
    have ce := HQ.out.eb.cell
    go_wp2_with fail
    refine (find_any HFB.out rd Ab cb o0 o1 o2 _ RB.out (by have := HLB.out; omega) HWB.out).mono ?_; rintro x wa ⟨rfl, hb⟩
    have HQ := Lib.hid (HQ.out.below hb)
    have HA := Lib.hid (HA.out.belowAll hb)
    have RA := Lib.hid (RA.out.below hb)
    have HBx := Lib.hid (HBx.out.belowAll hb)
    have RB := Lib.hid (RB.out.below hb)
    clear hb cbx ce
    go_wp2_with fail
    have HQ := Lib.hid HQ.out.drew
    have HA := Lib.hid HA.out.drew
    have RA := Lib.hid RA.out.drew
    have HBx := Lib.hid HBx.out.drew
    have RB := Lib.hid RB.out.drew
    refine wp_region_held_drew (S := (fun w' => w'.cell? ⟨w7.heap.size, 0, none⟩ = some (.int .i64 rd) ∧ w'.cell? ⟨w7.heap.size, 1, none⟩ = some (.slice (some ⟨ba, oa, none⟩) LA.length ca) ∧ w'.cell? ⟨w7.heap.size, 2, none⟩ = some (.bool o0) ∧ w'.cell? ⟨w7.heap.size, 3, none⟩ = some (.bool o1) ∧ w'.cell? ⟨w7.heap.size, 4, none⟩ = some (.bool o2) ∧ w'.cell? ⟨w9.heap.size, 0, none⟩ = some (.int .i64 rd) ∧ w'.cell? ⟨w9.heap.size, 1, none⟩ = some (.slice Ab LB.length cb) ∧ w'.cell? ⟨w9.heap.size, 2, none⟩ = some (.bool o0) ∧ w'.cell? ⟨w9.heap.size, 3, none⟩ = some (.bool o1) ∧ w'.cell? ⟨w9.heap.size, 4, none⟩ = some (.bool o2) ∧ w'.cell? ⟨w.heap.size, 0, none⟩ = some (.int .i64 rd) ∧ w'.cell? ⟨w.heap.size, 1, none⟩ = some (.slice A l.length c) ∧ w'.cell? ⟨w.heap.size, 2, none⟩ = some (.bool o0) ∧ w'.cell? ⟨w.heap.size, 3, none⟩ = some (.bool o1) ∧ w'.cell? ⟨w.heap.size, 4, none⟩ = some (.bool o2) ∧ w'.cell? ⟨w.heap.size + 1, 0, none⟩ = some (.string e.pod.id) ∧ w'.cell? ⟨w.heap.size + 1, 1, none⟩ = some (.int .i64 e.pod.prio) ∧ w'.cell? ⟨w.heap.size + 1, 2, none⟩ = some (.bool e.pod.crit) ∧ w'.cell? ⟨w.heap.size + 1, 3, none⟩ = some (.int .i64 e.pod.q0) ∧ w'.cell? ⟨w.heap.size + 1, 4, none⟩ = some (.int .i64 e.pod.q1) ∧ w'.cell? ⟨w.heap.size + 1, 5, none⟩ = some (.int .i64 e.pod.q2) ∧ w'.cell? ⟨w.heap.size + 1, 6, none⟩ = some (.int .i64 e.pod.l0) ∧ w'.cell? ⟨w.heap.size + 1, 7, none⟩ = some (.int .i64 e.pod.l1) ∧ w'.cell? ⟨w.heap.size + 1, 8, none⟩ = some (.int .i64 e.pod.l2) ∧ w'.cell? ⟨w.heap.size + 1, 9, none⟩ = some (.string e.pod.image) ∧ w'.cell? ⟨w.heap.size + 1, 10, none⟩ = some (.int .i64 e.pod.size) ∧ w'.cell? ⟨w.heap.size + 1, 11, none⟩ = some (.int .i64 e.phase))) (by kernel_rfl) (⟨HA.out.cell 0, HA.out.cell 1, HA.out.cell 2, HA.out.cell 3, HA.out.cell 4, HBx.out.cell 0, HBx.out.cell 1, HBx.out.cell 2, HBx.out.cell 3, HBx.out.cell 4, HQ.out.sb.cell 0, HQ.out.sb.cell 1, HQ.out.sb.cell 2, HQ.out.sb.cell 3, HQ.out.sb.cell 4, HQ.out.eb.cell 0, HQ.out.eb.cell 1, HQ.out.eb.cell 2, HQ.out.eb.cell 3, HQ.out.eb.cell 4, HQ.out.eb.cell 5, HQ.out.eb.cell 6, HQ.out.eb.cell 7, HQ.out.eb.cell 8, HQ.out.eb.cell 9, HQ.out.eb.cell 10, HQ.out.eb.cell 11⟩) (fun hHeld => ?_)
    refine held_take 0 131 (.bool false) rfl rfl (by kernel_rfl) (by kernel_rfl) (by kernel_rfl) (fun _ _ _ h => h) (by rfl) (by intro w' hSw; (try dsimp only at hSw); go_simp; (try (with_reducible rfl))) (by assumption) ?_
    simp only [Act.put, List.setIfInBounds_toArray, List.set_cons_zero, List.set_cons_succ]
    refine held_take 1 132 (.bool true) rfl rfl (by kernel_rfl) (by kernel_rfl) (by kernel_rfl) (fun _ _ _ h => h) (by rfl) (by intro w' hSw; (try dsimp only at hSw); go_simp; (try (with_reducible rfl))) (by assumption) ?_
    simp only [Act.put, List.setIfInBounds_toArray, List.set_cons_zero, List.set_cons_succ]
    refine held_take 2 133 (.bool true) rfl rfl (by kernel_rfl) (by kernel_rfl) (by kernel_rfl) (fun _ _ _ h => h) (by rfl) (by intro w' hSw; (try dsimp only at hSw); go_simp; (try (with_reducible rfl))) (by assumption) ?_
    simp only [Act.put, List.setIfInBounds_toArray, List.set_cons_zero, List.set_cons_succ]
    refine held_take 3 134 (.agg #[.int .i64 rd, .slice (some ⟨ba, oa, none⟩) LA.length ca, .bool o0, .bool o1, .bool o2]) rfl rfl (by kernel_rfl) (by kernel_rfl) (by kernel_rfl) (fun _ _ _ h => h) (by rfl) (by intro w' hSw; (try dsimp only at hSw); go_simp; (try (with_reducible rfl))) (by assumption) ?_
    simp only [Act.put, List.setIfInBounds_toArray, List.set_cons_zero, List.set_cons_succ]
    refine held_take 4 135 (.agg #[.string e.pod.id, .int .i64 e.pod.prio, .bool e.pod.crit, .int .i64 e.pod.q0, .int .i64 e.pod.q1, .int .i64 e.pod.q2, .int .i64 e.pod.l0, .int .i64 e.pod.l1, .int .i64 e.pod.l2, .string e.pod.image, .int .i64 e.pod.size, .int .i64 e.phase]) rfl rfl (by kernel_rfl) (by kernel_rfl) (by kernel_rfl) (fun _ _ _ h => h) (by rfl) (by intro w' hSw; (try dsimp only at hSw); go_simp; (try (with_reducible rfl))) (by assumption) ?_
    simp only [Act.put, List.setIfInBounds_toArray, List.set_cons_zero, List.set_cons_succ]
    refine held_take 6 137 (.agg #[.int .i64 rd, .slice (some ⟨ba, oa, none⟩) LA.length ca, .bool o0, .bool o1, .bool o2]) rfl rfl (by kernel_rfl) (by kernel_rfl) (by kernel_rfl) (fun _ _ _ h => h) (by rfl) (by intro w' hSw; (try dsimp only at hSw); go_simp; (try (with_reducible rfl))) (by assumption) ?_
    simp only [Act.put, List.setIfInBounds_toArray, List.set_cons_zero, List.set_cons_succ]
    refine held_call 5 136 rfl rfl (by kernel_rfl) (by rfl) (fun K hK => ?_)
    go_simp
    go_at_call 23; (with_reducible refine (HWW.out (some ⟨ba, oa, none⟩) ca _ RA.out).mono ?_); rintro x wq ⟨A5, c5, rfl, ho, hb⟩
    have R5 := Lib.hid ho.toRds
    clear ho
    have HQ := Lib.hid (HQ.out.below hb)
    have HA := Lib.hid (HA.out.belowAll hb)
    have RA := Lib.hid (RA.out.below hb)
    have HBx := Lib.hid (HBx.out.belowAll hb)
    have RB := Lib.hid (RB.out.below hb)
    clear hb
    refine hK _ _ (⟨HA.out.cell 0, HA.out.cell 1, HA.out.cell 2, HA.out.cell 3, HA.out.cell 4, HBx.out.cell 0, HBx.out.cell 1, HBx.out.cell 2, HBx.out.cell 3, HBx.out.cell 4, HQ.out.sb.cell 0, HQ.out.sb.cell 1, HQ.out.sb.cell 2, HQ.out.sb.cell 3, HQ.out.sb.cell 4, HQ.out.eb.cell 0, HQ.out.eb.cell 1, HQ.out.eb.cell 2, HQ.out.eb.cell 3, HQ.out.eb.cell 4, HQ.out.eb.cell 5, HQ.out.eb.cell 6, HQ.out.eb.cell 7, HQ.out.eb.cell 8, HQ.out.eb.cell 9, HQ.out.eb.cell 10, HQ.out.eb.cell 11⟩) ?_
    have hHeld := (show wq.cell? ⟨w7.heap.size, 0, none⟩ = some (.int .i64 rd) ∧ wq.cell? ⟨w7.heap.size, 1, none⟩ = some (.slice (some ⟨ba, oa, none⟩) LA.length ca) ∧ wq.cell? ⟨w7.heap.size, 2, none⟩ = some (.bool o0) ∧ wq.cell? ⟨w7.heap.size, 3, none⟩ = some (.bool o1) ∧ wq.cell? ⟨w7.heap.size, 4, none⟩ = some (.bool o2) ∧ wq.cell? ⟨w9.heap.size, 0, none⟩ = some (.int .i64 rd) ∧ wq.cell? ⟨w9.heap.size, 1, none⟩ = some (.slice Ab LB.length cb) ∧ wq.cell? ⟨w9.heap.size, 2, none⟩ = some (.bool o0) ∧ wq.cell? ⟨w9.heap.size, 3, none⟩ = some (.bool o1) ∧ wq.cell? ⟨w9.heap.size, 4, none⟩ = some (.bool o2) ∧ wq.cell? ⟨w.heap.size, 0, none⟩ = some (.int .i64 rd) ∧ wq.cell? ⟨w.heap.size, 1, none⟩ = some (.slice A l.length c) ∧ wq.cell? ⟨w.heap.size, 2, none⟩ = some (.bool o0) ∧ wq.cell? ⟨w.heap.size, 3, none⟩ = some (.bool o1) ∧ wq.cell? ⟨w.heap.size, 4, none⟩ = some (.bool o2) ∧ wq.cell? ⟨w.heap.size + 1, 0, none⟩ = some (.string e.pod.id) ∧ wq.cell? ⟨w.heap.size + 1, 1, none⟩ = some (.int .i64 e.pod.prio) ∧ wq.cell? ⟨w.heap.size + 1, 2, none⟩ = some (.bool e.pod.crit) ∧ wq.cell? ⟨w.heap.size + 1, 3, none⟩ = some (.int .i64 e.pod.q0) ∧ wq.cell? ⟨w.heap.size + 1, 4, none⟩ = some (.int .i64 e.pod.q1) ∧ wq.cell? ⟨w.heap.size + 1, 5, none⟩ = some (.int .i64 e.pod.q2) ∧ wq.cell? ⟨w.heap.size + 1, 6, none⟩ = some (.int .i64 e.pod.l0) ∧ wq.cell? ⟨w.heap.size + 1, 7, none⟩ = some (.int .i64 e.pod.l1) ∧ wq.cell? ⟨w.heap.size + 1, 8, none⟩ = some (.int .i64 e.pod.l2) ∧ wq.cell? ⟨w.heap.size + 1, 9, none⟩ = some (.string e.pod.image) ∧ wq.cell? ⟨w.heap.size + 1, 10, none⟩ = some (.int .i64 e.pod.size) ∧ wq.cell? ⟨w.heap.size + 1, 11, none⟩ = some (.int .i64 e.phase) from ⟨HA.out.cell 0, HA.out.cell 1, HA.out.cell 2, HA.out.cell 3, HA.out.cell 4, HBx.out.cell 0, HBx.out.cell 1, HBx.out.cell 2, HBx.out.cell 3, HBx.out.cell 4, HQ.out.sb.cell 0, HQ.out.sb.cell 1, HQ.out.sb.cell 2, HQ.out.sb.cell 3, HQ.out.sb.cell 4, HQ.out.eb.cell 0, HQ.out.eb.cell 1, HQ.out.eb.cell 2, HQ.out.eb.cell 3, HQ.out.eb.cell 4, HQ.out.eb.cell 5, HQ.out.eb.cell 6, HQ.out.eb.cell 7, HQ.out.eb.cell 8, HQ.out.eb.cell 9, HQ.out.eb.cell 10, HQ.out.eb.cell 11⟩)
    clear hK K
    simp only [Act.put, List.setIfInBounds_toArray, List.set_cons_zero, List.set_cons_succ]
    refine held_call 7 138 rfl rfl (by kernel_rfl) (by rfl) (fun K hK => ?_)
    go_simp
    go_at_call 20; (with_reducible refine (same24_any rd LA A5 (some ⟨ba, oa, none⟩) c5 ca o0 o1 o2 _ R5.out RA.out (by have := HLEN2.out; omega)).mono ?_); rintro x wq ⟨rfl, hb⟩
    clear R5
    have HQ := Lib.hid (HQ.out.below hb)
    have HA := Lib.hid (HA.out.belowAll hb)
    have RA := Lib.hid (RA.out.below hb)
    have HBx := Lib.hid (HBx.out.belowAll hb)
    have RB := Lib.hid (RB.out.below hb)
    clear hb
    refine hK _ _ (⟨HA.out.cell 0, HA.out.cell 1, HA.out.cell 2, HA.out.cell 3, HA.out.cell 4, HBx.out.cell 0, HBx.out.cell 1, HBx.out.cell 2, HBx.out.cell 3, HBx.out.cell 4, HQ.out.sb.cell 0, HQ.out.sb.cell 1, HQ.out.sb.cell 2, HQ.out.sb.cell 3, HQ.out.sb.cell 4, HQ.out.eb.cell 0, HQ.out.eb.cell 1, HQ.out.eb.cell 2, HQ.out.eb.cell 3, HQ.out.eb.cell 4, HQ.out.eb.cell 5, HQ.out.eb.cell 6, HQ.out.eb.cell 7, HQ.out.eb.cell 8, HQ.out.eb.cell 9, HQ.out.eb.cell 10, HQ.out.eb.cell 11⟩) ?_
    have hHeld := (show wq.cell? ⟨w7.heap.size, 0, none⟩ = some (.int .i64 rd) ∧ wq.cell? ⟨w7.heap.size, 1, none⟩ = some (.slice (some ⟨ba, oa, none⟩) LA.length ca) ∧ wq.cell? ⟨w7.heap.size, 2, none⟩ = some (.bool o0) ∧ wq.cell? ⟨w7.heap.size, 3, none⟩ = some (.bool o1) ∧ wq.cell? ⟨w7.heap.size, 4, none⟩ = some (.bool o2) ∧ wq.cell? ⟨w9.heap.size, 0, none⟩ = some (.int .i64 rd) ∧ wq.cell? ⟨w9.heap.size, 1, none⟩ = some (.slice Ab LB.length cb) ∧ wq.cell? ⟨w9.heap.size, 2, none⟩ = some (.bool o0) ∧ wq.cell? ⟨w9.heap.size, 3, none⟩ = some (.bool o1) ∧ wq.cell? ⟨w9.heap.size, 4, none⟩ = some (.bool o2) ∧ wq.cell? ⟨w.heap.size, 0, none⟩ = some (.int .i64 rd) ∧ wq.cell? ⟨w.heap.size, 1, none⟩ = some (.slice A l.length c) ∧ wq.cell? ⟨w.heap.size, 2, none⟩ = some (.bool o0) ∧ wq.cell? ⟨w.heap.size, 3, none⟩ = some (.bool o1) ∧ wq.cell? ⟨w.heap.size, 4, none⟩ = some (.bool o2) ∧ wq.cell? ⟨w.heap.size + 1, 0, none⟩ = some (.string e.pod.id) ∧ wq.cell? ⟨w.heap.size + 1, 1, none⟩ = some (.int .i64 e.pod.prio) ∧ wq.cell? ⟨w.heap.size + 1, 2, none⟩ = some (.bool e.pod.crit) ∧ wq.cell? ⟨w.heap.size + 1, 3, none⟩ = some (.int .i64 e.pod.q0) ∧ wq.cell? ⟨w.heap.size + 1, 4, none⟩ = some (.int .i64 e.pod.q1) ∧ wq.cell? ⟨w.heap.size + 1, 5, none⟩ = some (.int .i64 e.pod.q2) ∧ wq.cell? ⟨w.heap.size + 1, 6, none⟩ = some (.int .i64 e.pod.l0) ∧ wq.cell? ⟨w.heap.size + 1, 7, none⟩ = some (.int .i64 e.pod.l1) ∧ wq.cell? ⟨w.heap.size + 1, 8, none⟩ = some (.int .i64 e.pod.l2) ∧ wq.cell? ⟨w.heap.size + 1, 9, none⟩ = some (.string e.pod.image) ∧ wq.cell? ⟨w.heap.size + 1, 10, none⟩ = some (.int .i64 e.pod.size) ∧ wq.cell? ⟨w.heap.size + 1, 11, none⟩ = some (.int .i64 e.phase) from ⟨HA.out.cell 0, HA.out.cell 1, HA.out.cell 2, HA.out.cell 3, HA.out.cell 4, HBx.out.cell 0, HBx.out.cell 1, HBx.out.cell 2, HBx.out.cell 3, HBx.out.cell 4, HQ.out.sb.cell 0, HQ.out.sb.cell 1, HQ.out.sb.cell 2, HQ.out.sb.cell 3, HQ.out.sb.cell 4, HQ.out.eb.cell 0, HQ.out.eb.cell 1, HQ.out.eb.cell 2, HQ.out.eb.cell 3, HQ.out.eb.cell 4, HQ.out.eb.cell 5, HQ.out.eb.cell 6, HQ.out.eb.cell 7, HQ.out.eb.cell 8, HQ.out.eb.cell 9, HQ.out.eb.cell 10, HQ.out.eb.cell 11⟩)
    clear hK K
    simp only [Act.put, List.setIfInBounds_toArray, List.set_cons_zero, List.set_cons_succ]
    refine held_take 8 139 (.bool true) rfl rfl (by kernel_rfl) (by kernel_rfl) (by kernel_rfl) (fun _ _ _ h => h) (by rfl) (by intro w' hSw; (try dsimp only at hSw); go_simp; (try (with_reducible rfl))) (by assumption) ?_
    simp only [Act.put, List.setIfInBounds_toArray, List.set_cons_zero, List.set_cons_succ]
    refine held_take 9 140 (.bool true) rfl rfl (by kernel_rfl) (by kernel_rfl) (by kernel_rfl) (fun _ _ _ h => h) (by rfl) (by intro w' hSw; (try dsimp only at hSw); go_simp; (try (with_reducible rfl))) (by assumption) ?_
    simp only [Act.put, List.setIfInBounds_toArray, List.set_cons_zero, List.set_cons_succ]
    refine held_take 10 141 (.agg #[.int .i64 rd, .slice Ab LB.length cb, .bool o0, .bool o1, .bool o2]) rfl rfl (by kernel_rfl) (by kernel_rfl) (by kernel_rfl) (fun _ _ _ h => h) (by rfl) (by intro w' hSw; (try dsimp only at hSw); go_simp; (try (with_reducible rfl))) (by assumption) ?_
    simp only [Act.put, List.setIfInBounds_toArray, List.set_cons_zero, List.set_cons_succ]
    refine held_take 11 142 (.agg #[.int .i64 rd, .slice A l.length c, .bool o0, .bool o1, .bool o2]) rfl rfl (by kernel_rfl) (by kernel_rfl) (by kernel_rfl) (fun _ _ _ h => h) (by rfl) (by intro w' hSw; (try dsimp only at hSw); go_simp; (try (with_reducible rfl))) (by assumption) ?_
    simp only [Act.put, List.setIfInBounds_toArray, List.set_cons_zero, List.set_cons_succ]
    refine held_take 12 143 (.pointer (some ⟨w.heap.size + 1, 0, none⟩)) rfl rfl (by kernel_rfl) (by kernel_rfl) (by kernel_rfl) (fun _ _ _ h => h) (by rfl) (by intro w' hSw; (try dsimp only at hSw); go_simp; (try (with_reducible rfl))) (by assumption) ?_
    simp only [Act.put, List.setIfInBounds_toArray, List.set_cons_zero, List.set_cons_succ]
    refine held_take 13 144 (.pointer (some ⟨w.heap.size + 1, 0, none⟩)) rfl rfl (by kernel_rfl) (by kernel_rfl) (by kernel_rfl) (fun _ _ _ h => h) (by rfl) (by intro w' hSw; (try dsimp only at hSw); go_simp; (try (with_reducible rfl))) (by assumption) ?_
    simp only [Act.put, List.setIfInBounds_toArray, List.set_cons_zero, List.set_cons_succ]
    refine held_take 14 145 (.string e.pod.id) rfl rfl (by kernel_rfl) (by kernel_rfl) (by kernel_rfl) (fun _ _ _ h => h) (by rfl) (by intro w' hSw; (try dsimp only at hSw); go_simp; (try (with_reducible rfl))) (by assumption) ?_
    simp only [Act.put, List.setIfInBounds_toArray, List.set_cons_zero, List.set_cons_succ]
    refine held_call 15 146 rfl rfl (by kernel_rfl) (by rfl) (fun K hK => ?_)
    go_simp
    go_at_call 24; (with_reducible refine (HXX.out A c _ (HR.out.below HQ.out.bel)).mono ?_); rintro x wq ⟨A6, c6, rfl, ho, hb⟩
    have R6 := Lib.hid ho.toRds
    clear ho
    have HQ := Lib.hid (HQ.out.below hb)
    have HA := Lib.hid (HA.out.belowAll hb)
    have RA := Lib.hid (RA.out.below hb)
    have HBx := Lib.hid (HBx.out.belowAll hb)
    have RB := Lib.hid (RB.out.below hb)
    clear hb
    refine hK _ _ (⟨HA.out.cell 0, HA.out.cell 1, HA.out.cell 2, HA.out.cell 3, HA.out.cell 4, HBx.out.cell 0, HBx.out.cell 1, HBx.out.cell 2, HBx.out.cell 3, HBx.out.cell 4, HQ.out.sb.cell 0, HQ.out.sb.cell 1, HQ.out.sb.cell 2, HQ.out.sb.cell 3, HQ.out.sb.cell 4, HQ.out.eb.cell 0, HQ.out.eb.cell 1, HQ.out.eb.cell 2, HQ.out.eb.cell 3, HQ.out.eb.cell 4, HQ.out.eb.cell 5, HQ.out.eb.cell 6, HQ.out.eb.cell 7, HQ.out.eb.cell 8, HQ.out.eb.cell 9, HQ.out.eb.cell 10, HQ.out.eb.cell 11⟩) ?_
    have hHeld := (show wq.cell? ⟨w7.heap.size, 0, none⟩ = some (.int .i64 rd) ∧ wq.cell? ⟨w7.heap.size, 1, none⟩ = some (.slice (some ⟨ba, oa, none⟩) LA.length ca) ∧ wq.cell? ⟨w7.heap.size, 2, none⟩ = some (.bool o0) ∧ wq.cell? ⟨w7.heap.size, 3, none⟩ = some (.bool o1) ∧ wq.cell? ⟨w7.heap.size, 4, none⟩ = some (.bool o2) ∧ wq.cell? ⟨w9.heap.size, 0, none⟩ = some (.int .i64 rd) ∧ wq.cell? ⟨w9.heap.size, 1, none⟩ = some (.slice Ab LB.length cb) ∧ wq.cell? ⟨w9.heap.size, 2, none⟩ = some (.bool o0) ∧ wq.cell? ⟨w9.heap.size, 3, none⟩ = some (.bool o1) ∧ wq.cell? ⟨w9.heap.size, 4, none⟩ = some (.bool o2) ∧ wq.cell? ⟨w.heap.size, 0, none⟩ = some (.int .i64 rd) ∧ wq.cell? ⟨w.heap.size, 1, none⟩ = some (.slice A l.length c) ∧ wq.cell? ⟨w.heap.size, 2, none⟩ = some (.bool o0) ∧ wq.cell? ⟨w.heap.size, 3, none⟩ = some (.bool o1) ∧ wq.cell? ⟨w.heap.size, 4, none⟩ = some (.bool o2) ∧ wq.cell? ⟨w.heap.size + 1, 0, none⟩ = some (.string e.pod.id) ∧ wq.cell? ⟨w.heap.size + 1, 1, none⟩ = some (.int .i64 e.pod.prio) ∧ wq.cell? ⟨w.heap.size + 1, 2, none⟩ = some (.bool e.pod.crit) ∧ wq.cell? ⟨w.heap.size + 1, 3, none⟩ = some (.int .i64 e.pod.q0) ∧ wq.cell? ⟨w.heap.size + 1, 4, none⟩ = some (.int .i64 e.pod.q1) ∧ wq.cell? ⟨w.heap.size + 1, 5, none⟩ = some (.int .i64 e.pod.q2) ∧ wq.cell? ⟨w.heap.size + 1, 6, none⟩ = some (.int .i64 e.pod.l0) ∧ wq.cell? ⟨w.heap.size + 1, 7, none⟩ = some (.int .i64 e.pod.l1) ∧ wq.cell? ⟨w.heap.size + 1, 8, none⟩ = some (.int .i64 e.pod.l2) ∧ wq.cell? ⟨w.heap.size + 1, 9, none⟩ = some (.string e.pod.image) ∧ wq.cell? ⟨w.heap.size + 1, 10, none⟩ = some (.int .i64 e.pod.size) ∧ wq.cell? ⟨w.heap.size + 1, 11, none⟩ = some (.int .i64 e.phase) from ⟨HA.out.cell 0, HA.out.cell 1, HA.out.cell 2, HA.out.cell 3, HA.out.cell 4, HBx.out.cell 0, HBx.out.cell 1, HBx.out.cell 2, HBx.out.cell 3, HBx.out.cell 4, HQ.out.sb.cell 0, HQ.out.sb.cell 1, HQ.out.sb.cell 2, HQ.out.sb.cell 3, HQ.out.sb.cell 4, HQ.out.eb.cell 0, HQ.out.eb.cell 1, HQ.out.eb.cell 2, HQ.out.eb.cell 3, HQ.out.eb.cell 4, HQ.out.eb.cell 5, HQ.out.eb.cell 6, HQ.out.eb.cell 7, HQ.out.eb.cell 8, HQ.out.eb.cell 9, HQ.out.eb.cell 10, HQ.out.eb.cell 11⟩)
    clear hK K
    simp only [Act.put, List.setIfInBounds_toArray, List.set_cons_zero, List.set_cons_succ]
    refine held_call 16 147 rfl rfl (by kernel_rfl) (by rfl) (fun K hK => ?_)
    go_simp
    go_at_call 20; (with_reducible refine (same24_any rd LB Ab A6 cb c6 o0 o1 o2 _ RB.out R6.out (by have := HLB.out; omega)).mono ?_); rintro x wq ⟨rfl, hb⟩
    clear R6
    have HQ := Lib.hid (HQ.out.below hb)
    have HA := Lib.hid (HA.out.belowAll hb)
    have RA := Lib.hid (RA.out.below hb)
    have HBx := Lib.hid (HBx.out.belowAll hb)
    have RB := Lib.hid (RB.out.below hb)
    clear hb
    refine hK _ _ (⟨HA.out.cell 0, HA.out.cell 1, HA.out.cell 2, HA.out.cell 3, HA.out.cell 4, HBx.out.cell 0, HBx.out.cell 1, HBx.out.cell 2, HBx.out.cell 3, HBx.out.cell 4, HQ.out.sb.cell 0, HQ.out.sb.cell 1, HQ.out.sb.cell 2, HQ.out.sb.cell 3, HQ.out.sb.cell 4, HQ.out.eb.cell 0, HQ.out.eb.cell 1, HQ.out.eb.cell 2, HQ.out.eb.cell 3, HQ.out.eb.cell 4, HQ.out.eb.cell 5, HQ.out.eb.cell 6, HQ.out.eb.cell 7, HQ.out.eb.cell 8, HQ.out.eb.cell 9, HQ.out.eb.cell 10, HQ.out.eb.cell 11⟩) ?_
    have hHeld := (show wq.cell? ⟨w7.heap.size, 0, none⟩ = some (.int .i64 rd) ∧ wq.cell? ⟨w7.heap.size, 1, none⟩ = some (.slice (some ⟨ba, oa, none⟩) LA.length ca) ∧ wq.cell? ⟨w7.heap.size, 2, none⟩ = some (.bool o0) ∧ wq.cell? ⟨w7.heap.size, 3, none⟩ = some (.bool o1) ∧ wq.cell? ⟨w7.heap.size, 4, none⟩ = some (.bool o2) ∧ wq.cell? ⟨w9.heap.size, 0, none⟩ = some (.int .i64 rd) ∧ wq.cell? ⟨w9.heap.size, 1, none⟩ = some (.slice Ab LB.length cb) ∧ wq.cell? ⟨w9.heap.size, 2, none⟩ = some (.bool o0) ∧ wq.cell? ⟨w9.heap.size, 3, none⟩ = some (.bool o1) ∧ wq.cell? ⟨w9.heap.size, 4, none⟩ = some (.bool o2) ∧ wq.cell? ⟨w.heap.size, 0, none⟩ = some (.int .i64 rd) ∧ wq.cell? ⟨w.heap.size, 1, none⟩ = some (.slice A l.length c) ∧ wq.cell? ⟨w.heap.size, 2, none⟩ = some (.bool o0) ∧ wq.cell? ⟨w.heap.size, 3, none⟩ = some (.bool o1) ∧ wq.cell? ⟨w.heap.size, 4, none⟩ = some (.bool o2) ∧ wq.cell? ⟨w.heap.size + 1, 0, none⟩ = some (.string e.pod.id) ∧ wq.cell? ⟨w.heap.size + 1, 1, none⟩ = some (.int .i64 e.pod.prio) ∧ wq.cell? ⟨w.heap.size + 1, 2, none⟩ = some (.bool e.pod.crit) ∧ wq.cell? ⟨w.heap.size + 1, 3, none⟩ = some (.int .i64 e.pod.q0) ∧ wq.cell? ⟨w.heap.size + 1, 4, none⟩ = some (.int .i64 e.pod.q1) ∧ wq.cell? ⟨w.heap.size + 1, 5, none⟩ = some (.int .i64 e.pod.q2) ∧ wq.cell? ⟨w.heap.size + 1, 6, none⟩ = some (.int .i64 e.pod.l0) ∧ wq.cell? ⟨w.heap.size + 1, 7, none⟩ = some (.int .i64 e.pod.l1) ∧ wq.cell? ⟨w.heap.size + 1, 8, none⟩ = some (.int .i64 e.pod.l2) ∧ wq.cell? ⟨w.heap.size + 1, 9, none⟩ = some (.string e.pod.image) ∧ wq.cell? ⟨w.heap.size + 1, 10, none⟩ = some (.int .i64 e.pod.size) ∧ wq.cell? ⟨w.heap.size + 1, 11, none⟩ = some (.int .i64 e.phase) from ⟨HA.out.cell 0, HA.out.cell 1, HA.out.cell 2, HA.out.cell 3, HA.out.cell 4, HBx.out.cell 0, HBx.out.cell 1, HBx.out.cell 2, HBx.out.cell 3, HBx.out.cell 4, HQ.out.sb.cell 0, HQ.out.sb.cell 1, HQ.out.sb.cell 2, HQ.out.sb.cell 3, HQ.out.sb.cell 4, HQ.out.eb.cell 0, HQ.out.eb.cell 1, HQ.out.eb.cell 2, HQ.out.eb.cell 3, HQ.out.eb.cell 4, HQ.out.eb.cell 5, HQ.out.eb.cell 6, HQ.out.eb.cell 7, HQ.out.eb.cell 8, HQ.out.eb.cell 9, HQ.out.eb.cell 10, HQ.out.eb.cell 11⟩)
    clear hK K
    simp only [Act.put, List.setIfInBounds_toArray, List.set_cons_zero, List.set_cons_succ]
    refine held_take 17 148 (.bool true) rfl rfl (by kernel_rfl) (by kernel_rfl) (by kernel_rfl) (fun _ _ _ h => h) (by rfl) (by intro w' hSw; (try dsimp only at hSw); go_simp; (try (with_reducible rfl))) (by assumption) ?_
    simp only [Act.put, List.setIfInBounds_toArray, List.set_cons_zero, List.set_cons_succ]
    refine held_take 18 149 (.bool true) rfl rfl (by kernel_rfl) (by kernel_rfl) (by kernel_rfl) (fun _ _ _ h => h) (by rfl) (by intro w' hSw; (try dsimp only at hSw); go_simp; (try (with_reducible rfl))) (by assumption) ?_
    simp only [Act.put, List.setIfInBounds_toArray, List.set_cons_zero, List.set_cons_succ]
    refine held_take 19 150 (.bool true) rfl rfl (by kernel_rfl) (by kernel_rfl) (by kernel_rfl) (fun _ _ _ h => h) (by rfl) (by intro w' hSw; (try dsimp only at hSw); go_simp; (try (with_reducible rfl))) (by assumption) ?_
    simp only [Act.put, List.setIfInBounds_toArray, List.set_cons_zero, List.set_cons_succ]
    refine held_take 20 151 (.bool true) rfl rfl (by kernel_rfl) (by kernel_rfl) (by kernel_rfl) (fun _ _ _ h => h) (by rfl) (by intro w' hSw; (try dsimp only at hSw); go_simp; (try (with_reducible rfl))) (by assumption) ?_
    simp only [Act.put, List.setIfInBounds_toArray, List.set_cons_zero, List.set_cons_succ]
    refine held_skip 21 152 rfl rfl (by kernel_rfl) (by kernel_rfl) (by kernel_rfl) (fun _ _ _ h => h) (by rfl) (by assumption) ?_
    simp only [Act.put, List.setIfInBounds_toArray, List.set_cons_zero, List.set_cons_succ]
    refine held_skip 22 153 rfl rfl (by kernel_rfl) (by kernel_rfl) (by kernel_rfl) (fun _ _ _ h => h) (by rfl) (by assumption) ?_
    simp only [Act.put, List.setIfInBounds_toArray, List.set_cons_zero, List.set_cons_succ]
    refine held_skip 23 154 rfl rfl (by kernel_rfl) (by kernel_rfl) (by kernel_rfl) (fun _ _ _ h => h) (by rfl) (by assumption) ?_
    simp only [Act.put, List.setIfInBounds_toArray, List.set_cons_zero, List.set_cons_succ]
    refine held_take 24 155 (.bool true) rfl rfl (by kernel_rfl) (by kernel_rfl) (by kernel_rfl) (fun _ _ _ h => h) (by rfl) (by intro w' hSw; (try dsimp only at hSw); go_simp; (try (with_reducible rfl))) (by assumption) ?_
    simp only [Act.put, List.setIfInBounds_toArray, List.set_cons_zero, List.set_cons_succ]
    refine held_take 25 156 (.bool true) rfl rfl (by kernel_rfl) (by kernel_rfl) (by kernel_rfl) (fun _ _ _ h => h) (by rfl) (by intro w' hSw; (try dsimp only at hSw); go_simp; (try (with_reducible rfl))) (by assumption) ?_
    simp only [Act.put, List.setIfInBounds_toArray, List.set_cons_zero, List.set_cons_succ]
    refine held_take 26 157 (.bool true) rfl rfl (by kernel_rfl) (by kernel_rfl) (by kernel_rfl) (fun _ _ _ h => h) (by rfl) (by intro w' hSw; (try dsimp only at hSw); go_simp; (try (with_reducible rfl))) (by assumption) ?_
    simp only [Act.put, List.setIfInBounds_toArray, List.set_cons_zero, List.set_cons_succ]
    refine held_take 27 158 (.pointer (some ⟨w7.heap.size, 0, none⟩)) rfl rfl (by kernel_rfl) (by kernel_rfl) (by kernel_rfl) (fun _ _ _ h => h) (by rfl) (by intro w' hSw; (try dsimp only at hSw); go_simp; (try (with_reducible rfl))) (by assumption) ?_
    simp only [Act.put, List.setIfInBounds_toArray, List.set_cons_zero, List.set_cons_succ]
    refine held_take 28 159 (.int .i64 rd) rfl rfl (by kernel_rfl) (by kernel_rfl) (by kernel_rfl) (fun _ _ _ h => h) (by rfl) (by intro w' hSw; (try dsimp only at hSw); go_simp; (try (with_reducible rfl))) (by assumption) ?_
    simp only [Act.put, List.setIfInBounds_toArray, List.set_cons_zero, List.set_cons_succ]
    refine held_take 29 160 (.pointer (some ⟨w.heap.size, 0, none⟩)) rfl rfl (by kernel_rfl) (by kernel_rfl) (by kernel_rfl) (fun _ _ _ h => h) (by rfl) (by intro w' hSw; (try dsimp only at hSw); go_simp; (try (with_reducible rfl))) (by assumption) ?_
    simp only [Act.put, List.setIfInBounds_toArray, List.set_cons_zero, List.set_cons_succ]
    refine held_take 30 161 (.int .i64 rd) rfl rfl (by kernel_rfl) (by kernel_rfl) (by kernel_rfl) (fun _ _ _ h => h) (by rfl) (by intro w' hSw; (try dsimp only at hSw); go_simp; (try (with_reducible rfl))) (by assumption) ?_
    simp only [Act.put, List.setIfInBounds_toArray, List.set_cons_zero, List.set_cons_succ]
    refine held_take 31 162 (.bool true) rfl rfl (by kernel_rfl) (by kernel_rfl) (by kernel_rfl) (fun _ _ _ h => h) (by rfl) (by intro w' hSw; (try dsimp only at hSw); go_simp; (first | done | with_reducible rfl | (simp; done))) (by assumption) ?_
    simp only [Act.put, List.setIfInBounds_toArray, List.set_cons_zero, List.set_cons_succ]
    refine held_take 32 163 (.bool true) rfl rfl (by kernel_rfl) (by kernel_rfl) (by kernel_rfl) (fun _ _ _ h => h) (by rfl) (by intro w' hSw; (try dsimp only at hSw); go_simp; (try (with_reducible rfl))) (by assumption) ?_
    simp only [Act.put, List.setIfInBounds_toArray, List.set_cons_zero, List.set_cons_succ]
    refine held_take 33 164 (.bool true) rfl rfl (by kernel_rfl) (by kernel_rfl) (by kernel_rfl) (fun _ _ _ h => h) (by rfl) (by intro w' hSw; (try dsimp only at hSw); go_simp; (try (with_reducible rfl))) (by assumption) ?_
    simp only [Act.put, List.setIfInBounds_toArray, List.set_cons_zero, List.set_cons_succ]
    refine held_take 34 165 (.pointer (some ⟨w7.heap.size, 2, none⟩)) rfl rfl (by kernel_rfl) (by kernel_rfl) (by kernel_rfl) (fun _ _ _ h => h) (by rfl) (by intro w' hSw; (try dsimp only at hSw); go_simp; (try (with_reducible rfl))) (by assumption) ?_
    simp only [Act.put, List.setIfInBounds_toArray, List.set_cons_zero, List.set_cons_succ]
    refine held_take 35 166 (.agg #[.bool o0, .bool o1, .bool o2]) rfl rfl (by kernel_rfl) (by kernel_rfl) (by kernel_rfl) (fun _ _ _ h => h) (by rfl) (by intro w' hSw; (try dsimp only at hSw); go_simp; (try (with_reducible rfl))) (by assumption) ?_
    simp only [Act.put, List.setIfInBounds_toArray, List.set_cons_zero, List.set_cons_succ]
    refine held_take 36 167 (.pointer (some ⟨w.heap.size, 2, none⟩)) rfl rfl (by kernel_rfl) (by kernel_rfl) (by kernel_rfl) (fun _ _ _ h => h) (by rfl) (by intro w' hSw; (try dsimp only at hSw); go_simp; (try (with_reducible rfl))) (by assumption) ?_
    simp only [Act.put, List.setIfInBounds_toArray, List.set_cons_zero, List.set_cons_succ]
    refine held_take 37 168 (.agg #[.bool o0, .bool o1, .bool o2]) rfl rfl (by kernel_rfl) (by kernel_rfl) (by kernel_rfl) (fun _ _ _ h => h) (by rfl) (by intro w' hSw; (try dsimp only at hSw); go_simp; (try (with_reducible rfl))) (by assumption) ?_
    simp only [Act.put, List.setIfInBounds_toArray, List.set_cons_zero, List.set_cons_succ]
    refine held_take 38 169 (.bool true) rfl rfl (by kernel_rfl) (by kernel_rfl) (by kernel_rfl) (fun _ _ _ h => h) (by rfl) (by intro w' hSw; (try dsimp only at hSw); go_simp; (first | done | with_reducible rfl | (simp [eqB3]; done))) (by assumption) ?_
    simp only [Act.put, List.setIfInBounds_toArray, List.set_cons_zero, List.set_cons_succ]
    refine held_take 39 170 (.bool true) rfl rfl (by kernel_rfl) (by kernel_rfl) (by kernel_rfl) (fun _ _ _ h => h) (by rfl) (by intro w' hSw; (try dsimp only at hSw); go_simp; (try (with_reducible rfl))) (by assumption) ?_
    simp only [Act.put, List.setIfInBounds_toArray, List.set_cons_zero, List.set_cons_succ]
    refine held_take 40 4 (.bool true) rfl rfl (by kernel_rfl) (by kernel_rfl) (by kernel_rfl) (fun _ _ _ h => h) (by rfl) (by intro w' hSw; (try dsimp only at hSw); go_simp; (try (with_reducible rfl))) (by assumption) ?_
    simp only [Act.put, List.setIfInBounds_toArray, List.set_cons_zero, List.set_cons_succ]
    refine wpAnyH_done (by kernel_rfl) ?_ _
    clear hHeld
    go_wp2_with fail
    go_ret
    exact ⟨rfl, HQ.out.bel⟩
end Go.Proofs.YtakgblgbfbpmoaaDoor
