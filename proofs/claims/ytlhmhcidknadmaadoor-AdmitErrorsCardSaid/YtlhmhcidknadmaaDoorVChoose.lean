/- victim.Choose: who goes. -/
import Derived.Test.YtlhmhcidknadmaaDoorVApart
import Derived.Test.YtlhmhcidknadmaaDoorHeldOp
import Derived.Deep.DeepCutAuto
namespace Go.Proofs.YtlhmhcidknadmaaDoor
open Go.RowKit

section
variable {P : Program} {ops : Array Oper} {Q : Exit → Act → World → Prop} {S : World → Prop} {md : Region.Mode} {fuel : Nat} {listed : Array Bool} {a : Act} {w : World}
theorem held_twoD (i j di dj : Nat) {oi oj : Oper} (hi : ops[i]? = some oi) (hj : ops[j]? = some oj) (hdi : oi.dst = some di) (hdj : oj.dst = some dj) (hr : Region.ready md ops listed = [i, j]) (hwi : Region.wanted oi (yielded ops a.tmps) = true) (hwj : Region.wanted oj (yielded ops a.tmps) = true)
    (h1 : ∀ K : Act → World → Prop, (∀ v w', S w' → wpAnyH P md ops Q S fuel (listed.setIfInBounds i true) (a.put (some di) v) w' → K (a.put (some di) v) w') → Oper.wp P oi a w K Q)
    (h2 : ∀ K : Act → World → Prop, (∀ v w', S w' → wpAnyH P md ops Q S fuel (listed.setIfInBounds j true) (a.put (some dj) v) w' → K (a.put (some dj) v) w') → Oper.wp P oj a w K Q) : wpAnyH P md ops Q S (fuel + 1) listed a w :=
  held_two i j hi hj hr hwi hwj (by rw [hdi]; exact h1) (by rw [hdj]; exact h2)
end
theorem Blk.pd {W : World} {n : Nat} {x : Pd} (h : Blk W n 29 #[.string x.id, .int .i64 x.prio, .bool x.crit, .int .i64 x.q0, .int .i64 x.q1, .int .i64 x.q2, .int .i64 x.l0, .int .i64 x.l1, .int .i64 x.l2, .string x.image, .int .i64 x.size]) : W.cell? ⟨n, 0, none⟩ = some (.string x.id) ∧ W.cell? ⟨n, 1, none⟩ = some (.int .i64 x.prio) ∧ W.cell? ⟨n, 2, none⟩ = some (.bool x.crit) ∧ W.cell? ⟨n, 3, none⟩ = some (.int .i64 x.q0) ∧ W.cell? ⟨n, 4, none⟩ = some (.int .i64 x.q1) ∧ W.cell? ⟨n, 5, none⟩ = some (.int .i64 x.q2) ∧ W.cell? ⟨n, 6, none⟩ = some (.int .i64 x.l0) ∧ W.cell? ⟨n, 7, none⟩ = some (.int .i64 x.l1) ∧ W.cell? ⟨n, 8, none⟩ = some (.int .i64 x.l2) ∧ W.cell? ⟨n, 9, none⟩ = some (.string x.image) ∧ W.cell? ⟨n, 10, none⟩ = some (.int .i64 x.size) := ⟨h.cell 0, h.cell 1, h.cell 2, h.cell 3, h.cell 4, h.cell 5, h.cell 6, h.cell 7, h.cell 8, h.cell 9, h.cell 10⟩
theorem below_rV {w w0 w' : World} (h0 : Below w.heap.size w w0) (hb : Below w0.heap.size w0 w') : Below w.heap.size w w' := h0.trans (hb.mono h0.size)
theorem own_apartT {w : World} {b1 b2 : Nat} {e1 e2 : TypeId} {α β : Type} {s1 s2 : Nat} {E1 : Enc α s1} {E2 : Enc β s2} {v1 v2 : Value} {l1 : List α} {l2 : List β} (h1 : Own w b1 e1 E1 v1 l1) (h2 : Own w b2 e2 E2 v2 l2) (he : e1 ≠ e2) : v1.ownBlock = none ∨ v1.ownBlock ≠ v2.ownBlock := by
  rcases h1.2 with ⟨rfl, _⟩ | ⟨g, cap, cur, rfl, _, hh, _⟩
  · exact .inl rfl
  · rcases h2.2 with ⟨rfl, _⟩ | ⟨g', cap', cur', rfl, _, hh', _⟩
    · right; simp [Value.ownBlock]
    · right
      intro e
      have e : g = g' := by simpa [Value.ownBlock] using e
      subst e
      rw [hh] at hh'
      injection hh' with hh'
      injection hh' with _ ht
      exact he ht
/-- each that is asked stays, if it fits beside those that stay -/
def chooseD (room : S3) : List Pd → List Pd → List Pd × List ByteArray
  | st, [] => (st, [])
  | st, v :: ks => if fitsB room (st ++ [v]) = true then chooseD room (st ++ [v]) ks else ((chooseD room st ks).1, v.id :: (chooseD room st ks).2)
theorem chooseD_len (room : S3) (st ks : List Pd) : (chooseD room st ks).2.length ≤ ks.length := by
  induction ks generalizing st with
  | nil => simp [chooseD]
  | cons v ks ih =>
    unfold chooseD
    split
    · have := ih (st ++ [v]); simp; omega
    · have := ih st; simp; omega
/-- it answers: these go, in order; or there is no way -/
def GivesC (room : S3) (p : Pd) (l : List Pd) (w : World) (e : Ending) (w' : World) : Prop :=
  ∃ (K : List Pd), K.Perm (askD p l) ∧ (K.Pairwise fun x y => vlt y x = false) ∧
    ((fitsB room (stayD p l) = false ∧ e = .returned (.tuple #[.slice none 0 0, .bool false]) ∧ Below w.heap.size w w') ∨
     (fitsB room (stayD p l) = true ∧ ∃ (O : List ByteArray) (A : Option Addr) (c : Nat), O.Perm (chooseD room (stayD p l) K).2 ∧ (O.Pairwise fun x y => blt y x = false) ∧ e = .returned (.tuple #[.slice A O.length c, .bool true]) ∧ Own w' w.heap.size 9 encS (.slice A O.length c) O ∧ Below w.heap.size w w'))
theorem fitsV {room : S3} {l : List Pd} {v : Bool} (hv : fitsB room l = v) {A : Option Addr} {c : Nat} {w : World} (hr : Rds w encP A l) (hwf : ∀ p ∈ l, p.Wf) (hn : l.length ≤ 200000) :
    Calls Tryd.prog 34 #[.agg #[.int .i64 room.a, .int .i64 room.b, .int .i64 room.c], .slice A l.length c] w fun e w' => e = .returned (.bool v) ∧ Below w.heap.size w w' := by subst hv; exact vfits_any room l A c w hr hwf (by omega)
/-- the boxes of Choose -/
structure CQ (room : S3) (p : Pd) (w W : World) : Prop where
  rm : Blk W w.heap.size 22 #[.int .i64 room.a, .int .i64 room.b, .int .i64 room.c]
  pb : Blk W (w.heap.size + 1) 29 #[.string p.id, .int .i64 p.prio, .bool p.crit, .int .i64 p.q0, .int .i64 p.q1, .int .i64 p.q2, .int .i64 p.l0, .int .i64 p.l1, .int .i64 p.l2, .string p.image, .int .i64 p.size]
  bel : Below w.heap.size w W
theorem CQ.below {room : S3} {p : Pd} {w W W' : World} (h : CQ room p w W) (hb : Below W.heap.size W W') : CQ room p w W' := ⟨h.rm.belowAll hb, h.pb.belowAll hb, h.bel.trans (hb.mono h.bel.size)⟩
theorem CQ.new (room : S3) (p : Pd) (w : World) : CQ room p w ((w.alloc (.cells #[.int .i64 room.a, .int .i64 room.b, .int .i64 room.c] 22)).alloc (.cells #[.string p.id, .int .i64 p.prio, .bool p.crit, .int .i64 p.q0, .int .i64 p.q1, .int .i64 p.q2, .int .i64 p.l0, .int .i64 p.l1, .int .i64 p.l2, .string p.image, .int .i64 p.size] 29)) := by
  have hz : (w.alloc (.cells #[.int .i64 room.a, .int .i64 room.b, .int .i64 room.c] 22)).heap.size = w.heap.size + 1 := by simp
  have hb := Blk.new (w.alloc (.cells #[.int .i64 room.a, .int .i64 room.b, .int .i64 room.c] 22)) 29 #[.string p.id, .int .i64 p.prio, .bool p.crit, .int .i64 p.q0, .int .i64 p.q1, .int .i64 p.q2, .int .i64 p.l0, .int .i64 p.l1, .int .i64 p.l2, .string p.image, .int .i64 p.size]
  rw [hz] at hb
  exact ⟨(Blk.new w 22 #[.int .i64 room.a, .int .i64 room.b, .int .i64 room.c]).alloc _, hb, ((Below.refl _ _).alloc (Nat.le_refl _) _).alloc (by simp) _⟩
set_option maxRecDepth 100000 in
set_option maxHeartbeats 8000000 in
theorem choose_any (room : S3) (p : Pd) (l : List Pd) (A : Option Addr) (c : Nat) (w : World) (hr : Rds w encP A l) (hn : l.length ≤ 50000) (hwf : ∀ x ∈ l, x.Wf) (hp : p.Wf) :
    Calls Tryd.prog 26 #[.agg #[.int .i64 room.a, .int .i64 room.b, .int .i64 room.c], .slice A l.length c, .agg p.cells] w (GivesC room p l w) := by
  have mixed : Tryd.prog.follows Departure.mixedOrders = true := by kernel_rfl
  have HQ := Lib.hid (CQ.new room p w)
  have HRL := Lib.hid (hr.below HQ.out.bel)
  have HWS := Lib.hid (show ∀ x ∈ stayD p l, x.Wf from fun x hx => by
    unfold stayD at hx
    rcases List.mem_cons.1 hx with rfl | hx
    · exact hp
    · exact hwf x (List.mem_filter.1 hx).1)
  have HWK := Lib.hid (show ∀ x ∈ askD p l, x.Wf from fun x hx => hwf x (List.mem_filter.1 hx).1)
  have cpb := HQ.out.pb.cell
  have hsl := stayD_len p l
  have hkl := askD_len p l
  clear hr hwf hp
  go_enter Tryd.func26, Tryd.ntmps26
  go_wp2_with fail
  refine (apart_any p l A c _ HRL.out hn).mono ?_; rintro e w1 ⟨K, A1, AK, c1, cK, hperm, hsorted, rfl, hos, hok, hb⟩
  have HQ0 := HQ
  have HQ := Lib.hid (HQ.out.below hb)
  have HPK := Lib.hid (And.intro hperm hsorted)
  have HK := Lib.hid hok.toRds
  have HSt := Lib.hid (hos.mono HQ0.out.bel.size)
  have hKl : K.length ≤ 50000 := by rw [hperm.length_eq]; omega
  have HWK := Lib.hid (show ∀ x ∈ K, x.Wf from fun x hx => HWK.out x (HPK.out.1.mem_iff.1 hx))
  clear hb hperm hsorted hos hok cpb HRL HQ0
  have hne : stayD p l ≠ [] := by unfold stayD; simp
  have HG : Hid (∀ e w', ((fitsB room (stayD p l) = false ∧ e = .returned (.tuple #[.slice none 0 0, .bool false]) ∧ Below w.heap.size w w') ∨
     (fitsB room (stayD p l) = true ∧ ∃ (O : List ByteArray) (A : Option Addr) (c : Nat), O.Perm (chooseD room (stayD p l) K).2 ∧ (O.Pairwise fun x y => blt y x = false) ∧ e = .returned (.tuple #[.slice A O.length c, .bool true]) ∧ Own w' w.heap.size 9 encS (.slice A O.length c) O ∧ Below w.heap.size w w')) → GivesC room p l w e w') := fun e w' h => ⟨K, HPK.out.1, HPK.out.2, h⟩
  clear HPK
  obtain ⟨St0, hSt0⟩ : ∃ St0, stayD p l = St0 := ⟨_, rfl⟩
  rw [hSt0] at HSt HWS HG hsl hne ⊢
  clear hSt0
  have HNE0 := Lib.hid hne
  clear hne
  have crm := HQ.out.rm.cell
  cases hf : fitsB room St0
  · have HF := Lib.hid hf
    clear hf
    go_wp2_with fail
    refine (fitsV HF.out HSt.out.toRds HWS.out (by omega)).mono ?_; rintro e w2 ⟨rfl, hb⟩
    have HQ := Lib.hid (HQ.out.below hb)
    clear hb crm
    go_wp2_with fail
    go_ret2
    exact HG.out _ _ (.inl ⟨HF.out, rfl, HQ.out.bel⟩)
  · have HF := Lib.hid hf
    clear hf
    go_wp2_with fail
    refine (fitsV HF.out HSt.out.toRds HWS.out (by omega)).mono ?_; rintro e w2 ⟨rfl, hb⟩
    have HQ2 := Lib.hid (HQ.out.below hb)
    have HK2 := Lib.hid (HK.out.below hb)
    have HSt2 := Lib.hid (HSt.out.below hb (Nat.le_refl _))
    clear hb crm HQ HK HSt
    go_wp2_with fail
    go_loopw [8, 10, 26] (fun st oo ii wr => ∃ (i : Nat) (St : List Pd) (O : List ByteArray) (A1 A2 : Option Addr) (c1 c2 : Nat), i ≤ K.length ∧ ii = .int .i64 i ∧ st = .slice A1 St.length c1 ∧ oo = .slice A2 O.length c2 ∧ (chooseD room St0 K).2 = O ++ (chooseD room St (K.drop i)).2 ∧ St ≠ [] ∧ St.length ≤ St0.length + i ∧ O.length ≤ i ∧ (∀ x ∈ St, x.Wf) ∧ Own wr w.heap.size 29 encP (.slice A1 St.length c1) St ∧ Own wr w2.heap.size 9 encS (.slice A2 O.length c2) O ∧ Below w2.heap.size w2 wr) (fun _ _ ii _ => K.length - (intOf ii).toNat)
    case atStart => exact ⟨0, St0, [], A1, none, c1, 0, by omega, rfl, rfl, rfl, by simp, HNE0.out, by omega, by simp, HWS.out, HSt2.out, Own.nil_ _ _ _ _, Below.refl _ _⟩
    case round =>
      clear HSt2 HNE0 HWS
      obtain ⟨i, St, O, A1, A2, c1, c2, hi, rfl, rfl, rfl, hch, hne, hstl, hol, hws, hrs, hoo, hbl⟩ := hrel
      have HCH := Lib.hid hch
      have HNE := Lib.hid hne
      have HWS := Lib.hid hws
      have HP := Lib.hid (And.intro hrs (And.intro hoo hbl))
      clear hch hne hws hrs hoo hbl
      by_cases hlt : i < K.length
      · have dk : decide ((i : Int) < (K.length : Int)) = true := decide_eq_true (by omega)
        have dk2 : (i : Int) < (K.length : Int) := by omega
        obtain ⟨b, off, hA⟩ := HK2.out.some_ hlt
        obtain rfl : AK = some ⟨b, off, none⟩ := hA
        have HXI := Lib.hid (List.getElem?_eq_getElem hlt)
        have HKD : Hid (K.drop i = K[i] :: K.drop (i + 1)) := List.drop_eq_getElem_cons hlt
        have HXW : Hid (K[i].Wf) := HWK.out _ (List.getElem_mem hlt)
        generalize K[i] = x at *
        obtain ⟨x0, x1, x2, x3, x4, x5, x6, x7, x8, x9, x10⟩ := HK2.out.pdAt HP.out.2.2 HXI.out
        have HBX := Lib.hid (Blk.new wr 29 #[.string x.id, .int .i64 x.prio, .bool x.crit, .int .i64 x.q0, .int .i64 x.q1, .int .i64 x.q2, .int .i64 x.l0, .int .i64 x.l1, .int .i64 x.l2, .string x.image, .int .i64 x.size])
        have HX1 := Lib.hid (And.intro (HP.out.1.alloc (.cells #[.string x.id, .int .i64 x.prio, .bool x.crit, .int .i64 x.q0, .int .i64 x.q1, .int .i64 x.q2, .int .i64 x.l0, .int .i64 x.l1, .int .i64 x.l2, .string x.image, .int .i64 x.size] 29)) (And.intro (HP.out.2.1.alloc (.cells #[.string x.id, .int .i64 x.prio, .bool x.crit, .int .i64 x.q0, .int .i64 x.q1, .int .i64 x.q2, .int .i64 x.l0, .int .i64 x.l1, .int .i64 x.l2, .string x.image, .int .i64 x.size] 29)) (HP.out.2.2.alloc HP.out.2.2.size (.cells #[.string x.id, .int .i64 x.prio, .bool x.crit, .int .i64 x.q0, .int .i64 x.q1, .int .i64 x.q2, .int .i64 x.l0, .int .i64 x.l1, .int .i64 x.l2, .string x.image, .int .i64 x.size] 29))))
        clear HP
        go_wp2_with fail
        clear x0 x1 x2 x3 x4 x5 x6 x7 x8 x9 x10
        generalize wr.heap.size = n at *
        generalize wr.alloc (.cells #[.string x.id, .int .i64 x.prio, .bool x.crit, .int .i64 x.q0, .int .i64 x.q1, .int .i64 x.q2, .int .i64 x.l0, .int .i64 x.l1, .int .i64 x.l2, .string x.image, .int .i64 x.size] 29) = wq at *
        have HCH2 : Hid ((chooseD room St0 K).2 = O ++ (chooseD room St (x :: K.drop (i + 1))).2) := by show _ = _; rw [← HKD.out]; exact HCH.out
        clear HCH HKD HXI
        have HBXd := Lib.hid HBX.out.drew
        have HRS := Lib.hid HX1.out.1.toRds.drew
        have hbdw : Below wq.heap.size wq wq.drew := (Below.refl _ _).drew
        have HBdw := Lib.hid hbdw
        clear hbdw
        go_cut [13] (fun v W => ∃ A6 c6, v = .slice A6 (St ++ [x]).length c6 ∧ Own W wq.heap.size 29 encP (.slice A6 (St ++ [x]).length c6) (St ++ [x]) ∧ Below wq.heap.size wq W)
        case first =>
          refine wp_region_held_drew (S := (fun w' => w'.cell? ⟨n, 0, none⟩ = some (.string x.id) ∧ w'.cell? ⟨n, 1, none⟩ = some (.int .i64 x.prio) ∧ w'.cell? ⟨n, 2, none⟩ = some (.bool x.crit) ∧ w'.cell? ⟨n, 3, none⟩ = some (.int .i64 x.q0) ∧ w'.cell? ⟨n, 4, none⟩ = some (.int .i64 x.q1) ∧ w'.cell? ⟨n, 5, none⟩ = some (.int .i64 x.q2) ∧ w'.cell? ⟨n, 6, none⟩ = some (.int .i64 x.l0) ∧ w'.cell? ⟨n, 7, none⟩ = some (.int .i64 x.l1) ∧ w'.cell? ⟨n, 8, none⟩ = some (.int .i64 x.l2) ∧ w'.cell? ⟨n, 9, none⟩ = some (.string x.image) ∧ w'.cell? ⟨n, 10, none⟩ = some (.int .i64 x.size))) (by kernel_rfl) (HBX.out.drew.pd) (fun hHeld => ?_)
          generalize wq.drew = wd at *
          refine held_take 0 30 (.slice A1 St.length c1) rfl rfl (by kernel_rfl) (by kernel_rfl) (by kernel_rfl) (fun _ _ _ h => h) (by rfl) (by intro w' hSw; (try dsimp only at hSw); go_simp; (try (with_reducible rfl))) (by assumption) ?_
          simp only [Act.put, List.setIfInBounds_toArray, List.set_cons_zero, List.set_cons_succ]
          refine held_take 2 32 (.agg #[.string x.id, .int .i64 x.prio, .bool x.crit, .int .i64 x.q0, .int .i64 x.q1, .int .i64 x.q2, .int .i64 x.l0, .int .i64 x.l1, .int .i64 x.l2, .string x.image, .int .i64 x.size]) rfl rfl (by kernel_rfl) (by kernel_rfl) (by kernel_rfl) (fun _ _ _ h => h) (by rfl) (by intro w' hSw; (try dsimp only at hSw); go_simp; (try (with_reducible rfl))) (by assumption) ?_
          simp only [Act.put, List.setIfInBounds_toArray, List.set_cons_zero, List.set_cons_succ]
          refine held_twoD 1 3 31 33 rfl rfl rfl rfl (by kernel_rfl) (by rfl) (by rfl) (fun K hK => ?_) (fun K hK => ?_)
          · go_simp
            go_at_call 35
            refine (cloneP_any St A1 c1 _ HRS.out HNE.out (by omega)).mono ?_; rintro e w5 ⟨A5, c5, rfl, ho, hb⟩
            have HC5 := Lib.hid (And.intro ho hb)
            have HBX5 := Lib.hid (HBXd.out.belowAll hb)
            clear ho hb
            refine hK _ _ HBX5.out.pd ?_
            have hHeld := HBX5.out.pd
            clear hK K
            simp only [Act.put, List.setIfInBounds_toArray, List.set_cons_zero, List.set_cons_succ]
            refine held_call 3 33 rfl rfl (by kernel_rfl) (by rfl) (fun K hK => ?_)
            go_simp
            refine hK _ _ (Blk.pd (HBX5.out.alloc (.cells #[.string x.id, .int .i64 x.prio, .bool x.crit, .int .i64 x.q0, .int .i64 x.q1, .int .i64 x.q2, .int .i64 x.l0, .int .i64 x.l1, .int .i64 x.l2, .string x.image, .int .i64 x.size] 29))) ?_
            have hHeld := Blk.pd (HBX5.out.alloc (.cells #[.string x.id, .int .i64 x.prio, .bool x.crit, .int .i64 x.q0, .int .i64 x.q1, .int .i64 x.q2, .int .i64 x.l0, .int .i64 x.l1, .int .i64 x.l2, .string x.image, .int .i64 x.size] 29))
            clear hK K
            simp only [Act.put, List.setIfInBounds_toArray, List.set_cons_zero, List.set_cons_succ]
            refine held_call 4 34 rfl rfl (by kernel_rfl) (by rfl) (fun K hK => ?_)
            refine wp_app _ elemP encP (.tmp 31) (.tmp 33) rfl wd.heap.size _ St (by simp [Act.eval]) (HC5.out.1.alloc (.cells #[.string x.id, .int .i64 x.prio, .bool x.crit, .int .i64 x.q0, .int .i64 x.q1, .int .i64 x.q2, .int .i64 x.l0, .int .i64 x.l1, .int .i64 x.l2, .string x.image, .int .i64 x.size] 29)) _ [x] 1 (by simp [Act.eval]) (Rds.made w5 encP [x] 29 #[.string x.id, .int .i64 x.prio, .bool x.crit, .int .i64 x.q0, .int .i64 x.q1, .int .i64 x.q2, .int .i64 x.l0, .int .i64 x.l1, .int .i64 x.l2, .string x.image, .int .i64 x.size] (0, 0) rfl) (by simp; omega) (by simp; omega) (by have := HC5.out.2.size; simp; omega) ?_
            intro A6 c6 w6 ho hg _
            have hb6 := (HC5.out.1.alloc (.cells #[.string x.id, .int .i64 x.prio, .bool x.crit, .int .i64 x.q0, .int .i64 x.q1, .int .i64 x.q2, .int .i64 x.l0, .int .i64 x.l1, .int .i64 x.l2, .string x.image, .int .i64 x.size] 29)).belowGrown (HC5.out.2.alloc HC5.out.2.size (.cells #[.string x.id, .int .i64 x.prio, .bool x.crit, .int .i64 x.q0, .int .i64 x.q1, .int .i64 x.q2, .int .i64 x.l0, .int .i64 x.l1, .int .i64 x.l2, .string x.image, .int .i64 x.size] 29)) hg (Nat.le_refl _) (by have := HC5.out.2.size; simp; omega)
            have HX6 := Lib.hid (And.intro ho hb6)
            have HBX6 := Lib.hid (HBXd.out.belowAll hb6)
            clear ho hg hb6
            refine hK _ _ HBX6.out.pd ?_
            have hHeld := HBX6.out.pd
            clear hK K
            simp only [Act.put, List.setIfInBounds_toArray, List.set_cons_zero, List.set_cons_succ]
            refine held_take 5 13 (.slice A6 (St.length + [x].length) c6) rfl rfl (by kernel_rfl) (by kernel_rfl) (by kernel_rfl) (fun _ _ _ h => h) (by rfl) (by intro w' _; go_simp; (try (with_reducible rfl))) (by assumption) ?_
            simp only [Act.put, List.setIfInBounds_toArray, List.set_cons_zero, List.set_cons_succ]
            refine wpAnyH_done (by kernel_rfl) ?_ _
            go_wp2_with fail
            go_meet
            exact ⟨A6, c6, by simp, by have h := HX6.out.1.mono HBdw.out.size; simpa [List.length_append] using h, below_rV HBdw.out HX6.out.2⟩
          · go_simp
            refine hK _ _ (Blk.pd (HBXd.out.alloc (.cells #[.string x.id, .int .i64 x.prio, .bool x.crit, .int .i64 x.q0, .int .i64 x.q1, .int .i64 x.q2, .int .i64 x.l0, .int .i64 x.l1, .int .i64 x.l2, .string x.image, .int .i64 x.size] 29))) ?_
            have hHeld := Blk.pd (HBXd.out.alloc (.cells #[.string x.id, .int .i64 x.prio, .bool x.crit, .int .i64 x.q0, .int .i64 x.q1, .int .i64 x.q2, .int .i64 x.l0, .int .i64 x.l1, .int .i64 x.l2, .string x.image, .int .i64 x.size] 29))
            clear hK K
            simp only [Act.put, List.setIfInBounds_toArray, List.set_cons_zero, List.set_cons_succ]
            have HRW := Lib.hid (Rds.made wd encP [x] 29 #[.string x.id, .int .i64 x.prio, .bool x.crit, .int .i64 x.q0, .int .i64 x.q1, .int .i64 x.q2, .int .i64 x.l0, .int .i64 x.l1, .int .i64 x.l2, .string x.image, .int .i64 x.size] (0, 0) rfl)
            have HBXa := Lib.hid (HBXd.out.alloc (.cells #[.string x.id, .int .i64 x.prio, .bool x.crit, .int .i64 x.q0, .int .i64 x.q1, .int .i64 x.q2, .int .i64 x.l0, .int .i64 x.l1, .int .i64 x.l2, .string x.image, .int .i64 x.size] 29))
            have HRSa := Lib.hid (HRS.out.alloc (.cells #[.string x.id, .int .i64 x.prio, .bool x.crit, .int .i64 x.q0, .int .i64 x.q1, .int .i64 x.q2, .int .i64 x.l0, .int .i64 x.l1, .int .i64 x.l2, .string x.image, .int .i64 x.size] 29))
            have hwa : Below wd.heap.size wd (wd.alloc (.cells #[.string x.id, .int .i64 x.prio, .bool x.crit, .int .i64 x.q0, .int .i64 x.q1, .int .i64 x.q2, .int .i64 x.l0, .int .i64 x.l1, .int .i64 x.l2, .string x.image, .int .i64 x.size] 29)) := (Below.refl _ _).alloc (Nat.le_refl _) _
            have HWA := Lib.hid hwa
            clear hwa
            refine held_call 1 31 rfl rfl (by kernel_rfl) (by rfl) (fun K hK => ?_)
            go_simp
            go_at_call 35
            refine (cloneP_any St A1 c1 _ HRSa.out HNE.out (by omega)).mono ?_; rintro e w5 ⟨A5, c5, rfl, ho, hb⟩
            have HC5 := Lib.hid (And.intro (ho.mono HWA.out.size) (HWA.out.trans (hb.mono HWA.out.size)))
            have HBX5 := Lib.hid (HBXa.out.belowAll hb)
            have HRW5 := Lib.hid (HRW.out.below hb)
            clear ho hb
            refine hK _ _ HBX5.out.pd ?_
            have hHeld := HBX5.out.pd
            clear hK K
            simp only [Act.put, List.setIfInBounds_toArray, List.set_cons_zero, List.set_cons_succ]
            refine held_call 4 34 rfl rfl (by kernel_rfl) (by rfl) (fun K hK => ?_)
            refine wp_app _ elemP encP (.tmp 31) (.tmp 33) rfl wd.heap.size _ St (by simp [Act.eval]) HC5.out.1 _ [x] 1 (by simp [Act.eval]) HRW5.out (by simp; omega) (by simp; omega) HC5.out.2.size ?_
            intro A6 c6 w6 ho hg _
            have hb6 := HC5.out.1.belowGrown HC5.out.2 hg (Nat.le_refl _) HC5.out.2.size
            have HX6 := Lib.hid (And.intro ho hb6)
            have HBX6 := Lib.hid (HBXd.out.belowAll hb6)
            clear ho hg hb6
            refine hK _ _ HBX6.out.pd ?_
            have hHeld := HBX6.out.pd
            clear hK K
            simp only [Act.put, List.setIfInBounds_toArray, List.set_cons_zero, List.set_cons_succ]
            refine held_take 5 13 (.slice A6 (St.length + [x].length) c6) rfl rfl (by kernel_rfl) (by kernel_rfl) (by kernel_rfl) (fun _ _ _ h => h) (by rfl) (by intro w' _; go_simp; (try (with_reducible rfl))) (by assumption) ?_
            simp only [Act.put, List.setIfInBounds_toArray, List.set_cons_zero, List.set_cons_succ]
            refine wpAnyH_done (by kernel_rfl) ?_ _
            go_wp2_with fail
            go_meet
            exact ⟨A6, c6, by simp, by have h := HX6.out.1.mono HBdw.out.size; simpa [List.length_append] using h, below_rV HBdw.out HX6.out.2⟩
        case rest =>
          obtain ⟨A6, c6, rfl, hox, hbx⟩ := hcut
          have HB2W := Lib.hid (HX1.out.2.2.trans (hbx.mono HX1.out.2.2.size))
          have HW := Lib.hid (And.intro hox (And.intro (HX1.out.1.below hbx (Nat.le_refl _)) (HX1.out.2.1.below hbx (Nat.le_refl _))))
          have HBX := Lib.hid (HBX.out.belowAll hbx)
          have HXS : Hid (w2.heap.size ≤ wq.heap.size) := HX1.out.2.2.size
          clear hox hbx HX1 HBXd HRS HBdw
          have HWX := Lib.hid (show ∀ y ∈ St ++ [x], y.Wf from fun y hy => by
            rcases List.mem_append.1 hy with h | h
            · exact HWS.out y h
            · rw [List.mem_singleton.1 h]; exact HXW.out)
          have hsl2 : (St ++ [x]).length ≤ St.length + 1 := by simp
          have HCA : Hid (fitsB room (St ++ [x]) = true → (chooseD room St0 K).2 = O ++ (chooseD room (St ++ [x]) (K.drop (i + 1))).2) := fun h => by rw [HCH2.out, chooseD, if_pos h]
          have HCB : Hid (fitsB room (St ++ [x]) = false → (chooseD room St0 K).2 = (O ++ [x.id]) ++ (chooseD room St (K.drop (i + 1))).2) := fun h => by
            rw [HCH2.out, chooseD, if_neg (by rw [h]; simp)]
            simp
          have HNE2 : Hid (St ++ [x] ≠ []) := by show _ ≠ _; simp
          clear HCH2 HXW
          generalize St ++ [x] = S2 at *
          have HQ7 := Lib.hid (HQ2.out.below HB2W.out)
          have crm := HQ7.out.rm.cell
          cases hg : fitsB room S2
          · have HG7 := Lib.hid hg
            clear hg
            go_wp2_with fail
            refine (fitsV HG7.out HW.out.1.toRds HWX.out (by omega)).mono ?_; rintro e w7 ⟨rfl, hb⟩
            have HB27 := Lib.hid (HB2W.out.trans (hb.mono HB2W.out.size))
            have HS7 := Lib.hid (And.intro (HW.out.2.1.below hb (Nat.le_refl _)) (HW.out.2.2.below hb (Nat.le_refl _)))
            have HBX7 := Lib.hid (HBX.out.belowAll hb)
            clear hb crm HB2W HW HBX HQ7
            have cx := HBX7.out.cell
            go_wp2_with (at_builtin; refine wl_push elemS encS rfl (.tmp 39) (.tmp 42) rfl x.id #[.string x.id] rfl w2.heap.size _ O rfl HS7.out.2 rfl rfl HB27.out (by omega) (by omega) HB27.out.size ?_; intro A3 k3 w8 ho hb hg8; have HX8 := Lib.hid (And.intro ((HS7.out.1.alloc (.cells #[.string x.id] 9)).grown hg8 (own_apartT (HS7.out.1.alloc (.cells #[.string x.id] 9)) (HS7.out.2.alloc (.cells #[.string x.id] 9)) (by decide))) (And.intro ho hb)); clear ho hb hg8)
            have HCH3 := Lib.hid (HCB.out HG7.out)
            go_roundw
            case rel => exact ⟨i + 1, St, O ++ [x.id], A1, A3, c1, k3, by omega, by go_num, rfl, by simp, HCH3.out, HNE.out, by omega, by simp; omega, HWS.out, HX8.out.1, own_len1 HX8.out.2.1, HX8.out.2.2⟩
            case measure => simp [intOf]; omega
          · have HG7 := Lib.hid hg
            clear hg
            go_wp2_with fail
            refine (fitsV HG7.out HW.out.1.toRds HWX.out (by omega)).mono ?_; rintro e w7 ⟨rfl, hb⟩
            have HB27 := Lib.hid (HB2W.out.trans (hb.mono HB2W.out.size))
            have HS7 := Lib.hid (And.intro ((HW.out.1.below hb (Nat.le_refl _)).mono (Nat.le_trans HQ2.out.bel.size HXS.out)) (HW.out.2.2.below hb (Nat.le_refl _)))
            clear hb crm HB2W HW HBX HQ7
            go_wp2_with fail
            have HCH3 := Lib.hid (HCA.out HG7.out)
            go_roundw
            case rel => exact ⟨i + 1, S2, O, A6, A2, c6, c2, by omega, by go_num, rfl, rfl, HCH3.out, HNE2.out, by omega, by omega, HWX.out, HS7.out.1, HS7.out.2, HB27.out⟩
            case measure => simp [intOf]; omega
      · obtain rfl : i = K.length := by omega
        have dk : decide ((K.length : Int) < (K.length : Int)) = false := by simp
        have HO : Hid ((chooseD room St0 K).2 = O) := by show _ = _; rw [HCH.out, List.drop_length]; simp [chooseD]
        go_wp2_with fail
        refine (sortS_any O A2 c2 wr w2.heap.size HP.out.2.1 (by omega)).mono ?_; rintro e w5 ⟨rfl, O', hperm, hsorted, hown, hg⟩
        have hb5 := HP.out.2.1.belowGrown HP.out.2.2 hg (Nat.le_refl _) HP.out.2.2.size
        have hol2 : O'.length = O.length := hperm.length_eq
        have HF5 := Lib.hid (And.intro hperm (And.intro hsorted (And.intro hown hb5)))
        clear hperm hsorted hown hg hb5
        rw [hol2] at HF5
        go_wp2_with fail
        go_ret2
        exact HG.out _ _ (.inr ⟨HF.out, O', A2, c2, by rw [HO.out]; exact HF5.out.1, HF5.out.2.1, by rw [hol2]; rfl, by rw [hol2]; exact HF5.out.2.2.1.mono HQ2.out.bel.size, below_rV HQ2.out.bel HF5.out.2.2.2⟩)
end Go.Proofs.YtlhmhcidknadmaaDoor
