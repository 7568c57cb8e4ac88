/- image.Touch, Total; bilgeref15's Put, Touch, Total. -/
import Derived.Test.YtfaklhdafpbkmaaImgOps
import Derived.Test.YtfaklhdafpbkmaaImgFew
import Derived.Outline
namespace Go.Proofs.Ytfaklhdafpbkmaa
open Go.RowKit

/-- append(out, x): the one element built in place -/
theorem wl_push {P : Program} {t e : TypeId} {α : Type} {size bytes : Nat} {w0 W0 : World} (T : Elem P t e size bytes) (E : Enc α size) {ops : Array Oper} {rest : List Oper} {o : Oper} {a : Act} {Q : Exit → Act → World → Prop} (hgd : o.guard = none) (s x : Operand)
    (ho : o.op = .call { callee := .builtin .append, args := #[s, x], argTypes := #[t, t] }) (u : α) (cs : Array Value) (hE : E.enc u = cs.toList)
    (base : Nat) (v : Value) (l : List α) (hs : a.eval s = v) (hown : Own w0 base e E v l) {N : Nat} (hx : a.eval x = .slice (some ⟨N, 0, none⟩) 1 1) (hN : w0.heap.size = N) (hB : Below base W0 w0)
    (hb : (l.length + 1) * bytes ≤ 140737488355328) (h63 : l.length + 1 ≤ 9223372036854775807) (hbw : base ≤ w0.heap.size)
    (h : ∀ A' c' w', Own w' base e E (.slice A' (l.length + 1) c') (l ++ [u]) → Below base W0 w' → (w0.alloc (.cells cs e)).grownBy w' v.ownBlock → wpList P ops Q rest (a.put o.dst (.slice A' (l.length + 1) c')) w') :
    wpList P ops Q (o :: rest) a (w0.alloc (.cells cs e)) := by
  subst hN
  have hr : Rds (w0.alloc (.cells cs e)) E (some ⟨w0.heap.size, 0, none⟩) [u] := Rds.made w0 E [u] e cs (0, 0) (by rw [Enc.all_one]; exact hE.symm)
  have hB2 : Below base W0 (w0.alloc (.cells cs e)) := hB.alloc hbw _
  refine wl_app T E hgd s x ho base v l hs (hown.alloc _) _ [u] 1 hx hr hb h63 (by simp; omega) ?_
  intro A' c' w' h1 h2 _
  exact h A' c' w' h1 ((hown.alloc _).belowGrown hB2 h2 (Nat.le_refl _) (by simp; omega)) h2

theorem own_len1 {α : Type} {size : Nat} {E : Enc α size} {w : World} {base : Nat} {e : TypeId} {A : Option Addr} {l : List α} {u : α} {c : Nat} (h : Own w base e E (.slice A (l.length + 1) c) (l ++ [u])) : Own w base e E (.slice A (l ++ [u]).length c) (l ++ [u]) := by rw [List.length_append]; exact h

/-! ### names alone -/
theorem lowerI_names {l m : List Im} (h : m.map Im.name = l.map Im.name) (s : ByteArray) : lowerI m s = lowerI l s := by
  have e : ∀ q : List Im, lowerI q s = (q.map Im.name).countP fun t => blt t s := fun q => by unfold lowerI; rw [List.countP_map]; rfl
  rw [e, e, h]
theorem isAt_names {l m : List Im} (h : m.map Im.name = l.map Im.name) (s : ByteArray) : isAt m s = isAt l s := by
  have e : ∀ q : List Im, isAt q s = (match (q.map Im.name)[lowerI q s]? with | some t => t.toList == s.toList | none => false) := fun q => by
    unfold isAt; rw [List.getElem?_map]; cases q[lowerI q s]? <;> rfl
  rw [e, e, h, lowerI_names h]
theorem sorted_names {l m : List Im} (h : m.map Im.name = l.map Im.name) (hs : SortedN l) : SortedN m := by
  have hl : m.length = l.length := by have := congrArg List.length h; simpa using this
  have hn : ∀ i (hi : i < m.length), m[i].name = (l[i]'(by omega)).name := fun i hi => by
    have h1 : (m.map Im.name)[i]? = (l.map Im.name)[i]? := by rw [h]
    rw [List.getElem?_map, List.getElem?_map, List.getElem?_eq_getElem hi, List.getElem?_eq_getElem (by omega)] at h1
    simpa using h1
  intro i j hij hj
  rw [hn, hn j hj]
  exact hs i j hij (by omega)
theorem sorted_nodup {l : List Im} (hs : SortedN l) : (l.map Im.name).Nodup := by
  unfold List.Nodup
  rw [List.pairwise_map, List.pairwise_iff_getElem]
  intro i j hi hj hij he
  have := hs i j hij hj
  rw [he, blt_irrefl] at this
  cases this
theorem blt_asymm {a b : ByteArray} (h : blt a b = true) : blt b a = false := by
  cases h2 : blt b a
  · rfl
  · have := blt_trans h h2; rw [blt_irrefl] at this; cases this
theorem lowerI_at {l : List Im} (hs : SortedN l) {j : Nat} (hj : j < l.length) : lowerI l l[j].name = j := by
  refine countP_bound _ l j (by omega) (fun t ht hlt => hs t j hlt hj) (fun t ht hge => ?_)
  rcases Nat.lt_or_ge j t with h | h
  · exact blt_asymm (hs j t h ht)
  · obtain rfl : t = j := by omega
    exact blt_irrefl _
theorem isAt_mem {l : List Im} (hs : SortedN l) {x : Im} (hx : x ∈ l) : isAt l x.name = true := by
  obtain ⟨j, hj, rfl⟩ := List.getElem_of_mem hx
  unfold isAt
  rw [lowerI_at hs hj, List.getElem?_eq_getElem hj]
  simp
theorem lower_lo {l : List Im} (hs : SortedN l) (s : ByteArray) : ∀ (t : Nat) (ht : t < l.length), t < lowerI l s → blt l[t].name s = true := by
  -- all that stand ahead of the count are less
  have key : ∀ (k : Nat) (hk : k ≤ l.length), (∀ (t : Nat) (ht : t < l.length), t < k → blt l[t].name s = true) ∧ (k < l.length → blt (l[k]?.getD zeroIm).name s = true) ∨ lowerI l s ≤ k := by
    intro k
    induction k with
    | zero =>
      intro hk
      by_cases h : 0 < l.length ∧ blt (l[0]?.getD zeroIm).name s = false
      · right
        have : lowerI l s = 0 := countP_bound _ l 0 (by omega) (fun t ht h => by omega) (fun t ht _ => by
          have h0 : blt (l[0]'h.1).name s = false := by have := h.2; rw [List.getElem?_eq_getElem h.1] at this; exact this
          rcases Nat.eq_zero_or_pos t with rfl | hp
          · exact h0
          · cases h2 : blt l[t].name s
            · rfl
            · rw [blt_trans (hs 0 t hp ht) h2] at h0; cases h0)
        omega
      · left
        refine ⟨fun t ht h => by omega, fun h0 => ?_⟩
        cases h2 : blt (l[0]?.getD zeroIm).name s
        · exact absurd ⟨h0, h2⟩ h
        · rfl
    | succ k ih =>
      intro hk
      rcases ih (by omega) with ⟨h1, h2⟩ | h
      · have hall : ∀ (t : Nat) (ht : t < l.length), t < k + 1 → blt l[t].name s = true := fun t ht hlt => by
          rcases Nat.lt_or_ge t k with h | h
          · exact h1 t ht h
          · obtain rfl : t = k := by omega
            have := h2 ht
            rw [List.getElem?_eq_getElem ht] at this; exact this
        by_cases h : k + 1 < l.length ∧ blt (l[k + 1]?.getD zeroIm).name s = false
        · right
          have : lowerI l s = k + 1 := countP_bound _ l (k + 1) (by omega) hall (fun t ht hge => by
            have h0 : blt (l[k + 1]'h.1).name s = false := by have := h.2; rw [List.getElem?_eq_getElem h.1] at this; exact this
            rcases Nat.lt_or_ge (k + 1) t with hp | hp
            · cases h2 : blt l[t].name s
              · rfl
              · rw [blt_trans (hs (k + 1) t hp ht) h2] at h0; cases h0
            · obtain rfl : t = k + 1 := by omega
              exact h0)
          omega
        · left
          refine ⟨hall, fun h0 => ?_⟩
          cases h2 : blt (l[k + 1]?.getD zeroIm).name s
          · exact absurd ⟨h0, h2⟩ h
          · rfl
      · right; omega
  intro t ht hlt
  rcases key t (by omega) with ⟨_, h2⟩ | h
  · have := h2 ht
    rw [List.getElem?_eq_getElem ht] at this; exact this
  · omega
theorem lower_hi {l : List Im} (hs : SortedN l) (s : ByteArray) (t : Nat) (ht : t < l.length) (hge : lowerI l s ≤ t) : blt l[t].name s = false := by
  cases h : blt l[t].name s
  · rfl
  · exfalso
    have hk : t + 1 ≤ lowerI l s := by
      have h1 : ∀ x ∈ l.take (t + 1), blt x.name s = true := fun x hx => by
        obtain ⟨i, hi, rfl⟩ := List.mem_take_iff_getElem.1 hx
        rcases Nat.lt_or_ge i t with h2 | h2
        · exact blt_trans (hs i t h2 ht) h
        · obtain rfl : i = t := by omega
          exact h
      have h2 : (l.take (t + 1)).countP (fun x => blt x.name s) = (l.take (t + 1)).length := List.countP_eq_length.2 h1
      have h3 : (l.take (t + 1)).countP (fun x => blt x.name s) ≤ lowerI l s := List.Sublist.countP_le (List.take_sublist _ _)
      rw [List.length_take] at h2
      omega
    omega

/-! ### Touch -/
def touchM (l : List Im) (us : List ByteArray) (r : Int) : List Im := l.map fun x => if hasB us x.name then late x r else x
theorem touchM_len (l : List Im) (us : List ByteArray) (r : Int) : (touchM l us r).length = l.length := by unfold touchM; simp
theorem touchM_names (l : List Im) (us : List ByteArray) (r : Int) : (touchM l us r).map Im.name = l.map Im.name := by
  unfold touchM
  rw [List.map_map]
  apply List.map_congr_left
  intro x _
  simp only [Function.comp]
  split <;> rfl
theorem touchM_nil (l : List Im) (r : Int) : touchM l [] r = l := by
  unfold touchM
  have : (fun x : Im => if hasB [] x.name then late x r else x) = id := by funext x; rfl
  rw [this, List.map_id]
theorem hasB_snoc (us : List ByteArray) (s t : ByteArray) : hasB (us ++ [s]) t = (hasB us t || (s.toList == t.toList)) := by unfold hasB; simp
theorem beq_comm' (s t : ByteArray) : (s.toList == t.toList) = (t.toList == s.toList) := by rw [Bool.eq_iff_iff]; simp only [beq_iff_eq]; exact eq_comm
theorem touchM_no {l : List Im} (hs : SortedN l) (us : List ByteArray) (r : Int) {s : ByteArray} (h : isAt l s = false) : touchM l (us ++ [s]) r = touchM l us r := by
  unfold touchM
  apply List.map_congr_left
  intro x hx
  have : (s.toList == x.name.toList) = false := by
    cases h2 : (s.toList == x.name.toList)
    · rfl
    · have e := toList_inj h2
      rw [e, isAt_mem hs hx] at h; cases h
  rw [hasB_snoc, this, Bool.or_false]
theorem touchM_yes {l : List Im} (hs : SortedN l) (us : List ByteArray) (r : Int) {i : Nat} (hi : i < l.length) {y : Im} (hy : (touchM l us r)[i]? = some y) : (touchM l us r).set i (late y r) = touchM l (us ++ [l[i].name]) r := by
  apply List.ext_getElem?
  intro j
  rcases Nat.lt_or_ge j l.length with hj | hj
  · have hjt : j < (touchM l us r).length := by rw [touchM_len]; exact hj
    rw [List.getElem?_set]
    have e1 : (touchM l us r)[j]? = some (if hasB us l[j].name then late l[j] r else l[j]) := by unfold touchM; rw [List.getElem?_map, List.getElem?_eq_getElem hj]; rfl
    have e2 : (touchM l (us ++ [l[i].name]) r)[j]? = some (if hasB (us ++ [l[i].name]) l[j].name then late l[j] r else l[j]) := by unfold touchM; rw [List.getElem?_map, List.getElem?_eq_getElem hj]; rfl
    rw [e1, e2, hasB_snoc]
    by_cases hij : i = j
    · subst hij
      rw [if_pos rfl, if_pos (by rw [touchM_len]; exact hi)]
      rw [e1] at hy
      injection hy with hy
      subst hy
      simp only [beq_self_eq_true, Bool.or_true, if_true]
      split <;> rfl
    · rw [if_neg hij]
      have : (l[i].name.toList == l[j].name.toList) = false := by
        cases h2 : (l[i].name.toList == l[j].name.toList)
        · rfl
        · exfalso
          have e := toList_inj h2
          have a1 := lowerI_at hs hi
          have a2 := lowerI_at hs hj
          rw [e] at a1
          omega
      rw [this, Bool.or_false]
  · rw [List.getElem?_eq_none (by rw [List.length_set, touchM_len]; exact hj), List.getElem?_eq_none (by rw [touchM_len]; exact hj)]
set_option maxHeartbeats 2000000 in
theorem touch_any (l : List Im) (us : List ByteArray) (r : Int) (A B : Option Addr) (c d : Nat) (w : World) (hr : Rds w encI A l) (hu : Rds w encS B us) (hl : l.length ≤ 100000) (hm : us.length ≤ 9223372036854775807) (hs : SortedN l) :
    Calls Try.prog 39 #[.slice A l.length c, .slice B us.length d, .int .i64 r] w (GivesIms (touchM l us r) w) := by
  have HR := Lib.hid hr
  have HU := Lib.hid hu
  have HS := Lib.hid hs
  clear hr hu hs
  go_enter Try.func39, Try.ntmps39
  go_wp2_with fail
  refine (clone_any l A c _ HR.out hl).mono ?_; rintro e w2 ⟨A2, c2, rfl, hO, hb2⟩
  have HP2 := Lib.hid (And.intro hO hb2)
  clear hO hb2
  go_wp2_with fail
  go_loopw [16] (fun i wr => ∃ k : Nat, k ≤ us.length ∧ i = .int .i64 k ∧ Own wr w.heap.size 46 encI (.slice A2 l.length c2) (touchM l (us.take k) r) ∧ Below w.heap.size w wr) (fun i _ => us.length - (intOf i).toNat)
  case atStart => exact ⟨0, by omega, rfl, by rw [List.take_zero, touchM_nil]; exact HP2.out.1, HP2.out.2⟩
  case round =>
    clear HP2
    obtain ⟨k, hk, rfl, hO, hB⟩ := hrel
    have HP := Lib.hid (And.intro hO hB)
    clear hO hB
    by_cases hlt : k < us.length
    · obtain ⟨b, off, rfl, hb, hc⟩ := (HU.out.below HP.out.2).str hlt
      have dk : decide ((k : Int) < (us.length : Int)) = true := decide_eq_true (by omega)
      have dk2 : (k : Int) < (us.length : Int) := by omega
      obtain ⟨M, hM⟩ : ∃ M, M = touchM l (us.take k) r := ⟨_, rfl⟩
      have hMl : M.length = l.length := by rw [hM]; exact touchM_len _ _ _
      have hMn : M.map Im.name = l.map Im.name := by rw [hM]; exact touchM_names _ _ _
      have HML := Lib.hid hMl
      have HMS := Lib.hid (sorted_names hMn HS.out)
      have HMA := Lib.hid (And.intro (lowerI_names hMn us[k]) (isAt_names hMn us[k]))
      have HTK := Lib.hid (List.take_succ_eq_append_getElem hlt)
      have HMM := Lib.hid hM
      rw [← hM] at HP
      clear hM hMl hMn
      generalize us[k] = s at *
      go_wp2_with fail
      have hat := at_any M s A2 c2 _ (by rw [← HML.out] at HP; exact HP.out.1.toRds) (by rw [HML.out]; omega) HMS.out
      rw [HML.out, HMA.out.1, HMA.out.2] at hat
      refine hat.mono ?_; rintro e w3 ⟨rfl, hb3⟩
      have HP3 := Lib.hid (And.intro (HP.out.1.below hb3 (Nat.le_refl _)) (HP.out.2.trans (hb3.mono HP.out.2.size)))
      clear hat hb3 HP
      cases hat : isAt l s
      · have HN := Lib.hid (touchM_no HS.out (us.take k) r hat)
        clear hat
        go_wp2_with fail
        go_roundw
        case rel => exact ⟨k + 1, by omega, by go_num, by rw [HTK.out, HN.out, ← HMM.out]; exact HP3.out.1, HP3.out.2⟩
        case measure => simp [intOf]; omega
      · obtain ⟨hil, hname⟩ := isAt_lt hat
        clear hat
        obtain ⟨i, hi⟩ : ∃ i, i = lowerI l s := ⟨_, rfl⟩
        have hil' : i < l.length := by rw [hi]; exact hil
        have hname' : Hid (l[i].name = s) := by subst hi; exact hname
        rw [← hi]
        clear hi hil hname
        have hMi : i < M.length := by rw [HML.out]; exact hil'
        have HY := Lib.hid (touchM_yes HS.out (us.take k) r hil' (y := M[i]) (by rw [← HMM.out]; exact List.getElem?_eq_getElem hMi))
        rw [hname'.out, ← HMM.out] at HY
        have hne : M ≠ [] := by intro e; rw [e] at hMi; simp at hMi
        obtain ⟨g, hA2, hge⟩ := own_some (by rw [← HML.out] at HP3; exact HP3.out.1) hne
        subst hA2
        have z2 := own_cells (by rw [← HML.out] at HP3; exact HP3.out.1) hMi 2 (.int .i64 M[i].last) rfl
        have zf := own_frozen HP3.out.1 HML.out hne (i * 3 + 2)
        have HN := Lib.hid (own_setCell HP3.out.1 HML.out hMi (by omega : 2 < 3) (late M[i] r) (.int .i64 r) rfl)
        have HNB := Lib.hid (HP3.out.2.setCell (p := ⟨g, i * 3 + 2, none⟩) hge (.int .i64 r))
        generalize M[i].last = z at *
        have dki : (i : Int) < (l.length : Int) := by omega
        go_wp2_with fail
        go_roundw
        case rel => exact ⟨k + 1, by omega, by go_num, by rw [HTK.out, ← HY.out]; exact HN.out.1, HNB.out⟩
        case measure => simp [intOf]; omega
    · obtain rfl : k = us.length := by omega
      have dk : decide ((us.length : Int) < (us.length : Int)) = false := by simp
      have HLN := Lib.hid (touchM_len l us r)
      rw [List.take_length] at HP
      go_wp2_with fail
      go_ret
      exact ⟨A2, c2, by rw [HLN.out] <;> rfl, by rw [HLN.out]; exact HP.out.1, HP.out.2⟩

/-! ### Total -/
def totalOf (l : List Im) : Int := l.foldl (fun n x => satAdd n x.size) 0
theorem totalOf_next (l : List Im) (k : Nat) (hk : k < l.length) : totalOf (l.take (k + 1)) = satAdd (totalOf (l.take k)) l[k].size := by
  unfold totalOf; rw [List.take_succ_eq_append_getElem hk, List.foldl_append]; rfl
theorem total_any (l : List Im) (A : Option Addr) (c : Nat) (w : World) (hr : Rds w encI A l) (hl : l.length ≤ 100000) (hwf : ∀ x ∈ l, I64 x.size) :
    Calls Try.prog 42 #[.slice A l.length c] w fun e w' => e = .returned (.int .i64 (totalOf l)) ∧ Below w.heap.size w w' := by
  have HR := Lib.hid hr
  have HX := Lib.hid hwf
  clear hr hwf
  go_enter Try.func42, Try.ntmps42
  go_wp2_with fail
  go_loopw [3, 8] (fun n i wr => ∃ (k : Nat) (F : Int), k ≤ l.length ∧ i = .int .i64 k ∧ n = .int .i64 F ∧ F = totalOf (l.take k) ∧ I64 F ∧ Below w.heap.size w wr) (fun _ i _ => l.length - (intOf i).toNat)
  case atStart => exact ⟨0, 0, by omega, rfl, rfl, rfl, by unfold I64; omega, Below.refl _ _⟩
  case round =>
    obtain ⟨k, F, hk, rfl, rfl, hF, hFI, hB⟩ := hrel
    have HF := Lib.hid hF
    have HB := Lib.hid hB
    clear hF hB
    by_cases hlt : k < l.length
    · obtain ⟨b, off, rfl, hb, c0, c1, c2⟩ := (HR.out.below HB.out).im hlt
      have dk : decide ((k : Int) < (l.length : Int)) = true := decide_eq_true (by omega)
      have dk2 : (k : Int) < (l.length : Int) := by omega
      have hxI := HX.out l[k] (List.getElem_mem hlt)
      have HN := Lib.hid (totalOf_next l k hlt)
      rw [← HF.out] at HN
      have HNI := Lib.hid (satAdd_I64 F l[k].size hFI hxI)
      generalize l[k] = x at *
      have HB2 := Lib.hid (HB.out.alloc HB.out.size (.cells x.cells 46))
      go_wp2_with fail
      refine (add_any F x.size _ hFI hxI).mono ?_; rintro e w4 ⟨rfl, rfl⟩
      go_wp2_with fail
      go_roundw
      case rel => exact ⟨k + 1, satAdd F x.size, by omega, by go_num, rfl, HN.out.symm, HNI.out, HB2.out⟩
      case measure => simp [intOf]; omega
    · obtain rfl : k = l.length := by omega
      have dk : decide ((l.length : Int) < (l.length : Int)) = false := by simp
      rw [List.take_length] at HF
      go_wp2_with fail
      go_ret
      exact ⟨by rw [← HF.out]; rfl, HB.out⟩
theorem refTotal_any (l : List Im) (A : Option Addr) (c : Nat) (w : World) (hr : Rds w encI A l) (hl : l.length ≤ 100000) (hwf : ∀ x ∈ l, I64 x.size) :
    Calls Try.prog 43 #[.slice A l.length c] w fun e w' => e = .returned (.int .i64 (totalOf l)) ∧ w = w' := by
  have HR := Lib.hid hr
  have HX := Lib.hid hwf
  clear hr hwf
  go_enter Try.func43, Try.ntmps43
  go_wp2_with fail
  go_loop [3, 4] (fun n i => ∃ (k : Nat) (F : Int), k ≤ l.length ∧ i = .int .i64 k ∧ n = .int .i64 F ∧ F = totalOf (l.take k) ∧ I64 F) (fun _ i => l.length - (intOf i).toNat)
  case atStart => exact ⟨0, 0, by omega, rfl, rfl, rfl, by unfold I64; omega⟩
  case round =>
    obtain ⟨k, F, hk, rfl, rfl, hF, hFI⟩ := hrel
    have HF := Lib.hid hF
    clear hF
    by_cases hlt : k < l.length
    · obtain ⟨b, off, rfl, hb, c0, c1, c2⟩ := HR.out.im hlt
      have dk : decide ((k : Int) < (l.length : Int)) = true := decide_eq_true (by omega)
      have dk2 : (k : Int) < (l.length : Int) := by omega
      have hxI := HX.out l[k] (List.getElem_mem hlt)
      have HN := Lib.hid (totalOf_next l k hlt)
      rw [← HF.out] at HN
      have HNI := Lib.hid (satAdd_I64 F l[k].size hFI hxI)
      generalize l[k] = x at *
      go_wp2_with fail
      refine (refAdd_any F x.size _ hFI hxI).mono ?_; rintro e w4 ⟨rfl, rfl⟩
      go_wp2_with fail
      go_round
      case rel => exact ⟨k + 1, satAdd F x.size, by omega, by go_num, rfl, HN.out.symm, HNI.out⟩
      case measure => simp [intOf]; omega
    · obtain rfl : k = l.length := by omega
      have dk : decide ((l.length : Int) < (l.length : Int)) = false := by simp
      rw [List.take_length] at HF
      go_wp2_with fail
      go_ret
      exact ⟨by rw [← HF.out]; rfl, rfl⟩
end Go.Proofs.Ytfaklhdafpbkmaa
