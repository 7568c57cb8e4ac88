/- The plain laws of who goes: what fits still fits with less; nobody goes just if all fit. -/
import Derived.Test.YtlhmhcidknadmaaDoorVChoose
namespace Go.Proofs.YtlhmhcidknadmaaDoor

theorem fit1_mono {r n m : Int} (h : n ≤ m) (hm : m ≤ most) (hf : fit1 r m = true) : fit1 r n = true := by
  unfold fit1 at *
  unfold most at *
  simp only [Bool.and_eq_true, Bool.not_eq_true', beq_eq_false_iff_ne, decide_eq_false_iff_not] at *
  omega
def S3.le (s t : S3) : Prop := s.a ≤ t.a ∧ s.b ≤ t.b ∧ s.c ≤ t.c
def S3.bd (s : S3) : Prop := s.a ≤ most ∧ s.b ≤ most ∧ s.c ≤ most
theorem satAdd_most (a b : Int) : satAdd a b ≤ most := by unfold satAdd; split <;> omega
theorem satAdd_ge (a b : Int) (h : a ≤ most) : a ≤ satAdd a b := by
  unfold satAdd nat0
  repeat' split
  all_goals omega
theorem S3.add_bd (s : S3) (p : Pd) : (s.add p).bd := ⟨satAdd_most _ _, satAdd_most _ _, satAdd_most _ _⟩
theorem S3.add_le {s : S3} (h : s.bd) (p : Pd) : s.le (s.add p) := ⟨satAdd_ge _ _ h.1, satAdd_ge _ _ h.2.1, satAdd_ge _ _ h.2.2⟩
theorem S3.le.trans {s t u : S3} (h1 : s.le t) (h2 : t.le u) : s.le u := ⟨Int.le_trans h1.1 h2.1, Int.le_trans h1.2.1 h2.2.1, Int.le_trans h1.2.2 h2.2.2⟩
theorem fold_le (l : List Pd) : ∀ s : S3, s.bd → s.le (l.foldl S3.add s) ∧ (l.foldl S3.add s).bd := by
  induction l with
  | nil => intro s h; exact ⟨⟨Int.le_refl _, Int.le_refl _, Int.le_refl _⟩, h⟩
  | cons p l ih =>
    intro s h
    obtain ⟨h1, h2⟩ := ih (s.add p) (s.add_bd p)
    exact ⟨(S3.add_le h p).trans h1, h2⟩
theorem sums_bd (l : List Pd) : (sumsOf l).bd := (fold_le l ⟨0, 0, 0⟩ ⟨by decide, by decide, by decide⟩).2
theorem fits_mono {room : S3} {s t : S3} (h : s.le t) (ht : t.bd) (hf : room.fits t = true) : room.fits s = true := by
  unfold S3.fits at *
  simp only [Bool.and_eq_true] at *
  exact ⟨fit1_mono h.1 ht.1 hf.1, fit1_mono h.2.1 ht.2.1 hf.2.1, fit1_mono h.2.2 ht.2.2 hf.2.2⟩
/-- of what fits, a part fits -/
theorem fitsB_left {room : S3} {l m : List Pd} (h : fitsB room (l ++ m) = true) : fitsB room l = true := by
  unfold fitsB at *
  have e : sumsOf (l ++ m) = m.foldl S3.add (sumsOf l) := by unfold sumsOf; rw [List.foldl_append]
  rw [e] at h
  exact fits_mono (fold_le m _ (sums_bd l)).1 (fold_le m _ (sums_bd l)).2 h
theorem fitsB_perm {room : S3} {l m : List Pd} (h : l.Perm m) : fitsB room l = fitsB room m := by unfold fitsB; rw [sumsOf_perm h]
theorem fitsB_sub {room : S3} {l m : List Pd} (h : l.Sublist m) (hf : fitsB room m = true) : fitsB room l = true := by
  obtain ⟨k, hk⟩ := h.exists_perm_append
  rw [fitsB_perm hk] at hf
  exact fitsB_left hf
/-- nobody goes just if all fit -/
theorem chooseD_none (room : S3) (ks : List Pd) : ∀ st : List Pd, fitsB room st = true → ((chooseD room st ks).2 = [] ↔ fitsB room (st ++ ks) = true) := by
  induction ks with
  | nil => intro st h; simp [chooseD, h]
  | cons v ks ih =>
    intro st h
    unfold chooseD
    split
    · rename_i hv
      rw [ih _ hv, List.append_assoc]
      rfl
    · rename_i hv
      constructor
      · intro h2; simp at h2
      · intro h2
        refine absurd ?_ hv
        have e : st ++ v :: ks = (st ++ [v]) ++ ks := by simp
        rw [e] at h2
        exact fitsB_left h2
/-- who stays and who goes are those that were asked -/
theorem chooseD_ids (room : S3) (ks : List Pd) : ∀ st : List Pd, ∃ gone : List Pd, (chooseD room st ks).2 = gone.map Pd.id ∧ ((chooseD room st ks).1 ++ gone).Perm (st ++ ks) ∧ gone.Sublist ks ∧ (fitsB room st = true → fitsB room (chooseD room st ks).1 = true) := by
  induction ks with
  | nil => intro st; exact ⟨[], rfl, by simp [chooseD], List.Sublist.refl _, fun h => h⟩
  | cons v ks ih =>
    intro st
    unfold chooseD
    split
    · rename_i hv
      obtain ⟨g, h1, h2, h3, h4⟩ := ih (st ++ [v])
      exact ⟨g, h1, by simpa using h2, h3.cons v, fun _ => h4 hv⟩
    · obtain ⟨g, h1, h2, h3, h4⟩ := ih st
      refine ⟨v :: g, by simp [h1], ?_, h3.cons_cons v, h4⟩
      refine List.perm_middle.trans ((h2.cons v).trans List.perm_middle.symm)
theorem chooseD_perm {room : S3} {st st' : List Pd} (h : st.Perm st') (ks : List Pd) : (chooseD room st ks).2 = (chooseD room st' ks).2 := by
  induction ks generalizing st st' with
  | nil => rfl
  | cons v ks ih =>
    unfold chooseD
    rw [fitsB_perm (h.append_right [v])]
    split
    · exact ih (h.append_right [v])
    · rw [ih h]
/-- those that may not go, and those that may, are all -/
theorem stay_ask (p : Pd) (l : List Pd) : (stayD p l ++ askD p l).Perm (l ++ [p]) := by
  unfold stayD askD
  have h : (l.filter (fun v => !mayV p v) ++ l.filter (mayV p)).Perm l := (List.perm_append_comm).trans (List.filter_append_perm (mayV p) l)
  rw [List.cons_append]
  exact (h.cons p).trans (List.perm_append_comm (l₁ := [p]) (l₂ := l))
end Go.Proofs.YtlhmhcidknadmaaDoor
