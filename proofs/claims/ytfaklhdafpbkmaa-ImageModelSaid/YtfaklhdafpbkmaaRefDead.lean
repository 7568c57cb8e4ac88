/- The reference's Dead and Extra. -/
import Derived.Test.YtfaklhdafpbkmaaNext
namespace Go.Proofs.Ytfaklhdafpbkmaa
open Go.RowKit

/-- not up, and no pod's -/
def isDead (pods : List ByteArray) (x : Cn) : Bool := !(x.state == 3) && !hasB pods x.id
theorem cand_iff (pods told : List ByteArray) (x : Cn) : cand pods told x = true ↔ isDead pods x = true ∧ hasB told x.id = false := by
  unfold cand isDead
  cases (x.state == 3) <;> cases hasB pods x.id <;> cases hasB told x.id <;> simp
theorem hasB_append (a b : List ByteArray) (s : ByteArray) : hasB (a ++ b) s = (hasB a s || hasB b s) := by unfold hasB; rw [List.any_append]
theorem hasB_one (a s : ByteArray) : hasB [a] s = (a.toList == s.toList) := by unfold hasB; simp
theorem hasB_mem {l : List ByteArray} {s : ByteArray} : hasB l s = true ↔ s ∈ l := by
  unfold hasB
  rw [List.any_eq_true]
  constructor
  · rintro ⟨x, hx, he⟩; rw [← toList_inj he]; exact hx
  · intro h; exact ⟨s, h, by simp⟩
/-- what has been told: the dead ones, rising, nobody of those that are left ahead of them -/
structure Told (l : List Cn) (pods : List ByteArray) (S : List Cn) : Prop where
  mem : ∀ x ∈ S, x ∈ l ∧ isDead pods x = true
  sorted : S.Pairwise fun x y => cnlt x y = true
  left : ∀ x ∈ l, cand pods (S.map Cn.id) x = true → ∀ s ∈ S, cnlt s x = true
  nodup : (S.map Cn.id).Nodup
theorem Told.start (l : List Cn) (pods : List ByteArray) : Told l pods [] := ⟨(fun _ h => by cases h), List.Pairwise.nil, (fun _ _ _ _ h => by cases h), List.Pairwise.nil⟩
theorem Told.next {l S : List Cn} {pods : List ByteArray} (h : Told l pods S) {j : Nat} {y : Cn} (hy : l[j]? = some y) (hc : cand pods (S.map Cn.id) y = true) (hmin : ∀ i x, i < l.length → l[i]? = some x → cand pods (S.map Cn.id) x = true → cnlt x y = false) : Told l pods (S ++ [y]) := by
  have hyl : y ∈ l := List.mem_of_getElem? hy
  obtain ⟨hd, hnot⟩ := (cand_iff _ _ _).1 hc
  refine ⟨fun x hx => ?_, ?_, fun x hx hcx s hs => ?_, ?_⟩
  · rcases List.mem_append.1 hx with hx | hx
    · exact h.mem x hx
    · rw [List.mem_singleton.1 hx]; exact ⟨hyl, hd⟩
  · rw [List.pairwise_append]
    refine ⟨h.sorted, List.pairwise_singleton _ _, fun s hs b hb => ?_⟩
    rw [List.mem_singleton.1 hb]; exact h.left y hyl hc s hs
  · obtain ⟨hdx, hnx⟩ := (cand_iff _ _ _).1 hcx
    rw [List.map_append, hasB_append, Bool.or_eq_false_iff] at hnx
    have hcx' : cand pods (S.map Cn.id) x = true := (cand_iff _ _ _).2 ⟨hdx, hnx.1⟩
    rcases List.mem_append.1 hs with hs | hs
    · exact h.left x hx hcx' s hs
    · rw [List.mem_singleton.1 hs]
      cases hyx : cnlt y x
      · exfalso
        obtain ⟨i, hi, hxi⟩ := List.getElem_of_mem hx
        have hxy := hmin i x hi (by rw [List.getElem?_eq_getElem hi, hxi]) hcx'
        have he := (cnlt_total hyx hxy).2
        have : hasB [y.id] x.id = true := by rw [hasB_one, he]; simp
        rw [show List.map Cn.id [y] = [y.id] from rfl, this] at hnx
        cases hnx.2
      · rfl
  · rw [List.map_append, List.nodup_append]
    refine ⟨h.nodup, by simp, fun a ha b hb => ?_⟩
    rintro rfl
    have hb' : a = y.id := by simpa using hb
    rw [hb'] at ha
    have := hasB_mem.2 ha
    rw [hnot] at this; cases this
theorem nodup_length {α : Type} [DecidableEq α] : ∀ {S l : List α}, S.Nodup → (∀ x ∈ S, x ∈ l) → S.length ≤ l.length := by
  intro S
  induction S with
  | nil => intro l _ _; exact Nat.zero_le _
  | cons a S ih =>
    intro l hn hs
    rw [List.nodup_cons] at hn
    have ha := hs a (by simp)
    have h1 : S.length ≤ (l.erase a).length := ih hn.2 fun x hx => (List.mem_erase_of_ne (by rintro rfl; exact hn.1 hx)).2 (hs x (by simp [hx]))
    rw [List.length_erase_of_mem ha] at h1
    have : 0 < l.length := List.length_pos_of_mem ha
    rw [List.length_cons]; omega
theorem Told.len {l S : List Cn} {pods : List ByteArray} (h : Told l pods S) : S.length ≤ l.length := by
  have := nodup_length h.nodup (l := l.map Cn.id) (fun x hx => by
    obtain ⟨s, hs, rfl⟩ := List.mem_map.1 hx
    exact List.mem_map.2 ⟨s, (h.mem s hs).1, rfl⟩)
  rwa [List.length_map, List.length_map] at this

/-- what the reference's Dead answers: the Ids of all dead ones, rising -/
def AllTold (l : List Cn) (pods : List ByteArray) (m : List ByteArray) : Prop := ∃ S, m = S.map Cn.id ∧ Told l pods S ∧ ∀ x ∈ l, cand pods m x = false
def GivesDead (l : List Cn) (pods : List ByteArray) (w : World) (e : Ending) (w' : World) : Prop := ∃ m, AllTold l pods m ∧ GivesTexts m w e w'
def lenOf : Value → Nat
  | .slice _ n _ => n
  | _ => 0

set_option maxHeartbeats 1000000 in
theorem refDead_any (l : List Cn) (pods : List ByteArray) (A B : Option Addr) (c d : Nat) (w : World) (hr : Rds w encC A l) (hs : Rds w encS B pods) (hl : l.length ≤ 100000) (hm : pods.length ≤ 9223372036854775807) :
    Calls Try.prog 24 #[.slice A l.length c, .slice B pods.length d] w (GivesDead l pods w) := by
  have HR := Lib.hid hr
  have HS := Lib.hid hs
  clear hr hs
  go_enter Try.func24, Try.ntmps24
  go_wp2_with fail
  refine (next_any l pods [] A B none c d 0 _ HR.out HS.out (Rds.nil _ _ _) hl hm (by simp)).mono ?_; rintro e w1 ⟨z, rfl, hz, hw⟩
  have HB1 := Lib.hid (below_ofDrewN hw)
  have HZ := Lib.hid hz
  clear hz hw
  go_wp2_with fail
  go_loopw [5, 6] (fun b i wr => ∃ (z : Int) (S : List Cn) (m : List ByteArray) (A' : Option Addr) (c' : Nat), i = .int .i64 z ∧ b = .slice A' m.length c' ∧ m = S.map Cn.id ∧ Told l pods S ∧ NextTo l pods m l.length z ∧ Own wr w.heap.size 9 encS (.slice A' m.length c') m ∧ Below w.heap.size w wr) (fun b i _ => 2 * (l.length - lenOf b) + (intOf i + 1).toNat - (intOf i).toNat)
  case atStart => exact ⟨z, [], [], none, 0, rfl, rfl, rfl, Told.start l pods, HZ.out, Own.nil_ _ _ _ _, HB1.out⟩
  case round =>
    clear HZ HB1
    obtain ⟨z, S, m, A', c', rfl, rfl, hm', hT, hN, hO, hB⟩ := hrel
    have HT := Lib.hid hT
    have HM := Lib.hid hm'
    have hml : m.length ≤ l.length := by rw [hm', List.length_map]; exact hT.len
    have HB := Lib.hid (And.intro hO hB)
    clear hm' hT hO hB
    rcases hN with ⟨rfl, hnone⟩ | ⟨j, y, rfl, hj, hy, hc, hmin⟩
    · have hall : AllTold l pods m := ⟨S, HM.out, HT.out, fun x hx => by
        obtain ⟨i, hi, hxi⟩ := List.getElem_of_mem hx
        exact hnone i x hi (by rw [List.getElem?_eq_getElem hi, hxi])⟩
      have HA := Lib.hid hall
      clear hnone hall
      go_wp2_with fail
      go_ret
      exact ⟨m, HA.out, A', c', rfl, HB.out.1, HB.out.2⟩
    · obtain ⟨b, off, rfl, hb, hc0, _, _, _⟩ := (HR.out.below HB.out.2).cn hj
      have dk : decide ((0 : Int) ≤ (j : Int)) = true := decide_eq_true (by omega)
      have dk2 : (j : Int) < (l.length : Int) := by omega
      have ey : l[j] = y := by have := List.getElem?_eq_getElem hj; rw [hy] at this; injection this with this; exact this.symm
      rw [ey] at hc0
      have hT2 : Told l pods (S ++ [y]) := HT.out.next hy (by rw [← HM.out]; exact hc) (by rw [← HM.out]; exact hmin)
      have hml2 : m.length + 1 ≤ l.length := by have := hT2.len; rw [List.length_append, List.length_singleton] at this; have h3 := congrArg List.length HM.out; rw [List.length_map] at h3; omega
      have HT2 := Lib.hid hT2
      clear hy hc hmin ey hT2
      have HO1 : Hid (Own (wr.alloc (.cells #[.string y.id] 9)) w.heap.size 9 encS (.slice A' m.length c') m ∧ Below w.heap.size w (wr.alloc (.cells #[.string y.id] 9)) ∧ Rds (wr.alloc (.cells #[.string y.id] 9)) encS (some ⟨wr.heap.size, 0, none⟩) [y.id]) := ⟨HB.out.1.alloc _, HB.out.2.alloc HB.out.2.size _, Rds.made wr encS [y.id] 9 #[.string y.id] (0, 0) rfl⟩
      go_wp2_with (at_builtin; refine wl_app elemS encS rfl (.tmp 13) (.tmp 19) rfl w.heap.size _ m rfl HO1.out.1 _ [y.id] 1 rfl HO1.out.2.2 (by simp; omega) (by simp; omega) HO1.out.2.1.size ?_; intro A3 k3 w3 hown3 hgrow3 _; have hbel3 := HO1.out.1.belowGrown HO1.out.2.1 hgrow3 (Nat.le_refl _) HO1.out.2.1.size; have HX3 := Lib.hid (And.intro hown3 hbel3); clear hown3 hgrow3 hbel3)
      have hl1 : m.length + [y.id].length = (m ++ [y.id]).length := (List.length_append).symm
      have hx3 := HX3.out.1
      rw [hl1] at hx3
      have HX4 := Lib.hid hx3
      have hnx := next_any l pods (m ++ [y.id]) (some ⟨b, off, none⟩) B A3 c d k3 w3 (HR.out.below HX3.out.2) (HS.out.below HX3.out.2) hx3.toRds hl hm (by rw [← hl1]; simp; omega)
      rw [← hl1] at hnx
      clear hx3
      refine hnx.mono ?_; rintro e w4 ⟨z, rfl, hz, hw⟩
      have hb4 := below_ofDrewN hw
      have HZ := Lib.hid (And.intro hz hb4)
      clear hz hw hb4 hnx
      go_wp2_with fail
      go_roundw
      case rel => exact ⟨z, S ++ [y], m ++ [y.id], A3, k3, rfl, by first | rfl | (rw [← hl1]; rfl), by rw [List.map_append, HM.out]; rfl, HT2.out, HZ.out.1, HX4.out.below HZ.out.2 (Nat.le_refl _), HX3.out.2.trans (HZ.out.2.mono HX3.out.2.size)⟩
      case measure => simp [intOf, lenOf]; omega
end Go.Proofs.Ytfaklhdafpbkmaa
