/- Several texts in one: What is put is got; what is got is one. -/
import Derived.Test.YtakgblgbfbpmoaaDoorMQ
namespace Go.Proofs.YtakgblgbfbpmoaaDoor
open Go.RowKit

theorem ents_flat : ∀ (l : List En) (t : List UInt8), (∀ x ∈ l, x.pod.Wf ∧ x.pod.right = true ∧ 1 ≤ x.phase ∧ x.phase ≤ 3) → entsD l.length (flatB l ++ t) = some (l, t)
  | [], t, _ => by simp [flatB, entsD]
  | e :: l, t, h => by
    obtain ⟨h1, h2, h3, h4⟩ := h e (by simp)
    have ih := ents_flat l t fun x hx => h x (by simp [hx])
    have hph : ((UInt8.ofNat e.phase.toNat).toNat : Int) = e.phase := by rw [UInt8.toNat_ofNat']; omega
    show entsD (l.length + 1) (UInt8.ofNat e.phase.toNat :: e.pod.bytes ++ flatB l ++ t) = _
    rw [List.cons_append, List.cons_append, List.append_assoc, entsD_go (z := e) (cut_bytes e.pod h1 h2 _) hph.symm, ih]
    rfl
theorem got_put {rd : Int} {a b c : Bool} {l : List En} (h : RightS rd l) (hw : ∀ x ∈ l, x.pod.Wf) : GotD (putS rd a b c l) rd a b c l := by
  have e8 : (putS rd a b c l).getD 8 0 = onB a b c := by
    unfold putS headB
    rw [List.getD_eq_getElem?_getD, List.append_assoc, List.getElem?_append_right (by rw [word_len]; omega), word_len]; rfl
  have e9 : ((putS rd a b c l).getD 9 0).toNat = l.length := by
    have : (putS rd a b c l).getD 9 0 = UInt8.ofNat l.length := by
      unfold putS headB
      rw [List.getD_eq_getElem?_getD, List.append_assoc, List.getElem?_append_right (by rw [word_len]; omega), word_len]; rfl
    rw [this, UInt8.toNat_ofNat']
    have := h.len
    omega
  have hd : (putS rd a b c l).drop 10 = flatB l := by
    unfold putS
    rw [List.drop_append_of_le_length (by rw [headB_len]; omega), List.drop_eq_nil_of_le (by rw [headB_len]; omega), List.nil_append]
  refine ⟨by unfold putS; rw [List.length_append, headB_len]; omega, ?_, ?_, ?_, ?_, ?_, ?_, h⟩
  · have := h.lo
    have := h.hi
    unfold putS headB
    rw [List.append_assoc, beTo_word8 rd ⟨by omega, by omega⟩]
  · rw [e8]; cases a <;> cases b <;> cases c <;> rfl
  · rw [e8]; cases a <;> cases b <;> cases c <;> rfl
  · rw [e8]; cases a <;> cases b <;> cases c <;> rfl
  · rw [e8]; cases a <;> cases b <;> cases c <;> decide
  · rw [e9, hd, Nat.min_eq_left (by have := h.len; omega)]
    have := ents_flat l [] fun x hx => ⟨hw x hx, h.each x hx⟩
    rwa [List.append_nil] at this
theorem GotD.one {L : List UInt8} {rd rd' : Int} {a b c a' b' c' : Bool} {l l' : List En} (h : GotD L rd a b c l) (h' : GotD L rd' a' b' c' l') : rd = rd' ∧ a = a' ∧ b = b' ∧ c = c' ∧ l = l' := by
  refine ⟨h.er.trans h'.er.symm, h.e0.trans h'.e0.symm, h.e1.trans h'.e1.symm, h.e2.trans h'.e2.symm, ?_⟩
  have := h.ents.symm.trans h'.ents
  injection this with this
  injection this
def GivesG (rd : Int) (a b c : Bool) (l : List En) (w : World) (e : Ending) (w' : World) : Prop := ∃ (A : Option Addr) (n : Nat), e = .returned (.tuple #[.agg #[.int .i64 rd, .slice A l.length n, .bool a, .bool b, .bool c], .int .i64 0]) ∧ Own w' w.heap.size 46 encN (.slice A l.length n) l ∧ Below w.heap.size w w'
theorem getV {L : List UInt8} {rd : Int} {a b c : Bool} {l : List En} (hg : GotD L rd a b c l) {n : Nat} (hn : n = L.length) (A : Option Addr) (cc : Nat) (w : World) (hr : Rds w encB A L) (hc : L.length ≤ cc) (hm : cc ≤ 9223372036854775807) (hbd : L.length ≤ 140737488355328) :
    Calls Tryd.prog 18 #[.slice A n cc] w (GivesG rd a b c l w) := by
  subst hn
  refine (get24_any L A cc w hr hc hm hbd).mono fun e w' h => ?_
  rcases h with ⟨rd', a', b', c', l', A', n', hg', he, ho, hb⟩ | ⟨h, _⟩
  · obtain ⟨rfl, rfl, rfl, rfl, rfl⟩ := hg'.one hg
    exact ⟨A', n', he, ho, hb⟩
  · exact absurd hg (h _ _ _ _ _)
theorem getNo {L : List UInt8} (hg : ∀ rd a b c l, ¬ GotD L rd a b c l) {n : Nat} (hn : n = L.length) (A : Option Addr) (cc : Nat) (w : World) (hr : Rds w encB A L) (hc : L.length ≤ cc) (hm : cc ≤ 9223372036854775807) (hbd : L.length ≤ 140737488355328) :
    Calls Tryd.prog 18 #[.slice A n cc] w fun e w' => e = .returned (.tuple #[.agg #[.int .i64 0, .slice none 0 0, .bool false, .bool false, .bool false], .int .i64 3]) ∧ Below w.heap.size w w' := by
  subst hn
  refine (get24_any L A cc w hr hc hm hbd).mono fun e w' h => ?_
  rcases h with ⟨rd', a', b', c', l', A', n', hg', _⟩ | ⟨_, he, hb⟩
  · exact absurd hg' (hg _ _ _ _ _)
  · exact ⟨he, hb⟩
theorem putS_len {rd : Int} {a b c : Bool} {l : List En} (h : RightS rd l) : 10 ≤ (putS rd a b c l).length ∧ (putS rd a b c l).length ≤ 8000 := by
  have h1 := flatB_len fun x hx => (h.each x hx).1
  have h2 := h.len
  unfold putS
  rw [List.length_append, headB_len]
  omega
end Go.Proofs.YtakgblgbfbpmoaaDoor
