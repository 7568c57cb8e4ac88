/- bilgeref23.Same at equal verdicts; the verdict is one. -/
import Derived.Test.YtlhmhcidknadmaaDoorALaw
namespace Go.Proofs.YtlhmhcidknadmaaDoor
open Go.RowKit

def errD (p : Pd) (l : List En) : Int := if p.right = false then 1 else if hasE l p.id = true then 5 else if 64 ≤ l.length then 6 else 0
theorem VerD.err {room : S3} {p : Pd} {l : List En} {a b c : Bool} {k s e : Int} {O : List ByteArray} (h : VerD room p l a b c k s O e) : e = errD p l := by
  unfold errD
  rcases h with ⟨h1, _, _, _, rfl⟩ | ⟨h1, h2, _, _, _, rfl⟩ | ⟨h1, h2, h3, _, _, _, rfl⟩ | ⟨h1, h2, h3, _, _, _, _, rfl⟩ | ⟨h1, h2, h3, _, _, rfl, _⟩
  · rw [if_pos h1]
  · rw [if_neg (by rw [h1]; simp), if_pos h2]
  · rw [if_neg (by rw [h1]; simp), if_neg (by rw [h2]; simp), if_pos h3]
  · rw [if_neg (by rw [h1]; simp), if_neg (by rw [h2]; simp), if_neg (by omega)]
  · rw [if_neg (by rw [h1]; simp), if_neg (by rw [h2]; simp), if_neg (by omega)]
/-- where there is no error: barred, or not -/
theorem VerD.ok {room : S3} {p : Pd} {l : List En} {a b c : Bool} {k s e : Int} {O : List ByteArray} (h : VerD room p l a b c k s O e) (he : e = 0) :
    ((barD a b c p).2 = true ∧ k = 3 ∧ s = (barD a b c p).1 ∧ O = []) ∨ ((barD a b c p).2 = false ∧ s = 0 ∧ ∃ bb, WhoD room p (podsD l) O bb ∧ k = if bb = false then 4 else if O = [] then 1 else 2) := by
  rcases h with ⟨_, _, _, _, rfl⟩ | ⟨_, _, _, _, _, rfl⟩ | ⟨_, _, _, _, _, _, rfl⟩ | ⟨_, _, _, h4, h5, h6, h7, _⟩ | ⟨_, _, _, h4, h5, _, h6⟩
  · omega
  · omega
  · omega
  · exact .inl ⟨h4, h5, h6, h7⟩
  · exact .inr ⟨h4, h5, h6⟩
theorem pods_inj {l : List En} (hF : FitE l) : ∀ x ∈ podsD l, ∀ y ∈ podsD l, x.id = y.id → x = y := fun x hx y hy e => by
  obtain ⟨u, hu, rfl⟩ := List.mem_map.1 hx
  obtain ⟨v, hv, rfl⟩ := List.mem_map.1 hy
  obtain ⟨i, hi, rfl⟩ := List.getElem_of_mem hu
  obtain ⟨j, hj, rfl⟩ := List.getElem_of_mem hv
  rcases Nat.lt_trichotomy i j with h1 | h1 | h1
  · exact absurd e ((hF.ok j hj hj).d i h1)
  · subst h1; rfl
  · exact absurd e.symm ((hF.ok i hi hi).d j h1)
/-- not barred, whatever the conditions: the same verdict -/
theorem VerD.same {room : S3} {p : Pd} {l : List En} {a b c a' b' c' : Bool} {k s k' s' e : Int} {O O' : List ByteArray} (hF : FitE l) (h : VerD room p l a b c k s O e) (h' : VerD room p l a' b' c' k' s' O' e) (he : e = 0) (hb : (barD a b c p).2 = false) (hb' : (barD a' b' c' p).2 = false) : k = k' ∧ s = s' ∧ O = O' := by
  rcases h.ok he with ⟨h1, _⟩ | ⟨_, h2, bb, hw, hk⟩
  · rw [hb] at h1; cases h1
  · rcases h'.ok he with ⟨h1, _⟩ | ⟨_, h2', bb', hw', hk'⟩
    · rw [hb'] at h1; cases h1
    · obtain ⟨rfl, rfl⟩ := WhoD.same (pods_inj hF) (List.Perm.refl _) hw hw'
      exact ⟨hk.trans hk'.symm, h2.trans h2'.symm, rfl⟩
structure SQ (k s : Int) (A B : Option Addr) (n c d : Nat) (w W : World) : Prop where
  va : Blk W (w.heap.size) 36 #[.int .i64 k, .int .i64 s, .slice A n c]
  vb : Blk W (w.heap.size + 1) 36 #[.int .i64 k, .int .i64 s, .slice B n d]
  bel : Below w.heap.size w W
theorem SQ.below {k s : Int} {A B : Option Addr} {n c d : Nat} {w W W' : World} (h : SQ k s A B n c d w W) (hb : Below W.heap.size W W') : SQ k s A B n c d w W' := ⟨h.va.belowAll hb, h.vb.belowAll hb, h.bel.trans (hb.mono h.bel.size)⟩
theorem SQ.alloc {k s : Int} {A B : Option Addr} {n c d : Nat} {w W : World} (h : SQ k s A B n c d w W) (o : Obj) : SQ k s A B n c d w (W.alloc o) := ⟨h.va.alloc o, h.vb.alloc o, h.bel.alloc h.bel.size o⟩
theorem SQ.drew {k s : Int} {A B : Option Addr} {n c d : Nat} {w W : World} (h : SQ k s A B n c d w W) : SQ k s A B n c d w W.drew := ⟨h.va.drew, h.vb.drew, h.bel.drew⟩
theorem SQ.new (k s : Int) (A B : Option Addr) (n c d : Nat) (w : World) : SQ k s A B n c d w ((w.alloc (.cells #[.int .i64 k, .int .i64 s, .slice A n c] 36)).alloc (.cells #[.int .i64 k, .int .i64 s, .slice B n d] 36)) := by
  have z1 : (w.alloc (.cells #[.int .i64 k, .int .i64 s, .slice A n c] 36)).heap.size = w.heap.size + 1 := by simp
  have b0 := Blk.new w 36 #[.int .i64 k, .int .i64 s, .slice A n c]
  have b1 := Blk.new (w.alloc (.cells #[.int .i64 k, .int .i64 s, .slice A n c] 36)) 36 #[.int .i64 k, .int .i64 s, .slice B n d]
  rw [z1] at b1
  have bel : Below w.heap.size w ((w.alloc (.cells #[.int .i64 k, .int .i64 s, .slice A n c] 36)).alloc (.cells #[.int .i64 k, .int .i64 s, .slice B n d] 36)) := ((Below.refl w.heap.size w).alloc (Nat.le_refl _) _).alloc (by rw [z1]; omega) _
  exact ⟨(b0.alloc _), b1, bel⟩

set_option maxRecDepth 100000 in
set_option maxHeartbeats 2000000 in
theorem same23_any (k s : Int) (O : List ByteArray) (A B : Option Addr) (c d : Nat) (w : World) (hr : Rds w encS A O) (hs : Rds w encS B O) (hl : O.length ≤ 9223372036854775807) :
    Calls Tryd.prog 18 #[.agg #[.int .i64 k, .int .i64 s, .slice A O.length c], .agg #[.int .i64 k, .int .i64 s, .slice B O.length d]] w fun e w' => e = .returned (.bool true) ∧ Below w.heap.size w w' := by
  have HQ := Lib.hid (SQ.new k s A B O.length c d w)
  have HR := Lib.hid (hr.below HQ.out.bel)
  have HS := Lib.hid (hs.below HQ.out.bel)
  have dk : (k == k) = true := by simp
  have ds : (s == s) = true := by simp
  clear hr hs
  go_enter Tryd.func18, Tryd.ntmps18
  go_wp2_with fail
  refine ((sameTexts_b O O A B c d _ HR.out HS.out hl hl).mono fun _ _ ⟨h1, h2⟩ => (⟨h1.trans (by simp), h2⟩ : _ = Ending.returned (.bool true) ∧ _)).mono ?_; rintro e w2 ⟨rfl, hb⟩
  have HQ := Lib.hid (HQ.out.below hb)
  clear hb
  go_wp2_with fail
  go_ret
  exact ⟨rfl, HQ.out.bel⟩
end Go.Proofs.YtlhmhcidknadmaaDoor
