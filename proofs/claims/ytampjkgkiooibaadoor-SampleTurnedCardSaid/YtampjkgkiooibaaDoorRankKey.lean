/- sample.Of, rank.May, rank.Asked, rank.keyOf. -/
import Derived.Test.YtampjkgkiooibaaDoorUseAt
import Derived.Test.YtampjkgkiooibaaDoorKey
import Derived.Test.YtampjkgkiooibaaDoorPodR
import Derived.Shelf.RegionOpenPlain
import Derived.Outline
namespace Go.Proofs.YtampjkgkiooibaaDoor
open Go.RowKit

/-- a sample, as data -/
structure Sp where
  time : Int
  v0 : Int
  v1 : Int
  v2 : Int
  A : Option Addr
  uses : List Us
  c : Nat
abbrev Sp.cells (s : Sp) : Array Value := #[.int .i64 s.time, .int .i64 s.v0, .int .i64 s.v1, .int .i64 s.v2, .slice s.A s.uses.length s.c]
/-- what one uses -/
def usOf (l : List Us) (id : ByteArray) : Us := if isAtU l id then (match l[lowerU l id]? with | some x => x | none => ⟨⟨#[]⟩, 0, 0, 0⟩) else ⟨⟨#[]⟩, 0, 0, 0⟩
theorem isAtU_lt {l : List Us} {s : ByteArray} (h : isAtU l s = true) : ∃ hi : lowerU l s < l.length, l[lowerU l s].id = s := by
  unfold isAtU at h
  rcases Nat.lt_or_ge (lowerU l s) l.length with hlt | hge
  · rw [List.getElem?_eq_getElem hlt] at h
    exact ⟨hlt, toList_inj h⟩
  · rw [List.getElem?_eq_none hge] at h; cases h
abbrev amts (x : Us) : Array Value := #[.int .i64 x.a0, .int .i64 x.a1, .int .i64 x.a2]
theorem amts_one (x : Us) : (amts x).all (·.oneCell') = true := by simp [Value.oneCell']
theorem sz3 : (Tryd.prog.info? 29).map (·.size) = some 3 := by kernel_rfl
set_option maxHeartbeats 2000000 in
theorem of_any (s : Sp) (id : ByteArray) (w : World) (hr : Rds w encU s.A s.uses) (hl : s.uses.length ≤ 100000) (hs : SortedU s.uses) :
    Calls Tryd.prog 17 #[.agg s.cells, .string id] w fun e w' => e = .returned (.agg (amts (usOf s.uses id))) ∧ Below w.heap.size w w' := by
  have hb0 : Below w.heap.size w ((w.alloc (.cells s.cells 32)).alloc (.cells (amts ⟨⟨#[]⟩, 0, 0, 0⟩) 29)) := ((Below.refl _ _).alloc (Nat.le_refl _) _).alloc (by simp) _
  have hz : (w.alloc (.cells s.cells 32)).heap.size = w.heap.size + 1 := by simp
  have hbr := Blk.new (w.alloc (.cells s.cells 32)) 29 (amts ⟨⟨#[]⟩, 0, 0, 0⟩)
  rw [hz] at hbr
  have HP0 := Lib.hid (And.intro (hr.below hb0) (And.intro ((Blk.new w 32 s.cells).alloc (.cells (amts ⟨⟨#[]⟩, 0, 0, 0⟩) 29)) (And.intro hbr hb0)))
  have HS := Lib.hid hs
  clear hr hs hb0 hz hbr
  go_enter Tryd.func17, Tryd.ntmps17
  go_wp2_with fail
  refine (bsearch_any s.uses id s.A s.c _ HP0.out.1 (by omega) HS.out).mono ?_; rintro e w1 ⟨rfl, hb1⟩
  have HP1 := Lib.hid (And.intro (HP0.out.1.below hb1) (And.intro (HP0.out.2.1.belowAll hb1) (And.intro (HP0.out.2.2.1.belowAll hb1) (HP0.out.2.2.2.trans (hb1.mono HP0.out.2.2.2.size)))))
  clear HP0 hb1
  have cs := HP1.out.2.1.cell
  cases hat : isAtU s.uses id
  · have HD := Lib.hid (show usOf s.uses id = ⟨⟨#[]⟩, 0, 0, 0⟩ by unfold usOf; rw [hat]; rfl)
    clear hat
    go_wp2_with (refine wl_store_blk rfl 29 (.tmp 4) (.tmp 16) rfl (w.heap.size + 1) 29 (amts ⟨⟨#[]⟩, 0, 0, 0⟩) (amts ⟨⟨#[]⟩, 0, 0, 0⟩) rfl rfl HP1.out.2.2.1 rfl sz3 (amts_one _) ?_; intro w5 hR5 hg5 hs5)
    have hl5 := hR5.cell
    exact bodyPost_ret (v := .agg (amts ⟨⟨#[]⟩, 0, 0, 0⟩)) (by simp [results, Tryd.results17, go_sem, hl5]) rfl ⟨by rw [HD.out], HP1.out.2.2.2.grown hg5 HP1.out.2.2.2.size (by intro k hk; cases hk; omega)⟩
  · obtain ⟨hlt, hname⟩ := isAtU_lt hat
    have HD := Lib.hid (show usOf s.uses id = s.uses[lowerU s.uses id] by unfold usOf; rw [if_pos hat, List.getElem?_eq_getElem hlt])
    clear hat hname
    obtain ⟨i, hi⟩ : ∃ i, i = lowerU s.uses id := ⟨_, rfl⟩
    have hlt' : i < s.uses.length := by rw [hi]; exact hlt
    have HD2 : Hid (usOf s.uses id = s.uses[i]) := by subst hi; exact HD.out
    rw [← hi]
    clear hi hlt HD
    obtain ⟨b, off, hA, hb, c0, c1, c2, c3⟩ := HP1.out.1.us hlt'
    have dk : (i : Int) < (s.uses.length : Int) := by omega
    generalize s.uses[i] = x at *
    go_wp2_with (refine wl_store_blk rfl 29 (.tmp 4) (.tmp 22) rfl (w.heap.size + 1) 29 (amts ⟨⟨#[]⟩, 0, 0, 0⟩) (amts x) rfl rfl HP1.out.2.2.1 rfl sz3 (amts_one _) ?_; intro w5 hR5 hg5 hs5)
    have hl5 := hR5.cell
    exact bodyPost_ret (v := .agg (amts x)) (by simp [results, Tryd.results17, go_sem, hl5]) rfl ⟨by rw [HD2.out], HP1.out.2.2.2.grown hg5 HP1.out.2.2.2.size (by intro k hk; cases hk; omega)⟩

/-- an entry of the table, as data -/
structure En where
  pod : Pd
  phase : Int
abbrev En.cells (e : En) : Array Value := #[.string e.pod.id, .int .i64 e.pod.prio, .bool e.pod.crit, .int .i64 e.pod.q0, .int .i64 e.pod.q1, .int .i64 e.pod.q2, .int .i64 e.pod.l0, .int .i64 e.pod.l1, .int .i64 e.pod.l2, .string e.pod.image, .int .i64 e.pod.size, .int .i64 e.phase]
def mayB (e : En) : Bool := !e.pod.crit && ((e.phase == 1) || (e.phase == 2))
def asked (p : Pd) (k : Int) : Int := if k = 0 then p.q1 else if k = 2 then p.q2 else 0
end Go.Proofs.YtampjkgkiooibaaDoor
