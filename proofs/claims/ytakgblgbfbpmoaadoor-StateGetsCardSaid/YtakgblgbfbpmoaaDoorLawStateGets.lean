/- bilgelaw24.StateGets: of whatever bytes: the state, or that they are none's; what is got is put as it stood. -/
import Derived.Test.YtakgblgbfbpmoaaDoorMV
import Derived.Test.YtakgblgbfbpmoaaDoorMY
import Derived.Test.YtakgblgbfbpmoaaDoorMZ
namespace Go.Proofs.YtakgblgbfbpmoaaDoor
open Go.RowKit

def RGivesG (rd : Int) (a b c : Bool) (l : List En) (w : World) (e : Ending) (w' : World) : Prop := ∃ (A : Option Addr) (n : Nat), e = .returned (.tuple #[.agg #[.int .i64 rd, .slice A l.length n, .bool a, .bool b, .bool c], .bool true]) ∧ Own w' w.heap.size 46 encN (.slice A l.length n) l ∧ Below w.heap.size w w'
theorem refGetV {L : List UInt8} {rd : Int} {a b c : Bool} {l : List En} (hg : GotD L rd a b c l) {n : Nat} (hn : n = L.length) (A : Option Addr) (cc : Nat) (w : World) (hr : Rds w encB A L) (hc : L.length ≤ cc) (hm : cc ≤ 9223372036854775807) (hbd : L.length ≤ 140737488355328) :
    Calls Tryd.prog 19 #[.slice A n cc] w (RGivesG rd a b c l w) := by
  subst hn
  refine (refGet24_any L A cc w hr hc hm hbd).mono fun e w' h => ?_
  rcases h with ⟨rd', a', b', c', l', A', n', hg', he, ho, hb⟩ | ⟨h, _⟩
  · obtain ⟨rfl, rfl, rfl, rfl, rfl⟩ := hg.one hg'
    exact ⟨A', n', he, ho, hb⟩
  · exact absurd hg (h _ _ _ _ _)
theorem refGetNo {L : List UInt8} (hg : ∀ rd a b c l, ¬ GotD L rd a b c l) {n : Nat} (hn : n = L.length) (A : Option Addr) (cc : Nat) (w : World) (hr : Rds w encB A L) (hc : L.length ≤ cc) (hm : cc ≤ 9223372036854775807) (hbd : L.length ≤ 140737488355328) :
    Calls Tryd.prog 19 #[.slice A n cc] w fun e w' => e = .returned (.tuple #[.agg #[.int .i64 0, .slice none 0 0, .bool false, .bool false, .bool false], .bool false]) ∧ Below w.heap.size w w' := by
  subst hn
  refine (refGet24_any L A cc w hr hc hm hbd).mono fun e w' h => ?_
  rcases h with ⟨rd', a', b', c', l', A', n', hg', _⟩ | ⟨_, he, hb⟩
  · exact absurd hg' (hg _ _ _ _ _)
  · exact ⟨he, hb⟩
set_option maxRecDepth 100000 in
set_option maxHeartbeats 16000000 in
theorem stateGets_any (l : List UInt8) (A : Option Addr) (c : Nat) (w : World) (hr : Rds w encB A l) (hc : l.length ≤ c) (hm : c ≤ 9223372036854775807) :
    Calls Tryd.prog 4 #[.slice A l.length c] w fun e w' => e = .returned (.bool true) ∧ Below w.heap.size w w' := by
  have mixed : Tryd.prog.follows Departure.mixedOrders = true := by kernel_rfl
  have HR := Lib.hid hr
  have HB := Lib.hid (Below.refl w.heap.size w)
  clear hr
  by_cases h9 : 9000 < l.length
  · have d9 : decide ((9000 : Int) < (l.length : Int)) = true := decide_eq_true (by omega)
    have d9n : decide (9000 < l.length) = true := decide_eq_true h9
    go_enter Tryd.func4, Tryd.ntmps4
    go_wp2_with fail
    refine (awake24_any _).mono ?_; rintro e w1 ⟨rfl, hb⟩
    have HB := Lib.hid (HB.out.trans (hb.mono HB.out.size))
    clear hb
    go_wp2_with fail
    refine (awake24_any _).mono ?_; rintro e w9 ⟨rfl, hb⟩
    have HB := Lib.hid (HB.out.trans (hb.mono HB.out.size))
    clear hb
    go_wp2_with fail
    go_ret
    exact ⟨rfl, HB.out⟩
  have d9 : decide ((9000 : Int) < (l.length : Int)) = false := decide_eq_false (by omega)
  have d9n : decide (9000 < l.length) = false := decide_eq_false h9
  go_enter Tryd.func4, Tryd.ntmps4
  go_wp2_with fail
  refine (awake24_any _).mono ?_; rintro e w1 ⟨rfl, hb⟩
  have HB := Lib.hid (HB.out.trans (hb.mono HB.out.size))
  have HR := Lib.hid (HR.out.below hb)
  clear hb
  by_cases hG : ∃ rd o0 o1 o2 es, GotD l rd o0 o1 o2 es
  · obtain ⟨rd, o0, o1, o2, es, hg⟩ := hG
    obtain ⟨hpg, hwf⟩ := put_got hg
    have HG := Lib.hid hg
    have HP := Lib.hid hpg
    have HW := Lib.hid hwf
    have HRS := Lib.hid hg.rt
    have hes := hg.rt.len
    clear hg hpg hwf
    go_wp2_with fail
    refine (getV HG.out rfl A c _ HR.out hc hm (by omega)).mono ?_; rintro x w2 ⟨A1, c1, rfl, ho, hb⟩
    have HB := Lib.hid (HB.out.trans (hb.mono HB.out.size))
    have HR := Lib.hid (HR.out.below hb)
    have RT := Lib.hid (ho.toRds.alloc (.cells #[.int .i64 rd, .slice A1 es.length c1, .bool o0, .bool o1, .bool o2] 25))
    have HT := Lib.hid (Blk.new w2 25 #[.int .i64 rd, .slice A1 es.length c1, .bool o0, .bool o1, .bool o2])
    have HR := Lib.hid (HR.out.alloc (.cells #[.int .i64 rd, .slice A1 es.length c1, .bool o0, .bool o1, .bool o2] 25))
    have HB := Lib.hid (HB.out.alloc HB.out.size (.cells #[.int .i64 rd, .slice A1 es.length c1, .bool o0, .bool o1, .bool o2] 25))
    clear ho hb
    go_wp2_with fail
    refine (refGetV HG.out rfl A c _ HR.out hc hm (by omega)).mono ?_; rintro x w3 ⟨A2, c2, rfl, ho, hb⟩
    have HB := Lib.hid (HB.out.trans (hb.mono HB.out.size))
    have HR := Lib.hid (HR.out.below hb)
    have RT := Lib.hid (RT.out.below hb)
    have HT := Lib.hid (HT.out.belowAll hb)
    have RU := Lib.hid (ho.toRds.alloc (.cells #[.int .i64 rd, .slice A2 es.length c2, .bool o0, .bool o1, .bool o2] 25))
    have HU := Lib.hid (Blk.new w3 25 #[.int .i64 rd, .slice A2 es.length c2, .bool o0, .bool o1, .bool o2])
    have HR := Lib.hid (HR.out.alloc (.cells #[.int .i64 rd, .slice A2 es.length c2, .bool o0, .bool o1, .bool o2] 25))
    have RT := Lib.hid (RT.out.alloc (.cells #[.int .i64 rd, .slice A2 es.length c2, .bool o0, .bool o1, .bool o2] 25))
    have HT := Lib.hid (HT.out.alloc (.cells #[.int .i64 rd, .slice A2 es.length c2, .bool o0, .bool o1, .bool o2] 25))
    have HB := Lib.hid (HB.out.alloc HB.out.size (.cells #[.int .i64 rd, .slice A2 es.length c2, .bool o0, .bool o1, .bool o2] 25))
    clear ho hb
    have cs := HT.out.cell
    go_wp2_with fail
    refine (put24_yes rd es HRS.out A1 c1 o0 o1 o2 _ RT.out HW.out).mono ?_; rintro x w4 ⟨A3, c3, rfl, ho, hb⟩
    rw [HP.out] at ho ⊢
    have HB := Lib.hid (HB.out.trans (hb.mono HB.out.size))
    have HR := Lib.hid (HR.out.below hb)
    have RT := Lib.hid (RT.out.below hb)
    have HT := Lib.hid (HT.out.belowAll hb)
    have RU := Lib.hid (RU.out.below hb)
    have HU := Lib.hid (HU.out.belowAll hb)
    have RB := Lib.hid ho.toRds
    clear ho hb cs
    have cs := HT.out.cell
    have ct := HU.out.cell
    go_wp2_with fail
    refine (same24_any rd es A1 A2 c1 c2 o0 o1 o2 _ RT.out RU.out (by omega)).mono ?_; rintro x w5 ⟨rfl, hb⟩
    have HB := Lib.hid (HB.out.trans (hb.mono HB.out.size))
    have HR := Lib.hid (HR.out.below hb)
    have RB := Lib.hid (RB.out.below hb)
    clear hb cs ct
    go_wp2_with fail
    refine (sameB_any (v := true) (by simp) rfl rfl A A3 c c3 _ HR.out RB.out).mono ?_; rintro x w6 ⟨rfl, hb⟩
    have HB := Lib.hid (HB.out.trans (hb.mono HB.out.size))
    clear hb
    go_wp2_with fail
    go_ret
    exact ⟨rfl, HB.out⟩
  · have HG := Lib.hid (show ∀ rd a b c es, ¬ GotD l rd a b c es from fun rd a b c es h => hG ⟨rd, a, b, c, es, h⟩)
    clear hG
    go_wp2_with fail
    refine (getNo HG.out rfl A c _ HR.out hc hm (by omega)).mono ?_; rintro x w2 ⟨rfl, hb⟩
    have HB := Lib.hid (HB.out.trans (hb.mono HB.out.size))
    have HR := Lib.hid (HR.out.below hb)
    have HT := Lib.hid (Blk.new w2 25 #[.int .i64 0, .slice none 0 0, .bool false, .bool false, .bool false])
    have HR := Lib.hid (HR.out.alloc (.cells #[.int .i64 0, .slice none 0 0, .bool false, .bool false, .bool false] 25))
    have HB := Lib.hid (HB.out.alloc HB.out.size (.cells #[.int .i64 0, .slice none 0 0, .bool false, .bool false, .bool false] 25))
    clear hb
    go_wp2_with fail
    refine (refGetNo HG.out rfl A c _ HR.out hc hm (by omega)).mono ?_; rintro x w3 ⟨rfl, hb⟩
    have HB := Lib.hid (HB.out.trans (hb.mono HB.out.size))
    have HT := Lib.hid (HT.out.belowAll hb)
    have HT := Lib.hid (HT.out.alloc (.cells #[.int .i64 0, .slice none 0 0, .bool false, .bool false, .bool false] 25))
    have HB := Lib.hid (HB.out.alloc HB.out.size (.cells #[.int .i64 0, .slice none 0 0, .bool false, .bool false, .bool false] 25))
    clear hb
    have cs := HT.out.cell
    go_wp2_with fail
    refine (same24_any 0 [] none none 0 0 false false false _ (Rds.nil _ _ _) (Rds.nil _ _ _) (by simp)).mono ?_; rintro x w5 ⟨rfl, hb⟩
    have HB := Lib.hid (HB.out.trans (hb.mono HB.out.size))
    clear hb cs
    go_wp2_with fail
    go_ret
    exact ⟨rfl, HB.out⟩
end Go.Proofs.YtakgblgbfbpmoaaDoor
