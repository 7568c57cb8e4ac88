/- bilge/bilgetop.WholeSaturates: whatever two numbers, the function of the law returns true, and what was handed in reads as it did. -/
import Derived.Test.YtmmchlfoplcnbaaGreatDoorMF0
import Derived.Test.YtmmchlfoplcnbaaGreatDoorMB2
import Derived.Test.YtmmchlfoplcnbaaGreatDoorCards
import Derived.Test.YtmmchlfoplcnbaaGreatDoorTie
import Derived.Test.YtmmchlfoplcnbaaGreatDoorMA4
import Derived.Deep.DeepHandedRow
import Derived.Deep.DeepWitnessRowRef
import Derived.Lib.LaidIn
import Derived.Lib.LaidU8
import Derived.Lay
import Derived.MakeChecks
import Derived.Shelf.Vars
namespace Go.Proofs.YtmmchlfoplcnbaaGreatDoor.WholeSaturatesCard
open Go.ChangeShapes Go.WideShapes Go.ChangeAt Go.RowKit
open Go.ChangeMaps (open_string shut_string)
theorem gok {W : World} (hL : laidMetH Tryz.prog Rows.wholeSaturatesRow.laid W) (hS : W.ShapedOpen Tryz.prog) : iH W := by
 rw [MakeChecks.laidMetH_plain _ _ _ (by kernel_rfl)] at hL
 refine ⟨cell_of_shapedOpen_int (t := 3) (zero := #[.int .i64 0]) hS (of_decide_eq_true (by kernel_rfl)) (by kernel_rfl) rfl (by kernel_rfl) (by kernel_rfl) (by kernel_rfl), ?_⟩
 obtain ⟨g, t, cs, fuel, p, hg, ht, hv, hd⟩ := Lib.laidMet.reads hL (n := "internal/strconv.uint64pow10") (d := Rows.laid_internal_strconv_uint64pow10) (by simp [Rows.wholeSaturatesRow])
 obtain rfl := Option.some.inj ((show Tryz.prog.globalNamed "internal/strconv.uint64pow10" = some 8 by kernel_rfl).symm.trans hg)
 obtain rfl := Option.some.inj ((show (Tryz.prog.globals[8]?).map (·.type) = some 496 by kernel_rfl).symm.trans ht)
 unfold Lib.TabIs
 rw [hv, ← Lib.cells_of_tab (k := .u64) (zs := Lib.pow10Tab) Tryz.underlying496 Tryz.underlying107 (by kernel_rfl) (by kernel_rfl) hd]
theorem hsize {W : World} (hL : laidMetH Tryz.prog Rows.wholeSaturatesRow.laid W) : 11 ≤ W.heap.size := by
 rw [MakeChecks.laidMetH_plain _ _ _ (by kernel_rfl)] at hL
 obtain ⟨g, t, cs, fuel, p, hg, ht, hv, hd⟩ := Lib.laidMet.reads hL (n := "math/bits.deBruijn64tab") (d := Rows.laid_math_bits_deBruijn64tab) (by simp [Rows.wholeSaturatesRow])
 obtain rfl := Option.some.inj ((show Tryz.prog.globalNamed "math/bits.deBruijn64tab" = some 10 by kernel_rfl).symm.trans hg)
 rcases Nat.lt_or_ge 10 W.heap.size with h | h
 ·exact h
 ·exfalso
  unfold World.var? at hv
  rw [hg] at hv
  simp [Array.getElem?_eq_none h] at hv
set_option maxRecDepth 100000 in
theorem contract (H : Type) (enc : TypeId × Value → H) (W : World) (base : Nat) (args : Array Value) (ds gs : List (DataW H)) (before : List MemPlace)
  (hval : ∀ (j : Nat) t v, Tryz.f3.params[j]? = some t → args[j]? = some v → Value.okWide Tryz.prog W .any base t v)
  (hW : DataW.Whole enc Tryz.prog Tryz.f3.params.toList Rows.wholeSaturatesSpec.vars false W args.toList ds gs before) (hL : laidMetH Tryz.prog Rows.wholeSaturatesRow.laid W) (hS : W.ShapedOpen Tryz.prog) :
  Calls Tryz.prog 3 args W fun e W' => ∃ v, e = .returned v ∧ Rows.wholeSaturatesSpec.post enc Tryz.prog Tryz.f3 false true false false W args v W' := by
 have hW' := hW
 obtain ⟨p, q, hA0, hV, rfl, hfz, hnd⟩ := hW
 have hA : DataW.TrodAll enc Tryz.prog W 0 (fun _ => true) true Tryz.f3.params.toList args.toList ds p := hA0
 rw [Tryz.params3] at hA hval
 obtain ⟨v0, vs0, d0, ds0, p0_, q0_, hargs, rfl, rfl, h0, r0⟩ := trodAll_cons hA
 obtain ⟨v1, vs1, d1, ds1, p1_, q1_, rfl, rfl, rfl, h1, r1⟩ := trodAll_cons r0
 obtain ⟨rfl, rfl, rfl⟩ := trodAll_nil r1
 obtain rfl : args = #[v0, v1] := by cases args; simp_all
 obtain ⟨rfl, rfl⟩ := trodVars_none hV
 obtain ⟨a, rfl, ha⟩ := Pq (hval 0 _ v0 rfl rfl) h0
 obtain ⟨b, rfl, hb⟩ := Pq (hval 1 _ v1 rfl rfl) h1
 clear hA0
 simp only [List.append_nil] at hW'
 refine (ais W (gok hL hS) (hsize hL) a b ha hb).mono fun e W' ⟨he, hb⟩ => ?_
 subst he
 exact ⟨_, rfl, W6 hW' rfl (by kernel_rfl) (W7 (by kernel_rfl)) rfl hb⟩
noncomputable def laidWorld (os : Os) : World := World.laidAll Tryz.prog os Rows.wholeSaturatesRow.laid
def argsW : Array Value := #[.int .i64 0, .int .i64 0]
theorem laid_met (os : Os) : laidMet Tryz.prog Rows.wholeSaturatesRow.laid ((laidWorld os).forCall (fun _ _ => 0) ⟨#[], argsW, []⟩).memory :=
 laidMet_laidAll _ (by kernel_rfl) (by kernel_rfl)
theorem reads (os : Os) {H : Type} (enc : TypeId × Value → H) :
  (OpenSpec.ofChange Rows.wholeSaturatesSpec).preRow enc Tryz.prog Tryz.f3 Rows.wholeSaturatesRow.domain false Rows.wholeSaturatesRow.laid ((laidWorld os).forCall (fun _ _ => 0) ⟨#[], argsW, []⟩).memory argsW := by
 have hw : (DataW.whole enc Tryz.prog ((laidWorld os).forCall (fun _ _ => 0) ⟨#[], argsW, []⟩).memory Tryz.f3.params.toList Rows.wholeSaturatesSpec.vars false argsW.toList 8).map (fun x => (x.1, x.2.1)) =
   some ([.lit (.int .i64 0), .lit (.int .i64 0)], []) := by kernel_rfl
 obtain ⟨⟨x1, x2, x3⟩, hx, hx1⟩ := Option.map_eq_some_iff.1 hw
 simp only [Prod.mk.injEq] at hx1
 obtain ⟨rfl, rfl⟩ := hx1
 exact OpenSpec.preRow_of_cond 8 hx (by kernel_rfl) (fun k hk => by cases hk) (by kernel_rfl) (laid_met os)
set_option maxRecDepth 100000 in
theorem lifted (os : Os) (started : os.Started) (H : Type) (enc : TypeId × Value → H) (F : Stop.Interp) :
  ReturnsInHanded {} Tryz.checked os 3 .any ((OpenSpec.ofChange Rows.wholeSaturatesSpec).preRow enc Tryz.prog Tryz.f3 Rows.wholeSaturatesRow.domain false Rows.wholeSaturatesRow.laid) (((OpenSpec.ofChange Rows.wholeSaturatesSpec).at F).post enc Tryz.prog Tryz.f3 false true false false) := by
 refine returnsInHanded_of_row (C := Tryz.checked) (s := OpenSpec.ofChange Rows.wholeSaturatesSpec) W8 started (by kernel_rfl) Tryz.func3
  (witness_row_atRef (enc := enc) (C := Tryz.checked) false (laidWorld os) argsW (World.laidAll_os _ _ _) (by kernel_rfl) (by kernel_rfl) (by kernel_rfl) (reads os enc)) ?_
 intro W base args ds gs before hval hW _ _ _ hL hS _
 exact contract H enc W base args ds gs before hval hW hL hS
theorem goes_no {P : Program} (h : P.funcs.any Func.goes = false) (f : FuncId) : P.goes f = false := by
 have hk : ∀ g : Nat, (P.funcs[g]?).any Func.goes = false := fun g => by
  cases hg : P.funcs[g]? with
  | none => rfl
  | some fn =>
   have hm := Array.mem_of_getElem? hg
   cases hx : fn.goes
   ·simp [hx]
   ·have : P.funcs.any Func.goes = true := by
     rw [Array.any_eq_true']; exact ⟨fn, hm, hx⟩
    rw [h] at this; cases this
 unfold Program.goes
 rw [h, Bool.and_false, Bool.or_false]
 rw [List.any_eq_false]
 intro g _
 simp [hk g]
theorem goesAt_no {P : Program} (h : P.funcs.any Func.goes = false) (n : String) : P.goesAt .entering n = false := by
 unfold Program.goesAt Program.goesFrom
 cases P.funcNamed n with
 | none => rfl
 | some f => simp [goes_no h f]
theorem nogo : Tryz.prog.funcs.any Func.goes = false := by kernel_rfl
theorem hgo : false = Rows.wholeSaturatesRow.goesBy Tryz.pinned.checked.prog := (goesAt_no nogo Rows.wholeSaturatesRow.func).symm
set_option maxRecDepth 100000 in
set_option maxHeartbeats 20000000 in
theorem closed_ : joinedFacts Tryz.pinned.checked.prog 3 Tryz.f3 (OpenSpec.ofChange Rows.wholeSaturatesSpec).bare Rows.wholeSaturatesRow = true := by
 simp only [joinedFacts, Bool.and_eq_true]
 repeat' apply And.intro
 all_goals (as_aux_lemma => kernel_rfl)
theorem said : Rows.WholeSaturatesSaid :=
 OpenClaim.holds_of_cond 3 Tryz.f3 rfl rfl rfl rfl rfl rfl rfl ⟨rfl, rfl, rfl, rfl, rfl⟩ rfl rfl rfl rfl rfl (by kernel_rfl) Tryz.func3 closed_
  (of_decide_eq_true (by kernel_rfl)) (by unfold Func.isWrapper; first | (rw [if_pos (by decide +kernel)]; kernel_rfl) | (rw [if_neg (by decide +kernel)]; exact ⟨rfl, rfl⟩))
  (fun os started H enc _ F => by rw [OpenClaim.pre_eq_preRow]; exact lifted os started H enc F)
theorem plain (f : FuncId) (fn : Func) (hf : Tryz.pinned.checked.prog.funcNamed "bilge/bilgetop.WholeSaturates" = some f) (hfn : Tryz.pinned.checked.prog.funcs[f]? = some fn) :
  true = Tryz.pinned.checked.prog.looks [] ∧ ∀ (j : Nat) t, fn.params[j]? = some t → Tryz.pinned.checked.prog.wantsStandIn t = false := by
 obtain rfl : f = 3 := Option.some.inj ((show Tryz.prog.funcNamed "bilge/bilgetop.WholeSaturates" = some 3 by kernel_rfl).symm.trans hf) |>.symm
 obtain rfl : fn = Tryz.f3 := (Option.some.inj (Tryz.func3.symm.trans hfn)).symm
 refine ⟨by kernel_rfl, fun j t ht => ?_⟩
 rw [Tryz.params3] at ht
 obtain rfl : t = 3 := by simpa using Array.mem_of_getElem? ht
 exact (show Tryz.prog.wantsStandIn 3 = false by kernel_rfl)
theorem card : Rows.WholeSaturatesCardSaid :=
 Claim7.holds_tied_plain_at .later [] _ _ _ _ said (fun _ h => by cases h) (by kernel_rfl) (fun _ h => by cases h) wholeSaturates_row_tie rfl ⟨rfl, rfl⟩ (by kernel_rfl) rfl plain hgo
end Go.Proofs.YtmmchlfoplcnbaaGreatDoor.WholeSaturatesCard
