/- bilge/bilgelaw21.VictimLess: the row's statement: whatever room, pods, three small numbers and bits, the law's function returns true, and what was handed in reads as it did. -/
import Derived.Test.YtabbkembpghfdaaLawVictimLess
import Derived.Test.YtabbkembpghfdaaLessRow
import Derived.Test.YtabbkembpghfdaaAgain
import Derived.Test.YtabbkembpghfdaaRows
import Derived.ProofKit
import Derived.SizedLaws
namespace Go.Proofs.Ytabbkembpghfdaa.VictimLessRow
open Go.ChangeShapes Go.WideShapes Go.ChangeAt Go.RowKit

set_option maxRecDepth 100000 in
/-- what the walk gives, for whatever arguments and whatever world -/
theorem contract (H : Type) (enc : TypeId × Value → H) (W : World) (base : Nat) (args : Array Value) (ds gs : List (DataW H)) (before : List MemPlace)
    (hval : ∀ (j : Nat) t v, Try.f10.params[j]? = some t → args[j]? = some v → Value.okWide Try.prog W .any base t v)
    (hW : DataW.Whole enc Try.prog Try.f10.params.toList Rows.victimLessSpec.vars false W args.toList ds gs before) :
    Calls Try.prog 10 args W fun e W' => ∃ v, e = .returned v ∧ Rows.victimLessSpec.post enc Try.prog Try.f10 false true false false W args v W' := by
  have hW' := hW
  obtain ⟨p, q, hA0, hV, rfl, hfz, hnd⟩ := hW
  have hA : DataW.TrodAll enc Try.prog W 0 (fun _ => true) true Try.f10.params.toList args.toList ds p := hA0
  rw [Try.params10] at hA hval
  obtain ⟨v0, vs0, d0, ds0, p0_, q0_, hargs, rfl, rfl, h0, r0⟩ := trodAll_cons hA
  obtain ⟨v1, vs1, d1, ds1, p1_, q1_, rfl, rfl, rfl, h1, r1⟩ := trodAll_cons r0
  obtain ⟨v2, vs2, d2, ds2, p2_, q2_, rfl, rfl, rfl, h2, r2⟩ := trodAll_cons r1
  obtain ⟨v3, vs3, d3, ds3, p3_, q3_, rfl, rfl, rfl, h3, r3⟩ := trodAll_cons r2
  obtain ⟨rfl, rfl, rfl⟩ := trodAll_nil r3
  obtain rfl : args = #[v0, v1, v2, v3] := by cases args; simp_all
  obtain ⟨rfl, rfl⟩ := trodVars_none hV
  obtain ⟨room, haroom, hbroom, hcroom, rfl⟩ := open_r3 (hval 0 _ v0 rfl rfl) h0
  obtain ⟨Al, l, cl, rfl, hcl, hml, hrl, hwl⟩ := open_pods (hval 1 _ v1 rfl rfl) h1
  obtain ⟨m0, m1, m2, hm0, hm1, hm2, rfl⟩ := open_u163 (hval 2 _ v2 rfl rfl) h2
  obtain ⟨z, hz0, hz1, rfl⟩ := open_u64 (hval 3 _ v3 rfl rfl) h3
  clear hA0
  simp only [List.append_nil] at hW'
  refine (victimLess_any room l m0 m1 m2 z Al cl W hrl hwl hm0 hm1 hm2 (by omega)).mono fun e W' ⟨he, hb⟩ => ?_
  subst he
  exact ⟨_, rfl, post_true hW' rfl (by kernel_rfl) (params_lt (by kernel_rfl)) rfl hb⟩

set_option maxHeartbeats 800000 in
set_option maxRecDepth 100000 in
theorem lifted (os : Os) (started : os.Started) (H : Type) (enc : TypeId × Value → H) :
    ReturnsInHanded {} Try.checked os 10 .any (Rows.victimLessSpec.pre6 enc Try.prog Try.f10 Rows.victimLessRow.domain false) (Rows.victimLessSpec.post enc Try.prog Try.f10 false true false false) := by
  refine returnsInHanded_of_change_sized (C := Try.checked) ownKnobA started (by kernel_rfl) Try.func10
    (ChangeSpec.witness6 (enc := enc) (C := Try.checked) false ⟨#[], #[.agg #[.int .i64 0, .int .i64 0, .int .i64 0], .slice none 0 0, .agg #[.int .u16 0, .int .u16 0, .int .u16 0], .int .u64 0], []⟩ 8 (by kernel_rfl) (by kernel_rfl) (by kernel_rfl) (by kernel_rfl)) ?_
  intro W base args ds gs before hval0 hW _ _ _
  exact contract H enc W base args ds gs before hval0 hW

theorem said : Rows.VictimLessSaid :=
  OpenClaim.holds_of_wide 10 Try.f10 rfl rfl rfl rfl rfl rfl rfl ⟨rfl, rfl, rfl, rfl, rfl⟩ rfl rfl rfl rfl rfl (by kernel_rfl) Try.func10 (by kernel_rfl)
    (of_decide_eq_true (by kernel_rfl)) (by unfold Func.isWrapper; first | (rw [if_pos (by decide +kernel)]; kernel_rfl) | (rw [if_neg (by decide +kernel)]; exact ⟨rfl, rfl⟩))
    (fun os started H enc _ => lifted os started H enc)
end Go.Proofs.Ytabbkembpghfdaa.VictimLessRow
