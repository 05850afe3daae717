/- InsnTells: the program's decoder and encoder tell what the document's tell; no condition. -/
import Derived.Test.YtlapfdfbgckfcaaFLawIns
import Derived.Test.YtlapfdfbgckfcaaRows
import Derived.Test.YtlapfdfbgckfcaaChecked
import Derived.WalkKit
import Derived.ProofKit
import Derived.OpenShut
import Derived.ShutString
import Derived.ChangeOld
import Derived.Below
import Derived.SizedLaws
import Derived.Test.YtlapfdfbgckfcaaWSized
namespace Go.Proofs.Ytlapfdfbgckfcaa.insnTells
open Go.ChangeShapes Go.WideShapes Go.ChangeAt Go.RowKit
open Go.Proofs.YtlapfdfbgckfcaaW Go.Proofs.Ytlapfdfbgckfcaa.AL Go.Proofs.Ytlapfdfbgckfcaa.Base
set_option linter.unusedVariables false
theorem own : ownKnob Try.prog.godebug = none := by kernel_rfl
theorem laidOut : laidOutB Try.prog = true := by kernel_rfl
set_option maxRecDepth 100000 in
theorem lifted (os : Os) (started : os.Started) (H : Type) (enc : TypeId × Value → H) :
    ReturnsInHanded {} Try.checked os 4 .any (Rows.insnTellsSpec.pre6 enc Try.prog Try.f4 Rows.insnTellsRow.domain false) (Rows.insnTellsSpec.post enc Try.prog Try.f4 false true false false) := by
  refine returnsInHanded_of_change_sized (C := Try.checked) own started (by kernel_rfl) Try.func4
    (ChangeSpec.witness6 (enc := enc) (C := Try.checked) false ⟨#[], #[(.slice none 0 0), (.agg #[.int .i64 0, .int .i64 0, .int .i64 0, .int .i64 0, .int .i64 0, .int .i64 0, .int .i64 0])], []⟩ 8 (by kernel_rfl) (by kernel_rfl) (by kernel_rfl) (by kernel_rfl)) ?_
  intro W base args ds gs before hval0 hW hcnd hsz0 _
  have hval : ∀ (j : Nat) t v, Try.f4.params[j]? = some t → args[j]? = some v → Value.okWide Try.prog W .any base t v := hval0
  have hW' := hW
  obtain ⟨p, q, hA0, hV, rfl, hfz, hnd⟩ := hW
  have hA : DataW.TrodAll enc Try.prog W 0 (fun _ => true) true Try.f4.params.toList args.toList ds p := hA0
  rw [Try.params4] at hA hval
  obtain ⟨v0, vs0, d0, ds0, p0, q0, hargs, rfl, rfl, h0, r0⟩ := trodAll_cons hA
  obtain ⟨v1, vs1, d1, ds1, p1, q1, rfl, rfl, rfl, h1, r1⟩ := trodAll_cons r0
  obtain ⟨rfl, rfl, rfl⟩ := trodAll_nil r1
  obtain rfl : args = #[v0, v1] := by cases args; simp_all
  have hA2 := (trodAll_cons_mk h0 (trodAll_cons_mk h1 trodAll_mk0))
  obtain ⟨rfl, rfl⟩ := trodVars_none hV
  obtain ⟨avs, hT, hl, hvr⟩ := args_of_trod (σ := fun _ => undef) (tys := [22, 5, 36, 3]) (base := base) (by kernel_rfl) [22, 36] _ _ _ hA2
    (fun j t v h1 h2 => hval j t v (by simpa using h1) (by simpa using h2)) (by kernel_rfl)
  refine (A0.calls (args_InsnTells hT) W [v0, v1] hl.symm (fun _ => undef) hvr).mono fun e W' ⟨he, bel⟩ => ?_
  subst he
  exact ⟨_, rfl, _, _, _, [], _, [], hW', trodAll_mk1 (shut_bool Try.underlying4 _), trodAll_below laidOut bel _ _ _ _ (by kernel_rfl) hA2, rfl, bel.frame _, fun h => by cases h⟩
theorem over : Rows.insnTellsRow.holds Try.pinned (OpenSpec.ofChange Rows.insnTellsSpec) :=
  OpenClaim.holds_of_wide 4 Try.f4 rfl rfl rfl rfl rfl rfl rfl ⟨rfl, rfl, rfl, rfl, rfl⟩ rfl rfl rfl rfl rfl (by kernel_rfl) Try.func4 (by kernel_rfl)
    (of_decide_eq_true (by kernel_rfl)) (by unfold Func.isWrapper; first | (rw [if_pos (by decide +kernel)]; kernel_rfl) | (rw [if_neg (by decide +kernel)]; exact ⟨rfl, rfl⟩))
    (fun os started H enc _ => lifted os started H enc)
theorem proved : Rows.InsnTellsSaid := over
#print axioms proved
end Go.Proofs.Ytlapfdfbgckfcaa.insnTells
namespace Go.Proofs.Ytlapfdfbgckfcaa
/-- The row, under a short name, for the claim. -/
theorem insnTells_holds : Rows.InsnTellsSaid := insnTells.proved
end Go.Proofs.Ytlapfdfbgckfcaa
