/- The graph that the program builds of any objects is the document's, or the same is amiss; of objects that are few and small. -/
import Derived.Test.YtkbbcenjklaglaaGreatCk
import Derived.Test.YtkbbcenjklaglaaGreatRows
import Derived.Test.YtkbbcenjklaglaaGreatChecked
import Derived.WalkKit
import Derived.ProofKit
import Derived.OpenShut
import Derived.ShutString
import Derived.ChangeOld
import Derived.Below
import Derived.SizedLaws
import Derived.Test.YtkbbcenjklaglaaGreatWSized
namespace Go.Proofs.YtkbbcenjklaglaaGreat.graphBuilds
open Go.ChangeShapes Go.WideShapes Go.ChangeAt Go.RowKit
open Go.Proofs.YtkbbcenjklaglaaGreatW Go.Proofs.YtkbbcenjklaglaaGreat.AL Go.Proofs.YtkbbcenjklaglaaGreat.Base
set_option linter.unusedVariables false
theorem own : ownKnob Tryz.prog.godebug = none := by kernel_rfl
theorem laidOut : laidOutB Tryz.prog = true := by kernel_rfl
set_option maxRecDepth 100000 in
theorem lifted (os : Os) (started : os.Started) (H : Type) (enc : TypeId × Value → H) :
    ReturnsInHanded {} Tryz.checked os 3 .any (Rows.graphBuildsSpec.pre6 enc Tryz.prog Tryz.f3 Rows.graphBuildsRow.domain false) (Rows.graphBuildsSpec.post enc Tryz.prog Tryz.f3 false true false false) := by
  refine returnsInHanded_of_change_sized (C := Tryz.checked) own started (by kernel_rfl) Tryz.func3
    (ChangeSpec.witness6 (enc := enc) (C := Tryz.checked) false ⟨#[], #[(.slice none 0 0), (.string { data := #[] })], []⟩ 8 (by kernel_rfl) (by kernel_rfl) (by kernel_rfl) (by kernel_rfl)) ?_
  intro W base args ds gs before hval0 hW hcnd hsz0 _
  have hval : ∀ (j : Nat) t v, Tryz.f3.params[j]? = some t → args[j]? = some v → Value.okWide Tryz.prog W .any base t v := hval0
  have hW' := hW
  obtain ⟨p, q, hA0, hV, rfl, hfz, hnd⟩ := hW
  have hA : DataW.TrodAll enc Tryz.prog W 0 (fun _ => true) true Tryz.f3.params.toList args.toList ds p := hA0
  rw [Tryz.params3] at hA hval
  obtain ⟨v0, vs0, d0, ds0, p0, q0, hargs, rfl, rfl, h0, r0⟩ := trodAll_cons hA
  obtain ⟨v1, vs1, d1, ds1, p1, q1, rfl, rfl, rfl, h1, r1⟩ := trodAll_cons r0
  obtain ⟨rfl, rfl, rfl⟩ := trodAll_nil r1
  obtain rfl : args = #[v0, v1] := by cases args; simp_all
  have hA2 := (trodAll_cons_mk h0 (trodAll_cons_mk h1 trodAll_mk0))
  obtain ⟨rfl, rfl⟩ := trodVars_none hV
  obtain ⟨avs, hT, hl, hvr⟩ := args_of_trod (σ := fun _ => undef) (tys := [22, 52, 45, 41, 9, 3, 38, 5, 39, 44, 48, 47, 49, 93, 50, 4]) (base := base) (by kernel_rfl) [22, 9] _ _ _ hA2
    (fun j t v h1 h2 => hval j t v (by simpa using h1) (by simpa using h2)) (by kernel_rfl)
  refine (A0.calls (args_GraphBuilds hT) W [v0, v1] hl.symm (fun _ => undef) hvr).mono fun e W' ⟨he, bel⟩ => ?_
  subst he
  exact ⟨_, rfl, _, _, _, [], _, [], hW', trodAll_mk1 (shut_bool Tryz.underlying4 _), trodAll_below laidOut bel _ _ _ _ (by kernel_rfl) hA2, rfl, bel.frame _, fun h => by cases h⟩
theorem over : Rows.graphBuildsRow.holds Tryz.pinned (OpenSpec.ofChange Rows.graphBuildsSpec) :=
  OpenClaim.holds_of_wide 3 Tryz.f3 rfl rfl rfl rfl rfl rfl rfl ⟨rfl, rfl, rfl, rfl, rfl⟩ rfl rfl rfl rfl rfl (by kernel_rfl) Tryz.func3 (by kernel_rfl)
    (of_decide_eq_true (by kernel_rfl)) (by unfold Func.isWrapper; first | (rw [if_pos (by decide +kernel)]; kernel_rfl) | (rw [if_neg (by decide +kernel)]; exact ⟨rfl, rfl⟩))
    (fun os started H enc _ => lifted os started H enc)
theorem proved : Rows.GraphBuildsSaid := over
#print axioms proved
end Go.Proofs.YtkbbcenjklaglaaGreat.graphBuilds
namespace Go.Proofs.YtkbbcenjklaglaaGreat
/-- The row, under a short name, for the claim. -/
theorem graphBuilds_holds : Rows.GraphBuildsSaid := graphBuilds.proved
end Go.Proofs.YtkbbcenjklaglaaGreat
