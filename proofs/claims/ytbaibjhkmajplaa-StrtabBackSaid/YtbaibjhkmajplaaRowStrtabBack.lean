/- Each name that was made stands at its place, and the table is as long as the names that are unlike (the bounds of the row on its arguments are the only conditions). -/
import Derived.Test.YtbaibjhkmajplaaFLawStr
import Derived.Test.YtbaibjhkmajplaaRows
import Derived.Test.YtbaibjhkmajplaaChecked
import Derived.WalkKit
import Derived.ProofKit
import Derived.OpenShut
import Derived.ShutString
import Derived.ChangeOld
import Derived.Below
import Derived.SizedLaws
import Derived.Test.YtbaibjhkmajplaaWSized
namespace Go.Proofs.Ytbaibjhkmajplaa.strtabBack
open Go.ChangeShapes Go.WideShapes Go.ChangeAt Go.RowKit
open Go.Proofs.YtbaibjhkmajplaaW Go.Proofs.Ytbaibjhkmajplaa.AL Go.Proofs.Ytbaibjhkmajplaa.Base
set_option linter.unusedVariables false
theorem own : ownKnob Try.prog.godebug = none := by kernel_rfl
theorem laidOut : laidOutB Try.prog = true := by kernel_rfl
set_option maxRecDepth 100000 in
theorem lifted (os : Os) (started : os.Started) (H : Type) (enc : TypeId × Value → H) :
    ReturnsInHanded {} Try.checked os 10 .any (Rows.strtabBackSpec.pre6 enc Try.prog Try.f10 Rows.strtabBackRow.domain false) (Rows.strtabBackSpec.post enc Try.prog Try.f10 false true false false) := by
  refine returnsInHanded_of_change_sized (C := Try.checked) own started (by kernel_rfl) Try.func10
    (ChangeSpec.witness6 (enc := enc) (C := Try.checked) false ⟨#[], #[(.slice none 0 0)], []⟩ 8 (by kernel_rfl) (by kernel_rfl) (by kernel_rfl) (by kernel_rfl)) ?_
  intro W base args ds gs before hval0 hW hcnd hsz0 _
  have hval : ∀ (j : Nat) t v, Try.f10.params[j]? = some t → args[j]? = some v → Value.okWide Try.prog W .any base t v := hval0
  have hW' := hW
  obtain ⟨p, q, hA0, hV, rfl, hfz, hnd⟩ := hW
  have hA : DataW.TrodAll enc Try.prog W 0 (fun _ => true) true Try.f10.params.toList args.toList ds p := hA0
  rw [Try.params10] at hA hval
  obtain ⟨v0, vs0, d0, ds0, p0, q0, hargs, rfl, rfl, h0, r0⟩ := trodAll_cons hA
  obtain ⟨rfl, rfl, rfl⟩ := trodAll_nil r0
  obtain rfl : args = #[v0] := by cases args; simp_all
  have hA2 := (trodAll_cons_mk h0 trodAll_mk0)
  obtain ⟨rfl, rfl⟩ := trodVars_none hV
  obtain ⟨avs, hT, hl, hvr⟩ := args_of_trod (σ := fun _ => undef) (tys := [45, 9]) (base := base) (by kernel_rfl) [45] _ _ _ hA2
    (fun j t v h1 h2 => hval j t v (by simpa using h1) (by simpa using h2)) (by kernel_rfl)
  refine (A0.calls (args_StrtabBack hT) W [v0] hl.symm (fun _ => undef) hvr).mono fun e W' ⟨he, bel⟩ => ?_
  subst he
  exact ⟨_, rfl, _, _, _, [], _, [], hW', trodAll_mk1 (shut_bool Try.underlying4 _), trodAll_below laidOut bel _ _ _ _ (by kernel_rfl) hA2, rfl, bel.frame _, fun h => by cases h⟩
theorem over : Rows.strtabBackRow.holds Try.pinned (OpenSpec.ofChange Rows.strtabBackSpec) :=
  OpenClaim.holds_of_wide 10 Try.f10 rfl rfl rfl rfl rfl rfl rfl ⟨rfl, rfl, rfl, rfl, rfl⟩ rfl rfl rfl rfl rfl (by kernel_rfl) Try.func10 (by kernel_rfl)
    (of_decide_eq_true (by kernel_rfl)) (by unfold Func.isWrapper; first | (rw [if_pos (by decide +kernel)]; kernel_rfl) | (rw [if_neg (by decide +kernel)]; exact ⟨rfl, rfl⟩))
    (fun os started H enc _ => lifted os started H enc)
theorem proved : Rows.StrtabBackSaid := over
#print axioms proved
end Go.Proofs.Ytbaibjhkmajplaa.strtabBack
namespace Go.Proofs.Ytbaibjhkmajplaa
/-- The row, under a short name, for the claim. -/
theorem strtabBack_holds : Rows.StrtabBackSaid := strtabBack.proved
end Go.Proofs.Ytbaibjhkmajplaa
