/- What functions of the program compute, each by its own contract; the conditions stand with each. -/
import Derived.Test.YtlapfdfbgckfcaaFInsn3
import Derived.Test.YtlapfdfbgckfcaaFInsn5
namespace Go.Proofs.Ytlapfdfbgckfcaa.AL
open Go Go.RowKit Go.Proofs.Ytlapfdfbgckfcaa.Base
set_option linter.unusedVariables false
set_option linter.unusedSimpArgs false
set_option maxRecDepth 4000
set_option synthInstance.maxSize 1000
set_option synthInstance.maxHeartbeats 200000

theorem formsL_ok : ∀ f ∈ formsL, FormOk f := by unfold FormOk Bytes I64; decide
theorem form_at {i : Nat} (hi : i < 20) : formsL.getD i default ∈ formsL ∧ FormOk (formsL.getD i default) := by
  have hl : i < formsL.length := hi
  have h : formsL.getD i default = formsL[i] := by simp [hl]
  rw [h]
  exact ⟨List.getElem_mem hl, formsL_ok _ (List.getElem_mem hl)⟩
theorem forms_drop {i : Nat} (hi : i < 20) : formsL.drop i = formsL.getD i default :: formsL.drop (i + 1) := by
  have hl : i < formsL.length := hi
  rw [List.drop_eq_getElem_cons hl]
  simp [hl]
theorem find_step {α : Type} {g : FormD → Option α} {i : Nat} (hi : i < 20) : (formsL.drop i).findSome? g = match g (formsL.getD i default) with | some b => some b | none => (formsL.drop (i + 1)).findSome? g := by
  rw [forms_drop hi, List.findSome?_cons]; rfl

set_option maxHeartbeats 400000 in
theorem insn_Decode (b : List Int) (hB : Bytes b) (hb : b.length ≤ 1000000000000) : A0 Try.prog 13 [.rd 1 (bys b)] (fun ret => ret = insR (decP b)) := by
  have hf20 : formsL.length = 20 := rfl
  refine A0.body 24 Try.func13 rfl rfl Try.ntmps13 fun base n0 => ?_
  refine AW.seq' ?_
  refine AW.region ?_
  refine AO.ww ?_
  refine AO.c ?_
  refine AO.nil ?_
  refine SQ.normal ?_
  refine AW.seq' ?_
  refine AW.seq' ?_
  refine AW.region ?_
  refine AO.call1 Try.func35 rfl rfl (insn_forms) ?_
  refine AO.c ?_
  refine AO.c ?_
  refine AO.nil ?_
  refine SQ.normal ?_
  refine AW.block' ?_
  refine AW.loopU2 [.k, .f, .k, .f, .f, .f, .f, .f, .k, .k, .k, .F, .f, .f, .f, .f, .f] (fun (i j : Nat) => [(10, .v (.int .i64 (i)))]) (fun i j => Hn n0 (([some (.box 36 (insA noIns))] ++ List.replicate j none) ++ [])) (fun m i j => i ≤ 20 ∧ m = 20 - i ∧ decP b = (formsL.drop i).findSome? (oneF · b)) (20) (0) (0) ⟨by omega, by omega, rfl⟩ (by first | rfl | (simp; done)) (by first | rfl | (simp; done)) ?_
  rintro m0 i j ⟨hx1, hx2, hx3⟩
  refine AW.seq' ?_
  refine AW.region ?_
  refine AO.c ?_
  refine AO.nil ?_
  refine SQ.normal ?_
  refine AW.seq' ?_
  refine AW.iteB (GL.ev _) (fun h0 => ?_) (fun h0 => ?_)
  · skip
    rw [decide_eq_true_eq] at h0
    have hi : i < 20 := by omega
    refine AW.skip ?_
    refine SQ.normal ?_
    refine AW.seq' ?_
    refine AW.block' ?_
    refine AW.seq' ?_
    refine AW.region ?_
    refine AO.oo ?_
    refine AO.c ?_
    refine AO.ww ?_
    refine AO.sst ?_
    refine AO.nil ?_
    refine SQ.normal ?_
    refine AW.seq' ?_
    refine AW.region ?_
    refine AO.c ?_
    refine AO.c ?_
    refine AO.call1 Try.func36 rfl rfl (insn_one (formsL.getD i default) b hB hb (form_at hi).2) ?_
    refine AO.c ?_
    refine AO.c ?_
    refine AO.c ?_
    refine AO.ww ?_
    refine AO.sst ?_
    refine AO.c ?_
    refine AO.nil ?_
    refine SQ.normal ?_
    refine AW.seq' ?_
    refine AW.region ?_
    refine AO.c ?_
    refine AO.nil ?_
    refine SQ.normal ?_
    refine AW.iteB (GL.ev _) (fun h1 => ?_) (fun h1 => ?_)
    · skip
      have e : decP b = oneF (formsL.getD i default) b := by
        rw [hx3, find_step hi]
        cases h : oneF (formsL.getD i default) b with
        | none => rw [h] at h1; cases h1
        | some z => rfl
      refine AW.seq' ?_
      refine AW.region ?_
      refine AO.c ?_
      refine AO.sst ?_
      refine AO.c ?_
      refine AO.nil ?_
      refine SQ.normal ?_
      refine AW.ret ?_
      refine BQ.ret <| SQ.ret <| AW.out <| LU.ret <| BQ.ret <| SQ.ret ?_
      refine Fin.ret (Gh.refl) noid2 ?_
      rw [e]; show _ = AV.tup [_, AV.v (.bool (oneF (formsL.getD i default) b).isSome)]; rw [h1]; rfl
    · skip
      have e : decP b = (formsL.drop (i + 1)).findSome? (oneF · b) := by
        rw [hx3, find_step hi]
        cases h : oneF (formsL.getD i default) b with
        | none => rfl
        | some z => rw [h] at h1; cases h1
      refine AW.skip ?_
      refine BQ.normal ?_
      refine SQ.normal ?_
      refine AW.region ?_
      refine AO.oo ?_
      refine AO.c ?_
      refine AO.nil ?_
      exact AW.backD [.k, .f, .k, .f, .f, .f, .f, .f, .k, .k, .k, .F, .f, .f, .f, .f, .f] ([some (.box 36 (insA noIns))]) (j) (m0 - 1) (i + 1, j + 2) (by omega) (by (try dsimp only); exact ⟨by omega, by omega, e⟩) (by first | rfl | (simp; done)) (by first | rfl | (simp; done))
  · skip
    rw [decide_eq_false_iff_not] at h0
    have e : decP b = none := by
      rw [hx3, List.drop_of_length_le (by omega)]; rfl
    refine AW.exit ?_
    refine SQ.exit <| AW.out <| LU.exit <| BQ.exit ?_
    refine SQ.normal ?_
    refine AW.seq' ?_
    refine AW.region ?_
    refine AO.c ?_
    refine AO.sst ?_
    refine AO.c ?_
    refine AO.nil ?_
    refine SQ.normal ?_
    refine AW.ret ?_
    refine Fin.ret (Gh.refl) noid2 ?_
    rw [e]; rfl

end Go.Proofs.Ytlapfdfbgckfcaa.AL
