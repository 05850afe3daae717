/- What functions of the program compute, each by its own contract; the conditions stand with each. -/
import Derived.Test.YtlapfdfbgckfcaaFInsn2
namespace Go.Proofs.Ytlapfdfbgckfcaa.AL
open Go Go.RowKit Go.Proofs.Ytlapfdfbgckfcaa.Base
set_option linter.unusedVariables false
set_option linter.unusedSimpArgs false
set_option maxRecDepth 4000
set_option synthInstance.maxSize 1000
set_option synthInstance.maxHeartbeats 200000

def FormOk (f : FormD) : Prop := Bytes f.head ∧ f.head.length ≤ 3 ∧ (-1 ≤ f.low ∧ f.low ≤ 255) ∧ I64 f.op ∧ (f.width = 0 ∨ f.width = 4 ∨ f.width = 8)
theorem getD_b2 {b : List Int} (hB : Bytes b) (i : Nat) : 0 ≤ b.getD i 0 ∧ b.getD i 0 ≤ 255 := by have := getD_b hB i; omega

set_option maxHeartbeats 1000000 in
theorem insn_one (f : FormD) (b : List Int) (hB : Bytes b) (hb : b.length ≤ 1000000000000) (hf : FormOk f) : A0 Try.prog 36 [.agg (formA f), .rd 1 (bys b)] (fun ret => ret = insR (oneF f b)) := by
  obtain ⟨g1, g2, g3, g4, g5⟩ := hf
  obtain ⟨g41, g42⟩ := id g4
  refine A0.body 86 Try.func36 rfl rfl Try.ntmps36 fun base n0 => ?_
  refine AW.seq' ?_
  refine AW.region ?_
  refine AO.ww ?_
  refine AO.ww ?_
  refine AO.c ?_
  refine AO.nil ?_
  refine SQ.normal ?_
  refine AW.seq' ?_
  refine AW.seq' ?_
  refine AW.region ?_
  refine AO.c ?_
  refine AO.c ?_
  refine AO.c ?_
  refine AO.call1 Try.func70 rfl rfl (bytes_HasPrefix b f.head hB g1 hb (by omega)) ?_
  refine AO.c ?_
  refine AO.nil ?_
  refine SQ.normal ?_
  refine AW.iteB (GL.ev _) (fun h0 => ?_) (fun h0 => ?_)
  · skip
    rw [Bool.not_eq_true', decide_eq_false_iff_not] at h0
    have e : oneF f b = none := by unfold oneF; rw [if_neg h0]
    refine AW.seq' ?_
    refine AW.region ?_
    refine AO.c ?_
    refine AO.sst ?_
    refine AO.c ?_
    refine AO.nil ?_
    refine SQ.normal ?_
    refine AW.ret ?_
    refine SQ.ret ?_
    refine Fin.ret (Gh.refl) noid2 ?_
    first
      | (rw [e]; rfl)
      | (rw [e1]; unfold fldF; rw [if_neg (by (try dsimp only); omega), if_pos (by (try dsimp only); omega)]; (try simp only [hp, Option.getD_some]); rfl)
      | (rw [e1]; unfold fldF; rw [if_neg (by (try dsimp only); omega), if_neg (by (try dsimp only); omega)]; unfold lgN; rw [if_pos h5]; (try simp only [hp, Option.getD_some]); rfl)
  · skip
    rw [Bool.not_eq_false', decide_eq_true_eq] at h0
    have hpl := (pre_get h0).1
    refine AW.skip ?_
    refine SQ.normal ?_
    refine AW.seq' ?_
    refine AW.region ?_
    refine AO.c ?_
    refine AO.c ?_
    refine AO.c ?_
    refine AO.c ?_
    refine AO.c ?_
    refine AO.c ?_
    refine AO.ww ?_
    refine AO.sst ?_
    refine AO.nil ?_
    refine SQ.normal ?_
    refine AW.seq' ?_
    refine AW.seq' ?_
    refine AW.region ?_
    refine AO.c ?_
    refine AO.c ?_
    refine AO.c ?_
    refine AO.nil ?_
    refine SQ.normal ?_
    refine AW.iteB (GL.ev _) (fun h1 => ?_) (fun h1 => ?_)
    · skip
      rw [decide_eq_true_eq] at h1
      refine AW.seq' ?_
      refine AW.seq' ?_
      refine AW.region ?_
      refine AO.c ?_
      refine AO.c ?_
      refine AO.c ?_
      refine AO.c ?_
      refine AO.c ?_
      refine AO.nil ?_
      refine SQ.normal ?_
      refine AW.iteB (GL.ev _) (fun h2 => ?_) (fun h2 => ?_)
      · skip
        rw [decide_eq_true_eq] at h2
        have e : oneF f b = none := by unfold oneF; rw [if_pos h0, if_pos h1, if_pos (by omega)]
        refine AW.seq' ?_
        refine AW.region ?_
        refine AO.c ?_
        refine AO.sst ?_
        refine AO.c ?_
        refine AO.nil ?_
        refine SQ.normal ?_
        refine AW.ret ?_
        refine SQ.ret <| SQ.ret ?_
        refine Fin.ret (Gh.refl) noid2 ?_
        first
          | (rw [e]; rfl)
          | (rw [e1]; unfold fldF; rw [if_neg (by (try dsimp only); omega), if_pos (by (try dsimp only); omega)]; (try simp only [hp, Option.getD_some]); rfl)
          | (rw [e1]; unfold fldF; rw [if_neg (by (try dsimp only); omega), if_neg (by (try dsimp only); omega)]; unfold lgN; rw [if_pos h5]; (try simp only [hp, Option.getD_some]); rfl)
      · skip
        rw [decide_eq_false_iff_not] at h2
        have yb := getD_b hB f.head.length
        have wb : b[f.head.length]?.getD 0 = b.getD f.head.length 0 := by simp
        refine AW.skip ?_
        refine SQ.normal ?_
        refine AW.seq' ?_
        refine AW.drawsZ [] (.one 0 false (.one 1 false (.one 2 false (.one 3 false (.one 4 false (.one 5 false (.one 6 false (.one 7 true (.one 8 false (.one 9 false (.one 10 false (.one 11 false (.one 12 false (.one 13 false (.one 14 false .nil))))))))))))))) (by kernel_rfl) rfl (by kernel_rfl) ?_
        refine AZ.c rfl ?_
        refine AZ.c rfl ?_
        refine AZ.c rfl ?_
        refine AZ.c rfl ?_
        refine AZ.oo rfl ?_
        refine AZ.c rfl ?_
        refine AZ.oo rfl ?_
        refine AZ.call1 rfl Try.func71 rfl rfl (insn_registers f _ (getD_b2 hB _) g3 g4) ?_
        refine AZ.c rfl ?_
        refine AZ.c rfl ?_
        refine AZ.c rfl ?_
        refine AZ.c rfl ?_
        refine AZ.c rfl ?_
        refine AZ.c rfl ?_
        refine AZ.c rfl ?_
        refine AZ.done ?_
        refine SQ.normal ?_
        refine AW.seq' ?_
        refine AW.seq' ?_
        refine AW.region ?_
        refine AO.c ?_
        refine AO.c ?_
        refine AO.nil ?_
        refine SQ.normal ?_
        refine AW.iteB (GL.ev _) (fun h3 => ?_) (fun h3 => ?_)
        · skip
          have e : oneF f b = none := by
            unfold oneF; rw [if_pos h0, if_pos h1, if_neg (by omega)]
            have q : regsF f (b.getD f.head.length 0) = none := by simpa using h3
            rw [q]
          refine AW.seq' ?_
          refine AW.region ?_
          refine AO.c ?_
          refine AO.sst ?_
          refine AO.c ?_
          refine AO.nil ?_
          refine SQ.normal ?_
          refine AW.ret ?_
          refine SQ.ret <| SQ.ret ?_
          refine Fin.ret (Gh.refl) noid2 ?_
          first
            | (rw [e]; rfl)
            | (rw [e1]; unfold fldF; rw [if_neg (by (try dsimp only); omega), if_pos (by (try dsimp only); omega)]; (try simp only [hp, Option.getD_some]); rfl)
            | (rw [e1]; unfold fldF; rw [if_neg (by (try dsimp only); omega), if_neg (by (try dsimp only); omega)]; unfold lgN; rw [if_pos h5]; (try simp only [hp, Option.getD_some]); rfl)
        · skip
          obtain ⟨p, hp⟩ : ∃ p, regsF f (b.getD f.head.length 0) = some p := Option.isSome_iff_exists.1 (by simpa using h3)
          have hp2 : regsF f (b.getD (Int.toNat ((f.head.length : Nat) : Int)) 0) = some p := hp
          have e1 : oneF f b = fldF ⟨f.op, p.1, p.2, f.head.length + 1, 0, 0, 0⟩ b f.width := by unfold oneF; rw [if_pos h0, if_pos h1, if_neg (by omega), hp]
          refine AW.skip ?_
          refine SQ.normal ?_
          refine AW.seq' ?_
          refine AW.region ?_
          refine AO.c ?_
          refine AO.c ?_
          refine AO.c ?_
          refine AO.sst ?_
          refine AO.c ?_
          refine AO.sst ?_
          refine AO.nil ?_
          refine SQ.normal ?_
          refine AW.region ?_
          refine AO.c ?_
          refine AO.c ?_
          refine AO.oo ?_
          refine AO.c ?_
          refine AO.sst ?_
          refine AO.nil ?_
          refine SQ.normal ?_
          refine AW.seq' ?_
          refine AW.seq' ?_
          refine AW.region ?_
          refine AO.c ?_
          refine AO.c ?_
          refine AO.c ?_
          refine AO.nil ?_
          refine SQ.normal ?_
          refine AW.iteB (GL.ev _) (fun h4 => ?_) (fun h4 => ?_)
          · skip
            rw [decide_eq_true_eq] at h4
            refine AW.seq' ?_
            refine AW.region ?_
            refine AO.c ?_
            refine AO.c ?_
            refine AO.c ?_
            refine AO.c ?_
            refine AO.c ?_
            refine AO.call1 Try.func72 rfl rfl (insn_signed b _ f.width hB hb (by omega) (by omega)) ?_
            refine AO.c ?_
            refine AO.c ?_
            refine AO.c ?_
            refine AO.c ?_
            refine AO.c ?_
            refine AO.nil ?_
            refine SQ.normal ?_
            refine AW.seq' ?_
            refine AW.seq' ?_
            refine AW.region ?_
            refine AO.c ?_
            refine AO.c ?_
            refine AO.nil ?_
            refine SQ.normal ?_
            refine AW.iteB (GL.ev _) (fun h5 => ?_) (fun h5 => ?_)
            · skip
              rw [Bool.not_eq_true', decide_eq_false_iff_not] at h5
              have e : oneF f b = none := by rw [e1]; unfold fldF; rw [if_pos (by unfold HasB Wide at h5; (try dsimp only); omega)]
              refine AW.seq' ?_
              refine AW.region ?_
              refine AO.c ?_
              refine AO.sst ?_
              refine AO.c ?_
              refine AO.nil ?_
              refine SQ.normal ?_
              refine AW.ret ?_
              refine SQ.ret <| SQ.ret ?_
              refine Fin.ret (Gh.refl) noid2 ?_
              first
                | (rw [e]; rfl)
                | (rw [e1]; unfold fldF; rw [if_neg (by (try dsimp only); omega), if_pos (by (try dsimp only); omega)]; (try simp only [hp, Option.getD_some]); rfl)
                | (rw [e1]; unfold fldF; rw [if_neg (by (try dsimp only); omega), if_neg (by (try dsimp only); omega)]; unfold lgN; rw [if_pos h5]; (try simp only [hp, Option.getD_some]); rfl)
            · skip
              rw [Bool.not_eq_false', decide_eq_true_eq] at h5
              have h6 := h5
              unfold HasB at h6
              refine AW.skip ?_
              refine SQ.normal ?_
              refine AW.seq' ?_
              apply AW.mid
              case h =>
                refine AW.drawsZ [6, 8, 10] (.one 0 false (.one 1 false (.one 5 false (.pur 2 (.pur 4 (.two 3 6 (.one 6 true (.one 7 false (.one 8 true (.one 9 false (.one 10 true .nil))))) (.one 3 false (.one 7 false (.one 8 true (.one 9 false (.one 10 true .nil))))))))))) (by kernel_rfl) rfl (by kernel_rfl) ?_
                refine AZ.c rfl ?_
                refine AZ.c rfl ?_
                refine AZ.c rfl ?_
                refine AZ.p rfl ?_
                refine AZ.p rfl ?_
                refine AZ.two ?_ ?_
                · refine AZi.c rfl ?_
                  refine AZ.sst rfl rfl ?_
                  refine AZ.c rfl ?_
                  refine AZ.sst rfl rfl ?_
                  refine AZ.c rfl ?_
                  refine AZ.sst rfl rfl ?_
                  exact AZ.done ⟨rfl, rfl⟩
                · refine AZi.sst rfl rfl ?_
                  refine AZ.c rfl ?_
                  refine AZ.c rfl ?_
                  refine AZ.sst rfl rfl ?_
                  refine AZ.c rfl ?_
                  refine AZ.sst rfl rfl ?_
                  exact AZ.done ⟨rfl, rfl⟩
              refine SQ.normal ?_
              refine AW.region ?_
              refine AO.c ?_
              refine AO.c ?_
              refine AO.c ?_
              refine AO.c ?_
              refine AO.oo ?_
              refine AO.c ?_
              refine AO.sst ?_
              refine AO.nil ?_
              refine SQ.normal ?_
              refine AW.seq' ?_
              refine AW.region ?_
              refine AO.c ?_
              refine AO.sst ?_
              refine AO.c ?_
              refine AO.nil ?_
              refine SQ.normal ?_
              refine AW.ret ?_
              refine Fin.ret (Gh.refl) noid2 ?_
              first
                | (rw [e]; rfl)
                | (rw [e1]; unfold fldF; rw [if_neg (by (try dsimp only); omega), if_pos (by (try dsimp only); omega)]; (try simp only [hp, Option.getD_some]); rfl)
                | (rw [e1]; unfold fldF; rw [if_neg (by (try dsimp only); omega), if_neg (by (try dsimp only); omega)]; unfold lgN; rw [if_pos h5]; (try simp only [hp, Option.getD_some]); rfl)
          · skip
            rw [decide_eq_false_iff_not] at h4
            refine AW.skip ?_
            refine SQ.normal ?_
            refine AW.seq' ?_
            refine AW.region ?_
            refine AO.c ?_
            refine AO.sst ?_
            refine AO.c ?_
            refine AO.nil ?_
            refine SQ.normal ?_
            refine AW.ret ?_
            refine Fin.ret (Gh.refl) noid2 ?_
            first
              | (rw [e]; rfl)
              | (rw [e1]; unfold fldF; rw [if_neg (by (try dsimp only); omega), if_pos (by (try dsimp only); omega)]; (try simp only [hp, Option.getD_some]); rfl)
              | (rw [e1]; unfold fldF; rw [if_neg (by (try dsimp only); omega), if_neg (by (try dsimp only); omega)]; unfold lgN; rw [if_pos h5]; (try simp only [hp, Option.getD_some]); rfl)
    · skip
      rw [decide_eq_false_iff_not] at h1
      have e1 : oneF f b = fldF ⟨f.op, 0, 0, f.head.length, 0, 0, 0⟩ b f.width := by unfold oneF; rw [if_pos h0, if_neg (by omega)]
      refine AW.skip ?_
      refine SQ.normal ?_
      refine AW.seq' ?_
      refine AW.seq' ?_
      refine AW.region ?_
      refine AO.c ?_
      refine AO.c ?_
      refine AO.c ?_
      refine AO.nil ?_
      refine SQ.normal ?_
      refine AW.iteB (GL.ev _) (fun h4 => ?_) (fun h4 => ?_)
      · skip
        rw [decide_eq_true_eq] at h4
        refine AW.seq' ?_
        refine AW.region ?_
        refine AO.c ?_
        refine AO.c ?_
        refine AO.c ?_
        refine AO.c ?_
        refine AO.c ?_
        refine AO.call1 Try.func72 rfl rfl (insn_signed b _ f.width hB hb (by omega) (by omega)) ?_
        refine AO.c ?_
        refine AO.c ?_
        refine AO.c ?_
        refine AO.c ?_
        refine AO.c ?_
        refine AO.nil ?_
        refine SQ.normal ?_
        refine AW.seq' ?_
        refine AW.seq' ?_
        refine AW.region ?_
        refine AO.c ?_
        refine AO.c ?_
        refine AO.nil ?_
        refine SQ.normal ?_
        refine AW.iteB (GL.ev _) (fun h5 => ?_) (fun h5 => ?_)
        · skip
          rw [Bool.not_eq_true', decide_eq_false_iff_not] at h5
          have e : oneF f b = none := by rw [e1]; unfold fldF; rw [if_pos (by unfold HasB Wide at h5; (try dsimp only); omega)]
          refine AW.seq' ?_
          refine AW.region ?_
          refine AO.c ?_
          refine AO.sst ?_
          refine AO.c ?_
          refine AO.nil ?_
          refine SQ.normal ?_
          refine AW.ret ?_
          refine SQ.ret <| SQ.ret ?_
          refine Fin.ret (Gh.refl) noid2 ?_
          first
            | (rw [e]; rfl)
            | (rw [e1]; unfold fldF; rw [if_neg (by (try dsimp only); omega), if_pos (by (try dsimp only); omega)]; (try simp only [hp, Option.getD_some]); rfl)
            | (rw [e1]; unfold fldF; rw [if_neg (by (try dsimp only); omega), if_neg (by (try dsimp only); omega)]; unfold lgN; rw [if_pos h5]; (try simp only [hp, Option.getD_some]); rfl)
        · skip
          rw [Bool.not_eq_false', decide_eq_true_eq] at h5
          have h6 := h5
          unfold HasB at h6
          refine AW.skip ?_
          refine SQ.normal ?_
          refine AW.seq' ?_
          apply AW.mid
          case h =>
            refine AW.drawsZ [6, 8, 10] (.one 0 false (.one 1 false (.one 5 false (.pur 2 (.pur 4 (.two 3 6 (.one 6 true (.one 7 false (.one 8 true (.one 9 false (.one 10 true .nil))))) (.one 3 false (.one 7 false (.one 8 true (.one 9 false (.one 10 true .nil))))))))))) (by kernel_rfl) rfl (by kernel_rfl) ?_
            refine AZ.c rfl ?_
            refine AZ.c rfl ?_
            refine AZ.c rfl ?_
            refine AZ.p rfl ?_
            refine AZ.p rfl ?_
            refine AZ.two ?_ ?_
            · refine AZi.c rfl ?_
              refine AZ.sst rfl rfl ?_
              refine AZ.c rfl ?_
              refine AZ.sst rfl rfl ?_
              refine AZ.c rfl ?_
              refine AZ.sst rfl rfl ?_
              exact AZ.done ⟨rfl, rfl⟩
            · refine AZi.sst rfl rfl ?_
              refine AZ.c rfl ?_
              refine AZ.c rfl ?_
              refine AZ.sst rfl rfl ?_
              refine AZ.c rfl ?_
              refine AZ.sst rfl rfl ?_
              exact AZ.done ⟨rfl, rfl⟩
          refine SQ.normal ?_
          refine AW.region ?_
          refine AO.c ?_
          refine AO.c ?_
          refine AO.c ?_
          refine AO.c ?_
          refine AO.oo ?_
          refine AO.c ?_
          refine AO.sst ?_
          refine AO.nil ?_
          refine SQ.normal ?_
          refine AW.seq' ?_
          refine AW.region ?_
          refine AO.c ?_
          refine AO.sst ?_
          refine AO.c ?_
          refine AO.nil ?_
          refine SQ.normal ?_
          refine AW.ret ?_
          refine Fin.ret (Gh.refl) noid2 ?_
          first
            | (rw [e]; rfl)
            | (rw [e1]; unfold fldF; rw [if_neg (by (try dsimp only); omega), if_pos (by (try dsimp only); omega)]; (try simp only [hp, Option.getD_some]); rfl)
            | (rw [e1]; unfold fldF; rw [if_neg (by (try dsimp only); omega), if_neg (by (try dsimp only); omega)]; unfold lgN; rw [if_pos h5]; (try simp only [hp, Option.getD_some]); rfl)
      · skip
        rw [decide_eq_false_iff_not] at h4
        refine AW.skip ?_
        refine SQ.normal ?_
        refine AW.seq' ?_
        refine AW.region ?_
        refine AO.c ?_
        refine AO.sst ?_
        refine AO.c ?_
        refine AO.nil ?_
        refine SQ.normal ?_
        refine AW.ret ?_
        refine Fin.ret (Gh.refl) noid2 ?_
        first
          | (rw [e]; rfl)
          | (rw [e1]; unfold fldF; rw [if_neg (by (try dsimp only); omega), if_pos (by (try dsimp only); omega)]; (try simp only [hp, Option.getD_some]); rfl)
          | (rw [e1]; unfold fldF; rw [if_neg (by (try dsimp only); omega), if_neg (by (try dsimp only); omega)]; unfold lgN; rw [if_pos h5]; (try simp only [hp, Option.getD_some]); rfl)

end Go.Proofs.Ytlapfdfbgckfcaa.AL
