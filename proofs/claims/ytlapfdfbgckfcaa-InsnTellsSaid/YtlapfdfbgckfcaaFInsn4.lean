/- What functions of the program compute, each by its own contract; the conditions stand with each. -/
import Derived.Test.YtlapfdfbgckfcaaFInsn2
namespace Go.Proofs.Ytlapfdfbgckfcaa.AL
open Go Go.RowKit Go.Proofs.Ytlapfdfbgckfcaa.Base
set_option linter.unusedVariables false
set_option linter.unusedSimpArgs false
set_option maxRecDepth 4000
set_option synthInstance.maxSize 1000
set_option synthInstance.maxHeartbeats 200000
theorem ref_heads (op : Int) : A0 Try.prog 40 [.v (.int .i64 (op))] (fun ret => ret = .rd 1 (bys (headsR op))) := by
  refine A0.body 35 Try.func40 rfl rfl Try.ntmps40 fun base n0 => ?_
  refine AW.seq' ?_
  refine AW.region ?_
  refine AO.c ?_
  refine AO.nil ?_
  refine SQ.normal ?_
  refine AW.seq' ?_
  refine AW.seq' ?_
  refine AW.region ?_
  refine AO.c ?_
  refine AO.nil ?_
  refine SQ.normal ?_
  refine AW.block' ?_
  refine AW.seq' ?_
  refine AW.region ?_
  refine AO.c ?_
  refine AO.c ?_
  refine AO.nil ?_
  refine SQ.normal ?_
  refine AW.iteB (GL.ev _) (fun h0 => ?_) (fun h0 => ?_)
  · skip
    rw [decide_eq_true_eq] at h0
    refine AW.seq' ?_
    refine AW.region ?_
    refine AO.ww ?_
    refine AO.c ?_
    refine AO.nil ?_
    refine SQ.normal ?_
    refine AW.ret ?_
    refine BQ.ret <| SQ.ret ?_
    refine Fin.ret (Gh.freezeB 2 (by decide) (by decide)) noid1 ?_
    first | (exfalso; omega) | (unfold headsR; (repeat (first | rw [if_neg (by omega)] | rw [if_pos (by omega)])) <;> rfl)
  · skip
    rw [decide_eq_false_iff_not] at h0
    refine AW.seq' ?_
    refine AW.region ?_
    refine AO.c ?_
    refine AO.c ?_
    refine AO.nil ?_
    refine SQ.normal ?_
    refine AW.iteB (GL.ev _) (fun h1 => ?_) (fun h1 => ?_)
    · skip
      rw [decide_eq_true_eq] at h1
      refine AW.seq' ?_
      refine AW.region ?_
      refine AO.ww ?_
      refine AO.c ?_
      refine AO.nil ?_
      refine SQ.normal ?_
      refine AW.ret ?_
      refine BQ.ret <| SQ.ret ?_
      refine Fin.ret (Gh.freezeB 2 (by decide) (by decide)) noid1 ?_
      first | (exfalso; omega) | (unfold headsR; (repeat (first | rw [if_neg (by omega)] | rw [if_pos (by omega)])) <;> rfl)
    · skip
      rw [decide_eq_false_iff_not] at h1
      refine AW.seq' ?_
      refine AW.region ?_
      refine AO.c ?_
      refine AO.c ?_
      refine AO.nil ?_
      refine SQ.normal ?_
      refine AW.iteB (GL.ev _) (fun h2 => ?_) (fun h2 => ?_)
      · skip
        rw [decide_eq_true_eq] at h2
        refine AW.seq' ?_
        refine AW.region ?_
        refine AO.ww ?_
        refine AO.c ?_
        refine AO.nil ?_
        refine SQ.normal ?_
        refine AW.ret ?_
        refine BQ.ret <| SQ.ret ?_
        refine Fin.ret (Gh.freezeB 2 (by decide) (by decide)) noid1 ?_
        first | (exfalso; omega) | (unfold headsR; (repeat (first | rw [if_neg (by omega)] | rw [if_pos (by omega)])) <;> rfl)
      · skip
        rw [decide_eq_false_iff_not] at h2
        refine AW.seq' ?_
        refine AW.seq' ?_
        refine AW.region ?_
        refine AO.c ?_
        refine AO.c ?_
        refine AO.nil ?_
        refine SQ.normal ?_
        refine AW.iteB (GL.ev _) (fun h3 => ?_) (fun h3 => ?_)
        · skip
          rw [decide_eq_true_eq] at h3
          refine AW.skip ?_
          refine SQ.normal ?_
          refine AW.iteB (GL.ev _) (fun h4 => ?_) (fun h4 => ?_)
          · skip
            rw [decide_eq_true_eq] at h4
            refine AW.seq' ?_
            refine AW.region ?_
            refine AO.ww ?_
            refine AO.c ?_
            refine AO.nil ?_
            refine SQ.normal ?_
            refine AW.ret ?_
            refine BQ.ret <| SQ.ret ?_
            refine Fin.ret (Gh.freezeB 2 (by decide) (by decide)) noid1 ?_
            first | (exfalso; omega) | (unfold headsR; (repeat (first | rw [if_neg (by omega)] | rw [if_pos (by omega)])) <;> rfl)
          · skip
            rw [decide_eq_false_iff_not] at h4
            refine AW.seq' ?_
            refine AW.region ?_
            refine AO.c ?_
            refine AO.c ?_
            refine AO.nil ?_
            refine SQ.normal ?_
            refine AW.iteB (GL.ev _) (fun h5 => ?_) (fun h5 => ?_)
            · skip
              rw [decide_eq_true_eq] at h5
              refine AW.seq' ?_
              refine AW.region ?_
              refine AO.ww ?_
              refine AO.c ?_
              refine AO.nil ?_
              refine SQ.normal ?_
              refine AW.ret ?_
              refine BQ.ret <| SQ.ret ?_
              refine Fin.ret (Gh.freezeB 2 (by decide) (by decide)) noid1 ?_
              first | (exfalso; omega) | (unfold headsR; (repeat (first | rw [if_neg (by omega)] | rw [if_pos (by omega)])) <;> rfl)
            · skip
              rw [decide_eq_false_iff_not] at h5
              refine AW.seq' ?_
              refine AW.region ?_
              refine AO.c ?_
              refine AO.c ?_
              refine AO.nil ?_
              refine SQ.normal ?_
              refine AW.iteB (GL.ev _) (fun h6 => ?_) (fun h6 => ?_)
              · skip
                rw [decide_eq_true_eq] at h6
                refine AW.seq' ?_
                refine AW.region ?_
                refine AO.ww ?_
                refine AO.c ?_
                refine AO.nil ?_
                refine SQ.normal ?_
                refine AW.ret ?_
                refine BQ.ret <| SQ.ret ?_
                refine Fin.ret (Gh.freezeB 2 (by decide) (by decide)) noid1 ?_
                first | (exfalso; omega) | (unfold headsR; (repeat (first | rw [if_neg (by omega)] | rw [if_pos (by omega)])) <;> rfl)
              · skip
                rw [decide_eq_false_iff_not] at h6
                refine AW.seq' ?_
                refine AW.region ?_
                refine AO.c ?_
                refine AO.c ?_
                refine AO.nil ?_
                refine SQ.normal ?_
                refine AW.iteB (GL.ev _) (fun h7 => ?_) (fun h7 => ?_)
                · skip
                  rw [decide_eq_true_eq] at h7
                  refine AW.seq' ?_
                  refine AW.region ?_
                  refine AO.ww ?_
                  refine AO.c ?_
                  refine AO.nil ?_
                  refine SQ.normal ?_
                  refine AW.ret ?_
                  refine BQ.ret <| SQ.ret ?_
                  refine Fin.ret (Gh.freezeB 2 (by decide) (by decide)) noid1 ?_
                  first | (exfalso; omega) | (unfold headsR; (repeat (first | rw [if_neg (by omega)] | rw [if_pos (by omega)])) <;> rfl)
                · skip
                  rw [decide_eq_false_iff_not] at h7
                  refine AW.seq' ?_
                  refine AW.region ?_
                  refine AO.c ?_
                  refine AO.c ?_
                  refine AO.nil ?_
                  refine SQ.normal ?_
                  refine AW.iteB (GL.ev _) (fun h8 => ?_) (fun h8 => ?_)
                  · skip
                    rw [decide_eq_true_eq] at h8
                    refine AW.seq' ?_
                    refine AW.region ?_
                    refine AO.ww ?_
                    refine AO.c ?_
                    refine AO.nil ?_
                    refine SQ.normal ?_
                    refine AW.ret ?_
                    refine BQ.ret <| SQ.ret ?_
                    refine Fin.ret (Gh.freezeB 2 (by decide) (by decide)) noid1 ?_
                    first | (exfalso; omega) | (unfold headsR; (repeat (first | rw [if_neg (by omega)] | rw [if_pos (by omega)])) <;> rfl)
                  · skip
                    rw [decide_eq_false_iff_not] at h8
                    refine AW.seq' ?_
                    refine AW.region ?_
                    refine AO.c ?_
                    refine AO.c ?_
                    refine AO.nil ?_
                    refine SQ.normal ?_
                    refine AW.iteB (GL.ev _) (fun h9 => ?_) (fun h9 => ?_)
                    · skip
                      rw [decide_eq_true_eq] at h9
                      refine AW.seq' ?_
                      refine AW.region ?_
                      refine AO.ww ?_
                      refine AO.c ?_
                      refine AO.nil ?_
                      refine SQ.normal ?_
                      refine AW.ret ?_
                      refine BQ.ret <| SQ.ret ?_
                      refine Fin.ret (Gh.freezeB 2 (by decide) (by decide)) noid1 ?_
                      first | (exfalso; omega) | (unfold headsR; (repeat (first | rw [if_neg (by omega)] | rw [if_pos (by omega)])) <;> rfl)
                    · skip
                      rw [decide_eq_false_iff_not] at h9
                      refine AW.seq' ?_
                      refine AW.region ?_
                      refine AO.c ?_
                      refine AO.c ?_
                      refine AO.nil ?_
                      refine SQ.normal ?_
                      refine AW.iteB (GL.ev _) (fun h10 => ?_) (fun h10 => ?_)
                      · skip
                        rw [decide_eq_true_eq] at h10
                        refine AW.seq' ?_
                        refine AW.region ?_
                        refine AO.ww ?_
                        refine AO.c ?_
                        refine AO.nil ?_
                        refine SQ.normal ?_
                        refine AW.ret ?_
                        refine BQ.ret <| SQ.ret ?_
                        refine Fin.ret (Gh.freezeB 2 (by decide) (by decide)) noid1 ?_
                        first | (exfalso; omega) | (unfold headsR; (repeat (first | rw [if_neg (by omega)] | rw [if_pos (by omega)])) <;> rfl)
                      · skip
                        rw [decide_eq_false_iff_not] at h10
                        refine AW.skip ?_
                        refine BQ.normal ?_
                        refine SQ.normal ?_
                        refine AW.seq' ?_
                        refine AW.region ?_
                        refine AO.c ?_
                        refine AO.nil ?_
                        refine SQ.normal ?_
                        refine AW.ret ?_
                        refine Fin.ret (Gh.nilB 2) noid1 ?_
                        first | (exfalso; omega) | (unfold headsR; (repeat (first | rw [if_neg (by omega)] | rw [if_pos (by omega)])) <;> rfl)
        · skip
          rw [decide_eq_false_iff_not] at h3
          refine AW.region ?_
          refine AO.c ?_
          refine AO.c ?_
          refine AO.nil ?_
          refine SQ.normal ?_
          refine AW.iteB (GL.ev _) (fun h4 => ?_) (fun h4 => ?_)
          · skip
            rw [decide_eq_true_eq] at h4
            refine AW.seq' ?_
            refine AW.region ?_
            refine AO.ww ?_
            refine AO.c ?_
            refine AO.nil ?_
            refine SQ.normal ?_
            refine AW.ret ?_
            refine BQ.ret <| SQ.ret ?_
            refine Fin.ret (Gh.freezeB 2 (by decide) (by decide)) noid1 ?_
            first | (exfalso; omega) | (unfold headsR; (repeat (first | rw [if_neg (by omega)] | rw [if_pos (by omega)])) <;> rfl)
          · skip
            rw [decide_eq_false_iff_not] at h4
            refine AW.seq' ?_
            refine AW.region ?_
            refine AO.c ?_
            refine AO.c ?_
            refine AO.nil ?_
            refine SQ.normal ?_
            refine AW.iteB (GL.ev _) (fun h5 => ?_) (fun h5 => ?_)
            · skip
              rw [decide_eq_true_eq] at h5
              refine AW.seq' ?_
              refine AW.region ?_
              refine AO.ww ?_
              refine AO.c ?_
              refine AO.nil ?_
              refine SQ.normal ?_
              refine AW.ret ?_
              refine BQ.ret <| SQ.ret ?_
              refine Fin.ret (Gh.freezeB 2 (by decide) (by decide)) noid1 ?_
              first | (exfalso; omega) | (unfold headsR; (repeat (first | rw [if_neg (by omega)] | rw [if_pos (by omega)])) <;> rfl)
            · skip
              rw [decide_eq_false_iff_not] at h5
              refine AW.seq' ?_
              refine AW.region ?_
              refine AO.c ?_
              refine AO.c ?_
              refine AO.nil ?_
              refine SQ.normal ?_
              refine AW.iteB (GL.ev _) (fun h6 => ?_) (fun h6 => ?_)
              · skip
                rw [decide_eq_true_eq] at h6
                refine AW.seq' ?_
                refine AW.region ?_
                refine AO.ww ?_
                refine AO.c ?_
                refine AO.nil ?_
                refine SQ.normal ?_
                refine AW.ret ?_
                refine BQ.ret <| SQ.ret ?_
                refine Fin.ret (Gh.freezeB 2 (by decide) (by decide)) noid1 ?_
                first | (exfalso; omega) | (unfold headsR; (repeat (first | rw [if_neg (by omega)] | rw [if_pos (by omega)])) <;> rfl)
              · skip
                rw [decide_eq_false_iff_not] at h6
                refine AW.seq' ?_
                refine AW.region ?_
                refine AO.c ?_
                refine AO.c ?_
                refine AO.nil ?_
                refine SQ.normal ?_
                refine AW.iteB (GL.ev _) (fun h7 => ?_) (fun h7 => ?_)
                · skip
                  rw [decide_eq_true_eq] at h7
                  refine AW.seq' ?_
                  refine AW.region ?_
                  refine AO.ww ?_
                  refine AO.c ?_
                  refine AO.nil ?_
                  refine SQ.normal ?_
                  refine AW.ret ?_
                  refine BQ.ret <| SQ.ret ?_
                  refine Fin.ret (Gh.freezeB 2 (by decide) (by decide)) noid1 ?_
                  first | (exfalso; omega) | (unfold headsR; (repeat (first | rw [if_neg (by omega)] | rw [if_pos (by omega)])) <;> rfl)
                · skip
                  rw [decide_eq_false_iff_not] at h7
                  refine AW.seq' ?_
                  refine AW.region ?_
                  refine AO.c ?_
                  refine AO.c ?_
                  refine AO.nil ?_
                  refine SQ.normal ?_
                  refine AW.iteB (GL.ev _) (fun h8 => ?_) (fun h8 => ?_)
                  · skip
                    rw [decide_eq_true_eq] at h8
                    refine AW.seq' ?_
                    refine AW.region ?_
                    refine AO.ww ?_
                    refine AO.c ?_
                    refine AO.nil ?_
                    refine SQ.normal ?_
                    refine AW.ret ?_
                    refine BQ.ret <| SQ.ret ?_
                    refine Fin.ret (Gh.freezeB 2 (by decide) (by decide)) noid1 ?_
                    first | (exfalso; omega) | (unfold headsR; (repeat (first | rw [if_neg (by omega)] | rw [if_pos (by omega)])) <;> rfl)
                  · skip
                    rw [decide_eq_false_iff_not] at h8
                    refine AW.seq' ?_
                    refine AW.region ?_
                    refine AO.c ?_
                    refine AO.c ?_
                    refine AO.nil ?_
                    refine SQ.normal ?_
                    refine AW.iteB (GL.ev _) (fun h9 => ?_) (fun h9 => ?_)
                    · skip
                      rw [decide_eq_true_eq] at h9
                      refine AW.seq' ?_
                      refine AW.region ?_
                      refine AO.ww ?_
                      refine AO.c ?_
                      refine AO.nil ?_
                      refine SQ.normal ?_
                      refine AW.ret ?_
                      refine BQ.ret <| SQ.ret ?_
                      refine Fin.ret (Gh.freezeB 2 (by decide) (by decide)) noid1 ?_
                      first | (exfalso; omega) | (unfold headsR; (repeat (first | rw [if_neg (by omega)] | rw [if_pos (by omega)])) <;> rfl)
                    · skip
                      rw [decide_eq_false_iff_not] at h9
                      refine AW.seq' ?_
                      refine AW.region ?_
                      refine AO.c ?_
                      refine AO.c ?_
                      refine AO.nil ?_
                      refine SQ.normal ?_
                      refine AW.iteB (GL.ev _) (fun h10 => ?_) (fun h10 => ?_)
                      · skip
                        rw [decide_eq_true_eq] at h10
                        refine AW.seq' ?_
                        refine AW.region ?_
                        refine AO.ww ?_
                        refine AO.c ?_
                        refine AO.nil ?_
                        refine SQ.normal ?_
                        refine AW.ret ?_
                        refine BQ.ret <| SQ.ret ?_
                        refine Fin.ret (Gh.freezeB 2 (by decide) (by decide)) noid1 ?_
                        first | (exfalso; omega) | (unfold headsR; (repeat (first | rw [if_neg (by omega)] | rw [if_pos (by omega)])) <;> rfl)
                      · skip
                        rw [decide_eq_false_iff_not] at h10
                        refine AW.skip ?_
                        refine BQ.normal ?_
                        refine SQ.normal ?_
                        refine AW.seq' ?_
                        refine AW.region ?_
                        refine AO.c ?_
                        refine AO.nil ?_
                        refine SQ.normal ?_
                        refine AW.ret ?_
                        refine Fin.ret (Gh.nilB 2) noid1 ?_
                        first | (exfalso; omega) | (unfold headsR; (repeat (first | rw [if_neg (by omega)] | rw [if_pos (by omega)])) <;> rfl)
theorem ref_headsR (op : Int) : A1 Try.prog 40 [.v (.int .i64 (op))] 5 1 (bys (headsR op)) := by
  refine A1.body 35 (NIr.h) Try.func40 rfl rfl Try.ntmps40 fun base n0 => ?_
  refine AW.seq' ?_
  refine AW.region ?_
  refine AO.c ?_
  refine AO.nil ?_
  refine SQ.normal ?_
  refine AW.seq' ?_
  refine AW.seq' ?_
  refine AW.region ?_
  refine AO.c ?_
  refine AO.nil ?_
  refine SQ.normal ?_
  refine AW.block' ?_
  refine AW.seq' ?_
  refine AW.region ?_
  refine AO.c ?_
  refine AO.c ?_
  refine AO.nil ?_
  refine SQ.normal ?_
  refine AW.iteB (GL.ev _) (fun h0 => ?_) (fun h0 => ?_)
  · skip
    rw [decide_eq_true_eq] at h0
    refine AW.seq' ?_
    refine AW.region ?_
    refine AO.ww ?_
    refine AO.c ?_
    refine AO.nil ?_
    refine SQ.normal ?_
    refine AW.ret ?_
    refine BQ.ret <| SQ.ret ?_
    refine FinO.ret 2 (Gh.refl) rfl ?_ ?_ (.inr rfl)
    · first | (exfalso; omega) | (unfold headsR; (repeat (first | rw [if_neg (by omega)] | rw [if_pos (by omega)])) <;> rfl)
    · first | (exfalso; omega) | (unfold headsR; (repeat (first | rw [if_neg (by omega)] | rw [if_pos (by omega)])) <;> rfl)
  · skip
    rw [decide_eq_false_iff_not] at h0
    refine AW.seq' ?_
    refine AW.region ?_
    refine AO.c ?_
    refine AO.c ?_
    refine AO.nil ?_
    refine SQ.normal ?_
    refine AW.iteB (GL.ev _) (fun h1 => ?_) (fun h1 => ?_)
    · skip
      rw [decide_eq_true_eq] at h1
      refine AW.seq' ?_
      refine AW.region ?_
      refine AO.ww ?_
      refine AO.c ?_
      refine AO.nil ?_
      refine SQ.normal ?_
      refine AW.ret ?_
      refine BQ.ret <| SQ.ret ?_
      refine FinO.ret 2 (Gh.refl) rfl ?_ ?_ (.inr rfl)
      · first | (exfalso; omega) | (unfold headsR; (repeat (first | rw [if_neg (by omega)] | rw [if_pos (by omega)])) <;> rfl)
      · first | (exfalso; omega) | (unfold headsR; (repeat (first | rw [if_neg (by omega)] | rw [if_pos (by omega)])) <;> rfl)
    · skip
      rw [decide_eq_false_iff_not] at h1
      refine AW.seq' ?_
      refine AW.region ?_
      refine AO.c ?_
      refine AO.c ?_
      refine AO.nil ?_
      refine SQ.normal ?_
      refine AW.iteB (GL.ev _) (fun h2 => ?_) (fun h2 => ?_)
      · skip
        rw [decide_eq_true_eq] at h2
        refine AW.seq' ?_
        refine AW.region ?_
        refine AO.ww ?_
        refine AO.c ?_
        refine AO.nil ?_
        refine SQ.normal ?_
        refine AW.ret ?_
        refine BQ.ret <| SQ.ret ?_
        refine FinO.ret 2 (Gh.refl) rfl ?_ ?_ (.inr rfl)
        · first | (exfalso; omega) | (unfold headsR; (repeat (first | rw [if_neg (by omega)] | rw [if_pos (by omega)])) <;> rfl)
        · first | (exfalso; omega) | (unfold headsR; (repeat (first | rw [if_neg (by omega)] | rw [if_pos (by omega)])) <;> rfl)
      · skip
        rw [decide_eq_false_iff_not] at h2
        refine AW.seq' ?_
        refine AW.seq' ?_
        refine AW.region ?_
        refine AO.c ?_
        refine AO.c ?_
        refine AO.nil ?_
        refine SQ.normal ?_
        refine AW.iteB (GL.ev _) (fun h3 => ?_) (fun h3 => ?_)
        · skip
          rw [decide_eq_true_eq] at h3
          refine AW.skip ?_
          refine SQ.normal ?_
          refine AW.iteB (GL.ev _) (fun h4 => ?_) (fun h4 => ?_)
          · skip
            rw [decide_eq_true_eq] at h4
            refine AW.seq' ?_
            refine AW.region ?_
            refine AO.ww ?_
            refine AO.c ?_
            refine AO.nil ?_
            refine SQ.normal ?_
            refine AW.ret ?_
            refine BQ.ret <| SQ.ret ?_
            refine FinO.ret 2 (Gh.refl) rfl ?_ ?_ (.inr rfl)
            · first | (exfalso; omega) | (unfold headsR; (repeat (first | rw [if_neg (by omega)] | rw [if_pos (by omega)])) <;> rfl)
            · first | (exfalso; omega) | (unfold headsR; (repeat (first | rw [if_neg (by omega)] | rw [if_pos (by omega)])) <;> rfl)
          · skip
            rw [decide_eq_false_iff_not] at h4
            refine AW.seq' ?_
            refine AW.region ?_
            refine AO.c ?_
            refine AO.c ?_
            refine AO.nil ?_
            refine SQ.normal ?_
            refine AW.iteB (GL.ev _) (fun h5 => ?_) (fun h5 => ?_)
            · skip
              rw [decide_eq_true_eq] at h5
              refine AW.seq' ?_
              refine AW.region ?_
              refine AO.ww ?_
              refine AO.c ?_
              refine AO.nil ?_
              refine SQ.normal ?_
              refine AW.ret ?_
              refine BQ.ret <| SQ.ret ?_
              refine FinO.ret 2 (Gh.refl) rfl ?_ ?_ (.inr rfl)
              · first | (exfalso; omega) | (unfold headsR; (repeat (first | rw [if_neg (by omega)] | rw [if_pos (by omega)])) <;> rfl)
              · first | (exfalso; omega) | (unfold headsR; (repeat (first | rw [if_neg (by omega)] | rw [if_pos (by omega)])) <;> rfl)
            · skip
              rw [decide_eq_false_iff_not] at h5
              refine AW.seq' ?_
              refine AW.region ?_
              refine AO.c ?_
              refine AO.c ?_
              refine AO.nil ?_
              refine SQ.normal ?_
              refine AW.iteB (GL.ev _) (fun h6 => ?_) (fun h6 => ?_)
              · skip
                rw [decide_eq_true_eq] at h6
                refine AW.seq' ?_
                refine AW.region ?_
                refine AO.ww ?_
                refine AO.c ?_
                refine AO.nil ?_
                refine SQ.normal ?_
                refine AW.ret ?_
                refine BQ.ret <| SQ.ret ?_
                refine FinO.ret 2 (Gh.refl) rfl ?_ ?_ (.inr rfl)
                · first | (exfalso; omega) | (unfold headsR; (repeat (first | rw [if_neg (by omega)] | rw [if_pos (by omega)])) <;> rfl)
                · first | (exfalso; omega) | (unfold headsR; (repeat (first | rw [if_neg (by omega)] | rw [if_pos (by omega)])) <;> rfl)
              · skip
                rw [decide_eq_false_iff_not] at h6
                refine AW.seq' ?_
                refine AW.region ?_
                refine AO.c ?_
                refine AO.c ?_
                refine AO.nil ?_
                refine SQ.normal ?_
                refine AW.iteB (GL.ev _) (fun h7 => ?_) (fun h7 => ?_)
                · skip
                  rw [decide_eq_true_eq] at h7
                  refine AW.seq' ?_
                  refine AW.region ?_
                  refine AO.ww ?_
                  refine AO.c ?_
                  refine AO.nil ?_
                  refine SQ.normal ?_
                  refine AW.ret ?_
                  refine BQ.ret <| SQ.ret ?_
                  refine FinO.ret 2 (Gh.refl) rfl ?_ ?_ (.inr rfl)
                  · first | (exfalso; omega) | (unfold headsR; (repeat (first | rw [if_neg (by omega)] | rw [if_pos (by omega)])) <;> rfl)
                  · first | (exfalso; omega) | (unfold headsR; (repeat (first | rw [if_neg (by omega)] | rw [if_pos (by omega)])) <;> rfl)
                · skip
                  rw [decide_eq_false_iff_not] at h7
                  refine AW.seq' ?_
                  refine AW.region ?_
                  refine AO.c ?_
                  refine AO.c ?_
                  refine AO.nil ?_
                  refine SQ.normal ?_
                  refine AW.iteB (GL.ev _) (fun h8 => ?_) (fun h8 => ?_)
                  · skip
                    rw [decide_eq_true_eq] at h8
                    refine AW.seq' ?_
                    refine AW.region ?_
                    refine AO.ww ?_
                    refine AO.c ?_
                    refine AO.nil ?_
                    refine SQ.normal ?_
                    refine AW.ret ?_
                    refine BQ.ret <| SQ.ret ?_
                    refine FinO.ret 2 (Gh.refl) rfl ?_ ?_ (.inr rfl)
                    · first | (exfalso; omega) | (unfold headsR; (repeat (first | rw [if_neg (by omega)] | rw [if_pos (by omega)])) <;> rfl)
                    · first | (exfalso; omega) | (unfold headsR; (repeat (first | rw [if_neg (by omega)] | rw [if_pos (by omega)])) <;> rfl)
                  · skip
                    rw [decide_eq_false_iff_not] at h8
                    refine AW.seq' ?_
                    refine AW.region ?_
                    refine AO.c ?_
                    refine AO.c ?_
                    refine AO.nil ?_
                    refine SQ.normal ?_
                    refine AW.iteB (GL.ev _) (fun h9 => ?_) (fun h9 => ?_)
                    · skip
                      rw [decide_eq_true_eq] at h9
                      refine AW.seq' ?_
                      refine AW.region ?_
                      refine AO.ww ?_
                      refine AO.c ?_
                      refine AO.nil ?_
                      refine SQ.normal ?_
                      refine AW.ret ?_
                      refine BQ.ret <| SQ.ret ?_
                      refine FinO.ret 2 (Gh.refl) rfl ?_ ?_ (.inr rfl)
                      · first | (exfalso; omega) | (unfold headsR; (repeat (first | rw [if_neg (by omega)] | rw [if_pos (by omega)])) <;> rfl)
                      · first | (exfalso; omega) | (unfold headsR; (repeat (first | rw [if_neg (by omega)] | rw [if_pos (by omega)])) <;> rfl)
                    · skip
                      rw [decide_eq_false_iff_not] at h9
                      refine AW.seq' ?_
                      refine AW.region ?_
                      refine AO.c ?_
                      refine AO.c ?_
                      refine AO.nil ?_
                      refine SQ.normal ?_
                      refine AW.iteB (GL.ev _) (fun h10 => ?_) (fun h10 => ?_)
                      · skip
                        rw [decide_eq_true_eq] at h10
                        refine AW.seq' ?_
                        refine AW.region ?_
                        refine AO.ww ?_
                        refine AO.c ?_
                        refine AO.nil ?_
                        refine SQ.normal ?_
                        refine AW.ret ?_
                        refine BQ.ret <| SQ.ret ?_
                        refine FinO.ret 2 (Gh.refl) rfl ?_ ?_ (.inr rfl)
                        · first | (exfalso; omega) | (unfold headsR; (repeat (first | rw [if_neg (by omega)] | rw [if_pos (by omega)])) <;> rfl)
                        · first | (exfalso; omega) | (unfold headsR; (repeat (first | rw [if_neg (by omega)] | rw [if_pos (by omega)])) <;> rfl)
                      · skip
                        rw [decide_eq_false_iff_not] at h10
                        refine AW.skip ?_
                        refine BQ.normal ?_
                        refine SQ.normal ?_
                        refine AW.seq' ?_
                        refine AW.region ?_
                        refine AO.c ?_
                        refine AO.nil ?_
                        refine SQ.normal ?_
                        refine AW.ret ?_
                        refine FinO.ret 2 (Gh.adoptB 2 5) rfl ?_ ?_ (.inr rfl)
                        · first | (exfalso; omega) | (unfold headsR; (repeat (first | rw [if_neg (by omega)] | rw [if_pos (by omega)])) <;> rfl)
                        · first | (exfalso; omega) | (unfold headsR; (repeat (first | rw [if_neg (by omega)] | rw [if_pos (by omega)])) <;> rfl)
        · skip
          rw [decide_eq_false_iff_not] at h3
          refine AW.region ?_
          refine AO.c ?_
          refine AO.c ?_
          refine AO.nil ?_
          refine SQ.normal ?_
          refine AW.iteB (GL.ev _) (fun h4 => ?_) (fun h4 => ?_)
          · skip
            rw [decide_eq_true_eq] at h4
            refine AW.seq' ?_
            refine AW.region ?_
            refine AO.ww ?_
            refine AO.c ?_
            refine AO.nil ?_
            refine SQ.normal ?_
            refine AW.ret ?_
            refine BQ.ret <| SQ.ret ?_
            refine FinO.ret 2 (Gh.refl) rfl ?_ ?_ (.inr rfl)
            · first | (exfalso; omega) | (unfold headsR; (repeat (first | rw [if_neg (by omega)] | rw [if_pos (by omega)])) <;> rfl)
            · first | (exfalso; omega) | (unfold headsR; (repeat (first | rw [if_neg (by omega)] | rw [if_pos (by omega)])) <;> rfl)
          · skip
            rw [decide_eq_false_iff_not] at h4
            refine AW.seq' ?_
            refine AW.region ?_
            refine AO.c ?_
            refine AO.c ?_
            refine AO.nil ?_
            refine SQ.normal ?_
            refine AW.iteB (GL.ev _) (fun h5 => ?_) (fun h5 => ?_)
            · skip
              rw [decide_eq_true_eq] at h5
              refine AW.seq' ?_
              refine AW.region ?_
              refine AO.ww ?_
              refine AO.c ?_
              refine AO.nil ?_
              refine SQ.normal ?_
              refine AW.ret ?_
              refine BQ.ret <| SQ.ret ?_
              refine FinO.ret 2 (Gh.refl) rfl ?_ ?_ (.inr rfl)
              · first | (exfalso; omega) | (unfold headsR; (repeat (first | rw [if_neg (by omega)] | rw [if_pos (by omega)])) <;> rfl)
              · first | (exfalso; omega) | (unfold headsR; (repeat (first | rw [if_neg (by omega)] | rw [if_pos (by omega)])) <;> rfl)
            · skip
              rw [decide_eq_false_iff_not] at h5
              refine AW.seq' ?_
              refine AW.region ?_
              refine AO.c ?_
              refine AO.c ?_
              refine AO.nil ?_
              refine SQ.normal ?_
              refine AW.iteB (GL.ev _) (fun h6 => ?_) (fun h6 => ?_)
              · skip
                rw [decide_eq_true_eq] at h6
                refine AW.seq' ?_
                refine AW.region ?_
                refine AO.ww ?_
                refine AO.c ?_
                refine AO.nil ?_
                refine SQ.normal ?_
                refine AW.ret ?_
                refine BQ.ret <| SQ.ret ?_
                refine FinO.ret 2 (Gh.refl) rfl ?_ ?_ (.inr rfl)
                · first | (exfalso; omega) | (unfold headsR; (repeat (first | rw [if_neg (by omega)] | rw [if_pos (by omega)])) <;> rfl)
                · first | (exfalso; omega) | (unfold headsR; (repeat (first | rw [if_neg (by omega)] | rw [if_pos (by omega)])) <;> rfl)
              · skip
                rw [decide_eq_false_iff_not] at h6
                refine AW.seq' ?_
                refine AW.region ?_
                refine AO.c ?_
                refine AO.c ?_
                refine AO.nil ?_
                refine SQ.normal ?_
                refine AW.iteB (GL.ev _) (fun h7 => ?_) (fun h7 => ?_)
                · skip
                  rw [decide_eq_true_eq] at h7
                  refine AW.seq' ?_
                  refine AW.region ?_
                  refine AO.ww ?_
                  refine AO.c ?_
                  refine AO.nil ?_
                  refine SQ.normal ?_
                  refine AW.ret ?_
                  refine BQ.ret <| SQ.ret ?_
                  refine FinO.ret 2 (Gh.refl) rfl ?_ ?_ (.inr rfl)
                  · first | (exfalso; omega) | (unfold headsR; (repeat (first | rw [if_neg (by omega)] | rw [if_pos (by omega)])) <;> rfl)
                  · first | (exfalso; omega) | (unfold headsR; (repeat (first | rw [if_neg (by omega)] | rw [if_pos (by omega)])) <;> rfl)
                · skip
                  rw [decide_eq_false_iff_not] at h7
                  refine AW.seq' ?_
                  refine AW.region ?_
                  refine AO.c ?_
                  refine AO.c ?_
                  refine AO.nil ?_
                  refine SQ.normal ?_
                  refine AW.iteB (GL.ev _) (fun h8 => ?_) (fun h8 => ?_)
                  · skip
                    rw [decide_eq_true_eq] at h8
                    refine AW.seq' ?_
                    refine AW.region ?_
                    refine AO.ww ?_
                    refine AO.c ?_
                    refine AO.nil ?_
                    refine SQ.normal ?_
                    refine AW.ret ?_
                    refine BQ.ret <| SQ.ret ?_
                    refine FinO.ret 2 (Gh.refl) rfl ?_ ?_ (.inr rfl)
                    · first | (exfalso; omega) | (unfold headsR; (repeat (first | rw [if_neg (by omega)] | rw [if_pos (by omega)])) <;> rfl)
                    · first | (exfalso; omega) | (unfold headsR; (repeat (first | rw [if_neg (by omega)] | rw [if_pos (by omega)])) <;> rfl)
                  · skip
                    rw [decide_eq_false_iff_not] at h8
                    refine AW.seq' ?_
                    refine AW.region ?_
                    refine AO.c ?_
                    refine AO.c ?_
                    refine AO.nil ?_
                    refine SQ.normal ?_
                    refine AW.iteB (GL.ev _) (fun h9 => ?_) (fun h9 => ?_)
                    · skip
                      rw [decide_eq_true_eq] at h9
                      refine AW.seq' ?_
                      refine AW.region ?_
                      refine AO.ww ?_
                      refine AO.c ?_
                      refine AO.nil ?_
                      refine SQ.normal ?_
                      refine AW.ret ?_
                      refine BQ.ret <| SQ.ret ?_
                      refine FinO.ret 2 (Gh.refl) rfl ?_ ?_ (.inr rfl)
                      · first | (exfalso; omega) | (unfold headsR; (repeat (first | rw [if_neg (by omega)] | rw [if_pos (by omega)])) <;> rfl)
                      · first | (exfalso; omega) | (unfold headsR; (repeat (first | rw [if_neg (by omega)] | rw [if_pos (by omega)])) <;> rfl)
                    · skip
                      rw [decide_eq_false_iff_not] at h9
                      refine AW.seq' ?_
                      refine AW.region ?_
                      refine AO.c ?_
                      refine AO.c ?_
                      refine AO.nil ?_
                      refine SQ.normal ?_
                      refine AW.iteB (GL.ev _) (fun h10 => ?_) (fun h10 => ?_)
                      · skip
                        rw [decide_eq_true_eq] at h10
                        refine AW.seq' ?_
                        refine AW.region ?_
                        refine AO.ww ?_
                        refine AO.c ?_
                        refine AO.nil ?_
                        refine SQ.normal ?_
                        refine AW.ret ?_
                        refine BQ.ret <| SQ.ret ?_
                        refine FinO.ret 2 (Gh.refl) rfl ?_ ?_ (.inr rfl)
                        · first | (exfalso; omega) | (unfold headsR; (repeat (first | rw [if_neg (by omega)] | rw [if_pos (by omega)])) <;> rfl)
                        · first | (exfalso; omega) | (unfold headsR; (repeat (first | rw [if_neg (by omega)] | rw [if_pos (by omega)])) <;> rfl)
                      · skip
                        rw [decide_eq_false_iff_not] at h10
                        refine AW.skip ?_
                        refine BQ.normal ?_
                        refine SQ.normal ?_
                        refine AW.seq' ?_
                        refine AW.region ?_
                        refine AO.c ?_
                        refine AO.nil ?_
                        refine SQ.normal ?_
                        refine AW.ret ?_
                        refine FinO.ret 2 (Gh.adoptB 2 5) rfl ?_ ?_ (.inr rfl)
                        · first | (exfalso; omega) | (unfold headsR; (repeat (first | rw [if_neg (by omega)] | rw [if_pos (by omega)])) <;> rfl)
                        · first | (exfalso; omega) | (unfold headsR; (repeat (first | rw [if_neg (by omega)] | rw [if_pos (by omega)])) <;> rfl)

end Go.Proofs.Ytlapfdfbgckfcaa.AL
