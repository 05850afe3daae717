/- What functions of the program compute, each by its own contract; the conditions stand with each. -/
import Derived.Test.YtlapfdfbgckfcaaFInsn2
namespace Go.Proofs.Ytlapfdfbgckfcaa.AL
open Go Go.RowKit Go.Proofs.Ytlapfdfbgckfcaa.Base
set_option linter.unusedVariables false
set_option linter.unusedSimpArgs false
set_option maxRecDepth 4000
set_option synthInstance.maxSize 1000
set_option synthInstance.maxHeartbeats 200000
set_option maxHeartbeats 2000000 in
theorem insn_forms  : A0 Try.prog 35 [] (fun ret => ret = .rd 6 (formsL.map formA)) := by
  refine A0.body 42 Try.func35 rfl rfl Try.ntmps35 fun base n0 => ?_
  refine AW.seq' ?_
  refine AW.region ?_
  refine AO.c ?_
  refine AO.nil ?_
  refine SQ.normal ?_
  refine AW.seq' ?_
  refine AW.region ?_
  refine AO.ww ?_
  refine AO.ghost (Gh.freezeB 1 (by decide) (by decide)) ?_
  refine AO.c ?_
  refine AO.ww ?_
  refine AO.ghost (Gh.freezeB 3 (by decide) (by decide)) ?_
  refine AO.c ?_
  refine AO.ww ?_
  refine AO.ghost (Gh.freezeB 5 (by decide) (by decide)) ?_
  refine AO.c ?_
  refine AO.ww ?_
  refine AO.ghost (Gh.freezeB 7 (by decide) (by decide)) ?_
  refine AO.c ?_
  refine AO.ww ?_
  refine AO.ghost (Gh.freezeB 9 (by decide) (by decide)) ?_
  refine AO.c ?_
  refine AO.ww ?_
  refine AO.ghost (Gh.freezeB 11 (by decide) (by decide)) ?_
  refine AO.c ?_
  refine AO.ww ?_
  refine AO.ghost (Gh.freezeB 13 (by decide) (by decide)) ?_
  refine AO.c ?_
  refine AO.ww ?_
  refine AO.ghost (Gh.freezeB 15 (by decide) (by decide)) ?_
  refine AO.c ?_
  refine AO.ww ?_
  refine AO.ghost (Gh.freezeB 17 (by decide) (by decide)) ?_
  refine AO.c ?_
  refine AO.ww ?_
  refine AO.ghost (Gh.freezeB 19 (by decide) (by decide)) ?_
  refine AO.c ?_
  refine AO.ww ?_
  refine AO.ghost (Gh.freezeB 21 (by decide) (by decide)) ?_
  refine AO.c ?_
  refine AO.ww ?_
  refine AO.ghost (Gh.freezeB 23 (by decide) (by decide)) ?_
  refine AO.c ?_
  refine AO.ww ?_
  refine AO.ghost (Gh.freezeB 25 (by decide) (by decide)) ?_
  refine AO.c ?_
  refine AO.ww ?_
  refine AO.ghost (Gh.freezeB 27 (by decide) (by decide)) ?_
  refine AO.c ?_
  refine AO.ww ?_
  refine AO.ghost (Gh.freezeB 29 (by decide) (by decide)) ?_
  refine AO.c ?_
  refine AO.ww ?_
  refine AO.ghost (Gh.freezeB 31 (by decide) (by decide)) ?_
  refine AO.c ?_
  refine AO.ww ?_
  refine AO.ghost (Gh.freezeB 33 (by decide) (by decide)) ?_
  refine AO.c ?_
  refine AO.ww ?_
  refine AO.ghost (Gh.freezeB 35 (by decide) (by decide)) ?_
  refine AO.c ?_
  refine AO.ww ?_
  refine AO.ghost (Gh.freezeB 37 (by decide) (by decide)) ?_
  refine AO.c ?_
  refine AO.ww ?_
  refine AO.ghost (Gh.freezeB 39 (by decide) (by decide)) ?_
  refine AO.c ?_
  refine AO.ww ?_
  refine AO.c ?_
  refine AO.nil ?_
  refine SQ.normal ?_
  refine AW.ret ?_
  refine Fin.ret (Gh.freezeM 0 formA formsL rfl rfl (by decide)) noid1 ?_
  rfl

end Go.Proofs.Ytlapfdfbgckfcaa.AL
