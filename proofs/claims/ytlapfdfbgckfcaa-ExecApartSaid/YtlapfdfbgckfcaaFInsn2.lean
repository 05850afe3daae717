/- What functions of the program compute, each by its own contract; the conditions stand with each. -/
import Derived.Test.YtlapfdfbgckfcaaFInsn
namespace Go.Proofs.Ytlapfdfbgckfcaa.AL
open Go Go.RowKit Go.Proofs.Ytlapfdfbgckfcaa.Base
set_option linter.unusedVariables false
set_option linter.unusedSimpArgs false
set_option maxRecDepth 4000
set_option synthInstance.maxSize 1000
set_option synthInstance.maxHeartbeats 200000

@[reducible] def formA (f : FormD) : List AV := [.v (.int .i64 f.op), .rd 1 (bys f.head), .v (.int .i64 f.low), .v (.bool f.r), .v (.bool f.m), .v (.int .i64 f.width)]
theorem sgn_i32 {v : Int} (h0 : 0 ≤ v) (h1 : v < 4294967296) : IntKind.i32.wrap v = sgnF v 4 := by
  unfold sgnF wrap64
  simp [IntKind.wrap, IntKind.bits, IntKind.signed]
  split <;> split <;> omega
@[reducible] def regR (o : Option (Int × Int)) : AV := .tup [.v (.int .i64 (o.getD (0, 0)).1), .v (.int .i64 (o.getD (0, 0)).2), .v (.bool o.isSome)]
def lgN (b : List Int) (a w : Int) : Int := if HasB b a w then num ((b.drop a.toNat).take w.toNat) else 0
theorem lgN_range {b : List Int} (hB : Bytes b) (a w : Int) : 0 ≤ lgN b a w ∧ lgN b a w < 256 ^ w.toNat := by
  unfold lgN
  have h := numAt_range hB a w
  unfold numAt at h
  split
  · exact h
  · exact ⟨by omega, by omega⟩

theorem insn_signed (b : List Int) (a w : Int) (hB : Bytes b) (hb : b.length ≤ 1000000000000) (ha : 0 ≤ a ∧ a ≤ 1000) (hw : w = 4 ∨ w = 8) : A0 Try.prog 72 [.rd 1 (bys b), .v (.int .i64 (a)), .v (.int .i64 (w))] (fun ret => ret = .tup [.v (.int .i64 (sgnF (lgN b a w) w)), .v (.bool (decide (HasB b a w)))]) := by
  have hr := lgN_range hB a w
  refine A0.body 26 Try.func72 rfl rfl Try.ntmps72 fun base n0 => ?_
  refine AW.seq' ?_
  refine AW.region ?_
  refine AO.c ?_
  refine AO.c ?_
  refine AO.nil ?_
  refine SQ.normal ?_
  refine AW.seq' ?_
  refine AW.region ?_
  refine AO.c ?_
  refine AO.c ?_
  refine AO.c ?_
  refine AO.call1 Try.func33 rfl rfl ((show A0 Try.prog _ [.rd 1 (bys b), .v (.int .i64 a), .v (.int .i64 w)] (fun r => r = .tup [.v (.int .u64 (lgN b a w)), .v (.bool (decide (HasB b a w)))]) from le_Get b a w hB (by omega) (by omega) (by omega))) ?_
  refine AO.c ?_
  refine AO.c ?_
  refine AO.c ?_
  refine AO.c ?_
  refine AO.c ?_
  refine AO.nil ?_
  refine SQ.normal ?_
  refine AW.seq' ?_
  refine AW.seq' ?_
  refine AW.region ?_
  refine AO.c ?_
  refine AO.c ?_
  refine AO.nil ?_
  refine SQ.normal ?_
  refine AW.iteB (GL.ev _) (fun h0 => ?_) (fun h0 => ?_)
  · skip
    rw [decide_eq_true_eq] at h0
    subst h0
    have hv : lgN b a 4 < 4294967296 := hr.2
    have es := sgn_i32 hr.1 hv
    have es2 : -2147483648 ≤ sgnF (lgN b a 4) 4 ∧ sgnF (lgN b a 4) 4 ≤ 2147483647 := by unfold sgnF wrap64; split <;> omega
    refine AW.seq' ?_
    refine AW.region ?_
    refine AO.c ?_
    refine AO.pw ?_
    refine AO.eq 20 (av' := .v (.int .i32 (sgnF (lgN b a 4) 4))) (by rw [es]) ?_
    refine AO.o (by omega) ?_
    refine AO.c ?_
    refine AO.c ?_
    refine AO.c ?_
    refine AO.nil ?_
    refine SQ.normal ?_
    refine AW.ret ?_
    refine SQ.ret ?_
    refine Fin.ret (Gh.refl) noid2 ?_
    rfl
  · skip
    rw [decide_eq_false_iff_not] at h0
    have es : sgnF (lgN b a w) w = IntKind.i64.wrap (lgN b a w) := by unfold sgnF; rw [if_neg (by omega), wi64_eq]
    refine AW.skip ?_
    refine SQ.normal ?_
    refine AW.seq' ?_
    refine AW.region ?_
    refine AO.c ?_
    refine AO.pw ?_
    refine AO.c ?_
    refine AO.c ?_
    refine AO.c ?_
    refine AO.nil ?_
    refine SQ.normal ?_
    refine AW.ret ?_
    refine Fin.ret (Gh.refl) noid2 ?_
    rw [es]; rfl
theorem insn_registers (f : FormD) (x : Int) (hx : 0 ≤ x ∧ x ≤ 255) (hl : -1 ≤ f.low ∧ f.low ≤ 255) (ho : I64 f.op) : A0 Try.prog 71 [.agg (formA f), .v (.int .i64 (x))] (fun ret => ret = regR (regsF f x)) := by
  obtain ⟨q1, q2⟩ := ho
  have hd : x - f.low < 0 ∨ (0 ≤ x - f.low ∧ (x - f.low).tdiv 8 = (x - f.low) / 8 ∧ (x - f.low).tmod 8 = (x - f.low) % 8) := by
    rcases Int.lt_or_le (x - f.low) 0 with h | h
    · exact .inl h
    · exact .inr ⟨h, Int.tdiv_eq_ediv_of_nonneg h, Int.tmod_eq_emod_of_nonneg h⟩
  have hq : IntKind.i64.wrap ((x - f.low).tdiv 8) = (x - f.low).tdiv 8 := by
    have h := Int.natAbs_tdiv_le_natAbs (x - f.low) 8
    rw [wi64_eq, w64 (by omega) (by omega)]
  refine A0.body 66 Try.func71 rfl rfl Try.ntmps71 fun base n0 => ?_
  refine AW.seq' ?_
  refine AW.region ?_
  refine AO.ww ?_
  refine AO.c ?_
  refine AO.c ?_
  refine AO.c ?_
  refine AO.nil ?_
  refine SQ.normal ?_
  refine AW.seq' ?_
  refine AW.region ?_
  refine AO.c ?_
  refine AO.c ?_
  refine AO.c ?_
  refine AO.oo ?_
  refine AO.c ?_
  refine AO.nil ?_
  refine SQ.normal ?_
  refine AW.seq' ?_
  refine AW.region ?_
  refine AO.c ?_
  refine AO.pw ?_
  refine AO.eq 15 (av' := .v (.int .i64 ((x - f.low).tdiv 8))) (by rw [hq]) ?_
  refine AO.c ?_
  refine AO.pw ?_
  refine AO.c ?_
  refine AO.c ?_
  refine AO.nil ?_
  refine SQ.normal ?_
  refine AW.seq' ?_
  refine AW.block' ?_
  refine AW.seq' ?_
  refine AW.region ?_
  refine AO.c ?_
  refine AO.c ?_
  refine AO.c ?_
  refine AO.gx ?_
  refine AO.gx ?_
  refine AO.c ?_
  refine AO.c ?_
  refine AO.gx ?_
  refine AO.gx ?_
  refine AO.gx ?_
  refine AO.gx ?_
  refine AO.gx ?_
  refine AO.gx ?_
  refine AO.gx ?_
  refine AO.c ?_
  refine AO.c ?_
  refine AO.gx ?_
  refine AO.gx ?_
  refine AO.gx ?_
  refine AO.gx ?_
  refine AO.gx ?_
  refine AO.gx ?_
  refine AO.gx ?_
  refine AO.c ?_
  refine AO.c ?_
  refine AO.nil ?_
  refine SQ.normal ?_
  refine AW.iteB (GL.ev _) (fun h0 => ?_) (fun h0 => ?_)
  · skip
    try simp only [Bool.and_eq_true, Bool.or_eq_true, Bool.not_eq_true', Bool.and_eq_false_iff, Bool.or_eq_false_iff, decide_eq_true_eq, decide_eq_false_iff_not, bys_length] at h0
    refine AW.seq' ?_
    refine AW.region ?_
    refine AO.c ?_
    refine AO.c ?_
    refine AO.c ?_
    refine AO.nil ?_
    refine SQ.normal ?_
    refine AW.ret ?_
    refine BQ.ret <| SQ.ret ?_
    refine Fin.ret (Gh.refl) noid3 ?_
    first
      | (have e : regsF f x = none := by (unfold regsF; grind)
         rw [e]; rfl)
      | (have e : regsF f x = some ((x - f.low).tdiv 8, (x - f.low).tmod 8) := by (unfold regsF; grind)
         rw [e]; rfl)
  · skip
    try simp only [Bool.and_eq_true, Bool.or_eq_true, Bool.not_eq_true', Bool.and_eq_false_iff, Bool.or_eq_false_iff, decide_eq_true_eq, decide_eq_false_iff_not, bys_length] at h0
    refine AW.seq' ?_
    refine AW.seq' ?_
    refine AW.region ?_
    refine AO.c ?_
    refine AO.c ?_
    refine AO.c ?_
    refine AO.c ?_
    refine AO.gx ?_
    refine AO.gxo (fun _ => by omega) ?_
    refine AO.gx ?_
    refine AO.c ?_
    refine AO.c ?_
    refine AO.nil ?_
    refine SQ.normal ?_
    refine AW.iteB (GL.ev _) (fun h1 => ?_) (fun h1 => ?_)
    · skip
      try simp only [Bool.and_eq_true, Bool.or_eq_true, Bool.not_eq_true', Bool.and_eq_false_iff, Bool.or_eq_false_iff, decide_eq_true_eq, decide_eq_false_iff_not, bys_length] at h1
      refine AW.skip ?_
      refine SQ.normal ?_
      refine AW.iteB (GL.ev _) (fun h2 => ?_) (fun h2 => ?_)
      · skip
        try simp only [Bool.and_eq_true, Bool.or_eq_true, Bool.not_eq_true', Bool.and_eq_false_iff, Bool.or_eq_false_iff, decide_eq_true_eq, decide_eq_false_iff_not, bys_length] at h2
        refine AW.seq' ?_
        refine AW.region ?_
        refine AO.c ?_
        refine AO.c ?_
        refine AO.c ?_
        refine AO.nil ?_
        refine SQ.normal ?_
        refine AW.ret ?_
        refine BQ.ret <| SQ.ret ?_
        refine Fin.ret (Gh.refl) noid3 ?_
        first
          | (have e : regsF f x = none := by (unfold regsF; grind)
             rw [e]; rfl)
          | (have e : regsF f x = some ((x - f.low).tdiv 8, (x - f.low).tmod 8) := by (unfold regsF; grind)
             rw [e]; rfl)
      · skip
        try simp only [Bool.and_eq_true, Bool.or_eq_true, Bool.not_eq_true', Bool.and_eq_false_iff, Bool.or_eq_false_iff, decide_eq_true_eq, decide_eq_false_iff_not, bys_length] at h2
        refine AW.skip ?_
        refine BQ.normal ?_
        refine SQ.normal ?_
        refine AW.seq' ?_
        refine AW.region ?_
        refine AO.c ?_
        refine AO.c ?_
        refine AO.c ?_
        refine AO.c ?_
        refine AO.c ?_
        refine AO.nil ?_
        refine SQ.normal ?_
        refine AW.ret ?_
        refine Fin.ret (Gh.refl) noid3 ?_
        first
          | (have e : regsF f x = none := by (unfold regsF; grind)
             rw [e]; rfl)
          | (have e : regsF f x = some ((x - f.low).tdiv 8, (x - f.low).tmod 8) := by (unfold regsF; grind)
             rw [e]; rfl)
    · skip
      try simp only [Bool.and_eq_true, Bool.or_eq_true, Bool.not_eq_true', Bool.and_eq_false_iff, Bool.or_eq_false_iff, decide_eq_true_eq, decide_eq_false_iff_not, bys_length] at h1
      refine AW.region ?_
      refine AO.c ?_
      refine AO.c ?_
      refine AO.c ?_
      refine AO.c ?_
      refine AO.gx ?_
      refine AO.gx ?_
      refine AO.gx ?_
      refine AO.c ?_
      refine AO.c ?_
      refine AO.gx ?_
      refine AO.gx ?_
      refine AO.c ?_
      refine AO.c ?_
      refine AO.nil ?_
      refine SQ.normal ?_
      refine AW.iteB (GL.ev _) (fun h2 => ?_) (fun h2 => ?_)
      · skip
        try simp only [Bool.and_eq_true, Bool.or_eq_true, Bool.not_eq_true', Bool.and_eq_false_iff, Bool.or_eq_false_iff, decide_eq_true_eq, decide_eq_false_iff_not, bys_length] at h2
        refine AW.seq' ?_
        refine AW.region ?_
        refine AO.c ?_
        refine AO.c ?_
        refine AO.c ?_
        refine AO.nil ?_
        refine SQ.normal ?_
        refine AW.ret ?_
        refine BQ.ret <| SQ.ret ?_
        refine Fin.ret (Gh.refl) noid3 ?_
        first
          | (have e : regsF f x = none := by (unfold regsF; grind)
             rw [e]; rfl)
          | (have e : regsF f x = some ((x - f.low).tdiv 8, (x - f.low).tmod 8) := by (unfold regsF; grind)
             rw [e]; rfl)
      · skip
        try simp only [Bool.and_eq_true, Bool.or_eq_true, Bool.not_eq_true', Bool.and_eq_false_iff, Bool.or_eq_false_iff, decide_eq_true_eq, decide_eq_false_iff_not, bys_length] at h2
        refine AW.skip ?_
        refine BQ.normal ?_
        refine SQ.normal ?_
        refine AW.seq' ?_
        refine AW.region ?_
        refine AO.c ?_
        refine AO.c ?_
        refine AO.c ?_
        refine AO.c ?_
        refine AO.c ?_
        refine AO.nil ?_
        refine SQ.normal ?_
        refine AW.ret ?_
        refine Fin.ret (Gh.refl) noid3 ?_
        first
          | (have e : regsF f x = none := by (unfold regsF; grind)
             rw [e]; rfl)
          | (have e : regsF f x = some ((x - f.low).tdiv 8, (x - f.low).tmod 8) := by (unfold regsF; grind)
             rw [e]; rfl)
theorem bytes_Equal (x y : List Int) : A0 Try.prog 118 [.rd 1 (bys x), .rd 1 (bys y)] (fun ret => ret = .v (.bool (decide ((strOfNums x).toList = (strOfNums y).toList)))) := by
  refine A0.body 10 Try.func118 rfl rfl Try.ntmps118 fun base n0 => ?_
  refine AW.seq' ?_
  refine AW.region ?_
  refine AO.c ?_
  refine AO.nil ?_
  refine SQ.normal ?_
  refine AW.seq' ?_
  refine AW.region ?_
  refine AO.c ?_
  refine AO.c ?_
  refine AO.c ?_
  refine AO.c ?_
  refine AO.c ?_
  refine AO.c ?_
  refine AO.nil ?_
  refine SQ.normal ?_
  refine AW.ret ?_
  refine Fin.ret (Gh.refl) noid1 ?_
  rfl
theorem bytes_HasPrefix (x y : List Int) (hx : Bytes x) (hy : Bytes y) (hlx : x.length ≤ 1000000000000) (hly : y.length ≤ 1000000000000) : A0 Try.prog 70 [.rd 1 (bys x), .rd 1 (bys y)] (fun ret => ret = .v (.bool (decide (x.take y.length = y)))) := by
  refine A0.body 18 Try.func70 rfl rfl Try.ntmps70 fun base n0 => ?_
  refine AW.seq' ?_
  refine AW.region ?_
  refine AO.c ?_
  refine AO.nil ?_
  refine SQ.normal ?_
  refine AW.seq' ?_
  refine AW.region ?_
  refine AO.c ?_
  refine AO.c ?_
  refine AO.c ?_
  refine AO.c ?_
  refine AO.c ?_
  refine AO.c ?_
  refine AO.gx ?_
  refine AO.gx ?_
  refine AO.gx ?_
  refine AO.gxo (fun q => by have q := of_decide_eq_true q; (try simp only [bys_length] at q); first | omega | (simp; omega)) ?_
  refine AO.gx ?_
  refine AO.gxcall1 Try.func118 rfl rfl (fun hgd => bytes_Equal _ _) ?_
  refine AO.c ?_
  refine AO.c ?_
  refine AO.nil ?_
  refine SQ.normal ?_
  refine AW.ret ?_
  refine Fin.ret (Gh.refl) noid1 ?_
  show AV.v (.bool _) = AV.v (.bool _)
  congr 2
  rw [Bool.eq_iff_iff]
  simp only [Bool.and_eq_true, decide_eq_true_eq]
  constructor
  · rintro ⟨_, h⟩
    simpa using (strOfNums_inj (hx.take _) hy).1 h
  · intro h
    have hl := congrArg List.length h
    rw [List.length_take] at hl
    refine ⟨by omega, ?_⟩
    simpa using (strOfNums_inj (hx.take _) hy).2 h

end Go.Proofs.Ytlapfdfbgckfcaa.AL
