/- What functions of the program compute, each by its own contract; the conditions stand with each. -/
import Derived.Test.YtlapfdfbgckfcaaFExec
import Derived.Test.YtlapfdfbgckfcaaAlQ
namespace Go.Proofs.Ytlapfdfbgckfcaa.AL
open Go Go.RowKit Go.Proofs.Ytlapfdfbgckfcaa.Base
set_option linter.unusedVariables false
set_option linter.unusedSimpArgs false
set_option maxRecDepth 4000
set_option synthInstance.maxSize 1000
set_option synthInstance.maxHeartbeats 200000

@[reducible] def noSeg : SegD := ⟨0, 0, 0, []⟩
@[reducible] def segR (o : Option SegD) : AV := .tup [.agg (segA (o.getD noSeg)), .v (.bool o.isSome)]
theorem get_no (b : List Int) (a w : Int) (hB : Bytes b) (hb : b.length ≤ 1000000000000) (ha : -9223372036854775808 ≤ a ∧ a ≤ 9223372036854775807) (hw : -9223372036854775808 ≤ w ∧ w ≤ 9223372036854775807) (hh : ¬ HasB b a w) : A0 Try.prog 33 [.rd 1 (bys b), .v (.int .i64 a), .v (.int .i64 w)] (fun r => r = .tup [.v (.int .u64 0), .v (.bool false)]) := by
  have h := get_lgN b a w hB (by omega) ha hw
  rw [show lgN b a w = 0 from if_neg hh, decide_eq_false hh] at h
  exact h
theorem segL_get {b : List Int} {a : Int} {i : Nat} (h : i < 6) : (numsL b (a + 8) 6).getD i 0 = segN b a i := by
  unfold numsL segN
  simp [List.getD_eq_getElem?_getD, h]
theorem nums_all {b : List Int} {a : Int} {n i : Nat} (h : numsB b a n = true) (hi : i < n) : HasB b (a + 8 * (i : Int)) 8 ∧ numAt b (a + 8 * (i : Int)) 8 ≤ 2147483648 := by
  unfold numsB at h
  exact numOk_iff.1 (List.all_eq_true.1 h i (List.mem_range.2 hi))
theorem seg_nums {b : List Int} {a last : Int} (h0 : 0 ≤ a) (h : segOk b a last) : numsB b (a + 8) 6 = true := by
  unfold numsB
  rw [List.all_eq_true]
  intro i hi
  have hi := List.mem_range.1 hi
  refine numOk_iff.2 ⟨⟨by unfold Wide; omega, by omega, by have := h.1; omega⟩, ?_⟩
  exact h.2.1 i hi

theorem exec_segmentN (b : List Int) (a last : Int) (hB : Bytes b) (hb : b.length ≤ 1000000000000) (ha : 0 ≤ a ∧ a ≤ 50000) (hno : ¬ HasB b (a + 4) 4) : A0 Try.prog 34 [.rd 1 (bys b), .v (.int .i64 (a)), .v (.int .i64 (last))] (fun ret => ret = segR none) := by
  refine A0.body 125 Try.func34 rfl rfl Try.ntmps34 fun base n0 => ?_
  refine AW.seq' ?_
  refine AW.region ?_
  refine AO.ww ?_
  refine AO.c ?_
  refine AO.nil ?_
  refine SQ.normal ?_
  refine AW.seq' ?_
  refine AW.region ?_
  refine AO.c ?_
  refine AO.c ?_
  refine AO.call1 Try.func33 rfl rfl (get_lgN b a 4 hB (by omega) (by omega) (by decide)) ?_
  refine AO.c ?_
  refine AO.c ?_
  refine AO.c ?_
  refine AO.c ?_
  refine AO.c ?_
  refine AO.nil ?_
  refine SQ.normal ?_
  refine AW.seq' ?_
  refine AW.region ?_
  refine AO.c ?_
  refine AO.c ?_
  refine AO.oo ?_
  refine AO.call1 Try.func33 rfl rfl (get_no b (a + 4) 4 hB hb (by omega) (by decide) hno) ?_
  refine AO.c ?_
  refine AO.c ?_
  refine AO.c ?_
  refine AO.c ?_
  refine AO.c ?_
  refine AO.nil ?_
  refine SQ.normal ?_
  refine AW.seq' ?_
  refine AW.region ?_
  refine AO.ww ?_
  refine AO.nil ?_
  refine SQ.normal ?_
  refine AW.seq' ?_
  refine AW.seq' ?_
  refine AW.region ?_
  refine AO.c ?_
  refine AO.c ?_
  refine AO.c ?_
  refine AO.s rfl ?_
  refine AO.s rfl ?_
  refine AO.s rfl ?_
  refine AO.s rfl ?_
  refine AO.s rfl ?_
  refine AO.s rfl ?_
  refine AO.eq 39 (av' := cv (!(!false)) (.v (.bool true))) rfl ?_
  refine AO.c ?_
  refine AO.c ?_
  refine AO.gx ?_
  refine AO.gx ?_
  refine AO.c ?_
  refine AO.c ?_
  refine AO.gx ?_
  refine AO.gx ?_
  refine AO.c ?_
  refine AO.c ?_
  refine AO.gx ?_
  refine AO.gx ?_
  refine AO.c ?_
  refine AO.nil ?_
  refine SQ.normal ?_
  refine AW.iteB (GL.ev _) (fun h0 => ?_) (fun h0 => ?_)
  · skip
    skip
    refine AW.seq' ?_
    refine AW.region ?_
    refine AO.c ?_
    refine AO.sst ?_
    refine AO.c ?_
    refine AO.nil ?_
    refine SQ.normal ?_
    refine AW.ret ?_
    refine SQ.ret ?_
    refine Fin.ret (Gh.tellC 0 [.v (.int .i64 0), .v (.int .i64 0), .v (.int .i64 0), .rd 1 (bys [])]) noid2 ?_
    rfl
  · skip
    exfalso
    simp at h0
set_option maxHeartbeats 2000000 in
theorem exec_segmentY (b : List Int) (a last : Int) (hB : Bytes b) (hb : b.length ≤ 1000000000000) (ha : 0 ≤ a ∧ a ≤ 50000) (hl : 0 ≤ last ∧ last ≤ 2147483648) (hyes : HasB b (a + 4) 4) : A0 Try.prog 34 [.rd 1 (bys b), .v (.int .i64 (a)), .v (.int .i64 (last))] (fun ret => ret = segR (if segOk b a last then some (segOf b a) else none)) := by
  have hk : HasB b a 4 := ⟨by unfold Wide; omega, by omega, by unfold HasB at hyes; omega⟩
  have hf0 := numAt_range hB (a + 4) 4
  have hk0 := numAt_range hB a 4
  refine A0.body 125 Try.func34 rfl rfl Try.ntmps34 fun base n0 => ?_
  refine AW.seq' ?_
  refine AW.region ?_
  refine AO.ww ?_
  refine AO.c ?_
  refine AO.nil ?_
  refine SQ.normal ?_
  refine AW.seq' ?_
  refine AW.region ?_
  refine AO.c ?_
  refine AO.c ?_
  refine AO.call1 Try.func33 rfl rfl (get_numAt b a 4 hB hb hk) ?_
  refine AO.c ?_
  refine AO.c ?_
  refine AO.c ?_
  refine AO.c ?_
  refine AO.c ?_
  refine AO.nil ?_
  refine SQ.normal ?_
  refine AW.seq' ?_
  refine AW.region ?_
  refine AO.c ?_
  refine AO.c ?_
  refine AO.oo ?_
  refine AO.call1 Try.func33 rfl rfl (get_numAt b (a + 4) 4 hB hb hyes) ?_
  refine AO.c ?_
  refine AO.c ?_
  refine AO.c ?_
  refine AO.c ?_
  refine AO.c ?_
  refine AO.nil ?_
  refine SQ.normal ?_
  refine AW.seq' ?_
  refine AW.region ?_
  refine AO.ww ?_
  refine AO.nil ?_
  refine SQ.normal ?_
  refine AW.seq' ?_
  refine AW.seq' ?_
  refine AW.eqH (H' := Hn n0 [some (.box 32 [.v (.int .i64 0), .v (.int .i64 0), .v (.int .i64 0), .v (.slice none 0 0)]), some (.box 154 (List.map iV [0, 0, 0, 0, 0, 0]))]) rfl ?_
  refine AW.region ?_
  refine AO.c ?_
  refine AO.c ?_
  refine AO.c ?_
  refine AO.gk rfl ?_
  refine AO.c ?_
  refine AO.gk rfl ?_
  refine AO.c ?_
  refine AO.gk rfl ?_
  refine AO.oo ?_
  refine AO.gk rfl ?_
  refine AO.oo ?_
  refine AO.gk rfl ?_
  refine AO.callE Try.func32 rfl rfl (exec_numbersA b (a + 8) [0, 0, 0, 0, 0, 0] hB hb (by omega) (by decide) n0 1 _ _) ?_
  intro q hq
  refine AO.gk rfl ?_
  refine AO.c ?_
  refine AO.eq 39 (av' := cv (!(!true)) (.v (.bool (!numsB b (a + 8) 6)))) rfl ?_
  refine AO.c ?_
  refine AO.c ?_
  refine AO.gx ?_
  refine AO.gx ?_
  refine AO.c ?_
  refine AO.c ?_
  refine AO.gx ?_
  refine AO.gx ?_
  refine AO.c ?_
  refine AO.c ?_
  refine AO.gx ?_
  refine AO.gx ?_
  refine AO.c ?_
  refine AO.nil ?_
  refine SQ.normal ?_
  refine AW.iteB (GL.ev _) (fun h0 => ?_) (fun h0 => ?_)
  · skip
    have hno : ¬ segOk b a last := fun h => by
      have h1 := seg_nums ha.1 h
      obtain ⟨_, _, h2, h3, h4, _⟩ := h
      have e6 : ([0, 0, 0, 0, 0, 0] : List Int).length = 6 := rfl
      rw [h1, h2, decide_eq_false (by omega : ¬ numAt b (a + 4) 4 < 4), decide_eq_false (by omega : ¬ numAt b (a + 4) 4 > 6)] at h0
      simp at h0
    refine AW.seq' ?_
    refine AW.region ?_
    refine AO.c ?_
    refine AO.sst ?_
    refine AO.c ?_
    refine AO.nil ?_
    refine SQ.normal ?_
    refine AW.ret ?_
    refine SQ.ret ?_
    refine Fin.ret (Gh.tellC 0 [.v (.int .i64 0), .v (.int .i64 0), .v (.int .i64 0), .rd 1 (bys [])]) noid2 ?_
    rw [if_neg hno]; rfl
  · skip
    simp only [Bool.not_true, Bool.false_or, Bool.or_eq_false_iff, Bool.not_eq_false', decide_eq_false_iff_not] at h0
    obtain ⟨⟨⟨k1, k2⟩, k3⟩, k4⟩ := h0
    obtain rfl := hq k1
    have g0 := segL_get (b := b) (a := a) (i := 0) (by omega)
    have g1 := segL_get (b := b) (a := a) (i := 1) (by omega)
    have g2 := segL_get (b := b) (a := a) (i := 2) (by omega)
    have g3 := segL_get (b := b) (a := a) (i := 3) (by omega)
    have g4 := segL_get (b := b) (a := a) (i := 4) (by omega)
    have g5 := segL_get (b := b) (a := a) (i := 5) (by omega)
    have r : ∀ i : Nat, i < 6 → 0 ≤ segN b a i ∧ segN b a i ≤ 2147483648 := fun i hi => ⟨segN_nn hB a i, (nums_all k1 hi).2⟩
    have r0 := r 0 (by omega)
    have r1 := r 1 (by omega)
    have r2 := r 2 (by omega)
    have r3 := r 3 (by omega)
    have r4 := r 4 (by omega)
    have r5 := r 5 (by omega)
    have hln := (nums_all k1 (show 5 < 6 by omega)).1.2.2
    refine AW.skip ?_
    refine SQ.normal ?_
    refine AW.seq' ?_
    refine AW.drawsZ [] (.one 0 false (.one 1 false (.one 2 false (.one 3 false (.one 4 false (.one 5 false (.one 6 false (.one 7 false (.one 8 false (.one 9 false (.one 10 false (.one 11 false (.one 12 false (.one 13 false (.one 14 false .nil))))))))))))))) (by kernel_rfl) rfl (by kernel_rfl) ?_
    refine AZ.oo rfl ?_
    refine AZ.o rfl (by rw [numsL_len]; decide) ?_
    refine AZ.eq 55 (av' := .v (.int .i64 (segN b a 0))) (congrArg (fun z => AV.v (.int .i64 z)) g0) ?_
    refine AZ.oo rfl ?_
    refine AZ.o rfl (by rw [numsL_len]; decide) ?_
    refine AZ.eq 57 (av' := .v (.int .i64 (segN b a 1))) (congrArg (fun z => AV.v (.int .i64 z)) g1) ?_
    refine AZ.oo rfl ?_
    refine AZ.o rfl (by rw [numsL_len]; decide) ?_
    refine AZ.eq 59 (av' := .v (.int .i64 (segN b a 3))) (congrArg (fun z => AV.v (.int .i64 z)) g3) ?_
    refine AZ.oo rfl ?_
    refine AZ.o rfl (by rw [numsL_len]; decide) ?_
    refine AZ.eq 61 (av' := .v (.int .i64 (segN b a 4))) (congrArg (fun z => AV.v (.int .i64 z)) g4) ?_
    refine AZ.oo rfl ?_
    refine AZ.o rfl (by rw [numsL_len]; decide) ?_
    refine AZ.eq 63 (av' := .v (.int .i64 (segN b a 5))) (congrArg (fun z => AV.v (.int .i64 z)) g5) ?_
    refine AZ.c rfl ?_
    refine AZ.c rfl ?_
    refine AZ.c rfl ?_
    refine AZ.c rfl ?_
    refine AZ.c rfl ?_
    refine AZ.done ?_
    refine SQ.normal ?_
    refine AW.seq' ?_
    refine AW.seq' ?_
    refine AW.region ?_
    refine AO.oo ?_
    refine AO.o (by rw [numsL_len]; decide) ?_
    refine AO.eq 65 (av' := .v (.int .i64 (segN b a 2))) (congrArg (fun z => AV.v (.int .i64 z)) g2) ?_
    refine AO.c ?_
    refine AO.c ?_
    refine AO.c ?_
    refine AO.gx ?_
    refine AO.gx ?_
    refine AO.gx ?_
    refine AO.c ?_
    refine AO.c ?_
    refine AO.gx ?_
    refine AO.gx ?_
    refine AO.gxoo ?_
    refine AO.gx ?_
    refine AO.gx ?_
    refine AO.gx ?_
    refine AO.c ?_
    refine AO.c ?_
    refine AO.gx ?_
    refine AO.gx ?_
    refine AO.gxoo ?_
    refine AO.gx ?_
    refine AO.c ?_
    refine AO.c ?_
    refine AO.gx ?_
    refine AO.gx ?_
    refine AO.gx ?_
    refine AO.c ?_
    refine AO.nil ?_
    refine SQ.normal ?_
    refine AW.iteB (GL.ev _) (fun h1 => ?_) (fun h1 => ?_)
    · skip
      have hno : ¬ segOk b a last := fun h => by
        obtain ⟨_, _, _, _, _, q1, q2, q3, q4, q5, _⟩ := h
        simp only [Bool.or_eq_true, decide_eq_true_eq] at h1
        omega
      refine AW.seq' ?_
      refine AW.region ?_
      refine AO.c ?_
      refine AO.sst ?_
      refine AO.c ?_
      refine AO.nil ?_
      refine SQ.normal ?_
      refine AW.ret ?_
      refine SQ.ret ?_
      refine Fin.ret (Gh.tellC 0 [.v (.int .i64 0), .v (.int .i64 0), .v (.int .i64 0), .rd 1 (bys [])]) noid2 ?_
      rw [if_neg hno]; rfl
    · skip
      simp only [Bool.or_eq_false_iff, decide_eq_false_iff_not] at h1
      refine AW.skip ?_
      refine SQ.normal ?_
      refine AW.seq' ?_
      refine AW.seq' ?_
      refine AW.drawsZ [] (.one 0 false (.one 1 false (.one 2 false (.one 3 false (.one 4 false (.one 5 false (.one 6 false (.one 7 false (.one 8 false (.one 9 false (.one 10 false (.one 11 false (.one 12 false (.one 13 false (.one 14 false (.one 15 false (.one 16 false (.one 17 false .nil)))))))))))))))))) (by kernel_rfl) rfl (by kernel_rfl) ?_
      refine AZ.c rfl ?_
      refine AZ.c rfl ?_
      refine AZ.c rfl ?_
      refine AZ.gx rfl ?_
      refine AZ.gx rfl ?_
      refine AZ.gxoo rfl ?_
      refine AZ.gx rfl ?_
      refine AZ.gx rfl ?_
      refine AZ.c rfl ?_
      refine AZ.c rfl ?_
      refine AZ.gx rfl ?_
      refine AZ.gx rfl ?_
      refine AZ.gxoo rfl ?_
      refine AZ.gx rfl ?_
      refine AZ.gx rfl ?_
      refine AZ.gxoo rfl ?_
      refine AZ.gx rfl ?_
      refine AZ.c rfl ?_
      refine AZ.done ?_
      refine SQ.normal ?_
      refine AW.iteB (GL.ev _) (fun h2 => ?_) (fun h2 => ?_)
      · skip
        have hno : ¬ segOk b a last := fun h => by
          obtain ⟨_, _, _, _, _, q1, q2, q3, q4, q5, q6, q7, q8⟩ := h
          simp only [Bool.or_eq_true, decide_eq_true_eq] at h2
          rcases h2 with (h2 | h2) | h2
          · exact q6 h2
          · exact h2 q7
          · exact h2 q8
        refine AW.seq' ?_
        refine AW.region ?_
        refine AO.c ?_
        refine AO.sst ?_
        refine AO.c ?_
        refine AO.nil ?_
        refine SQ.normal ?_
        refine AW.ret ?_
        refine SQ.ret ?_
        refine Fin.ret (Gh.tellC 0 [.v (.int .i64 0), .v (.int .i64 0), .v (.int .i64 0), .rd 1 (bys [])]) noid2 ?_
        rw [if_neg hno]; rfl
      · skip
        simp only [Bool.or_eq_false_iff, decide_eq_false_iff_not, Decidable.not_not] at h2
        have hyes2 : segOk b a last := ⟨by omega, fun i hi => (r i hi).2, by omega, by omega, by omega, by omega, by omega, by omega, by omega, by omega, h2.1.1, h2.1.2, h2.2⟩
        refine AW.skip ?_
        refine SQ.normal ?_
        refine AW.seq' ?_
        refine AW.region ?_
        refine AO.c ?_
        refine AO.c ?_
        refine AO.c ?_
        refine AO.oo ?_
        refine AO.ww ?_
        refine AO.c ?_
        refine AO.c ?_
        refine AO.c ?_
        refine AO.c ?_
        refine AO.oo ?_
        refine AO.oo ?_
        refine AO.ww ?_
        refine AO.ghost (Gh.freezeE 123 (li' := (segOf b a).data) rfl (by show ((b.take _).drop _).length = _; first | (simp; done) | (simp; omega)) (by show ((b.take _).drop _).length ≤ _; first | (simp; done) | (simp; omega))) ?_
        refine AO.c ?_
        refine AO.sst ?_
        refine AO.c ?_
        refine AO.nil ?_
        refine SQ.normal ?_
        refine AW.ret ?_
        refine Fin.ret (Gh.refl) noid2 ?_
        rw [if_pos hyes2]; rfl

end Go.Proofs.Ytlapfdfbgckfcaa.AL
