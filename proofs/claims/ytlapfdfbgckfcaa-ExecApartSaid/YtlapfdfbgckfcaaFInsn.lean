/- What functions of the program compute, each by its own contract; the conditions stand with each. -/
import Derived.Test.YtlapfdfbgckfcaaFInsnP
namespace Go.Proofs.Ytlapfdfbgckfcaa.AL
open Go Go.RowKit Go.Proofs.Ytlapfdfbgckfcaa.Base
set_option linter.unusedVariables false
set_option linter.unusedSimpArgs false
set_option maxRecDepth 4000
set_option synthInstance.maxSize 1000
set_option synthInstance.maxHeartbeats 200000

@[reducible] def insR (o : Option InsD) : AV := .tup [.agg (insA (o.getD noIns)), .v (.bool o.isSome)]

theorem ref_field (x : InsD) (b : List Int) (w : Int) (hx : x.ok) (hB : Bytes b) (hb : b.length ≤ 1000000000000) (hl : 0 ≤ x.len ∧ x.len ≤ 1000) (hw : w = 0 ∨ w = 4 ∨ w = 8) : A0 Try.prog 38 [.agg (insA x), .rd 1 (bys b), .v (.int .i64 (w))] (fun ret => ret = insR (fldF x b w)) := by
  obtain ⟨q1, q2, q3, q4, q5, q6, q7⟩ := hx
  refine A0.body 53 Try.func38 rfl rfl Try.ntmps38 fun base n0 => ?_
  refine AW.seq' ?_
  refine AW.region ?_
  refine AO.ww ?_
  refine AO.ww ?_
  refine AO.c ?_
  refine AO.nil ?_
  refine SQ.normal ?_
  refine AW.seq' ?_
  refine AW.seq' ?_
  refine AW.region ?_
  refine AO.c ?_
  refine AO.c ?_
  refine AO.c ?_
  refine AO.c ?_
  refine AO.c ?_
  refine AO.oo ?_
  refine AO.c ?_
  refine AO.nil ?_
  refine SQ.normal ?_
  refine AW.iteB (GL.ev _) (fun h0 => ?_) (fun h0 => ?_)
  · skip
    rw [decide_eq_true_eq] at h0
    have e : fldF x b w = none := by unfold fldF; rw [if_pos (by omega)]
    refine AW.seq' ?_
    refine AW.region ?_
    refine AO.c ?_
    refine AO.sst ?_
    refine AO.c ?_
    refine AO.nil ?_
    refine SQ.normal ?_
    refine AW.ret ?_
    refine SQ.ret ?_
    refine Fin.ret (Gh.refl) noid2 ?_
    rw [e]; rfl
  · skip
    rw [decide_eq_false_iff_not] at h0
    refine AW.skip ?_
    refine SQ.normal ?_
    refine AW.seq' ?_
    refine AW.seq' ?_
    refine AW.region ?_
    refine AO.c ?_
    refine AO.c ?_
    refine AO.nil ?_
    refine SQ.normal ?_
    refine AW.iteB (GL.ev _) (fun h1 => ?_) (fun h1 => ?_)
    · skip
      rw [decide_eq_true_eq] at h1
      have e : fldF x b w = some x := fld0 h1 (by omega)
      refine AW.seq' ?_
      refine AW.region ?_
      refine AO.c ?_
      refine AO.sst ?_
      refine AO.c ?_
      refine AO.nil ?_
      refine SQ.normal ?_
      refine AW.ret ?_
      refine SQ.ret ?_
      refine Fin.ret (Gh.refl) noid2 ?_
      rw [e]; rfl
    · skip
      rw [decide_eq_false_iff_not] at h1
      have hh : HasB b x.len w := ⟨by unfold Wide; omega, by omega, by omega⟩
      have hr := numAt_range hB x.len w
      have hp : (256 : Int) ^ w.toNat ≤ 18446744073709551616 := pow256_8 (by omega)
      have es : (b.take (x.len + w).toNat).drop x.len.toNat = (b.drop x.len.toNat).take w.toNat := by
        rw [List.drop_take]; congr 1; omega
      have e : fldF x b w = some ⟨x.op, x.r, x.m, x.len + w, x.len, w, sgnF (numAt b x.len w) w⟩ := by unfold fldF; rw [if_neg (by omega), if_neg h1]
      refine AW.skip ?_
      refine SQ.normal ?_
      refine AW.seq' ?_
      refine AW.region ?_
      refine AO.c ?_
      refine AO.c ?_
      refine AO.c ?_
      refine AO.c ?_
      refine AO.c ?_
      refine AO.c ?_
      refine AO.oo ?_
      refine AO.o (by first | omega | (simp; omega)) ?_
      refine AO.eq 27 (av' := .rd 1 (bys ((b.drop x.len.toNat).take w.toNat))) (by simp only [Option.getD_some, es]) ?_
      refine AO.call1 Try.func73 rfl rfl (ref_Num _ ((hB.drop _).take _) (by rw [List.length_take]; omega)) ?_
      refine AO.c ?_
      refine AO.nil ?_
      refine SQ.normal ?_
      refine AW.seq' ?_
      refine AW.region ?_
      refine AO.c ?_
      refine AO.c ?_
      refine AO.c ?_
      refine AO.sst ?_
      refine AO.nil ?_
      refine SQ.normal ?_
      refine AW.seq' ?_
      refine AW.region ?_
      refine AO.c ?_
      refine AO.c ?_
      refine AO.sst ?_
      refine AO.nil ?_
      refine SQ.normal ?_
      refine AW.seq' ?_
      refine AW.region ?_
      refine AO.c ?_
      refine AO.pw ?_
      refine AO.c ?_
      refine AO.sst ?_
      refine AO.nil ?_
      refine SQ.normal ?_
      refine AW.seq' ?_
      refine AW.seq' ?_
      refine AW.region ?_
      refine AO.c ?_
      refine AO.c ?_
      refine AO.c ?_
      refine AO.gx ?_
      refine AO.gx ?_
      refine AO.c ?_
      refine AO.nil ?_
      refine SQ.normal ?_
      refine AW.iteB (GL.ev _) (fun h2 => ?_) (fun h2 => ?_)
      · skip
        simp only [Bool.and_eq_true, decide_eq_true_eq] at h2
        obtain ⟨h2a, h2b⟩ := h2
        subst h2a
        have hv : num (List.take (4 : Int).toNat (List.drop x.len.toNat b)) < 4294967296 := hr.2
        have es2 : sgnF (numAt b x.len 4) 4 = numAt b x.len 4 - 4294967296 := by unfold sgnF; rw [if_pos ⟨rfl, h2b⟩]
        refine AW.region ?_
        refine AO.c ?_
        refine AO.pw ?_
        refine AO.eq 44 (av' := .v (.int .i64 (numAt b x.len 4))) (by rw [wi64_eq, w64 (by omega) (by omega)]; rfl) ?_
        refine AO.o (by unfold numAt; omega) ?_
        refine AO.c ?_
        refine AO.sst ?_
        refine AO.nil ?_
        refine SQ.normal ?_
        refine AW.seq' ?_
        refine AW.region ?_
        refine AO.c ?_
        refine AO.c ?_
        refine AO.c ?_
        refine AO.oo ?_
        refine AO.c ?_
        refine AO.sst ?_
        refine AO.nil ?_
        refine SQ.normal ?_
        refine AW.seq' ?_
        refine AW.region ?_
        refine AO.c ?_
        refine AO.sst ?_
        refine AO.c ?_
        refine AO.nil ?_
        refine SQ.normal ?_
        refine AW.ret ?_
        refine Fin.ret (Gh.refl) noid2 ?_
        rw [e, es2]; rfl
      · skip
        simp only [Bool.and_eq_false_iff, decide_eq_false_iff_not] at h2
        have es2 : sgnF (numAt b x.len w) w = IntKind.i64.wrap (numAt b x.len w) := by unfold sgnF; rw [if_neg (by unfold numAt; omega), wi64_eq]
        refine AW.skip ?_
        refine SQ.normal ?_
        refine AW.seq' ?_
        refine AW.region ?_
        refine AO.c ?_
        refine AO.c ?_
        refine AO.c ?_
        refine AO.oo ?_
        refine AO.c ?_
        refine AO.sst ?_
        refine AO.nil ?_
        refine SQ.normal ?_
        refine AW.seq' ?_
        refine AW.region ?_
        refine AO.c ?_
        refine AO.sst ?_
        refine AO.c ?_
        refine AO.nil ?_
        refine SQ.normal ?_
        refine AW.ret ?_
        refine Fin.ret (Gh.refl) noid2 ?_
        rw [e, es2]; rfl

@[reducible] def opL : List Int := [137, 1, 41, 57]
@[reducible] def opO : List Int := [8, 9, 10, 12]

set_option maxHeartbeats 4000000 in
theorem ref_long (b : List Int) (hB : Bytes b) (hb : b.length ≤ 1000000000000) : A0 Try.prog 37 [.rd 1 (bys b)] (fun ret => ret = insR (longR b)) := by
  have y0 := getD_b hB 0
  have y1 := getD_b hB 1
  have y2 := getD_b hB 2
  have y3 := getD_b hB 3
  have z0 : b.getD (Int.toNat 0) 0 = b.getD 0 0 := rfl
  have z1 : b.getD (Int.toNat 1) 0 = b.getD 1 0 := rfl
  have z2 : b.getD (Int.toNat 2) 0 = b.getD 2 0 := rfl
  have z3 : b.getD (Int.toNat 3) 0 = b.getD 3 0 := rfl
  have w0 : b[0]?.getD 0 = b.getD 0 0 := by simp
  have w1 : b[1]?.getD 0 = b.getD 1 0 := by simp
  have w2 : b[2]?.getD 0 = b.getD 2 0 := by simp
  have w3 : b[3]?.getD 0 = b.getD 3 0 := by simp
  refine A0.body 205 Try.func37 rfl rfl Try.ntmps37 fun base n0 => ?_
  refine AW.seq' ?_
  refine AW.region ?_
  refine AO.ww ?_
  refine AO.c ?_
  refine AO.nil ?_
  refine SQ.normal ?_
  refine AW.seq' ?_
  refine AW.seq' ?_
  refine AW.region ?_
  refine AO.c ?_
  refine AO.c ?_
  refine AO.c ?_
  refine AO.c ?_
  refine AO.gx ?_
  refine AO.gxoo ?_
  refine AO.gx ?_
  refine AO.gx ?_
  refine AO.c ?_
  refine AO.c ?_
  refine AO.gx ?_
  refine AO.gxoo ?_
  refine AO.gx ?_
  refine AO.gx ?_
  refine AO.c ?_
  refine AO.nil ?_
  refine SQ.normal ?_
  refine AW.iteB (GL.ev _) (fun h0 => ?_) (fun h0 => ?_)
  · skip
    simp only [Bool.and_eq_true, decide_eq_true_eq] at h0
    refine AW.seq' ?_
    refine AW.region ?_
    refine AO.c ?_
    refine AO.oo ?_
    refine AO.c ?_
    refine AO.oo ?_
    refine AO.oo ?_
    refine AO.c ?_
    refine AO.c ?_
    refine AO.call1 Try.func38 rfl rfl (ref_field ⟨_, _, _, _, _, _, _⟩ b _ (by refine ⟨?_, ?_, ?_, ?_, ?_, ?_, ?_⟩ <;> (unfold I64; (try dsimp only); omega)) hB hb (by (try dsimp only); omega) (by omega)) ?_
    refine AO.c ?_
    refine AO.c ?_
    refine AO.sst ?_
    refine AO.c ?_
    refine AO.nil ?_
    refine SQ.normal ?_
    refine AW.ret ?_
    refine SQ.ret ?_
    refine Fin.ret (Gh.refl) noid2 ?_
    first | (exfalso; omega) | (unfold longR; (repeat (first | rw [if_neg (by omega)] | rw [if_pos (by omega)])) <;> rfl)
  · skip
    simp only [Bool.and_eq_false_iff, decide_eq_false_iff_not] at h0
    refine AW.skip ?_
    refine SQ.normal ?_
    refine AW.seq' ?_
    refine AW.region ?_
    refine AO.c ?_
    refine AO.nil ?_
    refine SQ.normal ?_
    refine AW.joinM [.k, .f, .k, .f, .k, .F, .F, .F, .F, .F, .F, .F, .F, .F, .F, .F, .F, .F, .F, .F, .F, .F, .F, .F, .F, .F, .F, .F, .F, .F] (fun (a : Int) => [(4, .v (.int .i64 (a)))]) (fun (a : Int) => Hn n0 [some (.box 39 (insA noIns))]) (fun (a : Int) => (a = 3 ∧ 2 ≤ b.length ∧ b.getD 1 0 = 15) ∨ (a = 2 ∧ ¬ (2 ≤ b.length ∧ b.getD 1 0 = 15))) ?_ (fun (a : Int) ha => ?_)
    · skip
      refine AW.seq' ?_
      refine AW.region ?_
      refine AO.c ?_
      refine AO.c ?_
      refine AO.c ?_
      refine AO.c ?_
      refine AO.gx ?_
      refine AO.gxoo ?_
      refine AO.gx ?_
      refine AO.gx ?_
      refine AO.c ?_
      refine AO.nil ?_
      refine SQ.normal ?_
      refine AW.iteB (GL.ev _) (fun h1 => ?_) (fun h1 => ?_)
      · skip
        simp only [Bool.and_eq_true, decide_eq_true_eq] at h1
        refine AW.region ?_
        refine AO.c ?_
        refine AO.nil ?_
        exact AW.backJ [.k, .f, .k, .f, .k, .F, .F, .F, .F, .F, .F, .F, .F, .F, .F, .F, .F, .F, .F, .F, .F, .F, .F, .F, .F, .F, .F, .F, .F, .F] (3) (.inl ⟨rfl, by omega, by omega⟩) (by first | rfl | (simp; done)) (by first | rfl | (simp; done))
      · skip
        simp only [Bool.and_eq_false_iff, decide_eq_false_iff_not] at h1
        refine AW.skip ?_
        exact AW.backJ [.k, .f, .k, .f, .k, .F, .F, .F, .F, .F, .F, .F, .F, .F, .F, .F, .F, .F, .F, .F, .F, .F, .F, .F, .F, .F, .F, .F, .F, .F] (2) (.inr ⟨rfl, by omega⟩) (by first | rfl | (simp; done)) (by first | rfl | (simp; done))
    refine AW.seq' ?_
    refine AW.seq' ?_
    refine AW.region ?_
    refine AO.c ?_
    refine AO.c ?_
    refine AO.c ?_
    refine AO.c ?_
    refine AO.nil ?_
    refine SQ.normal ?_
    refine AW.iteB (GL.ev _) (fun h2 => ?_) (fun h2 => ?_)
    · skip
      rw [decide_eq_true_eq] at h2
      refine AW.seq' ?_
      refine AW.region ?_
      refine AO.c ?_
      refine AO.sst ?_
      refine AO.c ?_
      refine AO.nil ?_
      refine SQ.normal ?_
      refine AW.ret ?_
      refine SQ.ret ?_
      refine Fin.ret (Gh.refl) noid2 ?_
      rcases ha with ⟨ha0, ha1, ha2⟩ | ⟨ha0, ha1⟩ <;> (unfold longR; (repeat (first | rw [if_neg (by omega)] | rw [if_pos (by omega)])) <;> rfl)
    · skip
      rw [decide_eq_false_iff_not] at h2
      have ya := getD_b hB a.toNat
      have wa : b[a.toNat]?.getD 0 = b.getD a.toNat 0 := by simp
      refine AW.skip ?_
      refine SQ.normal ?_
      refine AW.seq' ?_
      refine AW.drawsZ [17] (.one 0 false (.one 1 false (.one 2 false (.one 3 false (.one 4 false (.one 5 false (.one 6 false (.one 7 false (.one 8 false (.one 9 false (.one 10 false (.one 11 false (.one 12 false (.one 13 false (.one 14 false (.one 15 false (.one 16 true (.one 17 true .nil)))))))))))))))))) (by kernel_rfl) rfl (by kernel_rfl) ?_
      refine AZ.c rfl ?_
      refine AZ.c rfl ?_
      refine AZ.oo rfl ?_
      refine AZ.c rfl ?_
      refine AZ.oo rfl ?_
      refine AZ.oo rfl ?_
      refine AZ.oo rfl ?_
      refine AZ.c rfl ?_
      refine AZ.c rfl ?_
      refine AZ.oo rfl ?_
      refine AZ.c rfl ?_
      refine AZ.oo rfl ?_
      refine AZ.oo rfl ?_
      refine AZ.c rfl ?_
      refine AZ.oo rfl ?_
      refine AZ.c rfl ?_
      refine AZ.mkk rfl ?_
      refine AZ.sst rfl rfl ?_
      refine AZ.done ?_
      refine SQ.normal ?_
      refine AW.seq' ?_
      refine AW.region ?_
      refine AO.c ?_
      refine AO.c ?_
      refine AO.oo ?_
      refine AO.c ?_
      refine AO.oo ?_
      refine AO.oo ?_
      refine AO.c ?_
      refine AO.nil ?_
      refine SQ.normal ?_
      refine AW.seq' ?_
      refine AW.seq' ?_
      refine AW.region ?_
      refine AO.c ?_
      refine AO.c ?_
      refine AO.nil ?_
      refine SQ.normal ?_
      refine AW.iteB (GL.ev _) (fun h3 => ?_) (fun h3 => ?_)
      · skip
        rw [decide_eq_true_eq] at h3
        obtain rfl : a = 3 := by omega
        refine AW.seq' ?_
        refine AW.seq' ?_
        refine AW.region ?_
        refine AO.c ?_
        refine AO.oo ?_
        refine AO.c ?_
        refine AO.c ?_
        refine AO.c ?_
        refine AO.gx ?_
        refine AO.gx ?_
        refine AO.c ?_
        refine AO.c ?_
        refine AO.gx ?_
        refine AO.gx ?_
        refine AO.gx ?_
        refine AO.c ?_
        refine AO.nil ?_
        refine SQ.normal ?_
        refine AW.iteB (GL.ev _) (fun h4 => ?_) (fun h4 => ?_)
        · skip
          try simp only [Bool.and_eq_true, Bool.or_eq_true, Bool.not_eq_true', Bool.and_eq_false_iff, Bool.or_eq_false_iff, decide_eq_true_eq, decide_eq_false_iff_not, bys_length] at h4
          refine AW.seq' ?_
          refine AW.region ?_
          refine AO.c ?_
          refine AO.sst ?_
          refine AO.nil ?_
          refine SQ.normal ?_
          refine AW.seq' ?_
          refine AW.region ?_
          refine AO.c ?_
          refine AO.c ?_
          refine AO.call1 Try.func38 rfl rfl (ref_field ⟨_, _, _, _, _, _, _⟩ b _ (by refine ⟨?_, ?_, ?_, ?_, ?_, ?_, ?_⟩ <;> (unfold I64; (try dsimp only); omega)) hB hb (by (try dsimp only); omega) (by omega)) ?_
          refine AO.c ?_
          refine AO.c ?_
          refine AO.sst ?_
          refine AO.c ?_
          refine AO.nil ?_
          refine SQ.normal ?_
          refine AW.ret ?_
          refine SQ.ret <| SQ.ret ?_
          refine Fin.ret (Gh.refl) noid2 ?_
          first | (exfalso; omega) | (unfold longR; (repeat (first | rw [if_neg (by omega)] | rw [if_pos (by omega)])) <;> rfl)
        · skip
          try simp only [Bool.and_eq_true, Bool.or_eq_true, Bool.not_eq_true', Bool.and_eq_false_iff, Bool.or_eq_false_iff, decide_eq_true_eq, decide_eq_false_iff_not, bys_length] at h4
          refine AW.skip ?_
          refine SQ.normal ?_
          refine AW.seq' ?_
          refine AW.region ?_
          refine AO.c ?_
          refine AO.sst ?_
          refine AO.c ?_
          refine AO.nil ?_
          refine SQ.normal ?_
          refine AW.ret ?_
          refine SQ.ret ?_
          refine Fin.ret (Gh.refl) noid2 ?_
          first | (exfalso; omega) | (unfold longR; (repeat (first | rw [if_neg (by omega)] | rw [if_pos (by omega)])) <;> rfl)
      · skip
        rw [decide_eq_false_iff_not] at h3
        obtain rfl : a = 2 := by omega
        refine AW.skip ?_
        refine SQ.normal ?_
        refine AW.seq' ?_
        refine AW.seq' ?_
        refine AW.region ?_
        refine AO.c ?_
        refine AO.oo ?_
        refine AO.c ?_
        refine AO.c ?_
        refine AO.c ?_
        refine AO.gx ?_
        refine AO.gx ?_
        refine AO.c ?_
        refine AO.c ?_
        refine AO.gx ?_
        refine AO.gx ?_
        refine AO.gx ?_
        refine AO.c ?_
        refine AO.nil ?_
        refine SQ.normal ?_
        refine AW.iteB (GL.ev _) (fun h5 => ?_) (fun h5 => ?_)
        · skip
          try simp only [Bool.and_eq_true, Bool.or_eq_true, Bool.not_eq_true', Bool.and_eq_false_iff, Bool.or_eq_false_iff, decide_eq_true_eq, decide_eq_false_iff_not, bys_length] at h5
          refine AW.seq' ?_
          refine AW.region ?_
          refine AO.c ?_
          refine AO.sst ?_
          refine AO.nil ?_
          refine SQ.normal ?_
          refine AW.seq' ?_
          refine AW.region ?_
          refine AO.c ?_
          refine AO.sst ?_
          refine AO.nil ?_
          refine SQ.normal ?_
          refine AW.seq' ?_
          refine AW.region ?_
          refine AO.c ?_
          refine AO.c ?_
          refine AO.call1 Try.func38 rfl rfl (ref_field ⟨_, _, _, _, _, _, _⟩ b _ (by refine ⟨?_, ?_, ?_, ?_, ?_, ?_, ?_⟩ <;> (unfold I64; (try dsimp only); omega)) hB hb (by (try dsimp only); omega) (by omega)) ?_
          refine AO.c ?_
          refine AO.c ?_
          refine AO.sst ?_
          refine AO.c ?_
          refine AO.nil ?_
          refine SQ.normal ?_
          refine AW.ret ?_
          refine SQ.ret ?_
          refine Fin.ret (Gh.refl) noid2 ?_
          first | (exfalso; omega) | (unfold longR; (repeat (first | rw [if_neg (by omega)] | rw [if_pos (by omega)])) <;> rfl)
        · skip
          try simp only [Bool.and_eq_true, Bool.or_eq_true, Bool.not_eq_true', Bool.and_eq_false_iff, Bool.or_eq_false_iff, decide_eq_true_eq, decide_eq_false_iff_not, bys_length] at h5
          refine AW.skip ?_
          refine SQ.normal ?_
          refine AW.seq' ?_
          refine AW.seq' ?_
          refine AW.region ?_
          refine AO.c ?_
          refine AO.c ?_
          refine AO.c ?_
          refine AO.gx ?_
          refine AO.gx ?_
          refine AO.gx ?_
          refine AO.c ?_
          refine AO.c ?_
          refine AO.gx ?_
          refine AO.gxoo ?_
          refine AO.gx ?_
          refine AO.gx ?_
          refine AO.gx ?_
          refine AO.gx ?_
          refine AO.gxoo ?_
          refine AO.gx ?_
          refine AO.gx ?_
          refine AO.gx ?_
          refine AO.gx ?_
          refine AO.gx ?_
          refine AO.gxoo ?_
          refine AO.gx ?_
          refine AO.gx ?_
          refine AO.gx ?_
          refine AO.c ?_
          refine AO.nil ?_
          refine SQ.normal ?_
          refine AW.iteB (GL.ev _) (fun h6 => ?_) (fun h6 => ?_)
          · skip
            try simp only [Bool.and_eq_true, Bool.or_eq_true, Bool.not_eq_true', Bool.and_eq_false_iff, Bool.or_eq_false_iff, decide_eq_true_eq, decide_eq_false_iff_not, bys_length] at h6
            refine AW.seq' ?_
            refine AW.region ?_
            refine AO.c ?_
            refine AO.sst ?_
            refine AO.nil ?_
            refine SQ.normal ?_
            refine AW.seq' ?_
            refine AW.seq' ?_
            refine AW.region ?_
            refine AO.c ?_
            refine AO.oo ?_
            refine AO.c ?_
            refine AO.c ?_
            refine AO.nil ?_
            refine SQ.normal ?_
            refine AW.iteB (GL.ev _) (fun h7 => ?_) (fun h7 => ?_)
            · skip
              try rw [decide_eq_true_eq] at h7
              refine AW.region ?_
              refine AO.c ?_
              refine AO.sst ?_
              refine AO.nil ?_
              refine SQ.normal ?_
              refine AW.seq' ?_
              refine AW.seq' ?_
              refine AW.region ?_
              refine AO.c ?_
              refine AO.oo ?_
              refine AO.c ?_
              refine AO.c ?_
              refine AO.nil ?_
              refine SQ.normal ?_
              refine AW.iteB (GL.ev _) (fun h8 => ?_) (fun h8 => ?_)
              · skip
                try rw [decide_eq_true_eq] at h8
                refine AW.region ?_
                refine AO.c ?_
                refine AO.sst ?_
                refine AO.nil ?_
                refine SQ.normal ?_
                refine AW.seq' ?_
                refine AW.region ?_
                refine AO.c ?_
                refine AO.c ?_
                refine AO.call1 Try.func38 rfl rfl (ref_field ⟨_, _, _, _, _, _, _⟩ b _ (by refine ⟨?_, ?_, ?_, ?_, ?_, ?_, ?_⟩ <;> (unfold I64; (try dsimp only); omega)) hB hb (by (try dsimp only); omega) (by omega)) ?_
                refine AO.c ?_
                refine AO.c ?_
                refine AO.sst ?_
                refine AO.c ?_
                refine AO.nil ?_
                refine SQ.normal ?_
                refine AW.ret ?_
                refine SQ.ret ?_
                refine Fin.ret (Gh.refl) noid2 ?_
                first | (exfalso; omega) | (unfold longR; (repeat (first | rw [if_neg (by omega)] | rw [if_pos (by omega)])) <;> rfl)
              · skip
                try rw [decide_eq_false_iff_not] at h8
                refine AW.skip ?_
                refine SQ.normal ?_
                refine AW.seq' ?_
                refine AW.region ?_
                refine AO.c ?_
                refine AO.c ?_
                refine AO.call1 Try.func38 rfl rfl (ref_field ⟨_, _, _, _, _, _, _⟩ b _ (by refine ⟨?_, ?_, ?_, ?_, ?_, ?_, ?_⟩ <;> (unfold I64; (try dsimp only); omega)) hB hb (by (try dsimp only); omega) (by omega)) ?_
                refine AO.c ?_
                refine AO.c ?_
                refine AO.sst ?_
                refine AO.c ?_
                refine AO.nil ?_
                refine SQ.normal ?_
                refine AW.ret ?_
                refine SQ.ret ?_
                refine Fin.ret (Gh.refl) noid2 ?_
                first | (exfalso; omega) | (unfold longR; (repeat (first | rw [if_neg (by omega)] | rw [if_pos (by omega)])) <;> rfl)
            · skip
              try rw [decide_eq_false_iff_not] at h7
              refine AW.skip ?_
              refine SQ.normal ?_
              refine AW.seq' ?_
              refine AW.seq' ?_
              refine AW.region ?_
              refine AO.c ?_
              refine AO.oo ?_
              refine AO.c ?_
              refine AO.c ?_
              refine AO.nil ?_
              refine SQ.normal ?_
              refine AW.iteB (GL.ev _) (fun h8 => ?_) (fun h8 => ?_)
              · skip
                try rw [decide_eq_true_eq] at h8
                refine AW.region ?_
                refine AO.c ?_
                refine AO.sst ?_
                refine AO.nil ?_
                refine SQ.normal ?_
                refine AW.seq' ?_
                refine AW.region ?_
                refine AO.c ?_
                refine AO.c ?_
                refine AO.call1 Try.func38 rfl rfl (ref_field ⟨_, _, _, _, _, _, _⟩ b _ (by refine ⟨?_, ?_, ?_, ?_, ?_, ?_, ?_⟩ <;> (unfold I64; (try dsimp only); omega)) hB hb (by (try dsimp only); omega) (by omega)) ?_
                refine AO.c ?_
                refine AO.c ?_
                refine AO.sst ?_
                refine AO.c ?_
                refine AO.nil ?_
                refine SQ.normal ?_
                refine AW.ret ?_
                refine SQ.ret ?_
                refine Fin.ret (Gh.refl) noid2 ?_
                first | (exfalso; omega) | (unfold longR; (repeat (first | rw [if_neg (by omega)] | rw [if_pos (by omega)])) <;> rfl)
              · skip
                try rw [decide_eq_false_iff_not] at h8
                refine AW.skip ?_
                refine SQ.normal ?_
                refine AW.seq' ?_
                refine AW.region ?_
                refine AO.c ?_
                refine AO.c ?_
                refine AO.call1 Try.func38 rfl rfl (ref_field ⟨_, _, _, _, _, _, _⟩ b _ (by refine ⟨?_, ?_, ?_, ?_, ?_, ?_, ?_⟩ <;> (unfold I64; (try dsimp only); omega)) hB hb (by (try dsimp only); omega) (by omega)) ?_
                refine AO.c ?_
                refine AO.c ?_
                refine AO.sst ?_
                refine AO.c ?_
                refine AO.nil ?_
                refine SQ.normal ?_
                refine AW.ret ?_
                refine SQ.ret ?_
                refine Fin.ret (Gh.refl) noid2 ?_
                first | (exfalso; omega) | (unfold longR; (repeat (first | rw [if_neg (by omega)] | rw [if_pos (by omega)])) <;> rfl)
          · skip
            try simp only [Bool.and_eq_true, Bool.or_eq_true, Bool.not_eq_true', Bool.and_eq_false_iff, Bool.or_eq_false_iff, decide_eq_true_eq, decide_eq_false_iff_not, bys_length] at h6
            refine AW.skip ?_
            refine SQ.normal ?_
            refine AW.seq' ?_
            refine AW.seq' ?_
            refine AW.region ?_
            refine AO.c ?_
            refine AO.c ?_
            refine AO.nil ?_
            refine SQ.normal ?_
            refine AW.iteB (GL.ev _) (fun h9 => ?_) (fun h9 => ?_)
            · skip
              try rw [decide_eq_true_eq] at h9
              refine AW.seq' ?_
              refine AW.region ?_
              refine AO.c ?_
              refine AO.sst ?_
              refine AO.c ?_
              refine AO.nil ?_
              refine SQ.normal ?_
              refine AW.ret ?_
              refine SQ.ret ?_
              refine Fin.ret (Gh.refl) noid2 ?_
              first | (exfalso; omega) | (unfold longR; (repeat (first | rw [if_neg (by omega)] | rw [if_pos (by omega)])) <;> rfl)
            · skip
              try rw [decide_eq_false_iff_not] at h9
              refine AW.skip ?_
              refine SQ.normal ?_
              refine AW.seq' ?_
              refine AW.seq' ?_
              refine AW.region ?_
              refine AO.c ?_
              refine AO.oo ?_
              refine AO.c ?_
              refine AO.c ?_
              refine AO.c ?_
              refine AO.gx ?_
              refine AO.gxoo ?_
              refine AO.gx ?_
              refine AO.gx ?_
              refine AO.c ?_
              refine AO.c ?_
              refine AO.gx ?_
              refine AO.gx ?_
              refine AO.gx ?_
              refine AO.c ?_
              refine AO.nil ?_
              refine SQ.normal ?_
              refine AW.iteB (GL.ev _) (fun h10 => ?_) (fun h10 => ?_)
              · skip
                try simp only [Bool.and_eq_true, Bool.or_eq_true, Bool.not_eq_true', Bool.and_eq_false_iff, Bool.or_eq_false_iff, decide_eq_true_eq, decide_eq_false_iff_not, bys_length] at h10
                refine AW.seq' ?_
                refine AW.region ?_
                refine AO.c ?_
                refine AO.sst ?_
                refine AO.nil ?_
                refine SQ.normal ?_
                refine AW.seq' ?_
                refine AW.seq' ?_
                refine AW.region ?_
                refine AO.c ?_
                refine AO.oo ?_
                refine AO.c ?_
                refine AO.c ?_
                refine AO.nil ?_
                refine SQ.normal ?_
                refine AW.iteB (GL.ev _) (fun h11 => ?_) (fun h11 => ?_)
                · skip
                  try rw [decide_eq_true_eq] at h11
                  refine AW.region ?_
                  refine AO.c ?_
                  refine AO.sst ?_
                  refine AO.nil ?_
                  refine SQ.normal ?_
                  refine AW.seq' ?_
                  refine AW.region ?_
                  refine AO.c ?_
                  refine AO.c ?_
                  refine AO.call1 Try.func38 rfl rfl (ref_field ⟨_, _, _, _, _, _, _⟩ b _ (by refine ⟨?_, ?_, ?_, ?_, ?_, ?_, ?_⟩ <;> (unfold I64; (try dsimp only); omega)) hB hb (by (try dsimp only); omega) (by omega)) ?_
                  refine AO.c ?_
                  refine AO.c ?_
                  refine AO.sst ?_
                  refine AO.c ?_
                  refine AO.nil ?_
                  refine SQ.normal ?_
                  refine AW.ret ?_
                  refine SQ.ret ?_
                  refine Fin.ret (Gh.refl) noid2 ?_
                  first | (exfalso; omega) | (unfold longR; (repeat (first | rw [if_neg (by omega)] | rw [if_pos (by omega)])) <;> rfl)
                · skip
                  try rw [decide_eq_false_iff_not] at h11
                  refine AW.skip ?_
                  refine SQ.normal ?_
                  refine AW.seq' ?_
                  refine AW.region ?_
                  refine AO.c ?_
                  refine AO.c ?_
                  refine AO.call1 Try.func38 rfl rfl (ref_field ⟨_, _, _, _, _, _, _⟩ b _ (by refine ⟨?_, ?_, ?_, ?_, ?_, ?_, ?_⟩ <;> (unfold I64; (try dsimp only); omega)) hB hb (by (try dsimp only); omega) (by omega)) ?_
                  refine AO.c ?_
                  refine AO.c ?_
                  refine AO.sst ?_
                  refine AO.c ?_
                  refine AO.nil ?_
                  refine SQ.normal ?_
                  refine AW.ret ?_
                  refine SQ.ret ?_
                  refine Fin.ret (Gh.refl) noid2 ?_
                  first | (exfalso; omega) | (unfold longR; (repeat (first | rw [if_neg (by omega)] | rw [if_pos (by omega)])) <;> rfl)
              · skip
                try simp only [Bool.and_eq_true, Bool.or_eq_true, Bool.not_eq_true', Bool.and_eq_false_iff, Bool.or_eq_false_iff, decide_eq_true_eq, decide_eq_false_iff_not, bys_length] at h10
                refine AW.skip ?_
                refine SQ.normal ?_
                refine AW.seq' ?_
                refine AW.region ?_
                refine AO.ww ?_
                refine AO.c ?_
                refine AO.nil ?_
                refine SQ.normal ?_
                refine AW.seq' ?_
                refine AW.region ?_
                refine AO.ww ?_
                refine AO.c ?_
                refine AO.nil ?_
                refine SQ.normal ?_
                refine AW.seq' ?_
                refine AW.seq' ?_
                refine AW.region ?_
                refine AO.c ?_
                refine AO.nil ?_
                refine SQ.normal ?_
                refine AW.block' ?_
                refine AW.loopU [.k, .f, .k, .f, .f, .k, .f, .k, .k, .k, .F, .F, .F, .F, .F, .F, .F, .F, .F, .F, .F, .F, .F, .F, .F, .F, .F, .F, .F, .F, .F, .F, .F, .F, .f, .f, .f] (fun (i : Nat) => [(9, .v (.int .i64 (i)))]) (fun i => Hn n0 [some (.box 39 (insA noIns)), some (.box 39 (insA ⟨0, b.getD (Int.toNat 2) 0 / 8 % 8, b.getD (Int.toNat 2) 0 % 8, 2 + 1, 0, 0, 0⟩)), some (.row 3 1 0 (opL.map iA)), some (.row 3 1 0 (opO.map iA))]) (fun m i => i ≤ 4 ∧ m = 4 - i ∧ ∀ k, k < i → opL.getD k 0 ≠ b.getD 1 0) (4) (0) ⟨by omega, by omega, fun k hk => by omega⟩ (by first | rfl | (simp; done)) (by first | rfl | (simp; done)) ?_
                rintro m0 i ⟨hx1, hx2, hx3⟩
                refine AW.seq' ?_
                refine AW.seq' ?_
                refine AW.region ?_
                refine AO.c ?_
                refine AO.c ?_
                refine AO.nil ?_
                refine SQ.normal ?_
                refine AW.iteB (GL.ev _) (fun h12 => ?_) (fun h12 => ?_)
                · skip
                  try rw [decide_eq_true_eq] at h12
                  refine AW.skip ?_
                  refine SQ.normal ?_
                  refine AW.seq' ?_
                  refine AW.block' ?_
                  refine AW.seq' ?_
                  refine AW.drawsZ [] (.one 0 false (.one 1 false (.one 2 false (.one 3 false (.one 4 false (.one 5 false (.one 6 false (.one 7 false (.one 8 false .nil))))))))) (by kernel_rfl) rfl (by kernel_rfl) ?_
                  refine AZ.c rfl ?_
                  refine AZ.oo rfl ?_
                  refine AZ.c rfl ?_
                  refine AZ.oo rfl ?_
                  refine AZ.c rfl ?_
                  refine AZ.c rfl ?_
                  refine AZ.oo rfl ?_
                  refine AZ.o rfl (by first | omega | (simp; omega)) ?_
                  refine AZ.c rfl ?_
                  refine AZ.done ?_
                  refine SQ.normal ?_
                  refine AW.iteB (GL.ev _) (fun h13 => ?_) (fun h13 => ?_)
                  · skip
                    try rw [decide_eq_true_eq] at h13
                    refine AW.seq' ?_
                    refine AW.region ?_
                    refine AO.c ?_
                    refine AO.c ?_
                    refine AO.oo ?_
                    refine AO.o (by first | omega | (simp; omega)) ?_
                    refine AO.c ?_
                    refine AO.sst ?_
                    refine AO.nil ?_
                    refine SQ.normal ?_
                    refine AW.seq' ?_
                    refine AW.region ?_
                    refine AO.c ?_
                    refine AO.sst ?_
                    refine AO.c ?_
                    refine AO.nil ?_
                    refine SQ.normal ?_
                    refine AW.ret ?_
                    refine BQ.ret <| SQ.ret <| AW.out <| LU.ret <| BQ.ret <| SQ.ret ?_
                    refine Fin.ret (Gh.refl) noid2 ?_
                    have hi : i = 0 ∨ i = 1 ∨ i = 2 ∨ i = 3 := by omega
                    rcases hi with rfl | rfl | rfl | rfl
                    · have q : b.getD 1 0 = 137 := h13
                      have o : opOf (b.getD 1 0) = 8 := by rw [q]; decide
                      have f : longR b = some ⟨8, b.getD 2 0 / 8 % 8, b.getD 2 0 % 8, 3, 0, 0, 0⟩ := by
                        unfold longR; (repeat (first | rw [if_neg (by omega)] | rw [if_pos (by omega)])); (try rw [o])
                      rw [f]; rfl
                    · have q : b.getD 1 0 = 1 := h13
                      have o : opOf (b.getD 1 0) = 9 := by rw [q]; decide
                      have f : longR b = some ⟨9, b.getD 2 0 / 8 % 8, b.getD 2 0 % 8, 3, 0, 0, 0⟩ := by
                        unfold longR; (repeat (first | rw [if_neg (by omega)] | rw [if_pos (by omega)])); (try rw [o])
                      rw [f]; rfl
                    · have q : b.getD 1 0 = 41 := h13
                      have o : opOf (b.getD 1 0) = 10 := by rw [q]; decide
                      have f : longR b = some ⟨10, b.getD 2 0 / 8 % 8, b.getD 2 0 % 8, 3, 0, 0, 0⟩ := by
                        unfold longR; (repeat (first | rw [if_neg (by omega)] | rw [if_pos (by omega)])); (try rw [o])
                      rw [f]; rfl
                    · have q : b.getD 1 0 = 57 := h13
                      have o : opOf (b.getD 1 0) = 12 := by rw [q]; decide
                      have f : longR b = some ⟨12, b.getD 2 0 / 8 % 8, b.getD 2 0 % 8, 3, 0, 0, 0⟩ := by
                        unfold longR; (repeat (first | rw [if_neg (by omega)] | rw [if_pos (by omega)])); (try rw [o])
                      rw [f]; rfl
                  · skip
                    try rw [decide_eq_false_iff_not] at h13
                    refine AW.skip ?_
                    refine BQ.normal ?_
                    refine SQ.normal ?_
                    refine AW.region ?_
                    refine AO.c ?_
                    refine AO.oo ?_
                    refine AO.c ?_
                    refine AO.nil ?_
                    exact AW.backU [.k, .f, .k, .f, .f, .k, .f, .k, .k, .k, .F, .F, .F, .F, .F, .F, .F, .F, .F, .F, .F, .F, .F, .F, .F, .F, .F, .F, .F, .F, .F, .F, .F, .F, .f, .f, .f] (m0 - 1) (i + 1) (by omega) (by (try dsimp only); exact ⟨by omega, by omega, fun k hk => by
                      rcases Nat.lt_succ_iff_lt_or_eq.1 hk with h | rfl
                      · exact hx3 k h
                      · (try simp only [Nat.zero_add, Int.toNat_natCast] at h13); exact fun e => h13 e.symm⟩) (by first | rfl | (simp; done)) (by first | rfl | (simp; done))
                · skip
                  try rw [decide_eq_false_iff_not] at h12
                  refine AW.exit ?_
                  refine SQ.exit <| AW.out <| LU.exit <| BQ.exit ?_
                  refine SQ.normal ?_
                  refine AW.seq' ?_
                  refine AW.region ?_
                  refine AO.c ?_
                  refine AO.sst ?_
                  refine AO.c ?_
                  refine AO.nil ?_
                  refine SQ.normal ?_
                  refine AW.ret ?_
                  refine Fin.ret (Gh.refl) noid2 ?_
                  have k0 : (137 : Int) ≠ b.getD 1 0 := hx3 0 (by omega)
                  have k1 : (1 : Int) ≠ b.getD 1 0 := hx3 1 (by omega)
                  have k2 : (41 : Int) ≠ b.getD 1 0 := hx3 2 (by omega)
                  have k3 : (57 : Int) ≠ b.getD 1 0 := hx3 3 (by omega)
                  have o : opOf (b.getD 1 0) = 0 := by unfold opOf; rw [if_neg (by omega), if_neg (by omega), if_neg (by omega), if_neg (by omega)]
                  unfold longR; (repeat (first | rw [if_neg (by omega)] | rw [if_pos (by omega)])) <;> rfl
set_option maxHeartbeats 1000000 in
theorem ref_Decode (b : List Int) (hB : Bytes b) (hb : b.length ≤ 1000000000000) : A0 Try.prog 14 [.rd 1 (bys b)] (fun ret => ret = insR (decR b)) := by
  have y0 := getD_b hB 0
  have y1 := getD_b hB 1
  have y2 := getD_b hB 2
  have y3 := getD_b hB 3
  have z0 : b.getD (Int.toNat 0) 0 = b.getD 0 0 := rfl
  have z1 : b.getD (Int.toNat 1) 0 = b.getD 1 0 := rfl
  have z2 : b.getD (Int.toNat 2) 0 = b.getD 2 0 := rfl
  have z3 : b.getD (Int.toNat 3) 0 = b.getD 3 0 := rfl
  have w0 : b[0]?.getD 0 = b.getD 0 0 := by simp
  have w1 : b[1]?.getD 0 = b.getD 1 0 := by simp
  have w2 : b[2]?.getD 0 = b.getD 2 0 := by simp
  have w3 : b[3]?.getD 0 = b.getD 3 0 := by simp
  refine A0.body 80 Try.func14 rfl rfl Try.ntmps14 fun base n0 => ?_
  refine AW.seq' ?_
  refine AW.region ?_
  refine AO.ww ?_
  refine AO.c ?_
  refine AO.nil ?_
  refine SQ.normal ?_
  refine AW.seq' ?_
  refine AW.seq' ?_
  refine AW.region ?_
  refine AO.c ?_
  refine AO.c ?_
  refine AO.c ?_
  refine AO.nil ?_
  refine SQ.normal ?_
  refine AW.iteB (GL.ev _) (fun h0 => ?_) (fun h0 => ?_)
  · skip
    try rw [decide_eq_true_eq] at h0
    refine AW.seq' ?_
    refine AW.region ?_
    refine AO.c ?_
    refine AO.sst ?_
    refine AO.c ?_
    refine AO.nil ?_
    refine SQ.normal ?_
    refine AW.ret ?_
    refine SQ.ret ?_
    refine Fin.ret (Gh.refl) noid2 ?_
    first | (exfalso; omega) | (unfold decR; (repeat (first | rw [if_neg (by omega)] | rw [if_pos (by omega)])) <;> rfl)
  · skip
    try rw [decide_eq_false_iff_not] at h0
    refine AW.skip ?_
    refine SQ.normal ?_
    refine AW.seq' ?_
    refine AW.region ?_
    refine AO.c ?_
    refine AO.nil ?_
    refine SQ.normal ?_
    refine AW.seq' ?_
    refine AW.seq' ?_
    refine AW.region ?_
    refine AO.c ?_
    refine AO.c ?_
    refine AO.c ?_
    refine AO.nil ?_
    refine SQ.normal ?_
    refine AW.iteB (GL.ev _) (fun h1 => ?_) (fun h1 => ?_)
    · skip
      try rw [decide_eq_true_eq] at h1
      refine AW.region ?_
      refine AO.c ?_
      refine AO.oo ?_
      refine AO.c ?_
      refine AO.oo ?_
      refine AO.c ?_
      refine AO.nil ?_
      refine SQ.normal ?_
      refine AW.seq' ?_
      refine AW.seq' ?_
      refine AW.region ?_
      refine AO.c ?_
      refine AO.oo ?_
      refine AO.c ?_
      refine AO.nil ?_
      refine SQ.normal ?_
      refine AW.block' ?_
      refine AW.seq' ?_
      refine AW.region ?_
      refine AO.c ?_
      refine AO.c ?_
      refine AO.nil ?_
      refine SQ.normal ?_
      refine AW.iteB (GL.ev _) (fun h2 => ?_) (fun h2 => ?_)
      · skip
        try rw [decide_eq_true_eq] at h2
        refine AW.seq' ?_
        refine AW.region ?_
        refine AO.c ?_
        refine AO.call1 Try.func37 rfl rfl (ref_long b hB hb) ?_
        refine AO.c ?_
        refine AO.c ?_
        refine AO.sst ?_
        refine AO.c ?_
        refine AO.nil ?_
        refine SQ.normal ?_
        refine AW.ret ?_
        refine BQ.ret <| SQ.ret ?_
        refine Fin.ret (Gh.refl) noid2 ?_
        first | (exfalso; omega) | (unfold decR; (repeat (first | rw [if_neg (by omega)] | rw [if_pos (by omega)])) <;> rfl)
      · skip
        try rw [decide_eq_false_iff_not] at h2
        refine AW.seq' ?_
        refine AW.region ?_
        refine AO.c ?_
        refine AO.c ?_
        refine AO.nil ?_
        refine SQ.normal ?_
        refine AW.iteB (GL.ev _) (fun h3 => ?_) (fun h3 => ?_)
        · skip
          try rw [decide_eq_true_eq] at h3
          refine AW.seq' ?_
          refine AW.region ?_
          refine AO.c ?_
          refine AO.c ?_
          refine AO.call1 Try.func38 rfl rfl (ref_field ⟨_, _, _, _, _, _, _⟩ b _ (by refine ⟨?_, ?_, ?_, ?_, ?_, ?_, ?_⟩ <;> (unfold I64; (try dsimp only); omega)) hB hb (by (try dsimp only); omega) (by omega)) ?_
          refine AO.c ?_
          refine AO.c ?_
          refine AO.sst ?_
          refine AO.c ?_
          refine AO.nil ?_
          refine SQ.normal ?_
          refine AW.ret ?_
          refine BQ.ret <| SQ.ret ?_
          refine Fin.ret (Gh.refl) noid2 ?_
          first | (exfalso; omega) | (unfold decR; (repeat (first | rw [if_neg (by omega)] | rw [if_pos (by omega)])) <;> rfl)
        · skip
          try rw [decide_eq_false_iff_not] at h3
          refine AW.seq' ?_
          refine AW.region ?_
          refine AO.c ?_
          refine AO.c ?_
          refine AO.nil ?_
          refine SQ.normal ?_
          refine AW.iteB (GL.ev _) (fun h4 => ?_) (fun h4 => ?_)
          · skip
            try rw [decide_eq_true_eq] at h4
            refine AW.seq' ?_
            refine AW.region ?_
            refine AO.c ?_
            refine AO.c ?_
            refine AO.call1 Try.func38 rfl rfl (ref_field ⟨_, _, _, _, _, _, _⟩ b _ (by refine ⟨?_, ?_, ?_, ?_, ?_, ?_, ?_⟩ <;> (unfold I64; (try dsimp only); omega)) hB hb (by (try dsimp only); omega) (by omega)) ?_
            refine AO.c ?_
            refine AO.c ?_
            refine AO.sst ?_
            refine AO.c ?_
            refine AO.nil ?_
            refine SQ.normal ?_
            refine AW.ret ?_
            refine BQ.ret <| SQ.ret ?_
            refine Fin.ret (Gh.refl) noid2 ?_
            first | (exfalso; omega) | (unfold decR; (repeat (first | rw [if_neg (by omega)] | rw [if_pos (by omega)])) <;> rfl)
          · skip
            try rw [decide_eq_false_iff_not] at h4
            refine AW.seq' ?_
            refine AW.region ?_
            refine AO.c ?_
            refine AO.c ?_
            refine AO.nil ?_
            refine SQ.normal ?_
            refine AW.iteB (GL.ev _) (fun h5 => ?_) (fun h5 => ?_)
            · skip
              try rw [decide_eq_true_eq] at h5
              refine AW.seq' ?_
              refine AW.region ?_
              refine AO.c ?_
              refine AO.sst ?_
              refine AO.c ?_
              refine AO.nil ?_
              refine SQ.normal ?_
              refine AW.ret ?_
              refine BQ.ret <| SQ.ret ?_
              refine Fin.ret (Gh.refl) noid2 ?_
              first | (exfalso; omega) | (unfold decR; (repeat (first | rw [if_neg (by omega)] | rw [if_pos (by omega)])) <;> rfl)
            · skip
              try rw [decide_eq_false_iff_not] at h5
              refine AW.seq' ?_
              refine AW.region ?_
              refine AO.c ?_
              refine AO.c ?_
              refine AO.nil ?_
              refine SQ.normal ?_
              refine AW.iteB (GL.ev _) (fun h6 => ?_) (fun h6 => ?_)
              · skip
                try rw [decide_eq_true_eq] at h6
                refine AW.seq' ?_
                refine AW.region ?_
                refine AO.c ?_
                refine AO.c ?_
                refine AO.c ?_
                refine AO.gx ?_
                refine AO.gx ?_
                refine AO.c ?_
                refine AO.nil ?_
                refine SQ.normal ?_
                refine AW.iteB (GL.ev _) (fun h7 => ?_) (fun h7 => ?_)
                · skip
                  rw [Bool.and_eq_true, decide_eq_true_eq, decide_eq_true_eq] at h7
                  try change b.getD 1 0 ≥ 208 ∧ b.getD 1 0 ≤ 215 at h7
                  refine AW.seq' ?_
                  refine AW.region ?_
                  refine AO.c ?_
                  refine AO.oo ?_
                  refine AO.c ?_
                  refine AO.sst ?_
                  refine AO.c ?_
                  refine AO.nil ?_
                  refine SQ.normal ?_
                  refine AW.ret ?_
                  refine BQ.ret <| SQ.ret ?_
                  refine Fin.ret (Gh.refl) noid2 ?_
                  first | (exfalso; omega) | (unfold decR; (repeat (first | rw [if_neg (by omega)] | rw [if_pos (by omega)])) <;> rfl)
                · skip
                  rw [Bool.and_eq_false_iff, decide_eq_false_iff_not, decide_eq_false_iff_not] at h7
                  try change ¬ b.getD 1 0 ≥ 208 ∨ ¬ b.getD 1 0 ≤ 215 at h7
                  refine AW.skip ?_
                  refine BQ.normal ?_
                  refine SQ.normal ?_
                  refine AW.seq' ?_
                  refine AW.region ?_
                  refine AO.c ?_
                  refine AO.sst ?_
                  refine AO.c ?_
                  refine AO.nil ?_
                  refine SQ.normal ?_
                  refine AW.ret ?_
                  refine Fin.ret (Gh.refl) noid2 ?_
                  first | (exfalso; omega) | (unfold decR; (repeat (first | rw [if_neg (by omega)] | rw [if_pos (by omega)])) <;> rfl)
              · skip
                try rw [decide_eq_false_iff_not] at h6
                refine AW.seq' ?_
                refine AW.region ?_
                refine AO.c ?_
                refine AO.c ?_
                refine AO.nil ?_
                refine SQ.normal ?_
                refine AW.iteB (GL.ev _) (fun h8 => ?_) (fun h8 => ?_)
                · skip
                  try rw [decide_eq_true_eq] at h8
                  refine AW.seq' ?_
                  refine AW.seq' ?_
                  refine AW.region ?_
                  refine AO.c ?_
                  refine AO.c ?_
                  refine AO.nil ?_
                  refine SQ.normal ?_
                  refine AW.iteB (GL.ev _) (fun h9 => ?_) (fun h9 => ?_)
                  · skip
                    rw [decide_eq_true_eq] at h9
                    try change b.getD 1 0 = 5 at h9
                    refine AW.seq' ?_
                    refine AW.region ?_
                    refine AO.c ?_
                    refine AO.sst ?_
                    refine AO.c ?_
                    refine AO.nil ?_
                    refine SQ.normal ?_
                    refine AW.ret ?_
                    refine SQ.ret <| BQ.ret <| SQ.ret ?_
                    refine Fin.ret (Gh.refl) noid2 ?_
                    first | (exfalso; omega) | (unfold decR; (repeat (first | rw [if_neg (by omega)] | rw [if_pos (by omega)])) <;> rfl)
                  · skip
                    rw [decide_eq_false_iff_not] at h9
                    try change ¬ b.getD 1 0 = 5 at h9
                    refine AW.skip ?_
                    refine SQ.normal ?_
                    refine AW.seq' ?_
                    refine AW.seq' ?_
                    refine AW.region ?_
                    refine AO.c ?_
                    refine AO.c ?_
                    refine AO.nil ?_
                    refine SQ.normal ?_
                    refine AW.iteB (GL.ev _) (fun h10 => ?_) (fun h10 => ?_)
                    · skip
                      rw [decide_eq_true_eq] at h10
                      try change b.getD 1 0 = 132 at h10
                      refine AW.seq' ?_
                      refine AW.region ?_
                      refine AO.c ?_
                      refine AO.c ?_
                      refine AO.call1 Try.func38 rfl rfl (ref_field ⟨_, _, _, _, _, _, _⟩ b _ (by refine ⟨?_, ?_, ?_, ?_, ?_, ?_, ?_⟩ <;> (unfold I64; (try dsimp only); omega)) hB hb (by (try dsimp only); omega) (by omega)) ?_
                      refine AO.c ?_
                      refine AO.c ?_
                      refine AO.sst ?_
                      refine AO.c ?_
                      refine AO.nil ?_
                      refine SQ.normal ?_
                      refine AW.ret ?_
                      refine SQ.ret <| BQ.ret <| SQ.ret ?_
                      refine Fin.ret (Gh.refl) noid2 ?_
                      first | (exfalso; omega) | (unfold decR; (repeat (first | rw [if_neg (by omega)] | rw [if_pos (by omega)])) <;> rfl)
                    · skip
                      rw [decide_eq_false_iff_not] at h10
                      try change ¬ b.getD 1 0 = 132 at h10
                      refine AW.skip ?_
                      refine SQ.normal ?_
                      refine AW.seq' ?_
                      refine AW.seq' ?_
                      refine AW.region ?_
                      refine AO.c ?_
                      refine AO.c ?_
                      refine AO.nil ?_
                      refine SQ.normal ?_
                      refine AW.iteB (GL.ev _) (fun h11 => ?_) (fun h11 => ?_)
                      · skip
                        rw [decide_eq_true_eq] at h11
                        try change b.getD 1 0 = 133 at h11
                        refine AW.seq' ?_
                        refine AW.region ?_
                        refine AO.c ?_
                        refine AO.c ?_
                        refine AO.call1 Try.func38 rfl rfl (ref_field ⟨_, _, _, _, _, _, _⟩ b _ (by refine ⟨?_, ?_, ?_, ?_, ?_, ?_, ?_⟩ <;> (unfold I64; (try dsimp only); omega)) hB hb (by (try dsimp only); omega) (by omega)) ?_
                        refine AO.c ?_
                        refine AO.c ?_
                        refine AO.sst ?_
                        refine AO.c ?_
                        refine AO.nil ?_
                        refine SQ.normal ?_
                        refine AW.ret ?_
                        refine SQ.ret <| BQ.ret <| SQ.ret ?_
                        refine Fin.ret (Gh.refl) noid2 ?_
                        first | (exfalso; omega) | (unfold decR; (repeat (first | rw [if_neg (by omega)] | rw [if_pos (by omega)])) <;> rfl)
                      · skip
                        rw [decide_eq_false_iff_not] at h11
                        try change ¬ b.getD 1 0 = 133 at h11
                        refine AW.skip ?_
                        refine SQ.normal ?_
                        refine AW.seq' ?_
                        refine AW.region ?_
                        refine AO.c ?_
                        refine AO.c ?_
                        refine AO.nil ?_
                        refine SQ.normal ?_
                        refine AW.iteB (GL.ev _) (fun h12 => ?_) (fun h12 => ?_)
                        · skip
                          rw [decide_eq_true_eq] at h12
                          try change b.getD 1 0 = 130 at h12
                          refine AW.seq' ?_
                          refine AW.region ?_
                          refine AO.c ?_
                          refine AO.c ?_
                          refine AO.call1 Try.func38 rfl rfl (ref_field ⟨_, _, _, _, _, _, _⟩ b _ (by refine ⟨?_, ?_, ?_, ?_, ?_, ?_, ?_⟩ <;> (unfold I64; (try dsimp only); omega)) hB hb (by (try dsimp only); omega) (by omega)) ?_
                          refine AO.c ?_
                          refine AO.c ?_
                          refine AO.sst ?_
                          refine AO.c ?_
                          refine AO.nil ?_
                          refine SQ.normal ?_
                          refine AW.ret ?_
                          refine BQ.ret <| SQ.ret ?_
                          refine Fin.ret (Gh.refl) noid2 ?_
                          first | (exfalso; omega) | (unfold decR; (repeat (first | rw [if_neg (by omega)] | rw [if_pos (by omega)])) <;> rfl)
                        · skip
                          rw [decide_eq_false_iff_not] at h12
                          try change ¬ b.getD 1 0 = 130 at h12
                          refine AW.skip ?_
                          refine BQ.normal ?_
                          refine SQ.normal ?_
                          refine AW.seq' ?_
                          refine AW.region ?_
                          refine AO.c ?_
                          refine AO.sst ?_
                          refine AO.c ?_
                          refine AO.nil ?_
                          refine SQ.normal ?_
                          refine AW.ret ?_
                          refine Fin.ret (Gh.refl) noid2 ?_
                          first | (exfalso; omega) | (unfold decR; (repeat (first | rw [if_neg (by omega)] | rw [if_pos (by omega)])) <;> rfl)
                · skip
                  try rw [decide_eq_false_iff_not] at h8
                  refine AW.skip ?_
                  refine BQ.normal ?_
                  refine SQ.normal ?_
                  refine AW.seq' ?_
                  refine AW.region ?_
                  refine AO.c ?_
                  refine AO.sst ?_
                  refine AO.c ?_
                  refine AO.nil ?_
                  refine SQ.normal ?_
                  refine AW.ret ?_
                  refine Fin.ret (Gh.refl) noid2 ?_
                  first | (exfalso; omega) | (unfold decR; (repeat (first | rw [if_neg (by omega)] | rw [if_pos (by omega)])) <;> rfl)
    · skip
      try rw [decide_eq_false_iff_not] at h1
      refine AW.skip ?_
      refine SQ.normal ?_
      refine AW.seq' ?_
      refine AW.seq' ?_
      refine AW.region ?_
      refine AO.c ?_
      refine AO.oo ?_
      refine AO.c ?_
      refine AO.nil ?_
      refine SQ.normal ?_
      refine AW.block' ?_
      refine AW.seq' ?_
      refine AW.region ?_
      refine AO.c ?_
      refine AO.c ?_
      refine AO.nil ?_
      refine SQ.normal ?_
      refine AW.iteB (GL.ev _) (fun h2 => ?_) (fun h2 => ?_)
      · skip
        try rw [decide_eq_true_eq] at h2
        refine AW.seq' ?_
        refine AW.region ?_
        refine AO.c ?_
        refine AO.call1 Try.func37 rfl rfl (ref_long b hB hb) ?_
        refine AO.c ?_
        refine AO.c ?_
        refine AO.sst ?_
        refine AO.c ?_
        refine AO.nil ?_
        refine SQ.normal ?_
        refine AW.ret ?_
        refine BQ.ret <| SQ.ret ?_
        refine Fin.ret (Gh.refl) noid2 ?_
        first | (exfalso; omega) | (unfold decR; (repeat (first | rw [if_neg (by omega)] | rw [if_pos (by omega)])) <;> rfl)
      · skip
        try rw [decide_eq_false_iff_not] at h2
        refine AW.seq' ?_
        refine AW.region ?_
        refine AO.c ?_
        refine AO.c ?_
        refine AO.nil ?_
        refine SQ.normal ?_
        refine AW.iteB (GL.ev _) (fun h3 => ?_) (fun h3 => ?_)
        · skip
          try rw [decide_eq_true_eq] at h3
          refine AW.seq' ?_
          refine AW.region ?_
          refine AO.c ?_
          refine AO.c ?_
          refine AO.call1 Try.func38 rfl rfl (ref_field ⟨_, _, _, _, _, _, _⟩ b _ (by refine ⟨?_, ?_, ?_, ?_, ?_, ?_, ?_⟩ <;> (unfold I64; (try dsimp only); omega)) hB hb (by (try dsimp only); omega) (by omega)) ?_
          refine AO.c ?_
          refine AO.c ?_
          refine AO.sst ?_
          refine AO.c ?_
          refine AO.nil ?_
          refine SQ.normal ?_
          refine AW.ret ?_
          refine BQ.ret <| SQ.ret ?_
          refine Fin.ret (Gh.refl) noid2 ?_
          first | (exfalso; omega) | (unfold decR; (repeat (first | rw [if_neg (by omega)] | rw [if_pos (by omega)])) <;> rfl)
        · skip
          try rw [decide_eq_false_iff_not] at h3
          refine AW.seq' ?_
          refine AW.region ?_
          refine AO.c ?_
          refine AO.c ?_
          refine AO.nil ?_
          refine SQ.normal ?_
          refine AW.iteB (GL.ev _) (fun h4 => ?_) (fun h4 => ?_)
          · skip
            try rw [decide_eq_true_eq] at h4
            refine AW.seq' ?_
            refine AW.region ?_
            refine AO.c ?_
            refine AO.c ?_
            refine AO.call1 Try.func38 rfl rfl (ref_field ⟨_, _, _, _, _, _, _⟩ b _ (by refine ⟨?_, ?_, ?_, ?_, ?_, ?_, ?_⟩ <;> (unfold I64; (try dsimp only); omega)) hB hb (by (try dsimp only); omega) (by omega)) ?_
            refine AO.c ?_
            refine AO.c ?_
            refine AO.sst ?_
            refine AO.c ?_
            refine AO.nil ?_
            refine SQ.normal ?_
            refine AW.ret ?_
            refine BQ.ret <| SQ.ret ?_
            refine Fin.ret (Gh.refl) noid2 ?_
            first | (exfalso; omega) | (unfold decR; (repeat (first | rw [if_neg (by omega)] | rw [if_pos (by omega)])) <;> rfl)
          · skip
            try rw [decide_eq_false_iff_not] at h4
            refine AW.seq' ?_
            refine AW.region ?_
            refine AO.c ?_
            refine AO.c ?_
            refine AO.nil ?_
            refine SQ.normal ?_
            refine AW.iteB (GL.ev _) (fun h5 => ?_) (fun h5 => ?_)
            · skip
              try rw [decide_eq_true_eq] at h5
              refine AW.seq' ?_
              refine AW.region ?_
              refine AO.c ?_
              refine AO.sst ?_
              refine AO.c ?_
              refine AO.nil ?_
              refine SQ.normal ?_
              refine AW.ret ?_
              refine BQ.ret <| SQ.ret ?_
              refine Fin.ret (Gh.refl) noid2 ?_
              first | (exfalso; omega) | (unfold decR; (repeat (first | rw [if_neg (by omega)] | rw [if_pos (by omega)])) <;> rfl)
            · skip
              try rw [decide_eq_false_iff_not] at h5
              refine AW.seq' ?_
              refine AW.region ?_
              refine AO.c ?_
              refine AO.c ?_
              refine AO.nil ?_
              refine SQ.normal ?_
              refine AW.iteB (GL.ev _) (fun h6 => ?_) (fun h6 => ?_)
              · skip
                try rw [decide_eq_true_eq] at h6
                refine AW.seq' ?_
                refine AW.region ?_
                refine AO.c ?_
                refine AO.c ?_
                refine AO.c ?_
                refine AO.gx ?_
                refine AO.gx ?_
                refine AO.c ?_
                refine AO.nil ?_
                refine SQ.normal ?_
                refine AW.iteB (GL.ev _) (fun h7 => ?_) (fun h7 => ?_)
                · skip
                  rw [Bool.and_eq_true, decide_eq_true_eq, decide_eq_true_eq] at h7
                  try change b.getD 1 0 ≥ 208 ∧ b.getD 1 0 ≤ 215 at h7
                  refine AW.seq' ?_
                  refine AW.region ?_
                  refine AO.c ?_
                  refine AO.oo ?_
                  refine AO.c ?_
                  refine AO.sst ?_
                  refine AO.c ?_
                  refine AO.nil ?_
                  refine SQ.normal ?_
                  refine AW.ret ?_
                  refine BQ.ret <| SQ.ret ?_
                  refine Fin.ret (Gh.refl) noid2 ?_
                  first | (exfalso; omega) | (unfold decR; (repeat (first | rw [if_neg (by omega)] | rw [if_pos (by omega)])) <;> rfl)
                · skip
                  rw [Bool.and_eq_false_iff, decide_eq_false_iff_not, decide_eq_false_iff_not] at h7
                  try change ¬ b.getD 1 0 ≥ 208 ∨ ¬ b.getD 1 0 ≤ 215 at h7
                  refine AW.skip ?_
                  refine BQ.normal ?_
                  refine SQ.normal ?_
                  refine AW.seq' ?_
                  refine AW.region ?_
                  refine AO.c ?_
                  refine AO.sst ?_
                  refine AO.c ?_
                  refine AO.nil ?_
                  refine SQ.normal ?_
                  refine AW.ret ?_
                  refine Fin.ret (Gh.refl) noid2 ?_
                  first | (exfalso; omega) | (unfold decR; (repeat (first | rw [if_neg (by omega)] | rw [if_pos (by omega)])) <;> rfl)
              · skip
                try rw [decide_eq_false_iff_not] at h6
                refine AW.seq' ?_
                refine AW.region ?_
                refine AO.c ?_
                refine AO.c ?_
                refine AO.nil ?_
                refine SQ.normal ?_
                refine AW.iteB (GL.ev _) (fun h8 => ?_) (fun h8 => ?_)
                · skip
                  try rw [decide_eq_true_eq] at h8
                  refine AW.seq' ?_
                  refine AW.seq' ?_
                  refine AW.region ?_
                  refine AO.c ?_
                  refine AO.c ?_
                  refine AO.nil ?_
                  refine SQ.normal ?_
                  refine AW.iteB (GL.ev _) (fun h9 => ?_) (fun h9 => ?_)
                  · skip
                    rw [decide_eq_true_eq] at h9
                    try change b.getD 1 0 = 5 at h9
                    refine AW.seq' ?_
                    refine AW.region ?_
                    refine AO.c ?_
                    refine AO.sst ?_
                    refine AO.c ?_
                    refine AO.nil ?_
                    refine SQ.normal ?_
                    refine AW.ret ?_
                    refine SQ.ret <| BQ.ret <| SQ.ret ?_
                    refine Fin.ret (Gh.refl) noid2 ?_
                    first | (exfalso; omega) | (unfold decR; (repeat (first | rw [if_neg (by omega)] | rw [if_pos (by omega)])) <;> rfl)
                  · skip
                    rw [decide_eq_false_iff_not] at h9
                    try change ¬ b.getD 1 0 = 5 at h9
                    refine AW.skip ?_
                    refine SQ.normal ?_
                    refine AW.seq' ?_
                    refine AW.seq' ?_
                    refine AW.region ?_
                    refine AO.c ?_
                    refine AO.c ?_
                    refine AO.nil ?_
                    refine SQ.normal ?_
                    refine AW.iteB (GL.ev _) (fun h10 => ?_) (fun h10 => ?_)
                    · skip
                      rw [decide_eq_true_eq] at h10
                      try change b.getD 1 0 = 132 at h10
                      refine AW.seq' ?_
                      refine AW.region ?_
                      refine AO.c ?_
                      refine AO.c ?_
                      refine AO.call1 Try.func38 rfl rfl (ref_field ⟨_, _, _, _, _, _, _⟩ b _ (by refine ⟨?_, ?_, ?_, ?_, ?_, ?_, ?_⟩ <;> (unfold I64; (try dsimp only); omega)) hB hb (by (try dsimp only); omega) (by omega)) ?_
                      refine AO.c ?_
                      refine AO.c ?_
                      refine AO.sst ?_
                      refine AO.c ?_
                      refine AO.nil ?_
                      refine SQ.normal ?_
                      refine AW.ret ?_
                      refine SQ.ret <| BQ.ret <| SQ.ret ?_
                      refine Fin.ret (Gh.refl) noid2 ?_
                      first | (exfalso; omega) | (unfold decR; (repeat (first | rw [if_neg (by omega)] | rw [if_pos (by omega)])) <;> rfl)
                    · skip
                      rw [decide_eq_false_iff_not] at h10
                      try change ¬ b.getD 1 0 = 132 at h10
                      refine AW.skip ?_
                      refine SQ.normal ?_
                      refine AW.seq' ?_
                      refine AW.seq' ?_
                      refine AW.region ?_
                      refine AO.c ?_
                      refine AO.c ?_
                      refine AO.nil ?_
                      refine SQ.normal ?_
                      refine AW.iteB (GL.ev _) (fun h11 => ?_) (fun h11 => ?_)
                      · skip
                        rw [decide_eq_true_eq] at h11
                        try change b.getD 1 0 = 133 at h11
                        refine AW.seq' ?_
                        refine AW.region ?_
                        refine AO.c ?_
                        refine AO.c ?_
                        refine AO.call1 Try.func38 rfl rfl (ref_field ⟨_, _, _, _, _, _, _⟩ b _ (by refine ⟨?_, ?_, ?_, ?_, ?_, ?_, ?_⟩ <;> (unfold I64; (try dsimp only); omega)) hB hb (by (try dsimp only); omega) (by omega)) ?_
                        refine AO.c ?_
                        refine AO.c ?_
                        refine AO.sst ?_
                        refine AO.c ?_
                        refine AO.nil ?_
                        refine SQ.normal ?_
                        refine AW.ret ?_
                        refine SQ.ret <| BQ.ret <| SQ.ret ?_
                        refine Fin.ret (Gh.refl) noid2 ?_
                        first | (exfalso; omega) | (unfold decR; (repeat (first | rw [if_neg (by omega)] | rw [if_pos (by omega)])) <;> rfl)
                      · skip
                        rw [decide_eq_false_iff_not] at h11
                        try change ¬ b.getD 1 0 = 133 at h11
                        refine AW.skip ?_
                        refine SQ.normal ?_
                        refine AW.seq' ?_
                        refine AW.region ?_
                        refine AO.c ?_
                        refine AO.c ?_
                        refine AO.nil ?_
                        refine SQ.normal ?_
                        refine AW.iteB (GL.ev _) (fun h12 => ?_) (fun h12 => ?_)
                        · skip
                          rw [decide_eq_true_eq] at h12
                          try change b.getD 1 0 = 130 at h12
                          refine AW.seq' ?_
                          refine AW.region ?_
                          refine AO.c ?_
                          refine AO.c ?_
                          refine AO.call1 Try.func38 rfl rfl (ref_field ⟨_, _, _, _, _, _, _⟩ b _ (by refine ⟨?_, ?_, ?_, ?_, ?_, ?_, ?_⟩ <;> (unfold I64; (try dsimp only); omega)) hB hb (by (try dsimp only); omega) (by omega)) ?_
                          refine AO.c ?_
                          refine AO.c ?_
                          refine AO.sst ?_
                          refine AO.c ?_
                          refine AO.nil ?_
                          refine SQ.normal ?_
                          refine AW.ret ?_
                          refine BQ.ret <| SQ.ret ?_
                          refine Fin.ret (Gh.refl) noid2 ?_
                          first | (exfalso; omega) | (unfold decR; (repeat (first | rw [if_neg (by omega)] | rw [if_pos (by omega)])) <;> rfl)
                        · skip
                          rw [decide_eq_false_iff_not] at h12
                          try change ¬ b.getD 1 0 = 130 at h12
                          refine AW.skip ?_
                          refine BQ.normal ?_
                          refine SQ.normal ?_
                          refine AW.seq' ?_
                          refine AW.region ?_
                          refine AO.c ?_
                          refine AO.sst ?_
                          refine AO.c ?_
                          refine AO.nil ?_
                          refine SQ.normal ?_
                          refine AW.ret ?_
                          refine Fin.ret (Gh.refl) noid2 ?_
                          first | (exfalso; omega) | (unfold decR; (repeat (first | rw [if_neg (by omega)] | rw [if_pos (by omega)])) <;> rfl)
                · skip
                  try rw [decide_eq_false_iff_not] at h8
                  refine AW.skip ?_
                  refine BQ.normal ?_
                  refine SQ.normal ?_
                  refine AW.seq' ?_
                  refine AW.region ?_
                  refine AO.c ?_
                  refine AO.sst ?_
                  refine AO.c ?_
                  refine AO.nil ?_
                  refine SQ.normal ?_
                  refine AW.ret ?_
                  refine Fin.ret (Gh.refl) noid2 ?_
                  first | (exfalso; omega) | (unfold decR; (repeat (first | rw [if_neg (by omega)] | rw [if_pos (by omega)])) <;> rfl)

end Go.Proofs.Ytlapfdfbgckfcaa.AL
