/- What functions of the program compute, each by its own contract; the conditions stand with each. -/
import Derived.Test.YtlapfdfbgckfcaaFInsn8
namespace Go.Proofs.Ytlapfdfbgckfcaa.AL
open Go Go.RowKit Go.Proofs.Ytlapfdfbgckfcaa.Base
set_option linter.unusedVariables false
set_option linter.unusedSimpArgs false
set_option maxRecDepth 4000
set_option synthInstance.maxSize 1000
set_option synthInstance.maxHeartbeats 200000

theorem enc_dec {b : List Int} (hB : Bytes b) {z : InsD} (h : decR b = some z) : encP z = b.take z.len.toNat := by
  have hp := dec_parts hB h
  have h2 := dec_local (c := []) hB (by intro x hx; cases hx) h (n := z.len.toNat) (by omega)
  rw [List.append_nil] at h2
  exact enc_unique (hB.take _) h2 (by rw [List.length_take]; omega)
theorem dec_append {x : InsD} {b : List Int} (hB : Bytes b) (h : encP x ≠ []) : decR (encP x ++ b) = some x := by
  obtain ⟨h1, h2, h3⟩ := enc_spec h
  have := dec_local (c := b) h1 hB h2 h3
  rwa [List.take_of_length_le (Nat.le_refl _)] at this
theorem dec_cut {x : InsD} {n : Nat} (h : encP x ≠ []) (hn : n < (encP x).length) : decR ((encP x).take n) = none := by
  obtain ⟨h1, h2, h3⟩ := enc_spec h
  cases hd : decR ((encP x).take n) with
  | none => rfl
  | some w =>
    exfalso
    have hp := dec_parts (h1.take n) hd
    have hl : ((encP x).take n).length ≤ n := by rw [List.length_take]; omega
    have h4 := dec_local (c := (encP x).drop w.len.toNat) (h1.take n) (h1.drop _) hd (n := w.len.toNat) (by omega)
    have h5 : ((encP x).take n).take w.len.toNat ++ (encP x).drop w.len.toNat = encP x := by
      rw [List.take_take, Nat.min_eq_left (by omega), List.take_append_drop]
    rw [h5, h2] at h4
    obtain rfl := Option.some.inj h4
    omega
theorem enc_len (x : InsD) : (encP x).length ≤ 10 := by
  rcases Decidable.em (encP x = []) with h | h
  · rw [h]; simp
  · obtain ⟨h1, h2, h3⟩ := enc_spec h
    have := dec_parts h1 h2
    omega
theorem enc_eq {x y : InsD} (hx : encP x ≠ []) (hy : encP y ≠ []) : decide ((strOfNums (encP x)).toList = (strOfNums (encP y)).toList) = eqI x y := by
  obtain ⟨h1, h2, h3⟩ := enc_spec hx
  obtain ⟨k1, k2, k3⟩ := enc_spec hy
  rw [eqI_iff, Bool.eq_iff_iff, decide_eq_true_eq, decide_eq_true_eq]
  constructor
  · intro h
    have := (strOfNums_inj h1 k1).1 h
    rw [this, k2] at h2
    exact (Option.some.inj h2).symm
  · rintro rfl; rfl
theorem enc_bytes (x : InsD) : Bytes (encP x) := by
  rcases Decidable.em (encP x = []) with h | h
  · rw [h]; intro y hy; cases hy
  · exact (enc_spec h).1
theorem decP_195 : decP [195] = some ⟨19, 0, 0, 1, 0, 0, 0⟩ := by decide +kernel
theorem decP_lea : decP [72, 141, 53, 252, 255, 255, 255] = some ⟨3, 6, 0, 7, 3, 4, -4⟩ := by decide +kernel

theorem up21  : A0 Try.prog 12 [] (fun ret => ret = .v (.bool true)) := by
  have h1 := insn_Decode [195] (by unfold Bytes; decide) (by decide)
  rw [decP_195] at h1
  have h2 := insn_Decode [72, 141, 53, 252, 255, 255, 255] (by unfold Bytes; decide) (by decide)
  rw [decP_lea] at h2
  refine A0.body 29 Try.func12 rfl rfl Try.ntmps12 fun base n0 => ?_
  refine AW.seq' ?_
  refine AW.region ?_
  refine AO.c ?_
  refine AO.nil ?_
  refine SQ.normal ?_
  refine AW.seq' ?_
  refine AW.region ?_
  refine AO.rr ?_
  refine AO.call1 Try.func13 rfl rfl (h1) ?_
  refine AO.c ?_
  refine AO.c ?_
  refine AO.c ?_
  refine AO.ww ?_
  refine AO.sst ?_
  refine AO.c ?_
  refine AO.nil ?_
  refine SQ.normal ?_
  refine AW.seq' ?_
  refine AW.region ?_
  refine AO.rr ?_
  refine AO.call1 Try.func13 rfl rfl (h2) ?_
  refine AO.c ?_
  refine AO.c ?_
  refine AO.c ?_
  refine AO.ww ?_
  refine AO.sst ?_
  refine AO.c ?_
  refine AO.nil ?_
  refine SQ.normal ?_
  refine AW.seq' ?_
  refine AW.region ?_
  refine AO.c ?_
  refine AO.c ?_
  refine AO.gx ?_
  refine AO.gx ?_
  refine AO.gx ?_
  refine AO.c ?_
  refine AO.c ?_
  refine AO.gx ?_
  refine AO.c ?_
  refine AO.c ?_
  refine AO.gx ?_
  refine AO.gx ?_
  refine AO.gx ?_
  refine AO.c ?_
  refine AO.c ?_
  refine AO.nil ?_
  refine SQ.normal ?_
  refine AW.ret ?_
  refine Fin.ret (Gh.refl) noid1 ?_
  rfl
theorem like21 (x : InsD) : A0 Try.prog 15 [.agg (insA x)] (fun ret => ret = .agg (insA x)) := by
  refine A0.body 18 Try.func15 rfl rfl Try.ntmps15 fun base n0 => ?_
  refine AW.seq' ?_
  refine AW.region ?_
  refine AO.ww ?_
  refine AO.ww ?_
  refine AO.nil ?_
  refine SQ.normal ?_
  refine AW.seq' ?_
  refine AW.region ?_
  refine AO.c ?_
  refine AO.c ?_
  refine AO.c ?_
  refine AO.c ?_
  refine AO.c ?_
  refine AO.c ?_
  refine AO.c ?_
  refine AO.c ?_
  refine AO.c ?_
  refine AO.c ?_
  refine AO.c ?_
  refine AO.c ?_
  refine AO.c ?_
  refine AO.c ?_
  refine AO.c ?_
  refine AO.sst ?_
  refine AO.nil ?_
  refine SQ.normal ?_
  refine AW.ret ?_
  refine Fin.ret (Gh.refl) noid1 ?_
  rfl
theorem insn_Tells (b : List Int) (x : InsD) (hB : Bytes b) (hbl : b.length ≤ maxLen) (hx : x.ok) : A0 Try.prog 4 [.rd 1 (bys b), .agg (insA x)] (fun ret => ret = .v (.bool true)) := by
  have hup := up21
  refine A0.body 47 Try.func4 rfl rfl Try.ntmps4 fun base n0 => ?_
  refine AW.seq' ?_
  refine AW.region ?_
  refine AO.ww ?_
  refine AO.c ?_
  refine AO.nil ?_
  refine SQ.normal ?_
  refine AW.seq' ?_
  refine AW.region ?_
  refine AO.call1 Try.func12 rfl rfl (up21) ?_
  refine AO.c ?_
  refine AO.nil ?_
  refine SQ.normal ?_
  refine AW.seq' ?_
  refine AW.seq' ?_
  refine AW.region ?_
  refine AO.c ?_
  refine AO.c ?_
  refine AO.c ?_
  refine AO.nil ?_
  refine SQ.normal ?_
  refine AW.iteB (GL.ev _) (fun h0 => ?_) (fun h0 => ?_)
  · skip
    skip
    refine AW.seq' ?_
    refine AW.region ?_
    refine AO.c ?_
    refine AO.c ?_
    refine AO.nil ?_
    refine SQ.normal ?_
    refine AW.ret ?_
    refine SQ.ret ?_
    refine Fin.ret (Gh.refl) noid1 ?_
    rfl
  · skip
    rw [decide_eq_false_iff_not] at h0
    have hb : b.length ≤ 1000000000000 := by omega
    refine AW.skip ?_
    refine SQ.normal ?_
    refine AW.seq' ?_
    refine AW.region ?_
    refine AO.c ?_
    refine AO.call1 Try.func13 rfl rfl (insn_Decode _ (by assumption) (by omega)) ?_
    refine AO.c ?_
    refine AO.c ?_
    refine AO.c ?_
    refine AO.ww ?_
    refine AO.sst ?_
    refine AO.c ?_
    refine AO.nil ?_
    refine SQ.normal ?_
    refine AW.seq' ?_
    refine AW.region ?_
    refine AO.c ?_
    refine AO.call1 Try.func14 rfl rfl (ref_Decode _ (by assumption) (by omega)) ?_
    refine AO.c ?_
    refine AO.c ?_
    refine AO.c ?_
    refine AO.ww ?_
    refine AO.sst ?_
    refine AO.c ?_
    refine AO.nil ?_
    refine SQ.normal ?_
    refine AW.seq' ?_
    refine AW.drawsZ [] (.one 0 false (.one 1 false (.one 2 false (.one 3 false (.one 4 false (.one 5 false (.one 6 false (.one 7 false (.one 9 false (.one 8 true (.one 10 false (.one 11 false (.one 12 false (.one 13 false (.one 16 false (.one 14 true (.one 15 false (.one 17 true (.one 18 true (.one 19 false (.one 20 false (.one 21 false (.one 22 false .nil))))))))))))))))))))))) (by kernel_rfl) rfl (by kernel_rfl) ?_
    refine AZ.c rfl ?_
    refine AZ.c rfl ?_
    refine AZ.gx rfl ?_
    refine AZ.gx rfl ?_
    refine AZ.gx rfl ?_
    refine AZ.c rfl ?_
    refine AZ.c rfl ?_
    refine AZ.gx rfl ?_
    refine AZ.gx rfl ?_
    refine AZ.gxcall1 rfl Try.func15 rfl rfl (fun hgd => like21 _) ?_
    refine AZ.gx rfl ?_
    refine AZ.c rfl ?_
    refine AZ.c rfl ?_
    refine AZ.gx rfl ?_
    refine AZ.gx rfl ?_
    refine AZ.gxcall1 rfl Try.func16 rfl rfl (fun hgd => insn_Encode _) ?_
    refine AZ.gx rfl ?_
    refine AZ.gxcall1 rfl Try.func15 rfl rfl (fun hgd => like21 _) ?_
    refine AZ.gxcall1 rfl Try.func17 rfl rfl (fun hgd => ref_Encode _) ?_
    refine AZ.gx rfl ?_
    refine AZ.gx rfl ?_
    refine AZ.c rfl ?_
    refine AZ.c rfl ?_
    refine AZ.done ?_
    refine SQ.normal ?_
    refine AW.ret ?_
    refine Fin.ret (Gh.refl) noid1 ?_
    show AV.v (.bool _) = AV.v (.bool true)
    rw [decP_eq hB, encR_eq]
    simp
set_option maxHeartbeats 1000000 in
theorem insn_BackL (b : List Int) (x y : InsD) (cut : Int) (hB : Bytes b) (hbl : b.length ≤ maxLen) (hx : x.ok) (hy : y.ok) (hc : I64 cut) : A0 Try.prog 5 [.rd 1 (bys b), .agg (insA x), .agg (insA y), .v (.int .i64 (cut))] (fun ret => ret = .v (.bool true)) := by
  have hup := up21
  obtain ⟨hc1, hc2⟩ := id hc
  refine A0.body 154 Try.func5 rfl rfl Try.ntmps5 fun base n0 => ?_
  refine AW.seq' ?_
  refine AW.region ?_
  refine AO.ww ?_
  refine AO.ww ?_
  refine AO.c ?_
  refine AO.nil ?_
  refine SQ.normal ?_
  refine AW.seq' ?_
  refine AW.region ?_
  refine AO.call1 Try.func12 rfl rfl (up21) ?_
  refine AO.c ?_
  refine AO.nil ?_
  refine SQ.normal ?_
  refine AW.seq' ?_
  refine AW.seq' ?_
  refine AW.region ?_
  refine AO.c ?_
  refine AO.c ?_
  refine AO.c ?_
  refine AO.nil ?_
  refine SQ.normal ?_
  refine AW.iteB (GL.ev _) (fun h0 => ?_) (fun h0 => ?_)
  · skip
    skip
    refine AW.seq' ?_
    refine AW.region ?_
    refine AO.c ?_
    refine AO.c ?_
    refine AO.nil ?_
    refine SQ.normal ?_
    refine AW.ret ?_
    refine SQ.ret ?_
    refine Fin.ret (Gh.refl) noid1 ?_
    rfl
  · skip
    rw [decide_eq_false_iff_not] at h0
    have hb : b.length ≤ 1000000000000 := by omega
    have hpz : ∀ z, decP b = some z → z.len ≤ b.length ∧ 1 ≤ z.len ∧ z.len ≤ 10 ∧ (0 < z.width → z.field + z.width = z.len) ∧ (z.width = 0 → z.field = 0) ∧ (z.width = 0 ∨ z.width = 4 ∨ z.width = 8) := fun z hz => dec_parts hB ((decP_eq hB).symm.trans hz)
    have hex := enc_len x
    have heb := enc_bytes x
    have hey := enc_bytes y
    refine AW.skip ?_
    refine SQ.normal ?_
    refine AW.seq' ?_
    refine AW.region ?_
    refine AO.c ?_
    refine AO.call1 Try.func13 rfl rfl (insn_Decode _ (by assumption) (by omega)) ?_
    refine AO.c ?_
    refine AO.c ?_
    refine AO.c ?_
    refine AO.ww ?_
    refine AO.sst ?_
    refine AO.c ?_
    refine AO.nil ?_
    refine SQ.normal ?_
    refine AW.seq' ?_
    refine AW.seq' ?_
    refine AW.region ?_
    refine AO.c ?_
    refine AO.c ?_
    refine AO.gx ?_
    refine AO.gx ?_
    refine AO.gx ?_
    refine AO.gx ?_
    refine AO.gx ?_
    refine AO.gx ?_
    refine AO.gx ?_
    refine AO.gx ?_
    refine AO.gx ?_
    refine AO.gx ?_
    refine AO.gx ?_
    refine AO.gx ?_
    refine AO.gx ?_
    refine AO.gx ?_
    refine AO.gx ?_
    refine AO.gx ?_
    refine AO.gx ?_
    refine AO.gx ?_
    refine AO.gx ?_
    refine AO.gx ?_
    refine AO.gx ?_
    refine AO.gx ?_
    refine AO.gx ?_
    refine AO.gx ?_
    refine AO.gxpw ?_
    refine AO.gx ?_
    refine AO.gx ?_
    refine AO.gx ?_
    refine AO.gx ?_
    refine AO.gx ?_
    refine AO.gx ?_
    refine AO.gx ?_
    refine AO.gx ?_
    refine AO.gx ?_
    refine AO.gx ?_
    refine AO.gx ?_
    refine AO.gx ?_
    refine AO.gx ?_
    refine AO.gx ?_
    refine AO.gx ?_
    refine AO.c ?_
    refine AO.nil ?_
    refine SQ.normal ?_
    refine AW.iteB (GL.ev _) (fun h1 => ?_) (fun h1 => ?_)
    · skip
      exfalso
      cases hd : decP b with
      | none => rw [hd] at h1; simp at h1
      | some z =>
        have hp := hpz z hd
        rw [hd] at h1
        simp only [Option.isSome_some, Option.getD_some, Bool.true_and, Bool.or_eq_true, Bool.and_eq_true, decide_eq_true_eq] at h1
        by_cases hw : 0 < z.width
        · rw [hp.2.2.2.1 hw, wi64_eq, w64 (by omega) (by omega)] at h1; omega
        · omega
    · skip
      skip
      refine AW.skip ?_
      refine SQ.normal ?_
      refine AW.seq' ?_
      refine AW.seq' ?_
      refine AW.drawsZ [] (.one 0 false (.one 1 false (.one 2 false (.one 5 false (.one 6 false (.one 7 false (.one 8 false (.one 9 false (.one 3 true (.one 4 false (.one 10 false (.one 11 false .nil)))))))))))) (by kernel_rfl) rfl (by kernel_rfl) ?_
      refine AZ.c rfl ?_
      refine AZ.c rfl ?_
      refine AZ.gx rfl ?_
      refine AZ.gx rfl ?_
      refine AZ.gx rfl ?_
      refine AZ.gx rfl ?_
      refine AZ.gxo rfl (fun q => by
        cases hd : decP b with
        | none => rw [hd] at q; cases q
        | some z => have hp := hpz z hd; simp only [Option.getD_some, Option.getD_none]; omega) ?_
      refine AZ.gx rfl ?_
      refine AZ.gxcall1 rfl Try.func16 rfl rfl (fun hgd => insn_Encode _) ?_
      refine AZ.gx rfl ?_
      refine AZ.gx rfl ?_
      refine AZ.c rfl ?_
      refine AZ.done ?_
      refine SQ.normal ?_
      refine AW.iteB (GL.ev _) (fun h2 => ?_) (fun h2 => ?_)
      · skip
        exfalso
        cases hd : decP b with
        | none => rw [hd] at h2; simp at h2
        | some z =>
          rw [hd] at h2
          have he := enc_dec hB ((decP_eq hB).symm.trans hd)
          simp [he] at h2
      · skip
        skip
        refine AW.skip ?_
        refine SQ.normal ?_
        refine AW.seq' ?_
        refine AW.region ?_
        refine AO.c ?_
        refine AO.call1 Try.func16 rfl rfl (insn_Encode _) ?_
        refine AO.c ?_
        refine AO.nil ?_
        refine SQ.normal ?_
        refine AW.seq' ?_
        refine AW.region ?_
        refine AO.c ?_
        refine AO.call1 Try.func16 rfl rfl (insn_Encode _) ?_
        refine AO.c ?_
        refine AO.nil ?_
        refine SQ.normal ?_
        refine AW.seq' ?_
        refine AW.seq' ?_
        refine AW.drawsZ [] (.one 0 false (.one 1 false (.one 2 false (.one 3 false (.one 4 false (.one 5 false (.one 6 false (.one 7 false (.one 8 false (.one 9 false (.one 10 false (.one 11 false (.one 12 false (.one 13 false (.one 14 false (.one 15 false (.one 16 false (.one 17 false (.one 18 false .nil))))))))))))))))))) (by kernel_rfl) rfl (by kernel_rfl) ?_
        refine AZ.c rfl ?_
        refine AZ.c rfl ?_
        refine AZ.c rfl ?_
        refine AZ.c rfl ?_
        refine AZ.gx rfl ?_
        refine AZ.gx rfl ?_
        refine AZ.gx rfl ?_
        refine AZ.c rfl ?_
        refine AZ.c rfl ?_
        refine AZ.gx rfl ?_
        refine AZ.gx rfl ?_
        refine AZ.gx rfl ?_
        refine AZ.gx rfl ?_
        refine AZ.gx rfl ?_
        refine AZ.gx rfl ?_
        refine AZ.gx rfl ?_
        refine AZ.gx rfl ?_
        refine AZ.gx rfl ?_
        refine AZ.c rfl ?_
        refine AZ.done ?_
        refine SQ.normal ?_
        refine AW.iteB (GL.ev _) (fun h3 => ?_) (fun h3 => ?_)
        · skip
          exfalso
          rw [Bool.and_eq_true, Bool.and_eq_true, decide_eq_true_eq, decide_eq_true_eq] at h3
          obtain ⟨⟨q1, q2⟩, q3⟩ := h3
          have e := enc_eq (x := x) (y := y) (fun h => by rw [h] at q1; simp at q1) (fun h => by rw [h] at q2; simp at q2)
          rw [e] at q3
          exact absurd (show (!(eqI x y == eqI x y)) = true from q3) (by simp)
        · skip
          skip
          refine AW.skip ?_
          refine SQ.normal ?_
          refine AW.seq' ?_
          refine AW.seq' ?_
          refine AW.region ?_
          refine AO.c ?_
          refine AO.c ?_
          refine AO.c ?_
          refine AO.nil ?_
          refine SQ.normal ?_
          refine AW.iteB (GL.ev _) (fun h4 => ?_) (fun h4 => ?_)
          · skip
            skip
            refine AW.seq' ?_
            refine AW.region ?_
            refine AO.c ?_
            refine AO.c ?_
            refine AO.nil ?_
            refine SQ.normal ?_
            refine AW.ret ?_
            refine SQ.ret ?_
            refine Fin.ret (Gh.refl) noid1 ?_
            rfl
          · skip
            rw [decide_eq_false_iff_not] at h4
            have hne : encP x ≠ [] := fun h => by rw [h] at h4; exact h4 rfl
            have hda := dec_append hB hne
            refine AW.skip ?_
            refine SQ.normal ?_
            refine AW.seq' ?_
            refine AW.region ?_
            refine AO.ww ?_
            refine AO.c ?_
            refine AO.ww ?_
            refine AO.c ?_
            refine AO.ww ?_
            have hlen : (encP x ++ b).length = (encP x).length + b.length := List.length_append
            refine AO.ghost (Gh.freezeE 115 (li' := encP x ++ b) (by first | rfl | (simp; done)) (by simp) (by omega)) ?_
            refine AO.call1 Try.func13 rfl rfl (insn_Decode (encP x ++ b) (Bytes.app heb hB) (by omega)) ?_
            refine AO.c ?_
            refine AO.c ?_
            refine AO.c ?_
            refine AO.ww ?_
            refine AO.sst ?_
            refine AO.c ?_
            refine AO.nil ?_
            refine SQ.normal ?_
            refine AW.seq' ?_
            refine AW.seq' ?_
            refine AW.region ?_
            refine AO.c ?_
            refine AO.c ?_
            refine AO.c ?_
            refine AO.gx ?_
            refine AO.gx ?_
            refine AO.gx ?_
            refine AO.c ?_
            refine AO.c ?_
            refine AO.gx ?_
            refine AO.gx ?_
            refine AO.gx ?_
            refine AO.gx ?_
            refine AO.gx ?_
            refine AO.c ?_
            refine AO.nil ?_
            refine SQ.normal ?_
            refine AW.iteB (GL.ev _) (fun h5 => ?_) (fun h5 => ?_)
            · skip
              exfalso
              have hda2 := hda
              rw [← decP_eq (Bytes.app heb hB)] at hda2
              have q := (enc_spec hne).2.2
              rw [hda2] at h5
              simp [q] at h5
            · skip
              skip
              refine AW.skip ?_
              refine SQ.normal ?_
              refine AW.seq' ?_
              refine AW.seq' ?_
              refine AW.region ?_
              refine AO.c ?_
              refine AO.c ?_
              refine AO.c ?_
              refine AO.gx ?_
              refine AO.gx ?_
              refine AO.gx ?_
              refine AO.gx ?_
              refine AO.c ?_
              refine AO.nil ?_
              refine SQ.normal ?_
              refine AW.iteB (GL.ev _) (fun h6 => ?_) (fun h6 => ?_)
              · skip
                skip
                refine AW.seq' ?_
                refine AW.region ?_
                refine AO.c ?_
                refine AO.c ?_
                refine AO.nil ?_
                refine SQ.normal ?_
                refine AW.ret ?_
                refine SQ.ret ?_
                refine Fin.ret (Gh.refl) noid1 ?_
                rfl
              · skip
                simp only [Bool.or_eq_false_iff, decide_eq_false_iff_not] at h6
                refine AW.skip ?_
                refine SQ.normal ?_
                refine AW.seq' ?_
                refine AW.region ?_
                refine AO.c ?_
                refine AO.c ?_
                refine AO.o (by simp only [Option.getD_none, Option.getD_some]; omega) ?_
                refine AO.call1 Try.func13 rfl rfl (insn_Decode ((encP x).take cut.toNat) (heb.take _) (by rw [List.length_take]; omega)) ?_
                refine AO.c ?_
                refine AO.c ?_
                refine AO.c ?_
                refine AO.ww ?_
                refine AO.sst ?_
                refine AO.c ?_
                refine AO.nil ?_
                refine SQ.normal ?_
                refine AW.seq' ?_
                refine AW.region ?_
                refine AO.c ?_
                refine AO.c ?_
                refine AO.gx ?_
                refine AO.gx ?_
                refine AO.c ?_
                refine AO.c ?_
                refine AO.nil ?_
                refine SQ.normal ?_
                refine AW.ret ?_
                refine Fin.ret (Gh.refl) noid1 ?_
                have hn := dec_cut hne (n := cut.toNat) (by omega)
                rw [← decP_eq (heb.take _)] at hn
                show AV.v (.bool (_ && !(decP ((encP x).take cut.toNat)).isSome)) = _
                rw [hn]; rfl

theorem ta_ins {avs : List AV} (h : TA Try.prog 36 avs) : ∃ r : InsD, avs = insA r ∧ r.ok := by
  have h1 := h.inv_struct
  obtain ⟨a1, b1, rfl, k1, h2⟩ := TAs.inv_cons h1
  obtain ⟨a2, b2, rfl, k2, h3⟩ := TAs.inv_cons h2
  obtain ⟨a3, b3, rfl, k3, h4⟩ := TAs.inv_cons h3
  obtain ⟨a4, b4, rfl, k4, h5⟩ := TAs.inv_cons h4
  obtain ⟨a5, b5, rfl, k5, h6⟩ := TAs.inv_cons h5
  obtain ⟨a6, b6, rfl, k6, h7⟩ := TAs.inv_cons h6
  obtain ⟨a7, b7, rfl, k7, h8⟩ := TAs.inv_cons h7
  obtain rfl := TAs.inv_nil h8
  obtain ⟨n1, rfl, w1⟩ := k1.inv_int (k := .i64)
  obtain ⟨n2, rfl, w2⟩ := k2.inv_int (k := .i64)
  obtain ⟨n3, rfl, w3⟩ := k3.inv_int (k := .i64)
  obtain ⟨n4, rfl, w4⟩ := k4.inv_int (k := .i64)
  obtain ⟨n5, rfl, w5⟩ := k5.inv_int (k := .i64)
  obtain ⟨n6, rfl, w6⟩ := k6.inv_int (k := .i64)
  obtain ⟨n7, rfl, w7⟩ := k7.inv_int (k := .i64)
  exact ⟨⟨n1, n2, n3, n4, n5, n6, n7⟩, rfl, wf_i64 w1, wf_i64 w2, wf_i64 w3, wf_i64 w4, wf_i64 w5, wf_i64 w6, wf_i64 w7⟩
theorem args_InsnTells {avs : List AV} (h : TArgs Try.prog [22, 36] avs) : A0 Try.prog 4 avs (fun ret => ret = .v (.bool true)) := by
  obtain ⟨av1, b1, rfl, k1, h1⟩ := TArgs.inv_one rfl h
  obtain ⟨cs, b3, rfl, k3, h3⟩ := TArgs.inv_agg h1
  obtain rfl := TArgs.inv_nil h3
  obtain ⟨b, he1, w1, q1⟩ := TA.inv_bytes (e := 5) k1
  cases he1
  obtain ⟨e, rfl, he⟩ := ta_ins k3
  exact insn_Tells b e q1 w1 he
theorem args_InsnBack {avs : List AV} (h : TArgs Try.prog [22, 36, 36, 3] avs) : A0 Try.prog 5 avs (fun ret => ret = .v (.bool true)) := by
  obtain ⟨av1, b1, rfl, k1, h1⟩ := TArgs.inv_one rfl h
  obtain ⟨cs, b3, rfl, k3, h3⟩ := TArgs.inv_agg h1
  obtain ⟨cs', b4, rfl, k4, h4⟩ := TArgs.inv_agg h3
  obtain ⟨av2, b2, rfl, k2, h2⟩ := TArgs.inv_one rfl h4
  obtain rfl := TArgs.inv_nil h2
  obtain ⟨b, he1, w1, q1⟩ := TA.inv_bytes (e := 5) k1
  cases he1
  obtain ⟨n, he2, w2⟩ := k2.inv_int (k := .i64)
  cases he2
  obtain ⟨e, rfl, he⟩ := ta_ins k3
  obtain ⟨e', rfl, he'⟩ := ta_ins k4
  exact insn_BackL b e e' n q1 w1 he he' (wf_i64 w2)


end Go.Proofs.Ytlapfdfbgckfcaa.AL
