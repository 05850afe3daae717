/- What functions of the program compute, each by its own contract; the conditions stand with each. -/
import Derived.Test.YtbaibjhkmajplaaFRela
namespace Go.Proofs.Ytbaibjhkmajplaa.AL
open Go Go.RowKit Go.Proofs.Ytbaibjhkmajplaa.Base
set_option linter.unusedVariables false
set_option linter.unusedSimpArgs false
set_option maxRecDepth 4000
set_option synthInstance.maxSize 1000

theorem relOf_ok {b : List Int} (hB : Bytes b) {a : Int} (h : mayRelB (relOf b a) = true) : (relOf b a).ok := by
  have hm := mayRel_all h
  exact ⟨by unfold I64; omega, by unfold I64; omega, by unfold I64; omega, i64_wr _⟩

theorem up07  : A0 Try.prog 68 [] (fun ret => ret = .v (.bool true)) := by
  have hz : (RelD.mk 1 2 3 (-4)).ok := by unfold RelD.ok I64; decide
  have hm : mayRelB (RelD.mk 1 2 3 (-4)) = true := by decide
  have he : relB (RelD.mk 1 2 3 (-4)) = [1, 0, 0, 0, 0, 0, 0, 0, 2, 0, 0, 0, 3, 0, 0, 0, 252, 255, 255, 255, 255, 255, 255, 255] := by decide
  have hp := rela_Put (RelD.mk 1 2 3 (-4)) hz
  rw [if_pos hm, he] at hp
  refine A0.body 39 Try.func68 rfl rfl Try.ntmps68 fun base n0 => ?_
  refine AW.seq' ?_
  refine AW.region ?_
  refine AO.c ?_
  refine AO.nil ?_
  refine SQ.normal ?_
  refine AW.seq' ?_
  refine AW.region ?_
  refine AO.c ?_
  refine AO.call1 Try.func73 rfl rfl (hp) ?_
  refine AO.c ?_
  refine AO.nil ?_
  refine SQ.normal ?_
  refine AW.seq' ?_
  refine AW.seq' ?_
  refine AW.region ?_
  refine AO.c ?_
  refine AO.c ?_
  refine AO.c ?_
  refine AO.nil ?_
  refine SQ.normal ?_
  refine AW.iteB (GL.ev _) (fun h0 => ?_) (fun h0 => ?_)
  · skip
    exfalso
    revert h0
    simp
  · skip
    skip
    refine AW.skip ?_
    refine SQ.normal ?_
    refine AW.seq' ?_
    refine AW.region ?_
    refine AO.c ?_
    refine AO.oo ?_
    refine AO.c ?_
    refine AO.c ?_
    refine AO.c ?_
    refine AO.gx ?_
    refine AO.gxoo ?_
    refine AO.gx ?_
    refine AO.gx ?_
    refine AO.c ?_
    refine AO.c ?_
    refine AO.gx ?_
    refine AO.gxoo ?_
    refine AO.gx ?_
    refine AO.gx ?_
    refine AO.c ?_
    refine AO.c ?_
    refine AO.gx ?_
    refine AO.gxoo ?_
    refine AO.gx ?_
    refine AO.gx ?_
    refine AO.c ?_
    refine AO.c ?_
    refine AO.gx ?_
    refine AO.gxoo ?_
    refine AO.gx ?_
    refine AO.gx ?_
    refine AO.c ?_
    refine AO.c ?_
    refine AO.gxcall1 Try.func71 rfl rfl (fun hgd => rela_Width _) ?_
    refine AO.gx ?_
    refine AO.c ?_
    refine AO.c ?_
    refine AO.nil ?_
    refine SQ.normal ?_
    refine AW.ret ?_
    refine Fin.ret (Gh.refl) noid1 ?_
    show AV.v (.bool _) = AV.v (.bool true)
    congr 2
theorem rela_Tells (b : List Int) (a : Int) (e : RelD) (hB : Bytes b) (hbl : b.length ≤ maxLen) (ha : I64 a) (he : e.ok) : A0 Try.prog 17 [.rd 1 (bys b), .v (.int .i64 (a)), .agg (relA e)] (fun ret => ret = .v (.bool true)) := by
  have hup := up07
  refine A0.body 60 Try.func17 rfl rfl Try.ntmps17 fun base n0 => ?_
  refine AW.seq' ?_
  refine AW.region ?_
  refine AO.ww ?_
  refine AO.c ?_
  refine AO.nil ?_
  refine SQ.normal ?_
  refine AW.seq' ?_
  refine AW.region ?_
  refine AO.call1 Try.func68 rfl rfl (up07) ?_
  refine AO.c ?_
  refine AO.nil ?_
  refine SQ.normal ?_
  refine AW.seq' ?_
  refine AW.seq' ?_
  refine AW.region ?_
  refine AO.c ?_
  refine AO.c ?_
  refine AO.c ?_
  refine AO.nil ?_
  refine SQ.normal ?_
  refine AW.iteB (GL.ev _) (fun h0 => ?_) (fun h0 => ?_)
  · skip
    skip
    refine AW.seq' ?_
    refine AW.region ?_
    refine AO.c ?_
    refine AO.c ?_
    refine AO.nil ?_
    refine SQ.normal ?_
    refine AW.ret ?_
    refine SQ.ret ?_
    refine Fin.ret (Gh.refl) noid1 ?_
    rfl
  · skip
    rw [decide_eq_false_iff_not] at h0
    have hb : b.length ≤ 1000000000000 := by omega
    refine AW.skip ?_
    refine SQ.normal ?_
    refine AW.seq' ?_
    refine AW.region ?_
    refine AO.c ?_
    refine AO.c ?_
    refine AO.call1 Try.func69 rfl rfl (rela_Get _ _ (by assumption) (by omega) (by assumption)) ?_
    refine AO.c ?_
    refine AO.c ?_
    refine AO.c ?_
    refine AO.ww ?_
    refine AO.sst ?_
    refine AO.c ?_
    refine AO.nil ?_
    refine SQ.normal ?_
    refine AW.seq' ?_
    refine AW.region ?_
    refine AO.c ?_
    refine AO.c ?_
    refine AO.call1 Try.func70 rfl rfl (ref_Rel _ _ (by assumption) (by omega) (by assumption)) ?_
    refine AO.c ?_
    refine AO.c ?_
    refine AO.c ?_
    refine AO.ww ?_
    refine AO.sst ?_
    refine AO.c ?_
    refine AO.nil ?_
    refine SQ.normal ?_
    refine AW.seq' ?_
    refine AW.drawsZ [] (.one 0 false (.one 1 false (.one 3 false (.one 4 false (.one 2 true (.one 5 true (.one 6 false (.one 7 false .nil)))))))) (by kernel_rfl) rfl (by kernel_rfl) ?_
    refine AZ.c rfl ?_
    refine AZ.c rfl ?_
    refine AZ.c rfl ?_
    refine AZ.c rfl ?_
    refine AZ.call1 rfl Try.func71 rfl rfl (rela_Width _) ?_
    refine AZ.call1 rfl Try.func72 rfl rfl (ref_Width _) ?_
    refine AZ.c rfl ?_
    refine AZ.c rfl ?_
    refine AZ.done ?_
    refine SQ.normal ?_
    refine AW.seq' ?_
    refine AW.drawsZ [] (.one 0 false (.one 1 false (.one 2 false (.one 3 false (.one 4 false (.one 5 false (.one 6 false (.one 7 false (.one 8 false (.one 9 false (.one 10 false (.one 11 false (.one 12 false (.one 13 false (.one 14 false (.one 15 false (.one 18 false (.one 16 true (.one 17 false (.one 19 true (.one 20 false (.one 21 false (.one 22 false (.one 23 false .nil)))))))))))))))))))))))) (by kernel_rfl) rfl (by kernel_rfl) ?_
    refine AZ.c rfl ?_
    refine AZ.c rfl ?_
    refine AZ.gx rfl ?_
    refine AZ.gx rfl ?_
    refine AZ.gx rfl ?_
    refine AZ.c rfl ?_
    refine AZ.c rfl ?_
    refine AZ.gx rfl ?_
    refine AZ.gx rfl ?_
    refine AZ.gx rfl ?_
    refine AZ.c rfl ?_
    refine AZ.c rfl ?_
    refine AZ.gx rfl ?_
    refine AZ.c rfl ?_
    refine AZ.c rfl ?_
    refine AZ.gx rfl ?_
    refine AZ.gx rfl ?_
    refine AZ.gxcall1 rfl Try.func73 rfl rfl (fun hgd => rela_Put _ (by assumption)) ?_
    refine AZ.gx rfl ?_
    refine AZ.gxcall1 rfl Try.func74 rfl rfl (fun hgd => ref_RelBytes _ (by assumption)) ?_
    refine AZ.gx rfl ?_
    refine AZ.gx rfl ?_
    refine AZ.c rfl ?_
    refine AZ.c rfl ?_
    refine AZ.done ?_
    refine SQ.normal ?_
    refine AW.ret ?_
    refine Fin.ret (Gh.refl) noid1 ?_
    show AV.v (.bool _) = AV.v (.bool true)
    simp
theorem rela_BackL (b : List Int) (a : Int) (e : RelD) (hB : Bytes b) (hbl : b.length ≤ maxLen) (ha : I64 a) (he : e.ok) : A0 Try.prog 18 [.rd 1 (bys b), .v (.int .i64 (a)), .agg (relA e)] (fun ret => ret = .v (.bool true)) := by
  have hup := up07
  have ha0 := ha
  unfold I64 at ha0
  have hek : (if RelOk b a then relOf b a else zeroRel).ok := by
    split
    · rename_i h; exact relOf_ok hB h.2.2
    · unfold RelD.ok zeroRel I64; decide
  refine A0.body 94 Try.func18 rfl rfl Try.ntmps18 fun base n0 => ?_
  refine AW.seq' ?_
  refine AW.region ?_
  refine AO.ww ?_
  refine AO.c ?_
  refine AO.nil ?_
  refine SQ.normal ?_
  refine AW.seq' ?_
  refine AW.region ?_
  refine AO.call1 Try.func68 rfl rfl (up07) ?_
  refine AO.c ?_
  refine AO.nil ?_
  refine SQ.normal ?_
  refine AW.seq' ?_
  refine AW.seq' ?_
  refine AW.region ?_
  refine AO.c ?_
  refine AO.c ?_
  refine AO.c ?_
  refine AO.nil ?_
  refine SQ.normal ?_
  refine AW.iteB (GL.ev _) (fun h0 => ?_) (fun h0 => ?_)
  · skip
    skip
    refine AW.seq' ?_
    refine AW.region ?_
    refine AO.c ?_
    refine AO.c ?_
    refine AO.nil ?_
    refine SQ.normal ?_
    refine AW.ret ?_
    refine SQ.ret ?_
    refine Fin.ret (Gh.refl) noid1 ?_
    rfl
  · skip
    rw [decide_eq_false_iff_not] at h0
    have hb : b.length ≤ 1000000000000 := by omega
    refine AW.skip ?_
    refine SQ.normal ?_
    refine AW.seq' ?_
    refine AW.region ?_
    refine AO.c ?_
    refine AO.c ?_
    refine AO.call1 Try.func69 rfl rfl (rela_Get _ _ (by assumption) (by omega) (by assumption)) ?_
    refine AO.c ?_
    refine AO.c ?_
    refine AO.c ?_
    refine AO.ww ?_
    refine AO.sst ?_
    refine AO.c ?_
    refine AO.nil ?_
    refine SQ.normal ?_
    refine AW.seq' ?_
    refine AW.seq' ?_
    refine AW.region ?_
    refine AO.c ?_
    refine AO.c ?_
    refine AO.gx ?_
    refine AO.gx ?_
    refine AO.gx ?_
    refine AO.gx ?_
    refine AO.gx ?_
    refine AO.gx ?_
    refine AO.gxoo ?_
    refine AO.gx ?_
    refine AO.gx ?_
    refine AO.c ?_
    refine AO.nil ?_
    refine SQ.normal ?_
    refine AW.iteB (GL.ev _) (fun h1 => ?_) (fun h1 => ?_)
    · skip
      exfalso
      simp only [Bool.and_eq_true, Bool.or_eq_true, decide_eq_true_eq] at h1
      obtain ⟨⟨p, q, _⟩, h⟩ := h1
      omega
    · skip
      skip
      refine AW.skip ?_
      refine SQ.normal ?_
      refine AW.seq' ?_
      refine AW.seq' ?_
      refine AW.drawsZ [] (.one 0 false (.one 1 false (.one 2 false (.one 5 false (.one 6 false (.one 7 false (.one 8 false (.one 9 false (.one 10 false (.one 3 true (.one 4 false (.one 11 false (.one 12 false (.one 13 false (.one 14 false (.one 15 true (.one 16 false (.one 17 false (.one 18 false (.one 19 false (.one 20 true (.one 21 false (.one 22 false (.one 23 false (.one 24 false .nil))))))))))))))))))))))))) (by kernel_rfl) rfl (by kernel_rfl) ?_
      refine AZ.c rfl ?_
      refine AZ.c rfl ?_
      refine AZ.gx rfl ?_
      refine AZ.gx rfl ?_
      refine AZ.gx rfl ?_
      refine AZ.gx rfl ?_
      refine AZ.gxo rfl (fun h => by have h := of_decide_eq_true h; unfold RelOk at h; omega) ?_
      refine AZ.gxo rfl (fun h => by have h := of_decide_eq_true h; unfold RelOk at h; simp only [Option.getD_some]; omega) ?_
      refine AZ.gx rfl ?_
      refine AZ.gxcall1 rfl Try.func73 rfl rfl (fun hgd => rela_Put _ (by assumption)) ?_
      refine AZ.gx rfl ?_
      refine AZ.gx rfl ?_
      refine AZ.gx rfl ?_
      refine AZ.gx rfl ?_
      refine AZ.gx rfl ?_
      refine AZ.gxcall1 rfl Try.func71 rfl rfl (fun hgd => rela_Width _) ?_
      refine AZ.gx rfl ?_
      refine AZ.gx rfl ?_
      refine AZ.gx rfl ?_
      refine AZ.gx rfl ?_
      refine AZ.gxcall1 rfl Try.func71 rfl rfl (fun hgd => rela_Width _) ?_
      refine AZ.gx rfl ?_
      refine AZ.gx rfl ?_
      refine AZ.gx rfl ?_
      refine AZ.c rfl ?_
      refine AZ.done ?_
      refine SQ.normal ?_
      refine AW.iteB (GL.ev _) (fun h2 => ?_) (fun h2 => ?_)
      · skip
        exfalso
        simp only [Bool.and_eq_true, Bool.or_eq_true, decide_eq_true_eq] at h2
        obtain ⟨hok, hne⟩ := h2
        have hw := (mayRel_all hok.2.2).2.2.1
        rw [if_pos hok] at hne
        rcases hne with hne | hne
        · apply hne
          rw [if_pos hok.2.2, rel_back hB hok]
          rfl
        · unfold widthF at hne hw
          split at hw
          · rename_i h; rw [if_pos h] at hne; omega
          · rename_i h; rw [if_neg h] at hne
            split at hw
            · rename_i h; rw [if_pos h] at hne; omega
            · omega
      · skip
        skip
        refine AW.skip ?_
        refine SQ.normal ?_
        refine AW.seq' ?_
        refine AW.region ?_
        refine AO.c ?_
        refine AO.call1 Try.func73 rfl rfl (rela_Put _ (by assumption)) ?_
        refine AO.c ?_
        refine AO.nil ?_
        refine SQ.normal ?_
        refine AW.seq' ?_
        refine AW.seq' ?_
        refine AW.region ?_
        refine AO.c ?_
        refine AO.c ?_
        refine AO.c ?_
        refine AO.nil ?_
        refine SQ.normal ?_
        refine AW.iteB (GL.ev _) (fun h3 => ?_) (fun h3 => ?_)
        · skip
          skip
          refine AW.seq' ?_
          refine AW.region ?_
          refine AO.c ?_
          refine AO.c ?_
          refine AO.nil ?_
          refine SQ.normal ?_
          refine AW.ret ?_
          refine SQ.ret ?_
          refine Fin.ret (Gh.refl) noid1 ?_
          rfl
        · skip
          rw [decide_eq_false_iff_not] at h3
          refine AW.skip ?_
          refine SQ.normal ?_
          refine AW.seq' ?_
          refine AW.region ?_
          have hm : mayRelB e = true := by
            rcases Decidable.em (mayRelB e = true) with h | h
            · exact h
            · rw [if_neg h] at h3; exact absurd rfl h3
          have hf := rel_forth b b he hm
          have hlen3 : (b ++ relB e ++ b).length = b.length + 24 + b.length := by rw [List.length_append, List.length_append, relB_len]
          have hg := rela_Get (b ++ relB e ++ b) (b.length : Int) ((hB.append (relB_bytes e)).append hB) (by omega) (by unfold I64; omega)
          rw [if_pos hf.1, hf.2, decide_eq_true hf.1] at hg
          have hel := relB_len e
          refine AO.eq 10 (av' := .rd 1 (bys (relB e))) (by rw [if_pos hm]) ?_
          refine AO.ww ?_
          refine AO.c ?_
          refine AO.ww ?_
          refine AO.c ?_
          refine AO.ww ?_
          refine AO.c ?_
          refine AO.ww ?_
          refine AO.c ?_
          refine AO.c ?_
          refine AO.ghost (Gh.freezeE 74 (li' := b ++ relB e ++ b) (by first | rfl | (simp; done)) (by simp [Nat.add_assoc]) (by omega)) ?_
          refine AO.call1 Try.func69 rfl rfl (hg) ?_
          refine AO.c ?_
          refine AO.c ?_
          refine AO.c ?_
          refine AO.ww ?_
          refine AO.sst ?_
          refine AO.c ?_
          refine AO.nil ?_
          refine SQ.normal ?_
          refine AW.seq' ?_
          refine AW.region ?_
          refine AO.c ?_
          refine AO.c ?_
          refine AO.gx ?_
          refine AO.gx ?_
          refine AO.gx ?_
          refine AO.c ?_
          refine AO.c ?_
          refine AO.gx ?_
          refine AO.c ?_
          refine AO.c ?_
          refine AO.gx ?_
          refine AO.gx ?_
          refine AO.gx ?_
          refine AO.c ?_
          refine AO.c ?_
          refine AO.nil ?_
          refine SQ.normal ?_
          refine AW.ret ?_
          refine Fin.ret (Gh.refl) noid1 ?_
          show AV.v (.bool _) = AV.v (.bool true)
          simp [relB_len]

theorem ta_rel {avs : List AV} (h : TA Try.prog 92 avs) : ∃ r : RelD, avs = relA r ∧ r.ok := by
  have h1 := h.inv_struct
  obtain ⟨a1, b1, rfl, k1, h2⟩ := TAs.inv_cons h1
  obtain ⟨a2, b2, rfl, k2, h3⟩ := TAs.inv_cons h2
  obtain ⟨a3, b3, rfl, k3, h4⟩ := TAs.inv_cons h3
  obtain ⟨a4, b4, rfl, k4, h5⟩ := TAs.inv_cons h4
  obtain rfl := TAs.inv_nil h5
  obtain ⟨n1, rfl, w1⟩ := k1.inv_int (k := .i64)
  obtain ⟨n2, rfl, w2⟩ := k2.inv_int (k := .i64)
  obtain ⟨n3, rfl, w3⟩ := k3.inv_int (k := .i64)
  obtain ⟨n4, rfl, w4⟩ := k4.inv_int (k := .i64)
  exact ⟨⟨n1, n2, n3, n4⟩, rfl, wf_i64 w1, wf_i64 w2, wf_i64 w3, wf_i64 w4⟩
theorem args_rela {f : FuncId} (hf : ∀ (b : List Int) (a : Int) (e : RelD) (hB : Bytes b) (hbl : b.length ≤ maxLen) (ha : I64 a) (he : e.ok), A0 Try.prog f [.rd 1 (bys b), .v (.int .i64 a), .agg (relA e)] (fun ret => ret = .v (.bool true))) {avs : List AV} (h : TArgs Try.prog [22, 3, 92] avs) : A0 Try.prog f avs (fun ret => ret = .v (.bool true)) := by
  obtain ⟨av1, b1, rfl, k1, h1⟩ := TArgs.inv_one rfl h
  obtain ⟨av2, b2, rfl, k2, h2⟩ := TArgs.inv_one rfl h1
  obtain ⟨cs, b3, rfl, k3, h3⟩ := TArgs.inv_agg h2
  obtain rfl := TArgs.inv_nil h3
  obtain ⟨b, he1, w1, q1⟩ := TA.inv_bytes (e := 5) k1
  cases he1
  obtain ⟨n, he2, w2⟩ := k2.inv_int (k := .i64)
  cases he2
  obtain ⟨e, rfl, he⟩ := ta_rel k3
  exact hf b n e q1 w1 (wf_i64 w2) he
theorem args_RelaTells {avs : List AV} (h : TArgs Try.prog [22, 3, 92] avs) : A0 Try.prog 17 avs (fun ret => ret = .v (.bool true)) := args_rela rela_Tells h
theorem args_RelaBack {avs : List AV} (h : TArgs Try.prog [22, 3, 92] avs) : A0 Try.prog 18 avs (fun ret => ret = .v (.bool true)) := args_rela rela_BackL h


end Go.Proofs.Ytbaibjhkmajplaa.AL
