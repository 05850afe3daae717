/- What functions of the program compute, each by its own contract; the conditions stand with each. -/
import Derived.Test.YtbaibjhkmajplaaFShdr
namespace Go.Proofs.Ytbaibjhkmajplaa.AL
open Go Go.RowKit Go.Proofs.Ytbaibjhkmajplaa.Base
set_option linter.unusedVariables false
set_option linter.unusedSimpArgs false
set_option maxRecDepth 4000
set_option synthInstance.maxSize 1000
theorem up05  : A0 Try.prog 62 [] (fun ret => ret = .v (.bool true)) := by
  have hz : (ShD.mk 0 3 0 0 0 0 0 0 0 24).ok := by
    intro x hx; simp only [ShD.list, List.mem_cons, List.not_mem_nil, or_false] at hx
    rcases hx with rfl | rfl | rfl | rfl | rfl | rfl | rfl | rfl | rfl | rfl <;> decide
  have hm : (ShD.mk 0 3 0 0 0 0 0 0 0 24).may := by decide
  have hp := shdr_Put (ShD.mk 0 3 0 0 0 0 0 0 0 24) hz
  rw [if_pos hm] at hp
  have hf := sh_forth [9] [] hm
  rw [List.append_nil] at hf
  have hel := bytes_len (ShD.mk 0 3 0 0 0 0 0 0 0 24)
  have hg := shdr_Get ([9] ++ (ShD.mk 0 3 0 0 0 0 0 0 0 24).bytes) 1 (Bytes.append (by intro x hx; simp at hx; omega) (joinW_bytes _ _)) (by rw [List.length_append, hel]; decide) (by decide)
  rw [if_pos (show ShOk ([9] ++ (ShD.mk 0 3 0 0 0 0 0 0 0 24).bytes) 1 from hf.1), show shOf ([9] ++ (ShD.mk 0 3 0 0 0 0 0 0 0 24).bytes) 1 = (ShD.mk 0 3 0 0 0 0 0 0 0 24) from hf.2, decide_eq_true (show ShOk ([9] ++ (ShD.mk 0 3 0 0 0 0 0 0 0 24).bytes) 1 from hf.1)] at hg
  have hgl : ([9] ++ (ShD.mk 0 3 0 0 0 0 0 0 0 24).bytes).length = 65 := by rw [List.length_append, hel]; rfl
  refine A0.body 24 Try.func62 rfl rfl Try.ntmps62 fun base n0 => ?_
  refine AW.seq' ?_
  refine AW.region ?_
  refine AO.c ?_
  refine AO.nil ?_
  refine SQ.normal ?_
  refine AW.seq' ?_
  refine AW.region ?_
  refine AO.c ?_
  refine AO.call1 Try.func66 rfl rfl (hp) ?_
  refine AO.c ?_
  refine AO.nil ?_
  refine SQ.normal ?_
  refine AW.seq' ?_
  refine AW.region ?_
  refine AO.ww ?_
  refine AO.c ?_
  refine AO.ww ?_
  refine AO.ghost (Gh.freezeE 9 (li' := [9] ++ (ShD.mk 0 3 0 0 0 0 0 0 0 24).bytes) (by first | rfl | (simp; done)) (by first | rfl | (simp; done)) (by omega)) ?_
  refine AO.call1 Try.func63 rfl rfl (hg) ?_
  refine AO.c ?_
  refine AO.c ?_
  refine AO.c ?_
  refine AO.ww ?_
  refine AO.sst ?_
  refine AO.c ?_
  refine AO.nil ?_
  refine SQ.normal ?_
  refine AW.seq' ?_
  refine AW.region ?_
  refine AO.c ?_
  refine AO.c ?_
  refine AO.c ?_
  refine AO.c ?_
  refine AO.gx ?_
  refine AO.c ?_
  refine AO.c ?_
  refine AO.gx ?_
  refine AO.gx ?_
  refine AO.gx ?_
  refine AO.c ?_
  refine AO.c ?_
  refine AO.nil ?_
  refine SQ.normal ?_
  refine AW.ret ?_
  refine Fin.ret (Gh.refl) noid1 ?_
  show AV.v (.bool _) = AV.v (.bool true)
  simp [hel]
theorem shdr_Tells (b : List Int) (a : Int) (e : ShD) (hB : Bytes b) (hbl : b.length ≤ maxLen) (ha : I64 a) (he : e.ok) : A0 Try.prog 15 [.rd 1 (bys b), .v (.int .i64 (a)), .agg (shA e)] (fun ret => ret = .v (.bool true)) := by
  have hup := up05
  refine A0.body 51 Try.func15 rfl rfl Try.ntmps15 fun base n0 => ?_
  refine AW.seq' ?_
  refine AW.region ?_
  refine AO.ww ?_
  refine AO.c ?_
  refine AO.nil ?_
  refine SQ.normal ?_
  refine AW.seq' ?_
  refine AW.region ?_
  refine AO.call1 Try.func62 rfl rfl (up05) ?_
  refine AO.c ?_
  refine AO.nil ?_
  refine SQ.normal ?_
  refine AW.seq' ?_
  refine AW.seq' ?_
  refine AW.region ?_
  refine AO.c ?_
  refine AO.c ?_
  refine AO.c ?_
  refine AO.nil ?_
  refine SQ.normal ?_
  refine AW.iteB (GL.ev _) (fun h0 => ?_) (fun h0 => ?_)
  · skip
    skip
    refine AW.seq' ?_
    refine AW.region ?_
    refine AO.c ?_
    refine AO.c ?_
    refine AO.nil ?_
    refine SQ.normal ?_
    refine AW.ret ?_
    refine SQ.ret ?_
    refine Fin.ret (Gh.refl) noid1 ?_
    rfl
  · skip
    rw [decide_eq_false_iff_not] at h0
    have hb : b.length ≤ 1000000000000 := by omega
    refine AW.skip ?_
    refine SQ.normal ?_
    refine AW.seq' ?_
    refine AW.region ?_
    refine AO.c ?_
    refine AO.c ?_
    refine AO.call1 Try.func63 rfl rfl (shdr_Get _ _ (by assumption) (by omega) (by assumption)) ?_
    refine AO.c ?_
    refine AO.c ?_
    refine AO.c ?_
    refine AO.ww ?_
    refine AO.sst ?_
    refine AO.c ?_
    refine AO.nil ?_
    refine SQ.normal ?_
    refine AW.seq' ?_
    refine AW.region ?_
    refine AO.c ?_
    refine AO.c ?_
    refine AO.call1 Try.func64 rfl rfl (ref_Section _ _ (by assumption) (by omega) (by assumption)) ?_
    refine AO.c ?_
    refine AO.c ?_
    refine AO.c ?_
    refine AO.ww ?_
    refine AO.sst ?_
    refine AO.c ?_
    refine AO.nil ?_
    refine SQ.normal ?_
    refine AW.seq' ?_
    refine AW.drawsZ [] (.one 0 false (.one 1 false (.one 2 false (.one 3 false (.one 4 false (.one 5 false (.one 6 false (.one 7 false (.one 9 false (.one 8 true (.one 10 false (.one 11 false (.one 12 false (.one 13 false (.one 16 false (.one 14 true (.one 15 false (.one 17 true (.one 18 true (.one 19 false (.one 20 false (.one 21 false (.one 22 false .nil))))))))))))))))))))))) (by kernel_rfl) rfl (by kernel_rfl) ?_
    refine AZ.c rfl ?_
    refine AZ.c rfl ?_
    refine AZ.gx rfl ?_
    refine AZ.gx rfl ?_
    refine AZ.gx rfl ?_
    refine AZ.c rfl ?_
    refine AZ.c rfl ?_
    refine AZ.gx rfl ?_
    refine AZ.gx rfl ?_
    refine AZ.gxcall1 rfl Try.func65 rfl rfl (fun hgd => like05 _) ?_
    refine AZ.gx rfl ?_
    refine AZ.c rfl ?_
    refine AZ.c rfl ?_
    refine AZ.gx rfl ?_
    refine AZ.gx rfl ?_
    refine AZ.gxcall1 rfl Try.func66 rfl rfl (fun hgd => shdr_Put _ (by assumption)) ?_
    refine AZ.gx rfl ?_
    refine AZ.gxcall1 rfl Try.func65 rfl rfl (fun hgd => like05 _) ?_
    refine AZ.gxcall1 rfl Try.func67 rfl rfl (fun hgd => ref_HeadBytes _ (by assumption)) ?_
    refine AZ.gx rfl ?_
    refine AZ.gx rfl ?_
    refine AZ.c rfl ?_
    refine AZ.c rfl ?_
    refine AZ.done ?_
    refine SQ.normal ?_
    refine AW.ret ?_
    refine Fin.ret (Gh.refl) noid1 ?_
    show AV.v (.bool _) = AV.v (.bool true)
    simp
theorem shdr_BackL (b : List Int) (a : Int) (e : ShD) (hB : Bytes b) (hbl : b.length ≤ maxLen) (ha : I64 a) (he : e.ok) : A0 Try.prog 16 [.rd 1 (bys b), .v (.int .i64 (a)), .agg (shA e)] (fun ret => ret = .v (.bool true)) := by
  have hup := up05
  have ha0 := ha
  unfold I64 at ha0
  have hek : (if ShOk b a then shOf b a else zeroSh).ok := by
    split
    · rename_i h; exact fun x hx => by have := h.2.2 x hx; unfold I64; omega
    · intro x hx; simp [ShD.list, zeroSh] at hx; subst hx; decide
  refine A0.body 82 Try.func16 rfl rfl Try.ntmps16 fun base n0 => ?_
  refine AW.seq' ?_
  refine AW.region ?_
  refine AO.ww ?_
  refine AO.c ?_
  refine AO.nil ?_
  refine SQ.normal ?_
  refine AW.seq' ?_
  refine AW.region ?_
  refine AO.call1 Try.func62 rfl rfl (up05) ?_
  refine AO.c ?_
  refine AO.nil ?_
  refine SQ.normal ?_
  refine AW.seq' ?_
  refine AW.seq' ?_
  refine AW.region ?_
  refine AO.c ?_
  refine AO.c ?_
  refine AO.c ?_
  refine AO.nil ?_
  refine SQ.normal ?_
  refine AW.iteB (GL.ev _) (fun h0 => ?_) (fun h0 => ?_)
  · skip
    skip
    refine AW.seq' ?_
    refine AW.region ?_
    refine AO.c ?_
    refine AO.c ?_
    refine AO.nil ?_
    refine SQ.normal ?_
    refine AW.ret ?_
    refine SQ.ret ?_
    refine Fin.ret (Gh.refl) noid1 ?_
    rfl
  · skip
    rw [decide_eq_false_iff_not] at h0
    have hb : b.length ≤ 1000000000000 := by omega
    refine AW.skip ?_
    refine SQ.normal ?_
    refine AW.seq' ?_
    refine AW.region ?_
    refine AO.c ?_
    refine AO.c ?_
    refine AO.call1 Try.func63 rfl rfl (shdr_Get _ _ (by assumption) (by omega) (by assumption)) ?_
    refine AO.c ?_
    refine AO.c ?_
    refine AO.c ?_
    refine AO.ww ?_
    refine AO.sst ?_
    refine AO.c ?_
    refine AO.nil ?_
    refine SQ.normal ?_
    refine AW.seq' ?_
    refine AW.seq' ?_
    refine AW.region ?_
    refine AO.c ?_
    refine AO.c ?_
    refine AO.gx ?_
    refine AO.gx ?_
    refine AO.gx ?_
    refine AO.gx ?_
    refine AO.gx ?_
    refine AO.gx ?_
    refine AO.gxoo ?_
    refine AO.gx ?_
    refine AO.gx ?_
    refine AO.c ?_
    refine AO.nil ?_
    refine SQ.normal ?_
    refine AW.iteB (GL.ev _) (fun h1 => ?_) (fun h1 => ?_)
    · skip
      exfalso
      simp only [Bool.and_eq_true, Bool.or_eq_true, decide_eq_true_eq] at h1
      obtain ⟨⟨p, q, _⟩, h⟩ := h1
      omega
    · skip
      skip
      refine AW.skip ?_
      refine SQ.normal ?_
      refine AW.seq' ?_
      refine AW.seq' ?_
      refine AW.drawsZ [] (.one 0 false (.one 1 false (.one 2 false (.one 5 false (.one 6 false (.one 7 false (.one 8 false (.one 9 false (.one 10 false (.one 3 true (.one 4 false (.one 11 false (.one 12 false .nil))))))))))))) (by kernel_rfl) rfl (by kernel_rfl) ?_
      refine AZ.c rfl ?_
      refine AZ.c rfl ?_
      refine AZ.gx rfl ?_
      refine AZ.gx rfl ?_
      refine AZ.gx rfl ?_
      refine AZ.gx rfl ?_
      refine AZ.gxo rfl (fun h => by have h := of_decide_eq_true h; unfold ShOk at h; omega) ?_
      refine AZ.gxo rfl (fun h => by have h := of_decide_eq_true h; unfold ShOk at h; simp only [Option.getD_some]; omega) ?_
      refine AZ.gx rfl ?_
      refine AZ.gxcall1 rfl Try.func66 rfl rfl (fun hgd => shdr_Put _ (by assumption)) ?_
      refine AZ.gx rfl ?_
      refine AZ.gx rfl ?_
      refine AZ.c rfl ?_
      refine AZ.done ?_
      refine SQ.normal ?_
      refine AW.iteB (GL.ev _) (fun h2 => ?_) (fun h2 => ?_)
      · skip
        exfalso
        simp only [Bool.and_eq_true, decide_eq_true_eq] at h2
        obtain ⟨hok, hne⟩ := h2
        apply hne
        rw [if_pos hok, if_pos hok.2.2, sh_back hB hok]
        rfl
      · skip
        skip
        refine AW.skip ?_
        refine SQ.normal ?_
        refine AW.seq' ?_
        refine AW.region ?_
        refine AO.c ?_
        refine AO.call1 Try.func66 rfl rfl (shdr_Put _ (by assumption)) ?_
        refine AO.c ?_
        refine AO.nil ?_
        refine SQ.normal ?_
        refine AW.seq' ?_
        refine AW.seq' ?_
        refine AW.region ?_
        refine AO.c ?_
        refine AO.c ?_
        refine AO.c ?_
        refine AO.nil ?_
        refine SQ.normal ?_
        refine AW.iteB (GL.ev _) (fun h3 => ?_) (fun h3 => ?_)
        · skip
          skip
          refine AW.seq' ?_
          refine AW.region ?_
          refine AO.c ?_
          refine AO.c ?_
          refine AO.nil ?_
          refine SQ.normal ?_
          refine AW.ret ?_
          refine SQ.ret ?_
          refine Fin.ret (Gh.refl) noid1 ?_
          rfl
        · skip
          rw [decide_eq_false_iff_not] at h3
          refine AW.skip ?_
          refine SQ.normal ?_
          refine AW.seq' ?_
          refine AW.region ?_
          have hm : e.may := by
            rcases Decidable.em (e.may) with h | h
            · exact h
            · rw [if_neg h] at h3; exact absurd rfl h3
          have hf := sh_forth b b hm
          have hlen3 : (b ++ e.bytes ++ b).length = b.length + 64 + b.length := by rw [List.length_append, List.length_append, bytes_len]
          have hg := shdr_Get (b ++ e.bytes ++ b) (b.length : Int) ((hB.append (joinW_bytes _ _)).append hB) (by omega) (by unfold I64; omega)
          rw [if_pos hf.1, hf.2, decide_eq_true hf.1] at hg
          have hel := bytes_len e
          refine AO.eq 10 (av' := .rd 1 (bys (e.bytes))) (by rw [if_pos hm]) ?_
          refine AO.ww ?_
          refine AO.c ?_
          refine AO.ww ?_
          refine AO.c ?_
          refine AO.ww ?_
          refine AO.c ?_
          refine AO.ww ?_
          refine AO.c ?_
          refine AO.c ?_
          refine AO.ghost (Gh.freezeE 62 (li' := b ++ e.bytes ++ b) (by first | rfl | (simp; done)) (by simp [Nat.add_assoc]) (by omega)) ?_
          refine AO.call1 Try.func63 rfl rfl (hg) ?_
          refine AO.c ?_
          refine AO.c ?_
          refine AO.c ?_
          refine AO.ww ?_
          refine AO.sst ?_
          refine AO.c ?_
          refine AO.nil ?_
          refine SQ.normal ?_
          refine AW.seq' ?_
          refine AW.region ?_
          refine AO.c ?_
          refine AO.c ?_
          refine AO.gx ?_
          refine AO.gx ?_
          refine AO.gx ?_
          refine AO.c ?_
          refine AO.c ?_
          refine AO.gx ?_
          refine AO.c ?_
          refine AO.c ?_
          refine AO.gx ?_
          refine AO.gx ?_
          refine AO.gx ?_
          refine AO.c ?_
          refine AO.c ?_
          refine AO.nil ?_
          refine SQ.normal ?_
          refine AW.ret ?_
          refine Fin.ret (Gh.refl) noid1 ?_
          show AV.v (.bool _) = AV.v (.bool true)
          simp [bytes_len]

theorem ta_sh {avs : List AV} (h : TA Try.prog 81 avs) : ∃ e : ShD, avs = shA e ∧ e.ok := by
  have h0 := h.inv_struct
  obtain ⟨a1, b1, rfl, k1, h1⟩ := TAs.inv_cons h0
  obtain ⟨a2, b2, rfl, k2, h2⟩ := TAs.inv_cons h1
  obtain ⟨a3, b3, rfl, k3, h3⟩ := TAs.inv_cons h2
  obtain ⟨a4, b4, rfl, k4, h4⟩ := TAs.inv_cons h3
  obtain ⟨a5, b5, rfl, k5, h5⟩ := TAs.inv_cons h4
  obtain ⟨a6, b6, rfl, k6, h6⟩ := TAs.inv_cons h5
  obtain ⟨a7, b7, rfl, k7, h7⟩ := TAs.inv_cons h6
  obtain ⟨a8, b8, rfl, k8, h8⟩ := TAs.inv_cons h7
  obtain ⟨a9, b9, rfl, k9, h9⟩ := TAs.inv_cons h8
  obtain ⟨a10, b10, rfl, k10, h10⟩ := TAs.inv_cons h9
  obtain rfl := TAs.inv_nil h10
  obtain ⟨n1, rfl, w1⟩ := k1.inv_int (k := .i64)
  obtain ⟨n2, rfl, w2⟩ := k2.inv_int (k := .i64)
  obtain ⟨n3, rfl, w3⟩ := k3.inv_int (k := .i64)
  obtain ⟨n4, rfl, w4⟩ := k4.inv_int (k := .i64)
  obtain ⟨n5, rfl, w5⟩ := k5.inv_int (k := .i64)
  obtain ⟨n6, rfl, w6⟩ := k6.inv_int (k := .i64)
  obtain ⟨n7, rfl, w7⟩ := k7.inv_int (k := .i64)
  obtain ⟨n8, rfl, w8⟩ := k8.inv_int (k := .i64)
  obtain ⟨n9, rfl, w9⟩ := k9.inv_int (k := .i64)
  obtain ⟨n10, rfl, w10⟩ := k10.inv_int (k := .i64)
  refine ⟨⟨n1, n2, n3, n4, n5, n6, n7, n8, n9, n10⟩, rfl, ?_⟩
  intro x hx
  simp only [ShD.list, List.mem_cons, List.not_mem_nil, or_false] at hx
  rcases hx with rfl | rfl | rfl | rfl | rfl | rfl | rfl | rfl | rfl | rfl <;> exact wf_i64 (by assumption)
theorem args_shdr {f : FuncId} (hf : ∀ (b : List Int) (a : Int) (e : ShD) (hB : Bytes b) (hbl : b.length ≤ maxLen) (ha : I64 a) (he : e.ok), A0 Try.prog f [.rd 1 (bys b), .v (.int .i64 a), .agg (shA e)] (fun ret => ret = .v (.bool true))) {avs : List AV} (h : TArgs Try.prog [22, 3, 81] avs) : A0 Try.prog f avs (fun ret => ret = .v (.bool true)) := by
  obtain ⟨av1, b1, rfl, k1, h1⟩ := TArgs.inv_one rfl h
  obtain ⟨av2, b2, rfl, k2, h2⟩ := TArgs.inv_one rfl h1
  obtain ⟨cs, b3, rfl, k3, h3⟩ := TArgs.inv_agg h2
  obtain rfl := TArgs.inv_nil h3
  obtain ⟨b, he1, w1, q1⟩ := TA.inv_bytes (e := 5) k1
  cases he1
  obtain ⟨n, he2, w2⟩ := k2.inv_int (k := .i64)
  cases he2
  obtain ⟨e, rfl, he⟩ := ta_sh k3
  exact hf b n e q1 w1 (wf_i64 w2) he
theorem args_ShdrTells {avs : List AV} (h : TArgs Try.prog [22, 3, 81] avs) : A0 Try.prog 15 avs (fun ret => ret = .v (.bool true)) := args_shdr shdr_Tells h
theorem args_ShdrBack {avs : List AV} (h : TArgs Try.prog [22, 3, 81] avs) : A0 Try.prog 16 avs (fun ret => ret = .v (.bool true)) := args_shdr shdr_BackL h


end Go.Proofs.Ytbaibjhkmajplaa.AL
