/- What functions of the program compute, each by its own contract; the conditions stand with each. -/
import Derived.Test.YtbaibjhkmajplaaFSym
namespace Go.Proofs.Ytbaibjhkmajplaa.AL
open Go Go.RowKit Go.Proofs.Ytbaibjhkmajplaa.Base
set_option linter.unusedVariables false
set_option linter.unusedSimpArgs false
set_option maxRecDepth 4000
set_option synthInstance.maxSize 1000

theorem ok_may {e : EntD} (h : MayE e) : e.ok := by
  unfold MayE at h
  unfold EntD.ok I64
  omega
theorem sym_split {b : List Int} {a : Int} (h0 : 0 ≤ a) (h1 : a + 24 ≤ b.length) : splitW EntW (b.drop a.toNat) = [numAt b a 4, b.getD (a + 4).toNat 0, b.getD (a + 5).toNat 0, numAt b (a + 6) 2, numAt b (a + 8) 8, numAt b (a + 16) 8] := by
  have e4 : (a + 4).toNat = a.toNat + 4 := by omega
  have e5 : (a + 5).toNat = a.toNat + 4 + 1 := by omega
  have e6 : (a + 6).toNat = a.toNat + 4 + 1 + 1 := by omega
  have e8 : (a + 8).toNat = a.toNat + 4 + 1 + 1 + 2 := by omega
  have e16 : (a + 16).toNat = a.toNat + 4 + 1 + 1 + 2 + 8 := by omega
  have n1 : num ((b.drop (a.toNat + 4)).take 1) = b.getD (a.toNat + 4) 0 := by rw [num_one _ _ (by omega), List.getD_eq_getElem?_getD, List.getElem?_eq_getElem (by omega)]; rfl
  have n2 : num ((b.drop (a.toNat + 4 + 1)).take 1) = b.getD (a.toNat + 4 + 1) 0 := by rw [num_one _ _ (by omega), List.getD_eq_getElem?_getD, List.getElem?_eq_getElem (by omega)]; rfl
  simp only [EntW, splitW, List.drop_drop, numAt, e4, e5, e6, e8, e16, n1, n2]
  rfl
theorem entB_join (e : EntD) (h : MayE e) : entB e = joinW EntW [e.name, 16 * e.bind + e.typ, 0, e.idx, e.val, e.size] := by
  unfold MayE at h
  show _ = dig e.name 4 ++ (dig (16 * e.bind + e.typ) 1 ++ (dig 0 1 ++ (dig e.idx 2 ++ (dig e.val 8 ++ (dig e.size 8 ++ [])))))
  rw [dig_one _ (by omega) (by omega)]
  unfold entB
  simp [dig]
theorem entB_bytes (e : EntD) (h : MayE e) : Bytes (entB e) := by rw [entB_join e h]; exact joinW_bytes _ _
theorem sym_back {b : List Int} {a : Int} (hB : Bytes b) (h : SymOk b a) : entB (entOf b a) = (b.take (a + 24).toNat).drop a.toNat := by
  obtain ⟨h0, h1, h2, h3⟩ := h
  have hs := sym_split h0 h1
  have hj := join_split EntW (b.drop a.toNat) (hB.drop _) (by simp [EntW]; omega)
  rw [hs, h2] at hj
  rw [entB_join _ h3, show (a + 24).toNat = a.toNat + 24 by omega, List.drop_take, Nat.add_sub_cancel_left]
  have e1 : 16 * (entOf b a).bind + (entOf b a).typ = b.getD (a + 4).toNat 0 := by
    show 16 * (b.getD (a + 4).toNat 0 / 16) + b.getD (a + 4).toNat 0 % 16 = _
    omega
  rw [e1]
  exact hj
theorem sym_forth (b c : List Int) {e : EntD} (h : MayE e) : SymOk (b ++ entB e ++ c) (b.length : Int) ∧ entOf (b ++ entB e ++ c) (b.length : Int) = e := by
  have hl : (b.length : Int) + 24 ≤ ((b ++ entB e ++ c).length : Nat) := by rw [List.length_append, List.length_append, entB_len]; omega
  have hs := sym_split (b := b ++ entB e ++ c) (a := (b.length : Int)) (by omega) hl
  have hm := h
  unfold MayE at hm
  have hj := split_join EntW [e.name, 16 * e.bind + e.typ, 0, e.idx, e.val, e.size] c rfl (by
    intro p hp
    simp [EntW] at hp
    rcases hp with rfl | rfl | rfl | rfl | rfl | rfl <;> simp <;> omega)
  rw [← entB_join e h] at hj
  rw [List.append_assoc, Int.toNat_natCast, List.drop_left, hj] at hs
  rw [← List.append_assoc] at hs
  simp only [List.cons.injEq, and_true] at hs
  obtain ⟨a1, a2, a3, a4, a5, a6⟩ := hs
  have he : entOf (b ++ entB e ++ c) (b.length : Int) = e := by
    unfold entOf
    rw [← a1, ← a2, ← a4, ← a5, ← a6]
    cases e
    simp only [EntD.mk.injEq, true_and, and_true]
    simp only at hm
    omega
  exact ⟨⟨by omega, hl, a3.symm, by rw [he]; exact h⟩, he⟩

theorem up06  : A0 Try.prog 56 [] (fun ret => ret = .v (.bool true)) := by
  have hz : (EntD.mk 1 1 2 3 0 0).ok := by unfold EntD.ok I64; decide
  have hm : MayE (EntD.mk 1 1 2 3 0 0) := by decide
  have he : entB (EntD.mk 1 1 2 3 0 0) = [1, 0, 0, 0, 18, 0, 3, 0, 0, 0, 0, 0, 0, 0, 0, 0, 0, 0, 0, 0, 0, 0, 0, 0] := by decide
  have hp := sym_Put (EntD.mk 1 1 2 3 0 0) hz
  rw [if_pos hm, he] at hp
  refine A0.body 13 Try.func56 rfl rfl Try.ntmps56 fun base n0 => ?_
  refine AW.seq' ?_
  refine AW.region ?_
  refine AO.c ?_
  refine AO.nil ?_
  refine SQ.normal ?_
  refine AW.seq' ?_
  refine AW.region ?_
  refine AO.c ?_
  refine AO.call1 Try.func60 rfl rfl (hp) ?_
  refine AO.c ?_
  refine AO.nil ?_
  refine SQ.normal ?_
  refine AW.seq' ?_
  refine AW.seq' ?_
  refine AW.region ?_
  refine AO.c ?_
  refine AO.c ?_
  refine AO.c ?_
  refine AO.nil ?_
  refine SQ.normal ?_
  refine AW.iteB (GL.ev _) (fun h0 => ?_) (fun h0 => ?_)
  · skip
    exfalso
    revert h0
    simp
  · skip
    skip
    refine AW.skip ?_
    refine SQ.normal ?_
    refine AW.seq' ?_
    refine AW.drawsZ [] (.one 0 false (.one 1 false (.one 2 false (.one 3 true (.one 4 false (.one 5 false (.one 6 false .nil))))))) (by kernel_rfl) rfl (by kernel_rfl) ?_
    refine AZ.c rfl ?_
    refine AZ.oo rfl ?_
    refine AZ.c rfl ?_
    refine AZ.rr rfl ?_
    refine AZ.c rfl ?_
    refine AZ.c rfl ?_
    refine AZ.c rfl ?_
    refine AZ.done ?_
    refine SQ.normal ?_
    refine AW.ret ?_
    refine Fin.ret (Gh.refl) noid1 ?_
    show AV.v (.bool (decide _)) = AV.v (.bool true)
    rw [decide_eq_true (by rfl)]
theorem sym_Tells (b : List Int) (a : Int) (e : EntD) (hB : Bytes b) (hbl : b.length ≤ maxLen) (ha : I64 a) (he : e.ok) : A0 Try.prog 13 [.rd 1 (bys b), .v (.int .i64 (a)), .agg (entA e)] (fun ret => ret = .v (.bool true)) := by
  have hup := up06
  refine A0.body 51 Try.func13 rfl rfl Try.ntmps13 fun base n0 => ?_
  refine AW.seq' ?_
  refine AW.region ?_
  refine AO.ww ?_
  refine AO.c ?_
  refine AO.nil ?_
  refine SQ.normal ?_
  refine AW.seq' ?_
  refine AW.region ?_
  refine AO.call1 Try.func56 rfl rfl (up06) ?_
  refine AO.c ?_
  refine AO.nil ?_
  refine SQ.normal ?_
  refine AW.seq' ?_
  refine AW.seq' ?_
  refine AW.region ?_
  refine AO.c ?_
  refine AO.c ?_
  refine AO.c ?_
  refine AO.nil ?_
  refine SQ.normal ?_
  refine AW.iteB (GL.ev _) (fun h0 => ?_) (fun h0 => ?_)
  · skip
    skip
    refine AW.seq' ?_
    refine AW.region ?_
    refine AO.c ?_
    refine AO.c ?_
    refine AO.nil ?_
    refine SQ.normal ?_
    refine AW.ret ?_
    refine SQ.ret ?_
    refine Fin.ret (Gh.refl) noid1 ?_
    rfl
  · skip
    rw [decide_eq_false_iff_not] at h0
    have hb : b.length ≤ 1000000000000 := by omega
    refine AW.skip ?_
    refine SQ.normal ?_
    refine AW.seq' ?_
    refine AW.region ?_
    refine AO.c ?_
    refine AO.c ?_
    refine AO.call1 Try.func57 rfl rfl (sym_Get _ _ (by assumption) (by omega) (by assumption)) ?_
    refine AO.c ?_
    refine AO.c ?_
    refine AO.c ?_
    refine AO.ww ?_
    refine AO.sst ?_
    refine AO.c ?_
    refine AO.nil ?_
    refine SQ.normal ?_
    refine AW.seq' ?_
    refine AW.region ?_
    refine AO.c ?_
    refine AO.c ?_
    refine AO.call1 Try.func58 rfl rfl (ref_Symbol _ _ (by assumption) (by omega) (by assumption)) ?_
    refine AO.c ?_
    refine AO.c ?_
    refine AO.c ?_
    refine AO.ww ?_
    refine AO.sst ?_
    refine AO.c ?_
    refine AO.nil ?_
    refine SQ.normal ?_
    refine AW.seq' ?_
    refine AW.drawsZ [] (.one 0 false (.one 1 false (.one 2 false (.one 3 false (.one 4 false (.one 5 false (.one 6 false (.one 7 false (.one 9 false (.one 8 true (.one 10 false (.one 11 false (.one 12 false (.one 13 false (.one 16 false (.one 14 true (.one 15 false (.one 17 true (.one 18 true (.one 19 false (.one 20 false (.one 21 false (.one 22 false .nil))))))))))))))))))))))) (by kernel_rfl) rfl (by kernel_rfl) ?_
    refine AZ.c rfl ?_
    refine AZ.c rfl ?_
    refine AZ.gx rfl ?_
    refine AZ.gx rfl ?_
    refine AZ.gx rfl ?_
    refine AZ.c rfl ?_
    refine AZ.c rfl ?_
    refine AZ.gx rfl ?_
    refine AZ.gx rfl ?_
    refine AZ.gxcall1 rfl Try.func59 rfl rfl (fun hgd => like06 _) ?_
    refine AZ.gx rfl ?_
    refine AZ.c rfl ?_
    refine AZ.c rfl ?_
    refine AZ.gx rfl ?_
    refine AZ.gx rfl ?_
    refine AZ.gxcall1 rfl Try.func60 rfl rfl (fun hgd => sym_Put _ (by assumption)) ?_
    refine AZ.gx rfl ?_
    refine AZ.gxcall1 rfl Try.func59 rfl rfl (fun hgd => like06 _) ?_
    refine AZ.gxcall1 rfl Try.func61 rfl rfl (fun hgd => ref_EntryBytes _ (by assumption)) ?_
    refine AZ.gx rfl ?_
    refine AZ.gx rfl ?_
    refine AZ.c rfl ?_
    refine AZ.c rfl ?_
    refine AZ.done ?_
    refine SQ.normal ?_
    refine AW.ret ?_
    refine Fin.ret (Gh.refl) noid1 ?_
    show AV.v (.bool _) = AV.v (.bool true)
    simp
theorem sym_BackL (b : List Int) (a : Int) (e : EntD) (hB : Bytes b) (hbl : b.length ≤ maxLen) (ha : I64 a) (he : e.ok) : A0 Try.prog 14 [.rd 1 (bys b), .v (.int .i64 (a)), .agg (entA e)] (fun ret => ret = .v (.bool true)) := by
  have hup := up06
  have ha0 := ha
  unfold I64 at ha0
  have hek : (if SymOk b a then entOf b a else zeroEnt).ok := by
    split
    · rename_i h; exact ok_may h.2.2.2
    · unfold EntD.ok zeroEnt I64; decide
  refine A0.body 82 Try.func14 rfl rfl Try.ntmps14 fun base n0 => ?_
  refine AW.seq' ?_
  refine AW.region ?_
  refine AO.ww ?_
  refine AO.c ?_
  refine AO.nil ?_
  refine SQ.normal ?_
  refine AW.seq' ?_
  refine AW.region ?_
  refine AO.call1 Try.func56 rfl rfl (up06) ?_
  refine AO.c ?_
  refine AO.nil ?_
  refine SQ.normal ?_
  refine AW.seq' ?_
  refine AW.seq' ?_
  refine AW.region ?_
  refine AO.c ?_
  refine AO.c ?_
  refine AO.c ?_
  refine AO.nil ?_
  refine SQ.normal ?_
  refine AW.iteB (GL.ev _) (fun h0 => ?_) (fun h0 => ?_)
  · skip
    skip
    refine AW.seq' ?_
    refine AW.region ?_
    refine AO.c ?_
    refine AO.c ?_
    refine AO.nil ?_
    refine SQ.normal ?_
    refine AW.ret ?_
    refine SQ.ret ?_
    refine Fin.ret (Gh.refl) noid1 ?_
    rfl
  · skip
    rw [decide_eq_false_iff_not] at h0
    have hb : b.length ≤ 1000000000000 := by omega
    refine AW.skip ?_
    refine SQ.normal ?_
    refine AW.seq' ?_
    refine AW.region ?_
    refine AO.c ?_
    refine AO.c ?_
    refine AO.call1 Try.func57 rfl rfl (sym_Get _ _ (by assumption) (by omega) (by assumption)) ?_
    refine AO.c ?_
    refine AO.c ?_
    refine AO.c ?_
    refine AO.ww ?_
    refine AO.sst ?_
    refine AO.c ?_
    refine AO.nil ?_
    refine SQ.normal ?_
    refine AW.seq' ?_
    refine AW.seq' ?_
    refine AW.region ?_
    refine AO.c ?_
    refine AO.c ?_
    refine AO.gx ?_
    refine AO.gx ?_
    refine AO.gx ?_
    refine AO.gx ?_
    refine AO.gx ?_
    refine AO.gx ?_
    refine AO.gxoo ?_
    refine AO.gx ?_
    refine AO.gx ?_
    refine AO.c ?_
    refine AO.nil ?_
    refine SQ.normal ?_
    refine AW.iteB (GL.ev _) (fun h1 => ?_) (fun h1 => ?_)
    · skip
      exfalso
      simp only [Bool.and_eq_true, Bool.or_eq_true, decide_eq_true_eq] at h1
      obtain ⟨⟨p, q, _⟩, h⟩ := h1
      omega
    · skip
      skip
      refine AW.skip ?_
      refine SQ.normal ?_
      refine AW.seq' ?_
      refine AW.seq' ?_
      refine AW.drawsZ [] (.one 0 false (.one 1 false (.one 2 false (.one 5 false (.one 6 false (.one 7 false (.one 8 false (.one 9 false (.one 10 false (.one 3 true (.one 4 false (.one 11 false (.one 12 false .nil))))))))))))) (by kernel_rfl) rfl (by kernel_rfl) ?_
      refine AZ.c rfl ?_
      refine AZ.c rfl ?_
      refine AZ.gx rfl ?_
      refine AZ.gx rfl ?_
      refine AZ.gx rfl ?_
      refine AZ.gx rfl ?_
      refine AZ.gxo rfl (fun h => by have h := of_decide_eq_true h; unfold SymOk at h; omega) ?_
      refine AZ.gxo rfl (fun h => by have h := of_decide_eq_true h; unfold SymOk at h; simp only [Option.getD_some]; omega) ?_
      refine AZ.gx rfl ?_
      refine AZ.gxcall1 rfl Try.func60 rfl rfl (fun hgd => sym_Put _ (by assumption)) ?_
      refine AZ.gx rfl ?_
      refine AZ.gx rfl ?_
      refine AZ.c rfl ?_
      refine AZ.done ?_
      refine SQ.normal ?_
      refine AW.iteB (GL.ev _) (fun h2 => ?_) (fun h2 => ?_)
      · skip
        exfalso
        simp only [Bool.and_eq_true, decide_eq_true_eq] at h2
        obtain ⟨hok, hne⟩ := h2
        apply hne
        rw [if_pos hok, if_pos hok.2.2.2, sym_back hB hok]
        rfl
      · skip
        skip
        refine AW.skip ?_
        refine SQ.normal ?_
        refine AW.seq' ?_
        refine AW.region ?_
        refine AO.c ?_
        refine AO.call1 Try.func60 rfl rfl (sym_Put _ (by assumption)) ?_
        refine AO.c ?_
        refine AO.nil ?_
        refine SQ.normal ?_
        refine AW.seq' ?_
        refine AW.seq' ?_
        refine AW.region ?_
        refine AO.c ?_
        refine AO.c ?_
        refine AO.c ?_
        refine AO.nil ?_
        refine SQ.normal ?_
        refine AW.iteB (GL.ev _) (fun h3 => ?_) (fun h3 => ?_)
        · skip
          skip
          refine AW.seq' ?_
          refine AW.region ?_
          refine AO.c ?_
          refine AO.c ?_
          refine AO.nil ?_
          refine SQ.normal ?_
          refine AW.ret ?_
          refine SQ.ret ?_
          refine Fin.ret (Gh.refl) noid1 ?_
          rfl
        · skip
          rw [decide_eq_false_iff_not] at h3
          refine AW.skip ?_
          refine SQ.normal ?_
          refine AW.seq' ?_
          refine AW.region ?_
          have hm : MayE e := by
            rcases Decidable.em (MayE e) with h | h
            · exact h
            · rw [if_neg h] at h3; exact absurd rfl h3
          have hf := sym_forth b b hm
          have hlen3 : (b ++ entB e ++ b).length = b.length + 24 + b.length := by rw [List.length_append, List.length_append, entB_len]
          have hg := sym_Get (b ++ entB e ++ b) (b.length : Int) ((hB.append (entB_bytes e hm)).append hB) (by omega) (by unfold I64; omega)
          rw [if_pos hf.1, hf.2, decide_eq_true hf.1] at hg
          have hel := entB_len e
          refine AO.eq 10 (av' := .rd 1 (bys (entB e))) (by rw [if_pos hm]) ?_
          refine AO.ww ?_
          refine AO.c ?_
          refine AO.ww ?_
          refine AO.c ?_
          refine AO.ww ?_
          refine AO.c ?_
          refine AO.ww ?_
          refine AO.c ?_
          refine AO.c ?_
          refine AO.ghost (Gh.freezeE 62 (li' := b ++ entB e ++ b) (by first | rfl | (simp; done)) (by simp [Nat.add_assoc]) (by omega)) ?_
          refine AO.call1 Try.func57 rfl rfl (hg) ?_
          refine AO.c ?_
          refine AO.c ?_
          refine AO.c ?_
          refine AO.ww ?_
          refine AO.sst ?_
          refine AO.c ?_
          refine AO.nil ?_
          refine SQ.normal ?_
          refine AW.seq' ?_
          refine AW.region ?_
          refine AO.c ?_
          refine AO.c ?_
          refine AO.gx ?_
          refine AO.gx ?_
          refine AO.gx ?_
          refine AO.c ?_
          refine AO.c ?_
          refine AO.gx ?_
          refine AO.c ?_
          refine AO.c ?_
          refine AO.gx ?_
          refine AO.gx ?_
          refine AO.gx ?_
          refine AO.c ?_
          refine AO.c ?_
          refine AO.nil ?_
          refine SQ.normal ?_
          refine AW.ret ?_
          refine Fin.ret (Gh.refl) noid1 ?_
          show AV.v (.bool _) = AV.v (.bool true)
          simp [entB_len]

theorem ta_ent {avs : List AV} (h : TA Try.prog 70 avs) : ∃ e : EntD, avs = entA e ∧ e.ok := by
  have h0 := h.inv_struct
  obtain ⟨a1, b1, rfl, k1, h1⟩ := TAs.inv_cons h0
  obtain ⟨a2, b2, rfl, k2, h2⟩ := TAs.inv_cons h1
  obtain ⟨a3, b3, rfl, k3, h3⟩ := TAs.inv_cons h2
  obtain ⟨a4, b4, rfl, k4, h4⟩ := TAs.inv_cons h3
  obtain ⟨a5, b5, rfl, k5, h5⟩ := TAs.inv_cons h4
  obtain ⟨a6, b6, rfl, k6, h6⟩ := TAs.inv_cons h5
  obtain rfl := TAs.inv_nil h6
  obtain ⟨n1, rfl, w1⟩ := k1.inv_int (k := .i64)
  obtain ⟨n2, rfl, w2⟩ := k2.inv_int (k := .i64)
  obtain ⟨n3, rfl, w3⟩ := k3.inv_int (k := .i64)
  obtain ⟨n4, rfl, w4⟩ := k4.inv_int (k := .i64)
  obtain ⟨n5, rfl, w5⟩ := k5.inv_int (k := .i64)
  obtain ⟨n6, rfl, w6⟩ := k6.inv_int (k := .i64)
  exact ⟨⟨n1, n2, n3, n4, n5, n6⟩, rfl, wf_i64 w1, wf_i64 w2, wf_i64 w3, wf_i64 w4, wf_i64 w5, wf_i64 w6⟩
theorem args_sym {f : FuncId} (hf : ∀ (b : List Int) (a : Int) (e : EntD) (hB : Bytes b) (hbl : b.length ≤ maxLen) (ha : I64 a) (he : e.ok), A0 Try.prog f [.rd 1 (bys b), .v (.int .i64 a), .agg (entA e)] (fun ret => ret = .v (.bool true))) {avs : List AV} (h : TArgs Try.prog [22, 3, 70] avs) : A0 Try.prog f avs (fun ret => ret = .v (.bool true)) := by
  obtain ⟨av1, b1, rfl, k1, h1⟩ := TArgs.inv_one rfl h
  obtain ⟨av2, b2, rfl, k2, h2⟩ := TArgs.inv_one rfl h1
  obtain ⟨cs, b3, rfl, k3, h3⟩ := TArgs.inv_agg h2
  obtain rfl := TArgs.inv_nil h3
  obtain ⟨b, he1, w1, q1⟩ := TA.inv_bytes (e := 5) k1
  cases he1
  obtain ⟨n, he2, w2⟩ := k2.inv_int (k := .i64)
  cases he2
  obtain ⟨e, rfl, he⟩ := ta_ent k3
  exact hf b n e q1 w1 (wf_i64 w2) he
theorem args_SymTells {avs : List AV} (h : TArgs Try.prog [22, 3, 70] avs) : A0 Try.prog 13 avs (fun ret => ret = .v (.bool true)) := args_sym sym_Tells h
theorem args_SymBack {avs : List AV} (h : TArgs Try.prog [22, 3, 70] avs) : A0 Try.prog 14 avs (fun ret => ret = .v (.bool true)) := args_sym sym_BackL h


end Go.Proofs.Ytbaibjhkmajplaa.AL
