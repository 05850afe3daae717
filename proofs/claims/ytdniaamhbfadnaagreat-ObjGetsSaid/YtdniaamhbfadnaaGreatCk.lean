/- A part of the proof: rules of an own logic over blocks, and what functions of the program compute, each by its own contract; the conditions stand with each. -/
import Derived.Test.YtdniaamhbfadnaaGreatCj
import Derived.Test.YtdniaamhbfadnaaGreatCe
namespace Go.Proofs.YtdniaamhbfadnaaGreat.AL
open Go Go.RowKit Go.Proofs.YtdniaamhbfadnaaGreat.Base
set_option linter.unusedVariables false
set_option linter.unusedSimpArgs false
set_option maxRecDepth 4000
set_option synthInstance.maxSize 1000
set_option synthInstance.maxHeartbeats 200000
theorem ref_FIs (b : List Int) (Lh : List ShD) (nm : Int) (ok : Bool) (i t : Int) (hLh : Lh.length ≤ 1000000) : A0 Tryz.prog 87 [.eptr [.rd 1 (bys b), .rd 10 (Lh.map shA), .v (.int .i64 nm), .v (.bool ok)], .v (.int .i64 (i)), .v (.int .i64 (t))] (fun ret => ret = .v (.bool (isF Lh i t))) := by
 refine A0.body 30 Tryz.func87 rfl rfl Tryz.ntmps87 fun base n0 => ?_
 refine AW.seq' ?_
 refine AW.region ?_
 refine AO.c ?_
 refine AO.nil ?_
 refine SQ.normal ?_
 refine AW.seq' ?_
 refine AW.region ?_
 iterate 3 refine AO.c ?_
 iterate 7 refine AO.gx ?_
 iterate 2 refine AO.c ?_
 iterate 5 refine AO.gx ?_
 refine AO.gxoo ?_
 iterate 4 refine AO.gx ?_
 iterate 2 refine AO.c ?_
 refine AO.nil ?_
 refine SQ.normal ?_
 refine AW.ret ?_
 refine Fin.ret (Gh.refl) noid1 ?_
 show AV.v _ = AV.v _
 congr 2
theorem ref_Told (b : List Int) (Lh : List ShD) (nm : Int) (ok : Bool) (i : Int) (hi : 0 ≤ i ∧ i < Lh.length) (hb : b.length ≤ 1000000) (ht : TellOk b (Lh.getD i.toNat default)) (hz : i = 0 → toldF b (Lh.getD i.toNat default) = []) : A0 Tryz.prog 38 [.eptr [.rd 1 (bys b), .rd 10 (Lh.map shA), .v (.int .i64 nm), .v (.bool ok)], .v (.int .i64 (i))] (fun ret => ret = .rd 1 (bys (toldF b (Lh.getD i.toNat default)))) := by
 unfold TellOk at ht
 generalize hhe : Lh.getD i.toNat default = hh at ht hz ⊢
 refine A0.body 48 Tryz.func38 rfl rfl Tryz.ntmps38 fun base n0 => ?_
 refine AW.seq' ?_
 refine AW.region ?_
 refine AO.c ?_
 refine AO.nil ?_
 refine SQ.normal ?_
 refine AW.seq' ?_
 refine AW.seq' ?_
 refine AW.region ?_
 iterate 5 refine AO.c ?_
 refine AO.oo ?_
 iterate 2 refine AO.c ?_
 refine AO.eq 12 (av' := .v (.int .i64 hh.a1)) (by rw [hhe]) ?_
 iterate 2 refine AO.c ?_
 iterate 2 refine AO.gx ?_
 refine AO.c ?_
 refine AO.nil ?_
 refine SQ.normal ?_
 refine AW.iteB (GL.ev _) (fun h0 => ?_) (fun h0 => ?_)
 ·
  have hnil : toldF b hh = [] := by
   simp only [Bool.or_eq_true, decide_eq_true_eq] at h0
   rcases h0 with q | q
   · unfold toldF; rw [if_pos q]
   · exact hz q
  refine AW.seq' ?_
  refine AW.region ?_
  refine AO.c ?_
  refine AO.nil ?_
  refine SQ.normal ?_
  refine AW.ret ?_
  refine SQ.ret ?_
  refine Fin.ret (Gh.nilB 4) noid1 ?_
  rw [hnil]; rfl
 ·
  have h8 : ¬ hh.a1 = 8 := by
   simp only [Bool.or_eq_false_iff, decide_eq_false_iff_not] at h0
   exact h0.1
  refine AW.skip ?_
  refine SQ.normal ?_
  refine AW.seq' ?_
  refine AW.drawsZ [] (.one 0 false (.one 1 false (.one 2 false (.one 3 false (.one 4 false (.one 5 false (.one 6 false (.one 7 false (.one 8 false (.one 9 false (.one 10 false (.one 11 false (.one 12 false (.one 13 false (.one 14 false (.one 15 false (.one 16 false (.one 17 false (.one 18 false (.one 19 false (.one 20 false (.one 21 false (.one 22 false (.one 23 false (.one 24 false (.one 25 false (.one 26 false (.one 27 false (.one 28 false (.one 29 false (.one 30 false .nil))))))))))))))))))))))))))))))) (by kernel_rfl) rfl (by kernel_rfl) ?_
  iterate 9 refine AZ.c rfl ?_
  refine AZ.oo rfl ?_
  iterate 2 refine AZ.c rfl ?_
  refine AZ.eq 29 (av' := .v (.int .i64 hh.a4)) (by rw [hhe]) ?_
  iterate 5 refine AZ.c rfl ?_
  refine AZ.oo rfl ?_
  iterate 2 refine AZ.c rfl ?_
  refine AZ.eq 37 (av' := .v (.int .i64 hh.a4)) (by rw [hhe]) ?_
  iterate 5 refine AZ.c rfl ?_
  refine AZ.oo rfl ?_
  iterate 2 refine AZ.c rfl ?_
  refine AZ.eq 45 (av' := .v (.int .i64 hh.a5)) (by rw [hhe]) ?_
  iterate 2 refine AZ.oo rfl ?_
  refine AZ.c rfl ?_
  refine AZ.done ?_
  refine SQ.normal ?_
  refine AW.ret ?_
  refine Fin.ret (Gh.refl) noid1 ?_
  unfold toldF; rw [if_neg h8]; rfl
set_option maxHeartbeats 1000000 in
theorem ref_Number (b : List Int) (nm : Int) (ok : Bool) (hm : mnH b ≤ 70000) (i : Int) : A0 Tryz.prog 35 [.eptr [.rd 1 (bys b), .rd 10 ((hdsN b (mnH b)).map shA), .v (.int .i64 nm), .v (.bool ok)], .v (.int .i64 (i))] (fun ret => ret = .v (.int .i64 (numF b i))) := by
 refine A0.body 68 Tryz.func35 rfl rfl Tryz.ntmps35 fun base n0 => ?_
 refine AW.seq' ?_
 refine AW.region ?_
 refine AO.c ?_
 refine AO.nil ?_
 refine SQ.normal ?_
 refine AW.seq' ?_
 refine AW.seq' ?_
 refine AW.region ?_
 iterate 3 refine AO.c ?_
 iterate 7 refine AO.gx ?_
 iterate 2 refine AO.c ?_
 iterate 5 refine AO.gx ?_
 refine AO.gxo (fun h => by simp [hdsN_len] at h; rw [hdsN_len]; omega) ?_
 iterate 9 refine AO.gx ?_
 refine AO.gxo (fun h => by simp [hdsN_len] at h; rw [hdsN_len]; omega) ?_
 iterate 4 refine AO.gx ?_
 refine AO.c ?_
 refine AO.nil ?_
 refine SQ.normal ?_
 refine AW.iteB (GL.ev _) (fun h0 => ?_) (fun h0 => ?_)
 ·
  have e : numF b i = 0 := by
   rw [numF_zero, show numM b = (secM b (mnH b - 1)).2 from rfl, secM_get, if_neg]
   rintro ⟨q1, q2, q3⟩
   unfold isS at q3
   rw [← hdsN_get (show i.toNat < mnH b by omega)] at q3
   simp only [Bool.or_eq_true, Bool.and_eq_true, decide_eq_true_eq, hdsN_len] at h0
   rcases h0 with (h0 | h0) | h0
   · omega
   · omega
   · rcases q3 with q3 | q3
     · exact h0.1 q3
     · exact h0.2 q3
  refine AW.seq' ?_
  refine AW.region ?_
  refine AO.c ?_
  refine AO.nil ?_
  refine SQ.normal ?_
  refine AW.ret ?_
  refine SQ.ret ?_
  refine Fin.ret (Gh.refl) noid1 ?_
  rw [e]; rfl
 ·
  have hir : 1 ≤ i ∧ i < mnH b := by
   simp only [Bool.or_eq_false_iff, decide_eq_false_iff_not, hdsN_len] at h0
   omega
  have his : isS (shK b i.toNat) := by
   simp only [Bool.or_eq_false_iff, Bool.and_eq_false_iff, decide_eq_false_iff_not, Decidable.not_not] at h0
   have := h0.2
   rw [hdsN_get (show i.toNat < mnH b by omega)] at this
   exact this
  have e : numF b i = ((secM b i.toNat).1.length : Int) := by
   unfold numF
   rw [show numM b = (secM b (mnH b - 1)).2 from rfl, secM_get, if_pos ⟨hir.1, by omega, his⟩]; rfl
  refine AW.skip ?_
  refine SQ.normal ?_
  refine AW.seq' ?_
  refine AW.region ?_
  refine AO.c ?_
  refine AO.nil ?_
  refine SQ.normal ?_
  refine AW.seq' ?_
  refine AW.seq' ?_
  refine AW.region ?_
  refine AO.c ?_
  refine AO.nil ?_
  refine SQ.normal ?_
  refine AW.block' ?_
  refine AW.loopU [.k, .k, .f, .f, .f, .k, .k, .F, .F, .F, .F, .F, .F, .F, .f, .f, .f, .f, .f] (fun (k : Nat) => [(5, .v (.int .i64 (((secM b k).1.length : Int)))), (6, .v (.int .i64 ((k : Int) + 1)))]) (fun k => Hn n0 []) (fun m k => k ≤ i.toNat ∧ m = i.toNat - k) (i.toNat) (0) ⟨by omega, by omega⟩ (by first | rfl | (simp; done)) (by first | rfl | (simp; done)) ?_
  rintro m0 k ⟨hx1, hx2⟩
  refine AW.seq' ?_
  refine AW.seq' ?_
  refine AW.region ?_
  iterate 3 refine AO.c ?_
  refine AO.nil ?_
  refine SQ.normal ?_
  refine AW.iteB (GL.ev _) (fun h1 => ?_) (fun h1 => ?_)
  ·
   rw [decide_eq_true_eq] at h1
   have hk : k + 1 < mnH b := by omega
   have hge : (hdsN b (mnH b)).getD ((k : Int) + 1).toNat default = shK b (k + 1) := by rw [show ((k : Int) + 1).toNat = k + 1 by omega]; exact hdsN_get hk
   have hsl := (secM_len b k).1
   refine AW.skip ?_
   refine SQ.normal ?_
   refine AW.seq' ?_
   refine AW.block' ?_
   refine AW.seq' ?_
   refine AW.region ?_
   iterate 5 refine AO.c ?_
   refine AO.o (by rw [hdsN_len]; omega) ?_
   iterate 2 refine AO.c ?_
   refine AO.eq 52 (av' := .v (.int .i64 (shK b (k + 1)).a1)) (by rw [hge]) ?_
   iterate 2 refine AO.c ?_
   iterate 5 refine AO.gx ?_
   refine AO.gxo (fun _ => by rw [hdsN_len]; omega) ?_
   iterate 2 refine AO.gx ?_
   refine AO.eq 62 (av' := cv (!decide ((shK b (k + 1)).a1 = 1)) (.v (.int .i64 (shK b (k + 1)).a1))) (by rw [hge]) ?_
   refine AO.gx ?_
   refine AO.c ?_
   refine AO.nil ?_
   refine SQ.normal ?_
   refine AW.iteB (GL.ev _) (fun h2 => ?_) (fun h2 => ?_)
   ·
    have hsy : isS (shK b (k + 1)) := by unfold isS; simpa using h2
    refine AW.region ?_
    refine AO.c ?_
    refine AO.oo ?_
    refine AO.c ?_
    refine AO.nil ?_
    refine BQ.normal ?_
    refine SQ.normal ?_
    refine AW.region ?_
    refine AO.c ?_
    refine AO.oo ?_
    refine AO.c ?_
    refine AO.nil ?_
    exact AW.backU [.k, .k, .f, .f, .f, .k, .k, .F, .F, .F, .F, .F, .F, .F, .f, .f, .f, .f, .f] (m0 - 1) (k + 1) (by omega) (by (try dsimp only); exact ⟨by omega, by omega⟩) (by rw [secM_yes hsy]; simp) (by first | rfl | (simp; done))
   ·
    have hsn : ¬ isS (shK b (k + 1)) := by unfold isS; simpa using h2
    refine AW.skip ?_
    refine BQ.normal ?_
    refine SQ.normal ?_
    refine AW.region ?_
    refine AO.c ?_
    refine AO.oo ?_
    refine AO.c ?_
    refine AO.nil ?_
    exact AW.backU [.k, .k, .f, .f, .f, .k, .k, .F, .F, .F, .F, .F, .F, .F, .f, .f, .f, .f, .f] (m0 - 1) (k + 1) (by omega) (by (try dsimp only); exact ⟨by omega, by omega⟩) (by rw [secM_no hsn]; simp) (by first | rfl | (simp; done))
  ·
   rw [decide_eq_false_iff_not] at h1
   have hki : k = i.toNat := by omega
   subst hki
   refine AW.exit ?_
   refine SQ.exit <| AW.out <| LU.exit <| BQ.exit ?_
   refine SQ.normal ?_
   refine AW.seq' ?_
   refine AW.region ?_
   iterate 2 refine AO.c ?_
   refine AO.nil ?_
   refine SQ.normal ?_
   refine AW.ret ?_
   refine Fin.ret (Gh.refl) noid1 ?_
   rw [e]; rfl
end Go.Proofs.YtdniaamhbfadnaaGreat.AL
namespace Go.Proofs.YtdniaamhbfadnaaGreat.AL
open Go Go.RowKit Go.Proofs.YtdniaamhbfadnaaGreat.Base
set_option linter.unusedVariables false
set_option linter.unusedSimpArgs false
set_option maxRecDepth 4000
set_option synthInstance.maxSize 1000
set_option synthInstance.maxHeartbeats 200000
set_option maxHeartbeats 4000000 in
theorem ref_read (b : List Int) (hB : Bytes b) (hb : b.length ≤ 1000000) : A0 Tryz.prog 31 [.rd 1 (bys b)] (fun ret => (readOk b ∧ ret = .eptr [.rd 1 (bys b), .rd 10 ((hdsN b (mnH b)).map shA), .v (.int .i64 ((hdOf b).names)), .v (.bool true)]) ∨ (¬ readOk b ∧ ret = .eptr [.any, .any, .any, .v (.bool false)])) := by
 refine A0.body 137 Tryz.func31 rfl rfl Tryz.ntmps31 fun base n0 => ?_
 refine AW.seq' ?_
 refine AW.region ?_
 refine AO.c ?_
 refine AO.nil ?_
 refine SQ.normal ?_
 refine AW.seq' ?_
 refine AW.region ?_
 iterate 2 refine AO.c ?_
 refine AO.ww ?_
 refine AO.c ?_
 refine AO.nil ?_
 refine SQ.normal ?_
 refine AW.seq' ?_
 refine AW.region ?_
 refine AO.c ?_
 refine AO.call1 Tryz.func85 rfl rfl (ref_Begun _ (by assumption) (by omega)) ?_
 iterate 9 refine AO.c ?_
 refine AO.nil ?_
 refine SQ.normal ?_
 refine AW.seq' ?_
 refine AW.seq' ?_
 refine AW.region ?_
 iterate 3 refine AO.c ?_
 iterate 3 refine AO.gx ?_
 refine AO.c ?_
 refine AO.nil ?_
 refine SQ.normal ?_
 refine AW.iteB (GL.ev _) (fun h0 => ?_) (fun h0 => ?_)
 ·
  simp only [Bool.or_eq_true, Bool.not_eq_true', decide_eq_false_iff_not, decide_eq_true_eq] at h0
  have hno : ¬ readOk b := fun h => by rcases h0 with h0 | h0; exact h0 h.1; have := h.2.1; omega
  refine AW.seq' ?_
  refine AW.ghost (Gh.tellC 0 [.any, .any, .any, .v (.bool false)]) ?_
  refine AW.ghost (Gh.freezeP 3) ?_
  refine AW.region ?_
  iterate 2 refine AO.c ?_
  refine AO.nil ?_
  refine SQ.normal ?_
  refine AW.ret ?_
  refine SQ.ret ?_
  refine Fin.ret (Gh.refl) noid1 ?_
  exact .inr ⟨hno, rfl⟩
 ·
  simp only [Bool.or_eq_false_iff, Bool.not_eq_false', decide_eq_true_eq, decide_eq_false_iff_not] at h0
  obtain ⟨hk, hl⟩ := h0
  simp only [if_pos hk]
  have hmay := hk.2.1
  unfold HdD.may MayHd at hmay
  have hmn : ((mnH b : Nat) : Int) = (hdOf b).many := by unfold mnH; omega
  refine AW.skip ?_
  refine SQ.normal ?_
  refine AW.seq' ?_
  refine AW.seq' ?_
  refine AW.ghost (Gh.adoptC 0 1 99 10 rfl) ?_
  refine AW.region ?_
  refine AO.c ?_
  refine AO.nil ?_
  refine SQ.normal ?_
  refine AW.block' ?_
  refine AW.loopU2 [.k, .f, .f, .k, .k, .k, .k, .f, .k, .F, .F, .F, .F, .F, .F, .F, .F, .F, .F, .F, .F, .F, .F, .F, .F] (fun (i ep : Nat) => [(8, .v (.int .i64 (i)))]) (fun i ep => Hn n0 (([some (.box 93 [.rd 1 (bys b), .own (n0 + 1) (ep) 0 ((hdsN b i).length), .v (.int .i64 (0)), .v (.bool false)]), some (.row 99 10 (ep) ((hdsN b i).map shA))] ++ List.replicate i none) ++ [])) (fun m i ep => (i ≤ mnH b ∧ m = mnH b - i) ∧ ∀ k, k < i → hdOk1 b k) (mnH b) (0) (0) ⟨by omega, fun k hk => by omega⟩ (by first | rfl | (simp; done)) (by first | rfl | (simp; done)) ?_
  rintro m0 i ep ⟨hx1, hx2⟩
  refine AW.seq' ?_
  refine AW.seq' ?_
  refine AW.region ?_
  iterate 3 refine AO.c ?_
  refine AO.nil ?_
  refine SQ.normal ?_
  refine AW.iteB (GL.ev _) (fun h1 => ?_) (fun h1 => ?_)
  ·
   rw [decide_eq_true_eq] at h1
   have hi : i < mnH b := by omega
   have hln := hdsN_len b i
   refine AW.skip ?_
   refine SQ.normal ?_
   refine AW.seq' ?_
   refine AW.block' ?_
   refine AW.seq' ?_
   refine AW.region ?_
   iterate 3 refine AO.c ?_
   iterate 2 refine AO.oo ?_
   refine AO.call1 Tryz.func86 rfl rfl (ref_Section b ((hdOf b).at_ + 64 * (i : Int)) hB (by omega) (by unfold I64; omega)) ?_
   iterate 3 refine AO.c ?_
   refine AO.ww ?_
   refine AO.sst ?_
   refine AO.c ?_
   refine AO.nil ?_
   refine SQ.normal ?_
   refine AW.seq' ?_
   refine AW.seq' ?_
   refine AW.region ?_
   iterate 3 refine AO.c ?_
   iterate 7 refine AO.gx ?_
   refine AO.c ?_
   refine AO.nil ?_
   refine SQ.normal ?_
   refine AW.iteB (GL.ev _) (fun h2 => ?_) (fun h2 => ?_)
   ·
    have hno : ¬ readOk b := fun h => by
     have q := h.2.2.1 i hi
     have q2 := q.2.1
     unfold shK at q2
     simp only [if_pos q.1, decide_eq_true q.1, Bool.not_true, Bool.false_or, Bool.and_eq_true, decide_eq_true_eq] at h2
     have q3 := q2 (by omega)
     rw [q3] at h2
     exact absurd h2.2 (by decide)
    refine AW.seq' ?_
    refine AW.ghost (Gh.tellC 0 [.any, .any, .any, .v (.bool false)]) ?_
    refine AW.ghost (Gh.freezeP 3) ?_
    refine AW.region ?_
    iterate 2 refine AO.c ?_
    refine AO.nil ?_
    refine SQ.normal ?_
    refine AW.ret ?_
    refine SQ.ret <| BQ.ret <| SQ.ret <| AW.out <| LU.ret <| BQ.ret <| SQ.ret ?_
    refine Fin.ret (Gh.refl) noid1 ?_
    exact .inr ⟨hno, rfl⟩
   ·
    have hsk : ShOk b ((hdOf b).at_ + 64 * (i : Int)) := by
     by_cases q : ShOk b ((hdOf b).at_ + 64 * (i : Int))
     · exact q
     · rw [decide_eq_false q] at h2; cases h2
    have hz0 : i = 0 → shK b i = zeroSh := fun q0 => by
     rw [decide_eq_true (show (i : Int) = 0 by omega)] at h2
     simp only [if_pos hsk, decide_eq_true hsk, Bool.not_true, Bool.false_or, Bool.true_and, Bool.and_true, Bool.not_eq_false', Bool.and_eq_true, decide_eq_true_eq] at h2
     exact sh_ext0 h2
    simp only [if_pos hsk]
    have hsa := sh_all hsk
    refine AW.skip ?_
    refine SQ.normal ?_
    refine AW.seq' ?_
    refine AW.seq' ?_
    refine AW.region ?_
    iterate 3 refine AO.c ?_
    iterate 12 refine AO.gx ?_
    refine AO.gxoo ?_
    iterate 5 refine AO.gx ?_
    refine AO.c ?_
    refine AO.nil ?_
    refine SQ.normal ?_
    refine AW.iteB (GL.ev _) (fun h3 => ?_) (fun h3 => ?_)
    ·
     have hno : ¬ readOk b := fun h => by
      have q := (h.2.2.1 i hi).2.2
      unfold shK at q
      simp only [Bool.and_eq_true, Bool.or_eq_true, decide_eq_true_eq, Bool.not_eq_true'] at h3
      have q := q (by omega)
      rcases h3.2 with h | h
      · exact h q.2.1
      · omega
     refine AW.seq' ?_
     refine AW.ghost (Gh.tellC 0 [.any, .any, .any, .v (.bool false)]) ?_
     refine AW.ghost (Gh.freezeP 3) ?_
     refine AW.region ?_
     iterate 2 refine AO.c ?_
     refine AO.nil ?_
     refine SQ.normal ?_
     refine AW.ret ?_
     refine SQ.ret <| BQ.ret <| SQ.ret <| AW.out <| LU.ret <| BQ.ret <| SQ.ret ?_
     refine Fin.ret (Gh.refl) noid1 ?_
     exact .inr ⟨hno, rfl⟩
    ·
     skip
     refine AW.skip ?_
     refine SQ.normal ?_
     refine AW.seq' ?_
     refine AW.region ?_
     iterate 3 refine AO.c ?_
     refine AO.nil ?_
     refine SQ.normal ?_
     refine AW.seq' ?_
     refine AW.seq' ?_
     refine AW.region ?_
     iterate 3 refine AO.c ?_
     iterate 2 refine AO.gx ?_
     iterate 2 refine AO.c ?_
     iterate 2 refine AO.gx ?_
     iterate 2 refine AO.c ?_
     iterate 2 refine AO.gx ?_
     iterate 2 refine AO.c ?_
     iterate 2 refine AO.gx ?_
     iterate 2 refine AO.c ?_
     iterate 2 refine AO.gx ?_
     iterate 2 refine AO.c ?_
     iterate 2 refine AO.gx ?_
     iterate 2 refine AO.c ?_
     iterate 2 refine AO.gx ?_
     refine AO.c ?_
     refine AO.nil ?_
     refine SQ.normal ?_
     refine AW.iteB (GL.ev _) (fun h4 => ?_) (fun h4 => ?_)
     ·
      have hno : ¬ readOk b := fun h => by
       have q := (h.2.2.1 i hi).2.2
       unfold shK at q
       simp only [Bool.and_eq_true, decide_eq_true_eq, Bool.not_eq_true', decide_eq_false_iff_not] at h4
       have q := (q (by omega)).1
       unfold knownF at q
       rw [decide_eq_true_eq] at q
       omega
      refine AW.seq' ?_
      refine AW.ghost (Gh.tellC 0 [.any, .any, .any, .v (.bool false)]) ?_
      refine AW.ghost (Gh.freezeP 3) ?_
      refine AW.region ?_
      iterate 2 refine AO.c ?_
      refine AO.nil ?_
      refine SQ.normal ?_
      refine AW.ret ?_
      refine SQ.ret <| BQ.ret <| SQ.ret <| AW.out <| LU.ret <| BQ.ret <| SQ.ret ?_
      refine Fin.ret (Gh.refl) noid1 ?_
      exact .inr ⟨hno, rfl⟩
     ·
      have hall : ∀ k, k < i + 1 → hdOk1 b k := fun k hk => by
       by_cases q : k = i
       · subst q
         refine ⟨hsk, hz0, fun q0 => ?_⟩
         rw [decide_eq_true (show (k : Int) > 0 by omega)] at h3 h4
         simp only [Bool.true_and, Bool.or_eq_false_iff, Bool.not_eq_false', Bool.and_eq_false_iff, decide_eq_false_iff_not, Decidable.not_not] at h3
         simp only [Bool.true_and, Bool.and_eq_false_iff, decide_eq_false_iff_not, Decidable.not_not] at h4
         unfold shK
         refine ⟨?_, h3.1, by omega⟩
         unfold knownF
         rw [decide_eq_true_eq]
         omega
       · exact hx2 k (by omega)
      refine AW.skip ?_
      refine SQ.normal ?_
      refine AW.drawsZ [7, 10] (.one 1 false (.one 2 false (.one 3 false (.one 4 false (.one 5 false (.pur 0 (.one 6 true (.one 7 true (.one 8 false (.one 9 false (.one 10 true .nil))))))))))) (by kernel_rfl) rfl (by kernel_rfl) ?_
      iterate 5 refine AZ.c rfl ?_
      refine AZ.p rfl ?_
      refine AZ.rr rfl ?_
      refine AZ.ww rfl rfl ?_
      iterate 2 refine AZ.c rfl ?_
      refine AZ.sst rfl rfl ?_
      refine AZ.done ?_
      refine BQ.normal ?_
      refine SQ.normal ?_
      refine AW.region ?_
      refine AO.c ?_
      refine AO.oo ?_
      refine AO.c ?_
      refine AO.nil ?_
      exact AW.backE [.k, .f, .f, .k, .k, .k, .k, .f, .k, .F, .F, .F, .F, .F, .F, .F, .F, .F, .F, .F, .F, .F, .F, .F, .F] (i) (m0 - 1) (i + 1, ep + 1) (by omega) (by (try dsimp only); exact ⟨by omega, hall⟩) (rfl) (by first | (rw [hdsN_succ, List.map_append, List.length_append]; done) | (rw [hdsN_succ, List.map_append, List.length_append]; rfl))
  ·
   rw [decide_eq_false_iff_not] at h1
   have hi : i = mnH b := by omega
   subst hi
   refine AW.exit ?_
   refine SQ.exit <| AW.out <| LU.exit <| BQ.exit ?_
   refine SQ.normal ?_
   refine AW.seq' ?_
   refine AW.ghost (Gh.freezeC 0 1 (by simp) (by simp [hdsN_len]; omega)) ?_
   refine AW.region ?_
   iterate 2 refine AO.c ?_
   refine AO.callB [.rd 1 (bys b), .rd 10 ((hdsN b (mnH b)).map shA), .v (.int .i64 (0)), .v (.bool false)] Tryz.func87 rfl rfl (ref_FIs b (hdsN b (mnH b)) 0 false (hdOf b).names 3 (by rw [hdsN_len]; omega)) ⟨_, rfl⟩ rfl ?_
   refine AO.c ?_
   refine AO.nil ?_
   refine SQ.normal ?_
   refine AW.seq' ?_
   refine AW.seq' ?_
   refine AW.region ?_
   iterate 2 refine AO.c ?_
   refine AO.nil ?_
   refine SQ.normal ?_
   refine AW.iteB (GL.ev _) (fun h5 => ?_) (fun h5 => ?_)
   ·
    rw [Bool.not_eq_true'] at h5
    have hno : ¬ readOk b := fun h => by rw [h.2.2.2] at h5; cases h5
    refine AW.seq' ?_
    refine AW.ghost (Gh.tellC 0 [.any, .any, .any, .v (.bool false)]) ?_
    refine AW.ghost (Gh.freezeP 3) ?_
    refine AW.region ?_
    iterate 2 refine AO.c ?_
    refine AO.nil ?_
    refine SQ.normal ?_
    refine AW.ret ?_
    refine SQ.ret ?_
    refine Fin.ret (Gh.refl) noid1 ?_
    exact .inr ⟨hno, rfl⟩
   ·
    rw [Bool.not_eq_false'] at h5
    refine AW.skip ?_
    refine SQ.normal ?_
    refine AW.seq' ?_
    refine AW.region ?_
    iterate 4 refine AO.c ?_
    refine AO.sst ?_
    refine AO.nil ?_
    refine SQ.normal ?_
    refine AW.seq' ?_
    refine AW.region ?_
    iterate 3 refine AO.c ?_
    refine AO.sst ?_
    refine AO.nil ?_
    refine SQ.normal ?_
    refine AW.seq' ?_
    refine AW.ghost (Gh.freezeP 3) ?_
    refine AW.region ?_
    iterate 2 refine AO.c ?_
    refine AO.nil ?_
    refine SQ.normal ?_
    refine AW.ret ?_
    refine Fin.ret (Gh.refl) noid1 ?_
    exact .inl ⟨⟨hk, by omega, hx2, h5⟩, rfl⟩
theorem ref_readY (b : List Int) (hB : Bytes b) (hb : b.length ≤ 1000000) (h : readOk b) : A0 Tryz.prog 31 [.rd 1 (bys b)] (fun ret => ret = .eptr [.rd 1 (bys b), .rd 10 ((hdsN b (mnH b)).map shA), .v (.int .i64 ((hdOf b).names)), .v (.bool true)]) :=
 A0.mono (ref_read b hB hb) fun r q => by
  rcases q with ⟨_, q⟩ | ⟨q, _⟩
  · exact q
  · exact absurd h q
theorem ref_readN (b : List Int) (hB : Bytes b) (hb : b.length ≤ 1000000) (h : ¬ readOk b) : A0 Tryz.prog 31 [.rd 1 (bys b)] (fun ret => ret = .eptr [.any, .any, .any, .v (.bool false)]) :=
 A0.mono (ref_read b hB hb) fun r q => by
  rcases q with ⟨q, _⟩ | ⟨_, q⟩
  · exact absurd q h
  · exact q
end Go.Proofs.YtdniaamhbfadnaaGreat.AL
namespace Go.Proofs.YtdniaamhbfadnaaGreat.AL
open Go Go.RowKit Go.Proofs.YtdniaamhbfadnaaGreat.Base
set_option linter.unusedVariables false
set_option linter.unusedSimpArgs false
set_option maxRecDepth 4000
set_option synthInstance.maxSize 1000
set_option synthInstance.maxHeartbeats 200000
theorem band128 {f : Int} (h0 : 0 ≤ f) (h1 : f ≤ 9223372036854775807) : (band f 128 ≠ 0) ↔ hasF f 128 = true := by
 obtain ⟨m, rfl⟩ : ∃ m : Nat, f = m := ⟨f.toNat, by omega⟩
 have e : hasP (m : Int) 128 = hasF (m : Int) 128 := hasP_pow h0 h1 (k := 7) (by decide)
 rw [← e]
 unfold hasP band
 have hb := and_pow 7 h0 h1 (by decide)
 change IntKind.i64.wrap ((BitVec.ofInt IntKind.i64.bits (m : Int) &&& BitVec.ofInt IntKind.i64.bits 128).toNat : Int) = _ at hb
 rw [hb]
 split <;> simp
theorem secO_ok {b : List Int} (hB : Bytes b) (hr : readOk b) {k : Nat} (hk : k + 1 < mnH b) : (secO b (shK b (k + 1)) ((nmK b (k + 1)).getD noS)).ok := by
 have hsa := shK_all (hr.2.2.1 (k + 1) hk)
 have htl := told_len b (shK b (k + 1))
 have hbl := hr.2.1
 have hm := maxLen_eq
 have hz : ((nmK b (k + 1)).getD noS).size ≤ 32 := nm_size
 refine ⟨by show ((nmK b (k + 1)).getD noS).size ≤ maxLen; omega, ?_, ?_, ?_, ?_, by show I64 0; decide, ?_, by show (toldF b _).length ≤ _; omega, told_bytes hB _, by show 0 ≤ maxLen; omega, fun r hr => by cases hr⟩
 · show I64 (shK b (k + 1)).a1; unfold I64; omega
 · show I64 (shK b (k + 1)).a2; unfold I64; omega
 · show I64 (max (shK b (k + 1)).a8 1); unfold I64; omega
 · show I64 (shK b (k + 1)).a9; unfold I64; omega
 · show I64 (shK b (k + 1)).a5; unfold I64; omega
theorem numF_isS {b : List Int} {k : Nat} (hk : k + 1 < mnH b) : numF b ((k : Int) + 1) = 0 ↔ ¬ isS (shK b (k + 1)) := by
 rw [numF_zero, show numM b = (secM b (mnH b - 1)).2 from rfl, secM_get]
 by_cases h : isS (shK b (k + 1))
 · rw [if_pos ⟨by omega, by omega, by rw [show ((k : Int) + 1).toNat = k + 1 by omega]; exact h⟩]
   simp [h]
 · rw [if_neg (by rintro ⟨_, _, q⟩; rw [show ((k : Int) + 1).toNat = k + 1 by omega] at q; exact h q)]
   simp [h]
theorem numF_some {b : List Int} {q : Int} : (aget (numM b) q).isSome = true ↔ numF b q ≠ 0 := by
 rw [Ne, numF_zero]
 cases aget (numM b) q <;> simp
theorem lnk1_iff {b : List Int} {k : Nat} (hk : k + 1 < mnH b) (h0 : 0 ≤ (shK b (k + 1)).a2 ∧ (shK b (k + 1)).a2 ≤ 2147483647) : lnk1 b (k + 1) ↔ (isS (shK b (k + 1)) → (shK b (k + 1)).a7 = 0 ∧ (hasF (shK b (k + 1)).a2 128 = true → numF b (shK b (k + 1)).a6 ≠ 0) ∧ (hasF (shK b (k + 1)).a2 128 = false → (shK b (k + 1)).a6 = 0)) := by
 unfold lnk1
 have e : (aget (numM b) ((k + 1 : Nat) : Int)).isSome = true ↔ isS (shK b (k + 1)) := by
  rw [numF_some, Ne, show ((k + 1 : Nat) : Int) = (k : Int) + 1 by omega, numF_isS hk, Decidable.not_not]
 rw [e, numF_some, band128 (by omega) (by omega)]
 have e2 : band (shK b (k + 1)).a2 128 = 0 ↔ hasF (shK b (k + 1)).a2 128 = false := by
  have := band128 (f := (shK b (k + 1)).a2) (by omega) (by omega)
  cases hh : hasF (shK b (k + 1)).a2 128
  · rw [hh] at this; simpa using this
  · rw [hh] at this; simpa using this
 rw [e2]
theorem symG_no {b : List Int} {tb k : Nat} {e : EntD} (hq1 : SymOk (toldF b (shK b tb)) (24 * (k : Int))) (hq2 : symG (numM b) e (syN b tb) = true) (hi : 0 ≤ e.idx) (hsx0 : ¬ e.idx = 65521 → symX (numM b) e = numF b e.idx) (h7 : (!decide (SymOk (toldF b (shK b tb)) (24 * (k : Int))) || !(atF (syN b tb) e.name).isSome || (decide (symX (numM b) e = 0) && decide (e.idx ≠ 0))) = true) : False := by
 unfold symG at hq2
 simp only [Bool.and_eq_true, Bool.or_eq_true, Bool.not_eq_true', decide_eq_true_eq, decide_eq_false_iff_not] at hq2
 rw [decide_eq_true hq1, hq2.1] at h7
 simp only [Bool.not_true, Bool.false_or, Bool.and_eq_true, decide_eq_true_eq] at h7
 rcases hq2.2 with (c | c) | c
 · unfold symX at h7; rw [if_pos c] at h7; omega
 · omega
 · by_cases c2 : e.idx = 65521
   · unfold symX at h7; rw [if_pos c2] at h7; omega
   · rw [hsx0 c2] at h7; unfold numF at h7; omega
theorem symG_yes {b : List Int} {tb k : Nat} {e : EntD} (hsx0 : ¬ e.idx = 65521 → symX (numM b) e = numF b e.idx) (h7 : (!decide (SymOk (toldF b (shK b tb)) (24 * (k : Int))) || !(atF (syN b tb) e.name).isSome || (decide (symX (numM b) e = 0) && decide (e.idx ≠ 0))) = false) : SymOk (toldF b (shK b tb)) (24 * (k : Int)) ∧ symG (numM b) e (syN b tb) = true := by
 simp only [Bool.or_eq_false_iff, Bool.not_eq_false', Bool.and_eq_false_iff, decide_eq_false_iff_not, Decidable.not_not, decide_eq_true_eq] at h7
 obtain ⟨⟨g1, g2⟩, g3⟩ := h7
 refine ⟨g1, ?_⟩
 unfold symG
 simp only [Bool.and_eq_true, Bool.or_eq_true, Bool.not_eq_true', decide_eq_true_eq, decide_eq_false_iff_not]
 refine ⟨g2, ?_⟩
 by_cases c2 : e.idx = 65521
 · exact .inl (.inl c2)
 · by_cases c3 : e.idx > 0
   · refine .inr ?_
     rcases g3 with g3 | g3
     · rw [hsx0 c2] at g3
       cases hv : aget (numM b) e.idx with
       | none => exact absurd (numF_zero.2 hv) g3
       | some v => have := num_rng hv; show v > 0; omega
     · omega
   · exact .inl (.inr c3)
def atP (b : List Int) (i tb : Nat) : Prop := (tb = 0 ∧ ∀ q, 1 ≤ q → q < i → (shK b q).a1 ≠ 2) ∨ (0 < tb ∧ tb < i ∧ (shK b tb).a1 = 2 ∧ ∀ q, 1 ≤ q → q < i → (shK b q).a1 = 2 → q = tb)
set_option maxHeartbeats 8000000 in
theorem ref_sections (n : Nat) (y : Option AB) (b : List Int) (hB : Bytes b) (hr : readOk b) : AC Tryz.prog 32 (Hn n ([y] ++ [])) [.eptr [.rd 1 (bys b), .rd 10 ((hdsN b (mnH b)).map shA), .v (.int .i64 ((hdOf b).names)), .v (.bool true)]] (fun r H' => (∃ x : Nat × Nat, secsOk b ∧ r = .tup [.own (n + 1) x.1 0 (outR b (mnH b - 1)).length, .v (.bool true)] ∧ H' = Hn n (([y, some (.row 104 9 (x.1) ((outR b (mnH b - 1)).map secN))] ++ List.replicate x.2 none) ++ [])) ∨ (∃ X, ¬ secsOk b ∧ r = .tup [.v (.slice none 0 0), .v (.bool false)] ∧ H' = Hn n (y :: X))) := by
 have hmay := hr.1.2.1
 unfold HdD.may MayHd at hmay
 have hmn : ((mnH b : Nat) : Int) = (hdOf b).many := by unfold mnH; omega
 have hbl := hr.2.1
 have his := hr.2.2.2
 unfold isF at his
 simp only [Bool.and_eq_true, decide_eq_true_eq] at his
 rw [hdsN_len] at his
 have hgn0 : (hdsN b (mnH b)).getD (hdOf b).names.toNat default = shK b (hdOf b).names.toNat := hdsN_get (by omega)
 have htn := ref_Told b (hdsN b (mnH b)) (hdOf b).names true (hdOf b).names ⟨by omega, by rw [hdsN_len]; omega⟩ (by omega) (by rw [hgn0]; exact tell_ok (hr.2.2.1 _ (by omega))) (fun q => absurd q (by omega))
 rw [hgn0] at htn
 have htnl := told_len b (shK b (hdOf b).names.toNat)
 refine AC.body 99 Tryz.func32 rfl rfl Tryz.ntmps32 fun base => ?_
 refine AW.seq' ?_
 refine AW.region ?_
 iterate 2 refine AO.c ?_
 refine AO.nil ?_
 refine SQ.normal ?_
 refine AW.seq' ?_
 refine AW.region ?_
 refine AO.c ?_
 refine AO.nil ?_
 refine SQ.normal ?_
 refine AW.seq' ?_
 refine AW.seq' ?_
 refine AW.ghost (Gh.adoptM 4 104 9) ?_
 refine AW.region ?_
 refine AO.c ?_
 refine AO.nil ?_
 refine SQ.normal ?_
 refine AW.block' ?_
 refine AW.loopU3 [.k, .f, .f, .f, .k, .k, .F, .F, .F, .F, .F, .F, .F, .F, .F, .F, .F, .f, .f, .f, .f, .f] (fun (k j ep : Nat) => [(4, .own (n + 1) ep 0 (outR b k).length), (5, .v (.int .i64 ((k : Int) + 1)))]) (fun k j ep => Hn n (([y, some (.row 104 9 (ep) ((outR b k).map secN))] ++ List.replicate j none) ++ [])) (fun m k j ep => (k ≤ mnH b - 1 ∧ m = mnH b - 1 - k) ∧ ∀ q, 1 ≤ q → q < k + 1 → (nmK b q).isSome = true ∧ lnk1 b q) (mnH b - 1) (0) (0) (0) ⟨by omega, fun q h1 h2 => by omega⟩ (by first | rfl | (simp [outR]; done)) (by simp [outR]) ?_
 rintro m0 k j ep ⟨hx1, hx2⟩
 refine AW.seq' ?_
 refine AW.seq' ?_
 refine AW.region ?_
 iterate 7 refine AO.c ?_
 refine AO.nil ?_
 refine SQ.normal ?_
 refine AW.iteB (GL.ev _) (fun h0 => ?_) (fun h0 => ?_)
 ·
  rw [decide_eq_true_eq, hdsN_len] at h0
  have hkk : k + 1 < mnH b := by omega
  have hgn : (hdsN b (mnH b)).getD ((k : Int) + 1).toNat default = shK b (k + 1) := by rw [show ((k : Int) + 1).toNat = k + 1 by omega]; exact hdsN_get hkk
  have hok1 := hr.2.2.1 (k + 1) hkk
  have hsa := shK_all hok1
  have htk := tell_ok hok1
  have htk1 := ref_Told b (hdsN b (mnH b)) (hdOf b).names true ((k : Int) + 1) ⟨by omega, by rw [hdsN_len]; omega⟩ (by omega) (by rw [hgn]; exact htk) (fun q => absurd q (by omega))
  rw [hgn] at htk1
  have htl := told_len b (shK b (k + 1))
  have hol := outR_len b k
  have hsl := (secM_len b k).1
  have hso := secO_ok hB hr hkk
  have hat : A0 Tryz.prog 88 [.rd 1 (bys (toldF b (shK b (hdOf b).names.toNat))), .v (.int .i64 (shK b (k + 1)).a0)] (fun ret => ret = .tup [.v (.string ((nmK b (k + 1)).getD noS)), .v (.bool (nmK b (k + 1)).isSome)]) := ref_At _ _ (told_bytes hB _) (by omega) (by unfold I64; omega)
  refine AW.skip ?_
  refine SQ.normal ?_
  refine AW.seq' ?_
  refine AW.block' ?_
  refine AW.seq' ?_
  refine AW.region ?_
  iterate 5 refine AO.c ?_
  refine AO.o (by rw [hdsN_len]; omega) ?_
  refine AO.c ?_
  refine AO.eq 26 (av' := .agg (shA (shK b (k + 1)))) (by rw [hgn]) ?_
  refine AO.ww ?_
  refine AO.sst ?_
  refine AO.nil ?_
  refine SQ.normal ?_
  refine AW.seq' ?_
  refine AW.drawsZ [] (.one 0 false (.one 1 false (.one 2 false (.one 3 false (.one 4 false (.one 6 false (.one 7 false (.one 5 true (.one 8 true (.one 9 false (.one 10 false (.one 11 false (.one 12 false (.one 13 false .nil)))))))))))))) (by kernel_rfl) rfl (by kernel_rfl) ?_
  iterate 7 refine AZ.c rfl ?_
  refine AZ.call1 rfl Tryz.func38 rfl rfl (htn) ?_
  refine AZ.call1 rfl Tryz.func88 rfl rfl (hat) ?_
  iterate 5 refine AZ.c rfl ?_
  refine AZ.done ?_
  refine SQ.normal ?_
  refine AW.seq' ?_
  refine AW.seq' ?_
  refine AW.region ?_
  iterate 2 refine AO.c ?_
  refine AO.nil ?_
  refine SQ.normal ?_
  refine AW.iteB (GL.ev _) (fun h1 => ?_) (fun h1 => ?_)
  ·
   rw [Bool.not_eq_true'] at h1
   have hno : ¬ secsOk b := fun h => by have := (h (k + 1) (by omega) hkk).1; rw [this] at h1; cases h1
   refine AW.seq' ?_
   refine AW.region ?_
   iterate 2 refine AO.c ?_
   refine AO.nil ?_
   refine SQ.normal ?_
   refine AW.ret ?_
   refine SQ.ret <| BQ.ret <| SQ.ret <| AW.out <| LU.ret <| BQ.ret <| SQ.ret ?_
   exact FinC.ret Gh.refl (.inr ⟨_, hno, rfl, rfl⟩) (.inr rfl)
  ·
   rw [Bool.not_eq_false'] at h1
   refine AW.skip ?_
   refine SQ.normal ?_
   refine AW.seq' ?_
   refine AW.seq' ?_
   refine AW.region ?_
   iterate 2 refine AO.c ?_
   refine AO.call1 Tryz.func35 rfl rfl (ref_Number b (hdOf b).names true (by omega) _) ?_
   refine AO.c ?_
   refine AO.nil ?_
   refine SQ.normal ?_
   refine AW.iteB (GL.ev _) (fun h2 => ?_) (fun h2 => ?_)
   ·
    rw [decide_eq_true_eq] at h2
    have hsn := (numF_isS hkk).1 h2
    have hal : ∀ q, 1 ≤ q → q < k + 1 + 1 → (nmK b q).isSome = true ∧ lnk1 b q := fun q q1 q2 => by
     by_cases hq : q = k + 1
     · rw [hq]; exact ⟨h1, (lnk1_iff hkk hsa.2.2.1).2 fun c => absurd c hsn⟩
     · exact hx2 q q1 (by omega)
    refine AW.exit ?_
    refine SQ.exit <| BQ.exit ?_
    refine SQ.normal ?_
    refine AW.region ?_
    refine AO.c ?_
    refine AO.oo ?_
    refine AO.c ?_
    refine AO.nil ?_
    exact AW.backE [.k, .f, .f, .f, .k, .k, .F, .F, .F, .F, .F, .F, .F, .F, .F, .F, .F, .f, .f, .f, .f, .f] (j) (m0 - 1) (k + 1, j + 1, ep) (by omega) (by (try dsimp only); exact ⟨by omega, hal⟩) (by first | ((try dsimp only); rw [outR_no hsn]; done) | ((try dsimp only); rw [outR_no hsn]; rfl)) (by first | ((try dsimp only); rw [outR_no hsn]; done) | ((try dsimp only); rw [outR_no hsn]; rfl))
   ·
    rw [decide_eq_false_iff_not] at h2
    have hsy : isS (shK b (k + 1)) := Decidable.not_not.1 fun c => h2 ((numF_isS hkk).2 c)
    refine AW.skip ?_
    refine SQ.normal ?_
    refine AW.seq' ?_
    apply AW.mid
    case h =>
     refine AW.draws [18] 19 _ (by kernel_rfl) rfl rfl ?_
     refine AY.c 0 rfl (by kernel_rfl) ?_
     refine AY.c 1 rfl (by kernel_rfl) ?_
     refine AY.c 2 rfl (by kernel_rfl) ?_
     refine AY.c 3 rfl (by kernel_rfl) ?_
     refine AY.c 4 rfl (by kernel_rfl) ?_
     refine AY.c 5 rfl (by kernel_rfl) ?_
     refine AY.c 6 rfl (by kernel_rfl) ?_
     refine AY.c 7 rfl (by kernel_rfl) ?_
     refine AY.c 8 rfl (by kernel_rfl) ?_
     refine AY.c 9 rfl (by kernel_rfl) ?_
     refine AY.c 10 rfl (by kernel_rfl) ?_
     refine AY.c 12 rfl (by kernel_rfl) ?_
     refine AY.c 13 rfl (by kernel_rfl) ?_
     refine AY.triZ 11 14 17 (.two 14 17 (.two 15 17 (.one 16 false (.one 17 true (.one 18 true .nil))) (.one 15 true (.one 16 false (.one 18 true .nil)))) (.one 14 true (.one 15 true (.one 16 false (.one 18 true .nil))))) (.two 11 17 (.two 15 17 (.one 16 false (.one 17 true (.one 18 true .nil))) (.one 15 true (.one 16 false (.one 18 true .nil)))) (.one 11 true (.one 15 true (.one 16 false (.one 18 true .nil))))) (.two 11 14 (.one 14 true (.one 15 true (.one 16 false (.one 18 true .nil)))) (.one 11 true (.one 15 true (.one 16 false (.one 18 true .nil))))) [true, true, true, true, true, true, true, true, true, true, true, false, true, true, false, false, false, false, false] (by kernel_rfl) (by kernel_rfl) (by kernel_rfl) ?_ ?_ ?_
     · refine AZi.b0 rfl ?_
       intro ad
       refine AZ.two ?_ ?_
       · refine AZi.call1 rfl Tryz.func38 rfl rfl (htk1) ?_
         refine AZ.two ?_ ?_
         · refine AZi.app0 rfl rfl (by rw [bys_length]; omega) (by rw [bys_length]; omega) ?_
           refine AZ.c rfl ?_
           refine AZ.eq 61 (av' := .agg [.v (.string ((nmK b (k + 1)).getD noS)), .v (.int .i64 ((shK b (k + 1)).a1)), .v (.int .i64 ((shK b (k + 1)).a2)), .v (.int .i64 ((shK b (k + 1)).a8)), .v (.int .i64 ((shK b (k + 1)).a9)), .v (.int .i64 (0)), .v (.int .i64 ((shK b (k + 1)).a5)), .rd 1 (bys (toldF b (shK b (k + 1)))), .v (.slice none 0 0)]) rfl ?_
           refine AZ.mkk rfl ?_
           refine AZ.sst rfl rfl ?_
           exact AZ.done ⟨rfl, rfl⟩
         · refine AZi.mkk rfl ?_
           refine AZ.app0 rfl rfl (by rw [bys_length]; omega) (by rw [bys_length]; omega) ?_
           refine AZ.c rfl ?_
           refine AZ.eq 61 (av' := .agg [.v (.string ((nmK b (k + 1)).getD noS)), .v (.int .i64 ((shK b (k + 1)).a1)), .v (.int .i64 ((shK b (k + 1)).a2)), .v (.int .i64 ((shK b (k + 1)).a8)), .v (.int .i64 ((shK b (k + 1)).a9)), .v (.int .i64 (0)), .v (.int .i64 ((shK b (k + 1)).a5)), .rd 1 (bys (toldF b (shK b (k + 1)))), .v (.slice none 0 0)]) rfl ?_
           refine AZ.sst rfl rfl ?_
           exact AZ.done ⟨rfl, rfl⟩
       · refine AZi.mkk rfl ?_
         refine AZ.call1 rfl Tryz.func38 rfl rfl (htk1) ?_
         refine AZ.app0 rfl rfl (by rw [bys_length]; omega) (by rw [bys_length]; omega) ?_
         refine AZ.c rfl ?_
         refine AZ.eq 61 (av' := .agg [.v (.string ((nmK b (k + 1)).getD noS)), .v (.int .i64 ((shK b (k + 1)).a1)), .v (.int .i64 ((shK b (k + 1)).a2)), .v (.int .i64 ((shK b (k + 1)).a8)), .v (.int .i64 ((shK b (k + 1)).a9)), .v (.int .i64 (0)), .v (.int .i64 ((shK b (k + 1)).a5)), .rd 1 (bys (toldF b (shK b (k + 1)))), .v (.slice none 0 0)]) rfl ?_
         refine AZ.sst rfl rfl ?_
         exact AZ.done ⟨rfl, rfl⟩
     · refine AZi.call1 rfl Tryz.func38 rfl rfl (htk1) ?_
       refine AZ.two ?_ ?_
       · refine AZi.b0 rfl ?_
         intro ad
         refine AZ.two ?_ ?_
         · refine AZi.app0 rfl rfl (by rw [bys_length]; omega) (by rw [bys_length]; omega) ?_
           refine AZ.c rfl ?_
           refine AZ.eq 61 (av' := .agg [.v (.string ((nmK b (k + 1)).getD noS)), .v (.int .i64 ((shK b (k + 1)).a1)), .v (.int .i64 ((shK b (k + 1)).a2)), .v (.int .i64 ((shK b (k + 1)).a8)), .v (.int .i64 ((shK b (k + 1)).a9)), .v (.int .i64 (0)), .v (.int .i64 ((shK b (k + 1)).a5)), .rd 1 (bys (toldF b (shK b (k + 1)))), .v (.slice none 0 0)]) rfl ?_
           refine AZ.mkk rfl ?_
           refine AZ.sst rfl rfl ?_
           exact AZ.done ⟨rfl, rfl⟩
         · refine AZi.mkk rfl ?_
           refine AZ.app0 rfl rfl (by rw [bys_length]; omega) (by rw [bys_length]; omega) ?_
           refine AZ.c rfl ?_
           refine AZ.eq 61 (av' := .agg [.v (.string ((nmK b (k + 1)).getD noS)), .v (.int .i64 ((shK b (k + 1)).a1)), .v (.int .i64 ((shK b (k + 1)).a2)), .v (.int .i64 ((shK b (k + 1)).a8)), .v (.int .i64 ((shK b (k + 1)).a9)), .v (.int .i64 (0)), .v (.int .i64 ((shK b (k + 1)).a5)), .rd 1 (bys (toldF b (shK b (k + 1)))), .v (.slice none 0 0)]) rfl ?_
           refine AZ.sst rfl rfl ?_
           exact AZ.done ⟨rfl, rfl⟩
       · refine AZi.mkk rfl ?_
         refine AZ.b0 rfl ?_
         intro ad
         refine AZ.app0 rfl rfl (by rw [bys_length]; omega) (by rw [bys_length]; omega) ?_
         refine AZ.c rfl ?_
         refine AZ.eq 61 (av' := .agg [.v (.string ((nmK b (k + 1)).getD noS)), .v (.int .i64 ((shK b (k + 1)).a1)), .v (.int .i64 ((shK b (k + 1)).a2)), .v (.int .i64 ((shK b (k + 1)).a8)), .v (.int .i64 ((shK b (k + 1)).a9)), .v (.int .i64 (0)), .v (.int .i64 ((shK b (k + 1)).a5)), .rd 1 (bys (toldF b (shK b (k + 1)))), .v (.slice none 0 0)]) rfl ?_
         refine AZ.sst rfl rfl ?_
         exact AZ.done ⟨rfl, rfl⟩
     · refine AZi.mkk rfl ?_
       refine AZ.two ?_ ?_
       · refine AZi.b0 rfl ?_
         intro ad
         refine AZ.call1 rfl Tryz.func38 rfl rfl (htk1) ?_
         refine AZ.app0 rfl rfl (by rw [bys_length]; omega) (by rw [bys_length]; omega) ?_
         refine AZ.c rfl ?_
         refine AZ.eq 61 (av' := .agg [.v (.string ((nmK b (k + 1)).getD noS)), .v (.int .i64 ((shK b (k + 1)).a1)), .v (.int .i64 ((shK b (k + 1)).a2)), .v (.int .i64 ((shK b (k + 1)).a8)), .v (.int .i64 ((shK b (k + 1)).a9)), .v (.int .i64 (0)), .v (.int .i64 ((shK b (k + 1)).a5)), .rd 1 (bys (toldF b (shK b (k + 1)))), .v (.slice none 0 0)]) rfl ?_
         refine AZ.sst rfl rfl ?_
         exact AZ.done ⟨rfl, rfl⟩
       · refine AZi.call1 rfl Tryz.func38 rfl rfl (htk1) ?_
         refine AZ.b0 rfl ?_
         intro ad
         refine AZ.app0 rfl rfl (by rw [bys_length]; omega) (by rw [bys_length]; omega) ?_
         refine AZ.c rfl ?_
         refine AZ.eq 61 (av' := .agg [.v (.string ((nmK b (k + 1)).getD noS)), .v (.int .i64 ((shK b (k + 1)).a1)), .v (.int .i64 ((shK b (k + 1)).a2)), .v (.int .i64 ((shK b (k + 1)).a8)), .v (.int .i64 ((shK b (k + 1)).a9)), .v (.int .i64 (0)), .v (.int .i64 ((shK b (k + 1)).a5)), .rd 1 (bys (toldF b (shK b (k + 1)))), .v (.slice none 0 0)]) rfl ?_
         refine AZ.sst rfl rfl ?_
         exact AZ.done ⟨rfl, rfl⟩
    refine SQ.normal ?_
    refine AW.joinM [.k, .f, .f, .f, .k, .k, .k, .f, .f, .k, .F, .F, .F, .F, .F, .F, .F, .F, .F, .F, .F, .f] (fun (u : Unit) => []) (fun (u : Unit) => Hn n (([y, some (.row 104 9 (ep) ((outR b k).map secN))] ++ List.replicate j none) ++ [some (.box 99 (shA (shK b (k + 1)))), some (.box 104 [.v (.string ((nmK b (k + 1)).getD noS)), .v (.int .i64 ((shK b (k + 1)).a1)), .v (.int .i64 ((shK b (k + 1)).a2)), .v (.int .i64 (max (shK b (k + 1)).a8 1)), .v (.int .i64 ((shK b (k + 1)).a9)), .v (.int .i64 (0)), .v (.int .i64 ((shK b (k + 1)).a5)), .rd 1 (bys (toldF b (shK b (k + 1)))), .v (.slice none 0 0)])])) (fun (u : Unit) => True) ?_ (fun (u : Unit) _hu => ?_)
    ·
     refine AW.seq' ?_
     refine AW.region ?_
     iterate 3 refine AO.c ?_
     refine AO.nil ?_
     refine SQ.normal ?_
     refine AW.iteB (GL.ev _) (fun h3 => ?_) (fun h3 => ?_)
     ·
      rw [decide_eq_true_eq] at h3
      refine AW.region ?_
      refine AO.c ?_
      refine AO.sst ?_
      refine AO.nil ?_
      exact AW.backJ [.k, .f, .f, .f, .k, .k, .k, .f, .f, .k, .F, .F, .F, .F, .F, .F, .F, .F, .F, .F, .F, .f] (()) trivial (by first | rfl | (simp; done)) (by first | (rw [show max (shK b (k + 1)).a8 1 = 1 by omega]; done) | (rw [show max (shK b (k + 1)).a8 1 = 1 by omega]; rfl))
     ·
      rw [decide_eq_false_iff_not] at h3
      refine AW.skip ?_
      exact AW.backJ [.k, .f, .f, .f, .k, .k, .k, .f, .f, .k, .F, .F, .F, .F, .F, .F, .F, .F, .F, .F, .F, .f] (()) trivial (by first | rfl | (simp; done)) (by first | (rw [show max (shK b (k + 1)).a8 1 = (shK b (k + 1)).a8 by omega]; done) | (rw [show max (shK b (k + 1)).a8 1 = (shK b (k + 1)).a8 by omega]; rfl))
    refine AW.seq' ?_
    refine AW.region ?_
    refine AO.c ?_
    refine AO.ghost (Gh.tell 66 (.agg [.v (.string ((nmK b (k + 1)).getD noS)), .v (.int .i64 ((shK b (k + 1)).a1)), .v (.int .i64 ((shK b (k + 1)).a2)), .v (.int .i64 (max (shK b (k + 1)).a8 1)), .v (.int .i64 ((shK b (k + 1)).a9)), .v (.int .i64 (0)), .v (.int .i64 ((shK b (k + 1)).a5)), .rd 1 (bys (toldF b (shK b (k + 1)))), .rd 4 (([] : List RelD).map relA)])) ?_
    refine AO.call1 Tryz.func63 rfl rfl (ref_Has (secO b (shK b (k + 1)) ((nmK b (k + 1)).getD noS)) 128 hso (by omega)) ?_
    refine AO.c ?_
    refine AO.nil ?_
    refine SQ.normal ?_
    refine AW.joinM [.k, .f, .f, .f, .k, .k, .k, .f, .f, .k, .k, .F, .F, .F, .F, .F, .F, .F, .F, .F, .F, .F] (fun (u2 : Unit) => []) (fun (u2 : Unit) => Hn n (([y, some (.row 104 9 (ep) ((outR b k).map secN))] ++ List.replicate j none) ++ [some (.box 99 (shA (shK b (k + 1)))), some (.box 104 [.v (.string ((nmK b (k + 1)).getD noS)), .v (.int .i64 ((shK b (k + 1)).a1)), .v (.int .i64 ((shK b (k + 1)).a2)), .v (.int .i64 (max (shK b (k + 1)).a8 1)), .v (.int .i64 ((shK b (k + 1)).a9)), .v (.int .i64 (if hasF (shK b (k + 1)).a2 128 = true then numF b (shK b (k + 1)).a6 else 0)), .v (.int .i64 ((shK b (k + 1)).a5)), .rd 1 (bys (toldF b (shK b (k + 1)))), .v (.slice none 0 0)])])) (fun (u2 : Unit) => True) ?_ (fun (u2 : Unit) _hu2 => ?_)
    ·
     refine AW.seq' ?_
     refine AW.region ?_
     refine AO.c ?_
     refine AO.nil ?_
     refine SQ.normal ?_
     refine AW.iteB (GL.ev _) (fun h4 => ?_) (fun h4 => ?_)
     ·
      change hasF (shK b (k + 1)).a2 128 = true at h4
      refine AW.region ?_
      iterate 3 refine AO.c ?_
      refine AO.call1 Tryz.func35 rfl rfl (ref_Number b (hdOf b).names true (by omega) _) ?_
      refine AO.c ?_
      refine AO.sst ?_
      refine AO.nil ?_
      exact AW.backJ [.k, .f, .f, .f, .k, .k, .k, .f, .f, .k, .k, .F, .F, .F, .F, .F, .F, .F, .F, .F, .F, .F] (()) trivial (by first | rfl | (simp; done)) (by first | (rw [if_pos h4]; done) | (rw [if_pos h4]; rfl))
     ·
      change hasF (shK b (k + 1)).a2 128 = false at h4
      refine AW.skip ?_
      exact AW.backJ [.k, .f, .f, .f, .k, .k, .k, .f, .f, .k, .k, .F, .F, .F, .F, .F, .F, .F, .F, .F, .F, .F] (()) trivial (by first | rfl | (simp; done)) (by first | (rw [if_neg (by rw [h4]; decide)]; done) | (rw [if_neg (by rw [h4]; decide)]; rfl))
    refine AW.seq' ?_
    refine AW.seq' ?_
    refine AW.region ?_
    iterate 4 refine AO.c ?_
    iterate 6 refine AO.gx ?_
    iterate 2 refine AO.c ?_
    iterate 7 refine AO.gx ?_
    refine AO.c ?_
    refine AO.nil ?_
    refine SQ.normal ?_
    refine AW.iteB (GL.ev _) (fun h5 => ?_) (fun h5 => ?_)
    ·
     have hno : ¬ secsOk b := fun h => by
      have q := (lnk1_iff hkk hsa.2.2.1).1 (h (k + 1) (by omega) hkk).2 hsy
      change (_ || (hasF (shK b (k + 1)).a2 128 && _) || (!hasF (shK b (k + 1)).a2 128 && _)) = true at h5
      cases hh : hasF (shK b (k + 1)).a2 128
      · rw [hh] at h5 q; simp [q.1, q.2.2 rfl] at h5
      · rw [hh] at h5 q; simp [q.1, q.2.1 rfl] at h5
     refine AW.seq' ?_
     refine AW.region ?_
     iterate 2 refine AO.c ?_
     refine AO.nil ?_
     refine SQ.normal ?_
     refine AW.ret ?_
     refine SQ.ret <| BQ.ret <| SQ.ret <| AW.out <| LU.ret <| BQ.ret <| SQ.ret ?_
     exact FinC.ret Gh.refl (.inr ⟨_, hno, rfl, rfl⟩) (.inr rfl)
    ·
     have hlk : lnk1 b (k + 1) ∧ (if hasF (shK b (k + 1)).a2 128 = true then numF b (shK b (k + 1)).a6 else 0) = numF b (shK b (k + 1)).a6 := by
      change (_ || (hasF (shK b (k + 1)).a2 128 && _) || (!hasF (shK b (k + 1)).a2 128 && _)) = false at h5
      cases hh : hasF (shK b (k + 1)).a2 128
      · rw [hh] at h5
        simp at h5
        refine ⟨(lnk1_iff hkk hsa.2.2.1).2 fun _ => ⟨h5.1, fun c => (by rw [hh] at c; cases c), fun _ => h5.2⟩, ?_⟩
        rw [h5.2]
        exact (numF_zero.2 (by rw [show numM b = (secM b (mnH b - 1)).2 from rfl, secM_get, if_neg (by omega)])).symm
      · rw [hh] at h5
        simp at h5
        exact ⟨(lnk1_iff hkk hsa.2.2.1).2 fun _ => ⟨h5.1, fun _ => h5.2, fun c => (by rw [hh] at c; cases c)⟩, rfl⟩
     rw [hlk.2]
     have hal : ∀ q, 1 ≤ q → q < k + 1 + 1 → (nmK b q).isSome = true ∧ lnk1 b q := fun q q1 q2 => by
      by_cases hq : q = k + 1
      · rw [hq]; exact ⟨h1, hlk.1⟩
      · exact hx2 q q1 (by omega)
     refine AW.skip ?_
     refine SQ.normal ?_
     refine AW.region ?_
     iterate 2 refine AO.c ?_
     refine AO.rr ?_
     refine AO.ww ?_
     refine AO.c ?_
     refine AO.nil ?_
     refine BQ.normal ?_
     refine SQ.normal ?_
     refine AW.region ?_
     refine AO.c ?_
     refine AO.oo ?_
     refine AO.c ?_
     refine AO.nil ?_
     exact AW.backE [.k, .f, .f, .f, .k, .k, .F, .F, .F, .F, .F, .F, .F, .F, .F, .F, .F, .f, .f, .f, .f, .f] (j) (m0 - 1) (k + 1, j + 2, ep + 1) (by omega) (by (try dsimp only); exact ⟨by omega, hal⟩) (by (try dsimp only); rw [outR_yes hsy]; simp) (by first | ((try dsimp only); rw [outR_yes hsy, List.map_append]; done) | ((try dsimp only); rw [outR_yes hsy, List.map_append]; rfl))
 ·
  rw [decide_eq_false_iff_not, hdsN_len] at h0
  have hke : k = mnH b - 1 := by omega
  subst hke
  refine AW.exit ?_
  refine SQ.exit <| AW.out <| LU.exit <| BQ.exit ?_
  refine SQ.normal ?_
  refine AW.seq' ?_
  refine AW.region ?_
  iterate 3 refine AO.c ?_
  refine AO.nil ?_
  refine SQ.normal ?_
  refine AW.ret ?_
  exact FinC.ret Gh.refl (.inl ⟨(ep, j), fun q q1 q2 => hx2 q q1 (by omega), rfl, rfl⟩) (.inr rfl)
set_option maxHeartbeats 8000000 in
theorem ref_symbols (b : List Int) (hB : Bytes b) (hr : readOk b) : A0 Tryz.prog 33 [.eptr [.rd 1 (bys b), .rd 10 ((hdsN b (mnH b)).map shA), .v (.int .i64 ((hdOf b).names)), .v (.bool true)]] (fun ret => (∃ tb : Nat, symsOk b tb ∧ ret = .tup [.rd 6 ((symL b tb (syMany b tb)).map symA), .v (.int .i64 ((tb : Int)))]) ∨ ((∀ q, ¬ symsOk b q) ∧ ret = .tup [.v (.slice none 0 0), .v (.int .i64 (0))])) := by
 have hmay := hr.1.2.1
 unfold HdD.may MayHd at hmay
 have hmn : ((mnH b : Nat) : Int) = (hdOf b).many := by unfold mnH; omega
 have hbl := hr.2.1
 have his := hr.2.2.2
 unfold isF at his
 simp only [Bool.and_eq_true, decide_eq_true_eq] at his
 rw [hdsN_len] at his
 refine A0.body 147 Tryz.func33 rfl rfl Tryz.ntmps33 fun base n0 => ?_
 refine AW.seq' ?_
 refine AW.region ?_
 iterate 2 refine AO.c ?_
 refine AO.nil ?_
 refine SQ.normal ?_
 refine AW.seq' ?_
 refine AW.region ?_
 refine AO.c ?_
 refine AO.nil ?_
 refine SQ.normal ?_
 refine AW.seq' ?_
 refine AW.seq' ?_
 refine AW.region ?_
 refine AO.c ?_
 refine AO.nil ?_
 refine SQ.normal ?_
 refine AW.block' ?_
 refine AW.loopU2 [.k, .f, .f, .f, .k, .k, .F, .F, .F, .F, .F, .F, .F, .F, .F, .F, .F, .F, .F, .F, .F, .F, .F, .f, .f, .f, .f, .f] (fun (k tb : Nat) => [(4, .v (.int .i64 ((tb : Int)))), (5, .v (.int .i64 ((k : Int) + 1)))]) (fun k tb => Hn n0 []) (fun m k tb => (k ≤ mnH b - 1 ∧ m = mnH b - 1 - k) ∧ atP b (k + 1) tb) (mnH b - 1) (0) (0) ⟨by omega, .inl ⟨rfl, fun q h1 h2 => by omega⟩⟩ (by first | rfl | (simp; done)) (by first | rfl | (simp; done)) ?_
 rintro m0 k tb ⟨hx1, hx2⟩
 refine AW.seq' ?_
 refine AW.seq' ?_
 refine AW.region ?_
 iterate 7 refine AO.c ?_
 refine AO.nil ?_
 refine SQ.normal ?_
 refine AW.iteB (GL.ev _) (fun h0 => ?_) (fun h0 => ?_)
 ·
  rw [decide_eq_true_eq, hdsN_len] at h0
  have hkk : k + 1 < mnH b := by omega
  have hgn : (hdsN b (mnH b)).getD ((k : Int) + 1).toNat default = shK b (k + 1) := by rw [show ((k : Int) + 1).toNat = k + 1 by omega]; exact hdsN_get hkk
  refine AW.skip ?_
  refine SQ.normal ?_
  refine AW.seq' ?_
  refine AW.block' ?_
  refine AW.seq' ?_
  refine AW.seq' ?_
  refine AW.region ?_
  iterate 5 refine AO.c ?_
  refine AO.o (by rw [hdsN_len]; omega) ?_
  iterate 2 refine AO.c ?_
  refine AO.eq 32 (av' := .v (.int .i64 ((shK b (k + 1)).a1))) (by rw [hgn]) ?_
  iterate 2 refine AO.c ?_
  iterate 2 refine AO.gx ?_
  refine AO.c ?_
  refine AO.nil ?_
  refine SQ.normal ?_
  refine AW.iteB (GL.ev _) (fun h1 => ?_) (fun h1 => ?_)
  ·
   simp only [Bool.and_eq_true, decide_eq_true_eq] at h1
   have hno : ∀ q, ¬ symsOk b q := fun q h => by
    have e := h.2.2.2.1 (k + 1) hkk h1.1
    rcases hx2 with ⟨q1, _⟩ | ⟨_, q2, q3, _⟩
    · omega
    · have := h.2.2.2.1 tb (by omega) q3; omega
   refine AW.seq' ?_
   refine AW.region ?_
   iterate 2 refine AO.c ?_
   refine AO.nil ?_
   refine SQ.normal ?_
   refine AW.ret ?_
   refine SQ.ret <| BQ.ret <| SQ.ret <| AW.out <| LU.ret <| BQ.ret <| SQ.ret ?_
   refine Fin.ret (Gh.refl) noid2 ?_
   exact .inr ⟨hno, rfl⟩
  ·
   simp only [Bool.and_eq_false_iff, decide_eq_false_iff_not] at h1
   refine AW.skip ?_
   refine SQ.normal ?_
   refine AW.seq' ?_
   refine AW.region ?_
   iterate 5 refine AO.c ?_
   refine AO.o (by rw [hdsN_len]; omega) ?_
   iterate 2 refine AO.c ?_
   refine AO.eq 45 (av' := .v (.int .i64 ((shK b (k + 1)).a1))) (by rw [hgn]) ?_
   refine AO.c ?_
   refine AO.nil ?_
   refine SQ.normal ?_
   refine AW.iteB (GL.ev _) (fun h2 => ?_) (fun h2 => ?_)
   ·
    rw [decide_eq_true_eq] at h2
    have hnx : atP b (k + 1 + 1) (k + 1) := .inr ⟨by omega, by omega, h2, fun q q1 q2 q3 => by
     by_cases e : q = k + 1
     · exact e
     · exfalso
       rcases hx2 with ⟨_, c⟩ | ⟨c1, _⟩
       · exact c q q1 (by omega) q3
       · rcases h1 with h1 | h1
         · exact h1 h2
         · omega⟩
    refine AW.region ?_
    iterate 2 refine AO.c ?_
    refine AO.nil ?_
    refine BQ.normal ?_
    refine SQ.normal ?_
    refine AW.region ?_
    refine AO.c ?_
    refine AO.oo ?_
    refine AO.c ?_
    refine AO.nil ?_
    exact AW.backU [.k, .f, .f, .f, .k, .k, .F, .F, .F, .F, .F, .F, .F, .F, .F, .F, .F, .F, .F, .F, .F, .F, .F, .f, .f, .f, .f, .f] (m0 - 1) (k + 1, k + 1) (by omega) (by (try dsimp only); exact ⟨by omega, hnx⟩) (by first | rfl | (simp; done)) (by first | rfl | (simp; done))
   ·
    rw [decide_eq_false_iff_not] at h2
    have hnx : atP b (k + 1 + 1) tb := by
     rcases hx2 with ⟨c1, c2⟩ | ⟨c1, c2, c3, c4⟩
     · refine .inl ⟨c1, fun q q1 q2 => ?_⟩
       by_cases e : q = k + 1
       · rw [e]; exact h2
       · exact c2 q q1 (by omega)
     · refine .inr ⟨c1, by omega, c3, fun q q1 q2 q3 => ?_⟩
       by_cases e : q = k + 1
       · rw [e] at q3; exact absurd q3 h2
       · exact c4 q q1 (by omega) q3
    refine AW.skip ?_
    refine BQ.normal ?_
    refine SQ.normal ?_
    refine AW.region ?_
    refine AO.c ?_
    refine AO.oo ?_
    refine AO.c ?_
    refine AO.nil ?_
    exact AW.backU [.k, .f, .f, .f, .k, .k, .F, .F, .F, .F, .F, .F, .F, .F, .F, .F, .F, .F, .F, .F, .F, .F, .F, .f, .f, .f, .f, .f] (m0 - 1) (k + 1, tb) (by omega) (by (try dsimp only); exact ⟨by omega, hnx⟩) (by first | rfl | (simp; done)) (by first | rfl | (simp; done))
 ·
  rw [decide_eq_false_iff_not, hdsN_len] at h0
  have hke : k + 1 = mnH b := by omega
  rw [hke] at hx2
  refine AW.exit ?_
  refine SQ.exit <| AW.out <| LU.exit <| BQ.exit ?_
  refine SQ.normal ?_
  refine AW.seq' ?_
  refine AW.seq' ?_
  refine AW.region ?_
  iterate 2 refine AO.c ?_
  refine AO.nil ?_
  refine SQ.normal ?_
  refine AW.iteB (GL.ev _) (fun h3 => ?_) (fun h3 => ?_)
  ·
   rw [decide_eq_true_eq] at h3
   have hno : ∀ q, ¬ symsOk b q := fun q h => by
    rcases hx2 with ⟨_, c⟩ | ⟨c1, _⟩
    · exact c q (by have := h.1; omega) h.2.1 h.2.2.1
    · omega
   refine AW.seq' ?_
   refine AW.region ?_
   iterate 2 refine AO.c ?_
   refine AO.nil ?_
   refine SQ.normal ?_
   refine AW.ret ?_
   refine SQ.ret ?_
   refine Fin.ret (Gh.refl) noid2 ?_
   exact .inr ⟨hno, rfl⟩
  ·
   rw [decide_eq_false_iff_not] at h3
   obtain ⟨htb0, htbm, htb2, huni⟩ : 0 < tb ∧ tb < mnH b ∧ (shK b tb).a1 = 2 ∧ ∀ q, 1 ≤ q → q < mnH b → (shK b q).a1 = 2 → q = tb := by
    rcases hx2 with ⟨c, _⟩ | c
    · omega
    · exact c
   have hun : ∀ q, q < mnH b → (shK b q).a1 = 2 → q = tb := fun q q1 q2 => by
    rcases Nat.eq_zero_or_pos q with e | e
    · exfalso; subst e; have := (hr.2.2.1 0 (by omega)).2.1 rfl; rw [this] at q2; cases q2
    · exact huni q e q1 q2
   clear hx2 h3
   have hok1 := hr.2.2.1 tb htbm
   have hsa := shK_all hok1
   have htk := tell_ok hok1
   have hgt : (hdsN b (mnH b)).getD ((tb : Int)).toNat default = shK b tb := by rw [Int.toNat_natCast]; exact hdsN_get htbm
   have htold := ref_Told b (hdsN b (mnH b)) (hdOf b).names true (tb : Int) ⟨by omega, by rw [hdsN_len]; omega⟩ (by omega) (by rw [hgt]; exact htk) (fun q => absurd q (by omega))
   rw [hgt] at htold
   have hts := told_size htk (by omega)
   have htl2 := told_len b (shK b tb)
   have huq : ∀ q, symsOk b q → q = tb := fun q h => hun q h.2.1 h.2.2.1
   refine AW.skip ?_
   refine SQ.normal ?_
   refine AW.seq' ?_
   refine AW.region ?_
   iterate 5 refine AO.c ?_
   refine AO.o (by rw [hdsN_len]; omega) ?_
   refine AO.c ?_
   refine AO.eq 56 (av' := .agg (shA (shK b tb))) (by rw [hdsN_get htbm]) ?_
   refine AO.ww ?_
   refine AO.sst ?_
   refine AO.nil ?_
   refine SQ.normal ?_
   refine AW.seq' ?_
   refine AW.region ?_
   iterate 3 refine AO.c ?_
   refine AO.call1 Tryz.func87 rfl rfl (ref_FIs b (hdsN b (mnH b)) (hdOf b).names true _ 3 (by rw [hdsN_len]; omega)) ?_
   refine AO.c ?_
   refine AO.nil ?_
   refine SQ.normal ?_
   refine AW.seq' ?_
   refine AW.seq' ?_
   refine AW.region ?_
   iterate 4 refine AO.c ?_
   iterate 2 refine AO.gx ?_
   refine AO.gxoo ?_
   refine AO.gx ?_
   iterate 2 refine AO.c ?_
   iterate 2 refine AO.gx ?_
   refine AO.c ?_
   refine AO.nil ?_
   refine SQ.normal ?_
   refine AW.iteB (GL.ev _) (fun h4 => ?_) (fun h4 => ?_)
   ·
    have hno : ∀ q, ¬ symsOk b q := fun q h => by
     obtain rfl := huq q h
     have hs := h.2.2.2.2
     rw [hs.2.1, hs.2.2.2.1] at h4
     simp [hs.1] at h4
    refine AW.seq' ?_
    refine AW.region ?_
    iterate 2 refine AO.c ?_
    refine AO.nil ?_
    refine SQ.normal ?_
    refine AW.ret ?_
    refine SQ.ret ?_
    refine Fin.ret (Gh.refl) noid2 ?_
    exact .inr ⟨hno, rfl⟩
   ·
    simp only [Bool.or_eq_false_iff, decide_eq_false_iff_not, Bool.not_eq_false', Decidable.not_not] at h4
    have hmod : (shK b tb).a5 % 24 = 0 := by have := h4.1.2; omega
    have hent : (shK b tb).a9 = 24 := h4.1.1
    have hisn := h4.2
    have his2 := hisn
    unfold isF at his2
    simp only [Bool.and_eq_true, decide_eq_true_eq] at his2
    rw [hdsN_len] at his2
    have hge6 : (hdsN b (mnH b)).getD (shK b tb).a6.toNat default = shK b (shK b tb).a6.toNat := hdsN_get (by omega)
    have htoldn : A0 Tryz.prog 38 [.eptr [.rd 1 (bys b), .rd 10 ((hdsN b (mnH b)).map shA), .v (.int .i64 ((hdOf b).names)), .v (.bool true)], .v (.int .i64 ((shK b tb).a6))] (fun ret => ret = .rd 1 (bys (syN b tb))) := by
     have h := ref_Told b (hdsN b (mnH b)) (hdOf b).names true (shK b tb).a6 ⟨by omega, by rw [hdsN_len]; omega⟩ (by omega) (by rw [hge6]; exact tell_ok (hr.2.2.1 _ (by omega))) (fun q => absurd q (by omega))
     rw [hge6] at h
     exact h
    have hnl : (syN b tb).length ≤ b.length := told_len b _
    clear h4
    refine AW.skip ?_
    refine SQ.normal ?_
    refine AW.seq' ?_
    refine AW.region ?_
    refine AO.c ?_
    refine AO.nil ?_
    refine SQ.normal ?_
    refine AW.seq' ?_
    refine AW.region ?_
    refine AO.c ?_
    refine AO.nil ?_
    refine SQ.normal ?_
    refine AW.seq' ?_
    refine AW.seq' ?_
    refine AW.region ?_
    refine AO.c ?_
    refine AO.nil ?_
    refine SQ.normal ?_
    refine AW.block' ?_
    refine AW.ghost (Gh.adoptM 8 82 6) ?_
    refine AW.loopU3 [.k, .f, .f, .f, .k, .f, .k, .f, .k, .k, .k, .F, .F, .F, .F, .F, .F, .F, .F, .F, .F, .F, .F, .F, .F, .F, .F, .F] (fun (k j ep : Nat) => [(8, .own (n0 + 1) ep 0 (symL b tb k).length), (9, .v (.int .i64 (locE b tb k))), (10, .v (.int .i64 (24 * (k : Int))))]) (fun k j ep => Hn n0 (([some (.box 99 (shA (shK b tb))), some (.row 82 6 (ep) ((symL b tb k).map symA))] ++ List.replicate j none) ++ [])) (fun m k j ep => (k ≤ syMany b tb ∧ m = syMany b tb - k) ∧ ∀ q, q < k → ent1 b tb q) (syMany b tb) (0) (0) (0) ⟨by omega, fun q h => by omega⟩ (by first | rfl | (simp [symL, locE]; done)) (by simp [symL]) ?_
    rintro m1 k j ep ⟨hy1, hy2⟩
    refine AW.seq' ?_
    refine AW.seq' ?_
    refine AW.region ?_
    iterate 4 refine AO.c ?_
    refine AO.nil ?_
    refine SQ.normal ?_
    refine AW.iteB (GL.ev _) (fun h5 => ?_) (fun h5 => ?_)
    ·
     rw [decide_eq_true_eq] at h5
     have hk : k < syMany b tb := by unfold syMany; omega
     have hk24 : 24 * (k : Int) + 24 ≤ (shK b tb).a5 := by unfold syMany at hk; omega
     have hlc := locE_le b tb k
     have hll := symL_len b tb k
     have hsym := ref_Symbol (toldF b (shK b tb)) (24 * (k : Int)) (told_bytes hB _) (by omega) (by unfold I64; omega)
     obtain ⟨e, he⟩ : ∃ e, e = (if SymOk (toldF b (shK b tb)) (24 * (k : Int)) then entOf (toldF b (shK b tb)) (24 * (k : Int)) else zeroEnt) := ⟨_, rfl⟩
     rw [← he] at hsym
     have heM : MayE e := by
      rw [he]
      split
      · rename_i hq; exact hq.2.2.2
      · decide
     unfold MayE at heM
     have hat := ref_At (syN b tb) e.name (told_bytes hB _) (by omega) (by unfold I64; omega)
     have hsx0 : ¬ e.idx = 65521 → symX (numM b) e = numF b e.idx := fun c => by
      unfold symX
      rw [if_neg c]
      split
      · rfl
      · rw [show e.idx = 0 by omega]
        exact (numF_zero.2 (by rw [show numM b = (secM b (mnH b - 1)).2 from rfl, secM_get, if_neg (by omega)])).symm
     refine AW.skip ?_
     refine SQ.normal ?_
     refine AW.seq' ?_
     refine AW.block' ?_
     refine AW.seq' ?_
     refine AW.region ?_
     iterate 2 refine AO.c ?_
     refine AO.call1 Tryz.func38 rfl rfl (htold) ?_
     skip
     refine AO.c ?_
     refine AO.call1 Tryz.func89 rfl rfl (hsym) ?_
     iterate 3 refine AO.c ?_
     refine AO.ww ?_
     refine AO.sst ?_
     refine AO.c ?_
     refine AO.nil ?_
     refine SQ.normal ?_
     refine AW.seq' ?_
     refine AW.drawsZ [] (.one 0 false (.one 1 false (.one 2 false (.one 4 false (.one 5 false (.one 3 true (.one 6 true (.one 7 false (.one 8 false (.one 9 false (.one 10 false (.one 11 false .nil)))))))))))) (by kernel_rfl) rfl (by kernel_rfl) ?_
     iterate 5 refine AZ.c rfl ?_
     refine AZ.call1 rfl Tryz.func38 rfl rfl (htoldn) ?_
     refine AZ.call1 rfl Tryz.func88 rfl rfl (hat) ?_
     iterate 5 refine AZ.c rfl ?_
     refine AZ.done ?_
     refine SQ.normal ?_
     refine AW.seq' ?_
     apply AW.mid
     case h =>
      refine AW.drawsZ [15] (.one 0 false (.one 1 false (.one 2 false (.one 3 false (.one 4 false (.one 5 false (.one 6 false (.one 7 false (.one 9 false (.one 10 false (.one 11 false (.one 12 false (.two 8 14 (.one 13 false (.one 14 true (.one 15 true .nil))) (.one 8 true (.one 13 false (.one 15 true .nil)))))))))))))))) (by kernel_rfl) rfl (by kernel_rfl) ?_
      iterate 12 refine AZ.c rfl ?_
      refine AZ.two ?_ ?_
      · refine AZi.call1 rfl Tryz.func35 rfl rfl (ref_Number b (hdOf b).names true (by omega) _) ?_
        refine AZ.c rfl ?_
        refine AZ.mkk rfl ?_
        refine AZ.sst rfl rfl ?_
        exact AZ.done ⟨rfl, rfl⟩
      · refine AZi.mkk rfl ?_
        refine AZ.call1 rfl Tryz.func35 rfl rfl (ref_Number b (hdOf b).names true (by omega) _) ?_
        refine AZ.c rfl ?_
        refine AZ.sst rfl rfl ?_
        exact AZ.done ⟨rfl, rfl⟩
     refine SQ.normal ?_
     refine AW.joinM [.k, .f, .f, .f, .k, .f, .k, .f, .k, .k, .k, .k, .k, .f, .k, .k, .F, .F, .F, .F, .F, .F, .F, .F, .F, .F, .F, .F, .F, .F, .F, .F, .f, .f, .f] (fun (u : Unit) => []) (fun (u : Unit) => Hn n0 (([some (.box 99 (shA (shK b tb))), some (.row 82 6 (ep) ((symL b tb k).map symA))] ++ List.replicate j none) ++ [some (.box 176 (entA e)), some (.box 82 [.v (.string ((atF (syN b tb) e.name).getD noS)), .v (.int .i64 (e.bind)), .v (.int .i64 (e.typ)), .v (.int .i64 (symX (numM b) e)), .v (.int .i64 (e.val)), .v (.int .i64 (e.size))])])) (fun (u : Unit) => True) ?_ (fun (u : Unit) _hu => ?_)
     ·
      refine AW.seq' ?_
      refine AW.region ?_
      iterate 3 refine AO.c ?_
      refine AO.nil ?_
      refine SQ.normal ?_
      refine AW.iteB (GL.ev _) (fun h6 => ?_) (fun h6 => ?_)
      ·
       rw [decide_eq_true_eq] at h6
       refine AW.region ?_
       refine AO.c ?_
       refine AO.sst ?_
       refine AO.nil ?_
       exact AW.backJ [.k, .f, .f, .f, .k, .f, .k, .f, .k, .k, .k, .k, .k, .f, .k, .k, .F, .F, .F, .F, .F, .F, .F, .F, .F, .F, .F, .F, .F, .F, .F, .F, .f, .f, .f] (()) trivial (by first | rfl | (simp; done)) (by first | (rw [show symX (numM b) e = -1 by unfold symX; rw [if_pos h6]]; done) | (rw [show symX (numM b) e = -1 by unfold symX; rw [if_pos h6]]; rfl))
      ·
       rw [decide_eq_false_iff_not] at h6
       refine AW.skip ?_
       exact AW.backJ [.k, .f, .f, .f, .k, .f, .k, .f, .k, .k, .k, .k, .k, .f, .k, .k, .F, .F, .F, .F, .F, .F, .F, .F, .F, .F, .F, .F, .F, .F, .F, .F, .f, .f, .f] (()) trivial (by first | rfl | (simp; done)) (by first | (rw [hsx0 h6]; done) | (rw [hsx0 h6]; rfl))
     refine AW.seq' ?_
     refine AW.seq' ?_
     refine AW.region ?_
     iterate 3 refine AO.c ?_
     iterate 2 refine AO.gx ?_
     iterate 2 refine AO.c ?_
     iterate 8 refine AO.gx ?_
     refine AO.c ?_
     refine AO.nil ?_
     refine SQ.normal ?_
     refine AW.iteB (GL.ev _) (fun h7 => ?_) (fun h7 => ?_)
     ·
      have hno : ∀ q, ¬ symsOk b q := fun q h => by
       obtain rfl := huq q h
       have hq := h.2.2.2.2.2.2.1 k hk
       have hq1 : SymOk (toldF b (shK b q)) (24 * (k : Int)) := hq.1
       rw [if_pos hq1] at he
       have hq2 := hq.2
       change symG (numM b) (entOf (toldF b (shK b q)) (24 * (k : Int))) (syN b q) = true at hq2
       rw [← he] at hq2
       exact symG_no hq1 hq2 heM.2.2.2.1.1 hsx0 h7
      refine AW.seq' ?_
      refine AW.region ?_
      iterate 2 refine AO.c ?_
      refine AO.nil ?_
      refine SQ.normal ?_
      refine AW.ret ?_
      refine SQ.ret <| BQ.ret <| SQ.ret <| AW.out <| LU.ret <| BQ.ret <| SQ.ret ?_
      refine Fin.ret (Gh.refl) noid2 ?_
      exact .inr ⟨hno, rfl⟩
     ·
      obtain ⟨hq, hsg⟩ := symG_yes (b := b) (tb := tb) (k := k) hsx0 h7
      rw [if_pos hq] at he
      have hsk : symK b tb k = ⟨(atF (syN b tb) e.name).getD noS, e.bind, e.typ, symX (numM b) e, e.val, e.size⟩ := by rw [he]; rfl
      have hal2 : ∀ q, q < k + 1 → ent1 b tb q := fun q hq2 => by
       by_cases c : q = k
       · subst c; exact ⟨hq, by rw [he] at hsg; exact hsg⟩
       · exact hy2 q (by omega)
      refine AW.skip ?_
      refine SQ.normal ?_
      refine AW.seq' ?_
      refine AW.seq' ?_
      refine AW.region ?_
      iterate 3 refine AO.c ?_
      refine AO.nil ?_
      refine SQ.normal ?_
      refine AW.iteB (GL.ev _) (fun h8 => ?_) (fun h8 => ?_)
      ·
       have hbd : (entK b tb k).bind = 0 := by rw [decide_eq_true_eq, he] at h8; exact h8
       refine AW.region ?_
       refine AO.c ?_
       refine AO.oo ?_
       refine AO.c ?_
       refine AO.nil ?_
       refine SQ.normal ?_
       refine AW.region ?_
       iterate 2 refine AO.c ?_
       refine AO.rr ?_
       refine AO.ww ?_
       refine AO.c ?_
       refine AO.nil ?_
       refine BQ.normal ?_
       refine SQ.normal ?_
       refine AW.region ?_
       refine AO.c ?_
       refine AO.oo ?_
       refine AO.c ?_
       refine AO.nil ?_
       exact AW.backE [.k, .f, .f, .f, .k, .f, .k, .f, .k, .k, .k, .F, .F, .F, .F, .F, .F, .F, .F, .F, .F, .F, .F, .F, .F, .F, .F, .F] (j) (m1 - 1) (k + 1, j + 2, ep + 1) (by omega) (by (try dsimp only); exact ⟨by omega, hal2⟩) (by first | ((try dsimp only); simp [locE_succ, hbd, symL_succ]; done) | ((try dsimp only); simp [locE_succ, hbd, symL_succ]; omega)) (by first | ((try dsimp only); rw [symL_succ, List.map_append, hsk]; done) | ((try dsimp only); rw [symL_succ, List.map_append, hsk]; rfl))
      ·
       have hbd : ¬ (entK b tb k).bind = 0 := by rw [decide_eq_false_iff_not, he] at h8; exact h8
       refine AW.skip ?_
       refine SQ.normal ?_
       refine AW.region ?_
       iterate 2 refine AO.c ?_
       refine AO.rr ?_
       refine AO.ww ?_
       refine AO.c ?_
       refine AO.nil ?_
       refine BQ.normal ?_
       refine SQ.normal ?_
       refine AW.region ?_
       refine AO.c ?_
       refine AO.oo ?_
       refine AO.c ?_
       refine AO.nil ?_
       exact AW.backE [.k, .f, .f, .f, .k, .f, .k, .f, .k, .k, .k, .F, .F, .F, .F, .F, .F, .F, .F, .F, .F, .F, .F, .F, .F, .F, .F, .F] (j) (m1 - 1) (k + 1, j + 2, ep + 1) (by omega) (by (try dsimp only); exact ⟨by omega, hal2⟩) (by first | ((try dsimp only); simp [locE_succ, hbd, symL_succ]; done) | ((try dsimp only); simp [locE_succ, hbd, symL_succ]; omega)) (by first | ((try dsimp only); rw [symL_succ, List.map_append, hsk]; done) | ((try dsimp only); rw [symL_succ, List.map_append, hsk]; rfl))
    ·
     rw [decide_eq_false_iff_not] at h5
     have hk : k = syMany b tb := by unfold syMany at *; omega
     subst hk
     have hlc := locE_le b tb (syMany b tb)
     refine AW.exit ?_
     refine SQ.exit <| AW.out <| LU.exit <| BQ.exit ?_
     refine SQ.normal ?_
     refine AW.seq' ?_
     refine AW.seq' ?_
     refine AW.region ?_
     iterate 4 refine AO.c ?_
     refine AO.nil ?_
     refine SQ.normal ?_
     refine AW.iteB (GL.ev _) (fun h9 => ?_) (fun h9 => ?_)
     ·
      have hno : ∀ q, ¬ symsOk b q := fun q h => by
       obtain rfl := huq q h
       have hs := h.2.2.2.2.2.2.2.2
       simp [hs] at h9
      refine AW.seq' ?_
      refine AW.region ?_
      iterate 2 refine AO.c ?_
      refine AO.nil ?_
      refine SQ.normal ?_
      refine AW.ret ?_
      refine SQ.ret ?_
      refine Fin.ret (Gh.refl) noid2 ?_
      exact .inr ⟨hno, rfl⟩
     ·
      rw [decide_eq_false_iff_not, Decidable.not_not] at h9
      refine AW.skip ?_
      refine SQ.normal ?_
      refine AW.seq' ?_
      have hll := symL_len b tb (syMany b tb)
      refine AW.ghost (Gh.freezeM 8 symA (symL b tb (syMany b tb)) rfl (by omega) (by unfold syMany at *; omega)) ?_
      refine AW.region ?_
      iterate 4 refine AO.c ?_
      refine AO.nil ?_
      refine SQ.normal ?_
      refine AW.ret ?_
      refine Fin.ret (Gh.refl) noid2 ?_
      exact .inl ⟨tb, ⟨htb0, htbm, htb2, hun, hmod, hisn, hy2, hent, h9⟩, rfl⟩
end Go.Proofs.YtdniaamhbfadnaaGreat.AL
namespace Go.Proofs.YtdniaamhbfadnaaGreat.AL
open Go Go.RowKit Go.Proofs.YtdniaamhbfadnaaGreat.Base
set_option linter.unusedVariables false
set_option linter.unusedSimpArgs false
set_option maxRecDepth 4000
set_option synthInstance.maxSize 1000
set_option synthInstance.maxHeartbeats 200000
set_option maxHeartbeats 4000000 in
theorem ref_relsY (b : List Int) (hB : Bytes b) (hr : readOk b) (tb : Int) (i : Nat) (hi : i < mnH b) (h8 : (shK b i).a1 = 4) (hpos : 0 < (shK b i).a5) : A0 Tryz.prog 34 [.eptr [.rd 1 (bys b), .rd 10 ((hdsN b (mnH b)).map shA), .v (.int .i64 ((hdOf b).names)), .v (.bool true)], .v (.int .i64 ((i : Int))), .v (.int .i64 (tb))] (fun ret => (relsOk b tb i ∧ ret = .tup [relC (relL b i (relMany b i)), .v (.bool true)]) ∨ (¬ relsOk b tb i ∧ ret = .tup [.v (.slice none 0 0), .v (.bool false)])) := by
 have hmay := hr.1.2.1
 unfold HdD.may MayHd at hmay
 have hmn : ((mnH b : Nat) : Int) = (hdOf b).many := by unfold mnH; omega
 have hbl := hr.2.1
 have hok1 := hr.2.2.1 i hi
 have hsa := shK_all hok1
 have htk := tell_ok hok1
 have hi0 : 0 < i := by
  rcases Nat.eq_zero_or_pos i with e | e
  · exfalso; subst e; rw [hok1.2.1 rfl] at h8; cases h8
  · exact e
 have hge : (hdsN b (mnH b)).getD ((i : Int)).toNat default = shK b i := by rw [Int.toNat_natCast]; exact hdsN_get hi
 have htold := ref_Told b (hdsN b (mnH b)) (hdOf b).names true (i : Int) ⟨by omega, by rw [hdsN_len]; omega⟩ (by omega) (by rw [hge]; exact htk) (fun q => absurd q (by omega))
 rw [hge] at htold
 have hts := told_size htk (by omega)
 have htl2 := told_len b (shK b i)
 have hBt := told_bytes hB (shK b i)
 refine A0.body 93 Tryz.func34 rfl rfl Tryz.ntmps34 fun base n0 => ?_
 refine AW.seq' ?_
 refine AW.region ?_
 iterate 2 refine AO.c ?_
 refine AO.nil ?_
 refine SQ.normal ?_
 refine AW.seq' ?_
 refine AW.region ?_
 refine AO.c ?_
 refine AO.nil ?_
 refine SQ.normal ?_
 refine AW.seq' ?_
 refine AW.region ?_
 iterate 5 refine AO.c ?_
 refine AO.o (by rw [hdsN_len]; omega) ?_
 refine AO.c ?_
 refine AO.eq 21 (av' := .agg (shA (shK b i))) (by rw [hdsN_get hi]) ?_
 refine AO.ww ?_
 refine AO.sst ?_
 refine AO.nil ?_
 refine SQ.normal ?_
 refine AW.seq' ?_
 refine AW.region ?_
 iterate 3 refine AO.c ?_
 refine AO.call1 Tryz.func87 rfl rfl (ref_FIs b (hdsN b (mnH b)) (hdOf b).names true _ 1 (by rw [hdsN_len]; omega)) ?_
 refine AO.c ?_
 refine AO.nil ?_
 refine SQ.normal ?_
 refine AW.seq' ?_
 refine AW.seq' ?_
 refine AW.region ?_
 iterate 4 refine AO.c ?_
 iterate 2 refine AO.gx ?_
 refine AO.gxoo ?_
 refine AO.gx ?_
 iterate 2 refine AO.c ?_
 iterate 4 refine AO.gx ?_
 iterate 2 refine AO.c ?_
 iterate 2 refine AO.gx ?_
 refine AO.c ?_
 refine AO.nil ?_
 refine SQ.normal ?_
 refine AW.iteB (GL.ev _) (fun h0 => ?_) (fun h0 => ?_)
 ·
  have hno : ¬ relsOk b tb i := fun h => by
   obtain ⟨g1, g2, g3, g4, _⟩ := h
   rw [g1, g3, g4] at h0
   simp at h0
   omega
  refine AW.seq' ?_
  refine AW.region ?_
  iterate 2 refine AO.c ?_
  refine AO.nil ?_
  refine SQ.normal ?_
  refine AW.ret ?_
  refine SQ.ret ?_
  refine Fin.ret (Gh.refl) noid2 ?_
  exact .inr ⟨hno, rfl⟩
 ·
  have h0f : (shK b i).a9 = 24 ∧ (shK b i).a5 % 24 = 0 ∧ (shK b i).a6 = tb ∧ isF (hdsN b (mnH b)) (shK b i).a7 1 = true := by
   simp only [Bool.or_eq_false_iff, Bool.not_eq_false', decide_eq_false_iff_not, Decidable.not_not] at h0
   obtain ⟨⟨⟨c1, c2⟩, c3⟩, c4⟩ := h0
   exact ⟨c1, by omega, c3, c4⟩
  refine AW.skip ?_
  refine SQ.normal ?_
  refine AW.seq' ?_
  refine AW.seq' ?_
  refine AW.region ?_
  refine AO.c ?_
  refine AO.nil ?_
  refine SQ.normal ?_
  refine AW.block' ?_
  refine AW.loopU [.k, .k, .f, .f, .f, .f, .f, .f, .k, .k, .f, .k, .F, .F, .F, .F, .F, .F, .F, .F, .F, .F, .f] (fun (q : Nat) => [(11, .v (.int .i64 ((q : Int) + 1)))]) (fun q => Hn n0 [some (.box 99 (shA (shK b i)))]) (fun m q => (q + 1 ≤ i ∧ m = i - 1 - q) ∧ ∀ p, 0 < p → p < q + 1 → ¬ ((shK b p).a1 = 4 ∧ (shK b p).a7 = (shK b i).a7)) (i - 1) (0) ⟨by omega, fun p h1 h2 => by omega⟩ (by first | rfl | (simp; done)) (by first | rfl | (simp; done)) ?_
  rintro m0 q ⟨hx1, hx2⟩
  refine AW.seq' ?_
  refine AW.seq' ?_
  refine AW.region ?_
  iterate 3 refine AO.c ?_
  refine AO.nil ?_
  refine SQ.normal ?_
  refine AW.iteB (GL.ev _) (fun h1 => ?_) (fun h1 => ?_)
  ·
   rw [decide_eq_true_eq] at h1
   have hq : q + 1 < i := by omega
   have hgq : (hdsN b (mnH b)).getD ((q : Int) + 1).toNat default = shK b (q + 1) := by rw [show ((q : Int) + 1).toNat = q + 1 by omega]; exact hdsN_get (by omega)
   refine AW.skip ?_
   refine SQ.normal ?_
   refine AW.seq' ?_
   refine AW.block' ?_
   refine AW.seq' ?_
   refine AW.drawsZ [] (.one 0 false (.one 1 false (.one 2 false (.one 3 false (.one 4 false (.one 5 false (.one 6 false (.one 7 false (.one 8 false (.one 9 false (.one 10 false (.one 11 false (.one 12 false (.one 13 false (.one 14 false (.one 15 false (.one 16 false (.one 17 false (.one 18 false (.one 19 false (.one 20 false (.one 21 false .nil)))))))))))))))))))))) (by kernel_rfl) rfl (by kernel_rfl) ?_
   iterate 5 refine AZ.c rfl ?_
   refine AZ.o rfl (by rw [hdsN_len]; omega) ?_
   iterate 2 refine AZ.c rfl ?_
   refine AZ.eq 57 (av' := .v (.int .i64 ((shK b (q + 1)).a1))) (by rw [hgq]) ?_
   iterate 2 refine AZ.c rfl ?_
   iterate 5 refine AZ.gx rfl ?_
   refine AZ.gxo rfl (by rw [hdsN_len]; omega) ?_
   iterate 2 refine AZ.gx rfl ?_
   refine AZ.eq 67 (av' := cv (decide ((shK b (q + 1)).a1 = 4)) (.v (.int .i64 ((shK b (q + 1)).a7)))) (by rw [hgq]) ?_
   iterate 3 refine AZ.gx rfl ?_
   refine AZ.c rfl ?_
   refine AZ.done ?_
   refine SQ.normal ?_
   refine AW.iteB (GL.ev _) (fun h2 => ?_) (fun h2 => ?_)
   ·
    simp only [Bool.and_eq_true, decide_eq_true_eq] at h2
    have hno : ¬ relsOk b tb i := fun h => h.2.2.2.2.1 (q + 1) (by omega) hq h2
    refine AW.seq' ?_
    refine AW.region ?_
    iterate 2 refine AO.c ?_
    refine AO.nil ?_
    refine SQ.normal ?_
    refine AW.ret ?_
    refine BQ.ret <| SQ.ret <| AW.out <| LU.ret <| BQ.ret <| SQ.ret ?_
    refine Fin.ret (Gh.refl) noid2 ?_
    exact .inr ⟨hno, rfl⟩
   ·
    have hal : ∀ p, 0 < p → p < q + 1 + 1 → ¬ ((shK b p).a1 = 4 ∧ (shK b p).a7 = (shK b i).a7) := fun p p1 p2 => by
     by_cases e : p = q + 1
     · subst e
       simp only [Bool.and_eq_false_iff, decide_eq_false_iff_not] at h2
       rintro ⟨c1, c2⟩
       rcases h2 with h2 | h2
       · exact h2 c1
       · exact h2 c2
     · exact hx2 p p1 (by omega)
    refine AW.skip ?_
    refine BQ.normal ?_
    refine SQ.normal ?_
    refine AW.region ?_
    refine AO.c ?_
    refine AO.oo ?_
    refine AO.c ?_
    refine AO.nil ?_
    exact AW.backU [.k, .k, .f, .f, .f, .f, .f, .f, .k, .k, .f, .k, .F, .F, .F, .F, .F, .F, .F, .F, .F, .F, .f] (m0 - 1) (q + 1) (by omega) (by (try dsimp only); exact ⟨by omega, hal⟩) (by first | rfl | (simp; done)) (by first | rfl | (simp; done))
  ·
   rw [decide_eq_false_iff_not] at h1
   have hq : i = q + 1 := by omega
   refine AW.exit ?_
   refine SQ.exit <| AW.out <| LU.exit <| BQ.exit ?_
   refine SQ.normal ?_
   refine AW.seq' ?_
   refine AW.seq' ?_
   refine AW.region ?_
   refine AO.c ?_
   refine AO.nil ?_
   refine SQ.normal ?_
   refine AW.block' ?_
   refine AW.ghost (Gh.adoptM 8 131 4) ?_
   refine AW.loopU2 [.k, .k, .f, .f, .f, .f, .f, .f, .k, .k, .f, .f, .k, .F, .F, .F, .F, .F, .F, .F, .F, .F, .F] (fun (k ep : Nat) => [(8, .own (n0 + 1) ep 0 (relL b i k).length), (12, .v (.int .i64 (24 * (k : Int))))]) (fun k ep => Hn n0 (([some (.box 99 (shA (shK b i))), some (.row 131 4 ep ((relL b i k).map relA))] ++ List.replicate k none) ++ [])) (fun m k ep => (k ≤ relMany b i ∧ m = relMany b i - k) ∧ ∀ p, p < k → RelOk (toldF b (shK b i)) (24 * (p : Nat))) (relMany b i) (0) (0) ⟨by omega, fun p h => by omega⟩ (by first | rfl | (simp [relL]; done)) (by simp [relL]) ?_
   rintro m1 k ep ⟨hy1, hy2⟩
   refine AW.seq' ?_
   refine AW.seq' ?_
   refine AW.region ?_
   iterate 4 refine AO.c ?_
   refine AO.nil ?_
   refine SQ.normal ?_
   refine AW.iteB (GL.ev _) (fun h3 => ?_) (fun h3 => ?_)
   ·
    rw [decide_eq_true_eq] at h3
    have hk : k < relMany b i := by unfold relMany; omega
    have hrl := relL_len b i k
    refine AW.skip ?_
    refine SQ.normal ?_
    refine AW.seq' ?_
    refine AW.block' ?_
    refine AW.seq' ?_
    refine AW.region ?_
    iterate 2 refine AO.c ?_
    refine AO.call1 Tryz.func38 rfl rfl (htold) ?_
    refine AO.c ?_
    refine AO.call1 Tryz.func90 rfl rfl (ref_Rel (toldF b (shK b i)) (24 * (k : Int)) hBt (by omega) (by unfold I64; omega)) ?_
    iterate 3 refine AO.c ?_
    refine AO.ww ?_
    refine AO.sst ?_
    refine AO.c ?_
    refine AO.nil ?_
    refine SQ.normal ?_
    refine AW.seq' ?_
    refine AW.seq' ?_
    refine AW.region ?_
    iterate 2 refine AO.c ?_
    refine AO.nil ?_
    refine SQ.normal ?_
    refine AW.iteB (GL.ev _) (fun h4 => ?_) (fun h4 => ?_)
    ·
     have hno : ¬ relsOk b tb i := fun h => by
      have q := h.2.2.2.2.2 k hk
      rw [decide_eq_true q] at h4; cases h4
     refine AW.seq' ?_
     refine AW.region ?_
     iterate 2 refine AO.c ?_
     refine AO.nil ?_
     refine SQ.normal ?_
     refine AW.ret ?_
     refine SQ.ret <| BQ.ret <| SQ.ret <| AW.out <| LU.ret <| BQ.ret <| SQ.ret ?_
     refine Fin.ret (Gh.refl) noid2 ?_
     exact .inr ⟨hno, rfl⟩
    ·
     have hok : RelOk (toldF b (shK b i)) (24 * (k : Int)) := by simpa using h4
     simp only [if_pos hok]
     have hal2 : ∀ p, p < k + 1 → RelOk (toldF b (shK b i)) (24 * (p : Nat)) := fun p hp => by
      by_cases e : p = k
      · subst e; exact hok
      · exact hy2 p (by omega)
     refine AW.skip ?_
     refine SQ.normal ?_
     refine AW.region ?_
     iterate 2 refine AO.c ?_
     refine AO.rr ?_
     refine AO.ww ?_
     refine AO.c ?_
     refine AO.nil ?_
     refine BQ.normal ?_
     refine SQ.normal ?_
     refine AW.region ?_
     refine AO.c ?_
     refine AO.oo ?_
     refine AO.c ?_
     refine AO.nil ?_
     exact AW.backE [.k, .k, .f, .f, .f, .f, .f, .f, .k, .k, .f, .f, .k, .F, .F, .F, .F, .F, .F, .F, .F, .F, .F] (k) (m1 - 1) (k + 1, ep + 1) (by omega) (by (try dsimp only); exact ⟨by omega, hal2⟩) (by first | ((try dsimp only); simp [relL_succ]; done) | ((try dsimp only); simp [relL_succ]; omega)) (by first | ((try dsimp only); rw [relL_succ, List.map_append]; done) | ((try dsimp only); rw [relL_succ, List.map_append]; rfl))
   ·
    rw [decide_eq_false_iff_not] at h3
    have hk : k = relMany b i := by unfold relMany at *; omega
    subst hk
    refine AW.exit ?_
    refine SQ.exit <| AW.out <| LU.exit <| BQ.exit ?_
    refine SQ.normal ?_
    refine AW.seq' ?_
    have hln := relL_len b i (relMany b i)
    have hne : relL b i (relMany b i) ≠ [] := fun e => by rw [e] at hln; unfold relMany at hln; simp at hln; omega
    refine AW.ghost (Gh.freezeM 8 relA (relL b i (relMany b i)) rfl (by omega) (by unfold relMany at *; omega)) ?_
    refine AW.region ?_
    iterate 3 refine AO.c ?_
    refine AO.nil ?_
    refine SQ.normal ?_
    refine AW.ret ?_
    refine Fin.ret (Gh.refl) noid2 ?_
    exact .inl ⟨⟨h0f.1, h0f.2.1, h0f.2.2.1, h0f.2.2.2, by rw [← hq] at hx2; exact hx2, hy2⟩, by rw [relC_ne hne]; rfl⟩
set_option maxHeartbeats 4000000 in
theorem ref_relsZ (b : List Int) (hB : Bytes b) (hr : readOk b) (tb : Int) (i : Nat) (hi : i < mnH b) (h8 : (shK b i).a1 = 4) (hpos : (shK b i).a5 = 0) : A0 Tryz.prog 34 [.eptr [.rd 1 (bys b), .rd 10 ((hdsN b (mnH b)).map shA), .v (.int .i64 ((hdOf b).names)), .v (.bool true)], .v (.int .i64 ((i : Int))), .v (.int .i64 (tb))] (fun ret => (relsOk b tb i ∧ ret = .tup [relC (relL b i (relMany b i)), .v (.bool true)]) ∨ (¬ relsOk b tb i ∧ ret = .tup [.v (.slice none 0 0), .v (.bool false)])) := by
 have hmay := hr.1.2.1
 unfold HdD.may MayHd at hmay
 have hmn : ((mnH b : Nat) : Int) = (hdOf b).many := by unfold mnH; omega
 have hbl := hr.2.1
 have hok1 := hr.2.2.1 i hi
 have hsa := shK_all hok1
 have htk := tell_ok hok1
 have hi0 : 0 < i := by
  rcases Nat.eq_zero_or_pos i with e | e
  · exfalso; subst e; rw [hok1.2.1 rfl] at h8; cases h8
  · exact e
 have hge : (hdsN b (mnH b)).getD ((i : Int)).toNat default = shK b i := by rw [Int.toNat_natCast]; exact hdsN_get hi
 have htold := ref_Told b (hdsN b (mnH b)) (hdOf b).names true (i : Int) ⟨by omega, by rw [hdsN_len]; omega⟩ (by omega) (by rw [hge]; exact htk) (fun q => absurd q (by omega))
 rw [hge] at htold
 have hts := told_size htk (by omega)
 have htl2 := told_len b (shK b i)
 have hBt := told_bytes hB (shK b i)
 refine A0.body 93 Tryz.func34 rfl rfl Tryz.ntmps34 fun base n0 => ?_
 refine AW.seq' ?_
 refine AW.region ?_
 iterate 2 refine AO.c ?_
 refine AO.nil ?_
 refine SQ.normal ?_
 refine AW.seq' ?_
 refine AW.region ?_
 refine AO.c ?_
 refine AO.nil ?_
 refine SQ.normal ?_
 refine AW.seq' ?_
 refine AW.region ?_
 iterate 5 refine AO.c ?_
 refine AO.o (by rw [hdsN_len]; omega) ?_
 refine AO.c ?_
 refine AO.eq 21 (av' := .agg (shA (shK b i))) (by rw [hdsN_get hi]) ?_
 refine AO.ww ?_
 refine AO.sst ?_
 refine AO.nil ?_
 refine SQ.normal ?_
 refine AW.seq' ?_
 refine AW.region ?_
 iterate 3 refine AO.c ?_
 refine AO.call1 Tryz.func87 rfl rfl (ref_FIs b (hdsN b (mnH b)) (hdOf b).names true _ 1 (by rw [hdsN_len]; omega)) ?_
 refine AO.c ?_
 refine AO.nil ?_
 refine SQ.normal ?_
 refine AW.seq' ?_
 refine AW.seq' ?_
 refine AW.region ?_
 iterate 4 refine AO.c ?_
 iterate 2 refine AO.gx ?_
 refine AO.gxoo ?_
 refine AO.gx ?_
 iterate 2 refine AO.c ?_
 iterate 4 refine AO.gx ?_
 iterate 2 refine AO.c ?_
 iterate 2 refine AO.gx ?_
 refine AO.c ?_
 refine AO.nil ?_
 refine SQ.normal ?_
 refine AW.iteB (GL.ev _) (fun h0 => ?_) (fun h0 => ?_)
 ·
  have hno : ¬ relsOk b tb i := fun h => by
   obtain ⟨g1, g2, g3, g4, _⟩ := h
   rw [g1, g3, g4] at h0
   simp at h0
   omega
  refine AW.seq' ?_
  refine AW.region ?_
  iterate 2 refine AO.c ?_
  refine AO.nil ?_
  refine SQ.normal ?_
  refine AW.ret ?_
  refine SQ.ret ?_
  refine Fin.ret (Gh.refl) noid2 ?_
  exact .inr ⟨hno, rfl⟩
 ·
  have h0f : (shK b i).a9 = 24 ∧ (shK b i).a5 % 24 = 0 ∧ (shK b i).a6 = tb ∧ isF (hdsN b (mnH b)) (shK b i).a7 1 = true := by
   simp only [Bool.or_eq_false_iff, Bool.not_eq_false', decide_eq_false_iff_not, Decidable.not_not] at h0
   obtain ⟨⟨⟨c1, c2⟩, c3⟩, c4⟩ := h0
   exact ⟨c1, by omega, c3, c4⟩
  refine AW.skip ?_
  refine SQ.normal ?_
  refine AW.seq' ?_
  refine AW.seq' ?_
  refine AW.region ?_
  refine AO.c ?_
  refine AO.nil ?_
  refine SQ.normal ?_
  refine AW.block' ?_
  refine AW.loopU [.k, .k, .f, .f, .f, .f, .f, .f, .k, .k, .f, .k, .F, .F, .F, .F, .F, .F, .F, .F, .F, .F, .f] (fun (q : Nat) => [(11, .v (.int .i64 ((q : Int) + 1)))]) (fun q => Hn n0 [some (.box 99 (shA (shK b i)))]) (fun m q => (q + 1 ≤ i ∧ m = i - 1 - q) ∧ ∀ p, 0 < p → p < q + 1 → ¬ ((shK b p).a1 = 4 ∧ (shK b p).a7 = (shK b i).a7)) (i - 1) (0) ⟨by omega, fun p h1 h2 => by omega⟩ (by first | rfl | (simp; done)) (by first | rfl | (simp; done)) ?_
  rintro m0 q ⟨hx1, hx2⟩
  refine AW.seq' ?_
  refine AW.seq' ?_
  refine AW.region ?_
  iterate 3 refine AO.c ?_
  refine AO.nil ?_
  refine SQ.normal ?_
  refine AW.iteB (GL.ev _) (fun h1 => ?_) (fun h1 => ?_)
  ·
   rw [decide_eq_true_eq] at h1
   have hq : q + 1 < i := by omega
   have hgq : (hdsN b (mnH b)).getD ((q : Int) + 1).toNat default = shK b (q + 1) := by rw [show ((q : Int) + 1).toNat = q + 1 by omega]; exact hdsN_get (by omega)
   refine AW.skip ?_
   refine SQ.normal ?_
   refine AW.seq' ?_
   refine AW.block' ?_
   refine AW.seq' ?_
   refine AW.drawsZ [] (.one 0 false (.one 1 false (.one 2 false (.one 3 false (.one 4 false (.one 5 false (.one 6 false (.one 7 false (.one 8 false (.one 9 false (.one 10 false (.one 11 false (.one 12 false (.one 13 false (.one 14 false (.one 15 false (.one 16 false (.one 17 false (.one 18 false (.one 19 false (.one 20 false (.one 21 false .nil)))))))))))))))))))))) (by kernel_rfl) rfl (by kernel_rfl) ?_
   iterate 5 refine AZ.c rfl ?_
   refine AZ.o rfl (by rw [hdsN_len]; omega) ?_
   iterate 2 refine AZ.c rfl ?_
   refine AZ.eq 57 (av' := .v (.int .i64 ((shK b (q + 1)).a1))) (by rw [hgq]) ?_
   iterate 2 refine AZ.c rfl ?_
   iterate 5 refine AZ.gx rfl ?_
   refine AZ.gxo rfl (by rw [hdsN_len]; omega) ?_
   iterate 2 refine AZ.gx rfl ?_
   refine AZ.eq 67 (av' := cv (decide ((shK b (q + 1)).a1 = 4)) (.v (.int .i64 ((shK b (q + 1)).a7)))) (by rw [hgq]) ?_
   iterate 3 refine AZ.gx rfl ?_
   refine AZ.c rfl ?_
   refine AZ.done ?_
   refine SQ.normal ?_
   refine AW.iteB (GL.ev _) (fun h2 => ?_) (fun h2 => ?_)
   ·
    simp only [Bool.and_eq_true, decide_eq_true_eq] at h2
    have hno : ¬ relsOk b tb i := fun h => h.2.2.2.2.1 (q + 1) (by omega) hq h2
    refine AW.seq' ?_
    refine AW.region ?_
    iterate 2 refine AO.c ?_
    refine AO.nil ?_
    refine SQ.normal ?_
    refine AW.ret ?_
    refine BQ.ret <| SQ.ret <| AW.out <| LU.ret <| BQ.ret <| SQ.ret ?_
    refine Fin.ret (Gh.refl) noid2 ?_
    exact .inr ⟨hno, rfl⟩
   ·
    have hal : ∀ p, 0 < p → p < q + 1 + 1 → ¬ ((shK b p).a1 = 4 ∧ (shK b p).a7 = (shK b i).a7) := fun p p1 p2 => by
     by_cases e : p = q + 1
     · subst e
       simp only [Bool.and_eq_false_iff, decide_eq_false_iff_not] at h2
       rintro ⟨c1, c2⟩
       rcases h2 with h2 | h2
       · exact h2 c1
       · exact h2 c2
     · exact hx2 p p1 (by omega)
    refine AW.skip ?_
    refine BQ.normal ?_
    refine SQ.normal ?_
    refine AW.region ?_
    refine AO.c ?_
    refine AO.oo ?_
    refine AO.c ?_
    refine AO.nil ?_
    exact AW.backU [.k, .k, .f, .f, .f, .f, .f, .f, .k, .k, .f, .k, .F, .F, .F, .F, .F, .F, .F, .F, .F, .F, .f] (m0 - 1) (q + 1) (by omega) (by (try dsimp only); exact ⟨by omega, hal⟩) (by first | rfl | (simp; done)) (by first | rfl | (simp; done))
  ·
   rw [decide_eq_false_iff_not] at h1
   have hq : i = q + 1 := by omega
   refine AW.exit ?_
   refine SQ.exit <| AW.out <| LU.exit <| BQ.exit ?_
   refine SQ.normal ?_
   refine AW.seq' ?_
   refine AW.seq' ?_
   refine AW.region ?_
   refine AO.c ?_
   refine AO.nil ?_
   refine SQ.normal ?_
   refine AW.block' ?_
   refine AW.loopU [.k, .k, .f, .f, .f, .f, .f, .f, .k, .k, .f, .f, .k, .F, .F, .F, .F, .F, .F, .F, .F, .F, .F] (fun (k : Nat) => [(8, .v (.slice none 0 0)), (12, .v (.int .i64 (24 * (k : Int))))]) (fun k => Hn n0 [some (.box 99 (shA (shK b i)))]) (fun m k => k = 0 ∧ m = 0 ∧ ∀ p, p < relMany b i → RelOk (toldF b (shK b i)) (24 * (p : Nat))) (0) (0) ⟨rfl, rfl, fun p h => by unfold relMany at h; rw [hpos] at h; simp at h⟩ (by first | rfl | (simp; done)) (by first | rfl | (simp; done)) ?_
   rintro m1 k ⟨hy1, hy0, hy2⟩
   refine AW.seq' ?_
   refine AW.seq' ?_
   refine AW.region ?_
   iterate 4 refine AO.c ?_
   refine AO.nil ?_
   refine SQ.normal ?_
   refine AW.iteB (GL.ev _) (fun h3 => ?_) (fun h3 => ?_)
   ·
    exfalso
    rw [decide_eq_true_eq] at h3
    omega
   ·
    skip
    refine AW.exit ?_
    refine SQ.exit <| AW.out <| LU.exit <| BQ.exit ?_
    refine SQ.normal ?_
    refine AW.seq' ?_
    refine AW.region ?_
    iterate 3 refine AO.c ?_
    refine AO.nil ?_
    refine SQ.normal ?_
    refine AW.ret ?_
    refine Fin.ret (Gh.refl) noid2 ?_
    have hmz : relMany b i = 0 := by unfold relMany; rw [hpos]; rfl
    exact .inl ⟨⟨h0f.1, h0f.2.1, h0f.2.2.1, h0f.2.2.2, by rw [← hq] at hx2; exact hx2, hy2⟩, by rw [hmz]; rfl⟩
theorem ref_Frels (b : List Int) (hB : Bytes b) (hr : readOk b) (tb : Int) (i : Nat) (hi : i < mnH b) (h8 : (shK b i).a1 = 4) : A0 Tryz.prog 34 [.eptr [.rd 1 (bys b), .rd 10 ((hdsN b (mnH b)).map shA), .v (.int .i64 ((hdOf b).names)), .v (.bool true)], .v (.int .i64 ((i : Int))), .v (.int .i64 (tb))] (fun ret => (relsOk b tb i ∧ ret = .tup [relC (relL b i (relMany b i)), .v (.bool true)]) ∨ (¬ relsOk b tb i ∧ ret = .tup [.v (.slice none 0 0), .v (.bool false)])) := by
 have h0 := (shK_all (hr.2.2.1 i hi)).2.2.2.2.1.1
 rcases Int.lt_or_eq_of_le h0 with h1 | h1
 · exact ref_relsY b hB hr tb i hi h8 h1
 · exact ref_relsZ b hB hr tb i hi h8 h1.symm
set_option maxHeartbeats 4000000 in
theorem ref_group (b : List Int) (hB : Bytes b) (hr : readOk b) (tb : Int) (i : Nat) (hi : i < mnH b) (h8 : (shK b i).a1 = 17) : A0 Tryz.prog 36 [.eptr [.rd 1 (bys b), .rd 10 ((hdsN b (mnH b)).map shA), .v (.int .i64 ((hdOf b).names)), .v (.bool true)], .v (.int .i64 ((i : Int))), .v (.int .i64 (tb))] (fun ret => (grpOk b tb i ∧ ret = .tup [.agg (grpA (grpD b i)), .v (.bool true)]) ∨ (¬ grpOk b tb i ∧ ret = .tup [.agg [.any, .any], .v (.bool false)])) := by
 have hmay := hr.1.2.1
 unfold HdD.may MayHd at hmay
 have hmn : ((mnH b : Nat) : Int) = (hdOf b).many := by unfold mnH; omega
 have hbl := hr.2.1
 have hok1 := hr.2.2.1 i hi
 have hsa := shK_all hok1
 have htk := tell_ok hok1
 have hi0 : 0 < i := by
  rcases Nat.eq_zero_or_pos i with e | e
  · exfalso; subst e; rw [hok1.2.1 rfl] at h8; cases h8
  · exact e
 have hge : (hdsN b (mnH b)).getD ((i : Int)).toNat default = shK b i := by rw [Int.toNat_natCast]; exact hdsN_get hi
 have htold := ref_Told b (hdsN b (mnH b)) (hdOf b).names true (i : Int) ⟨by omega, by rw [hdsN_len]; omega⟩ (by omega) (by rw [hge]; exact htk) (fun q => absurd q (by omega))
 rw [hge] at htold
 have hts := told_size htk (by omega)
 have htl2 := told_len b (shK b i)
 have hBt := told_bytes hB (shK b i)
 refine A0.body 90 Tryz.func36 rfl rfl Tryz.ntmps36 fun base n0 => ?_
 refine AW.seq' ?_
 refine AW.region ?_
 refine AO.ww ?_
 refine AO.c ?_
 refine AO.nil ?_
 refine SQ.normal ?_
 refine AW.seq' ?_
 refine AW.region ?_
 iterate 5 refine AO.c ?_
 refine AO.o (by rw [hdsN_len]; omega) ?_
 refine AO.c ?_
 refine AO.eq 21 (av' := .agg (shA (shK b i))) (by rw [hdsN_get hi]) ?_
 refine AO.ww ?_
 refine AO.sst ?_
 refine AO.nil ?_
 refine SQ.normal ?_
 refine AW.seq' ?_
 refine AW.region ?_
 iterate 3 refine AO.c ?_
 refine AO.ww ?_
 refine AO.sst ?_
 refine AO.nil ?_
 refine SQ.normal ?_
 refine AW.seq' ?_
 refine AW.region ?_
 iterate 2 refine AO.c ?_
 refine AO.call1 Tryz.func38 rfl rfl (htold) ?_
 refine AO.c ?_
 refine AO.nil ?_
 refine SQ.normal ?_
 refine AW.seq' ?_
 refine AW.seq' ?_
 refine AW.region ?_
 iterate 4 refine AO.c ?_
 iterate 2 refine AO.gx ?_
 refine AO.gxoo ?_
 refine AO.gx ?_
 iterate 2 refine AO.c ?_
 iterate 3 refine AO.gx ?_
 iterate 2 refine AO.c ?_
 iterate 4 refine AO.gx ?_
 iterate 2 refine AO.c ?_
 refine AO.gx ?_
 refine AO.gxoo ?_
 refine AO.gxcall1 Tryz.func91 rfl rfl (fun hgd => (show A0 Tryz.prog 91 [.rd 1 (bys ((toldF b (shK b i)).take 4))] (fun r => r = .v (.int .u64 (numAt (toldF b (shK b i)) 0 4))) from ref_Num _ (hBt.take _) (by rw [List.length_take]; omega))) ?_
 refine AO.gx ?_
 refine AO.c ?_
 refine AO.nil ?_
 refine SQ.normal ?_
 refine AW.iteB (GL.ev _) (fun h0 => ?_) (fun h0 => ?_)
 ·
  have hno : ¬ grpOk b tb i := fun h => by
   obtain ⟨g1, g2, g3, g4, g5, _⟩ := h
   have g6 := g1.2.2
   rw [g2, g3, g5] at h0
   simp at h0
   omega
  refine AW.seq' ?_
  refine AW.region ?_
  refine AO.c ?_
  refine AO.sst ?_
  refine AO.c ?_
  refine AO.nil ?_
  refine SQ.normal ?_
  refine AW.ret ?_
  refine SQ.ret ?_
  refine Fin.ret (Gh.tellC 0 [.any, .any]) noid2 ?_
  exact .inr ⟨hno, rfl⟩
 ·
  have h0f : 4 ≤ (shK b i).a5 ∧ numAt (toldF b (shK b i)) 0 4 = 1 ∧ (shK b i).a9 = 4 ∧ ((toldF b (shK b i)).length : Int) % 4 = 0 ∧ (shK b i).a6 = tb := by
   simp only [Bool.or_eq_false_iff, decide_eq_false_iff_not, Decidable.not_not] at h0
   obtain ⟨⟨⟨⟨q1, q2⟩, q3⟩, q4⟩, q5⟩ := h0
   exact ⟨by omega, q5, q1, by omega, q4⟩
  obtain ⟨g0, g2, g3, g4, g5⟩ := h0f
  have g1 : HasB (toldF b (shK b i)) 0 4 := ⟨by decide, by omega, by omega⟩
  refine AW.skip ?_
  refine SQ.normal ?_
  refine AW.seq' ?_
  refine AW.seq' ?_
  refine AW.region ?_
  refine AO.c ?_
  refine AO.nil ?_
  refine SQ.normal ?_
  refine AW.block' ?_
  refine AW.ghost (Gh.adoptC 2 1 3 1 rfl) ?_
  refine AW.loopU2 [.k, .f, .f, .f, .f, .f, .k, .f, .k, .k, .k, .k, .F, .F, .F, .F, .F, .F, .F, .F, .F, .f, .f, .f, .f, .f, .f] (fun (k e8 : Nat) => [(11, .v (.int .i64 (4 * (k : Int) + 4)))]) (fun k e8 => Hn n0 [some (.box 107 [.v (.int .i64 0), .v (.slice none 0 0)]), some (.box 99 (shA (shK b i))), some (.box 107 [.v (.int .i64 ((shK b i).a7)), .own (n0 + 3) (e8) 0 (memN b i k).length]), some (.row 3 1 (e8) ((memN b i k).map iA))]) (fun m k e8 => (k ≤ grpN b i ∧ m = grpN b i - k) ∧ ∀ q, q < k → numF b (wK b i q) ≠ 0 ∨ isF (hdsN b (mnH b)) (wK b i q) 4 = true) (grpN b i) (0) (0) ⟨by omega, fun q h => by omega⟩ (by first | rfl | (simp; done)) (by first | rfl | (simp; done)) ?_
  rintro m0 k e8 ⟨hx1, hx2⟩
  refine AW.seq' ?_
  refine AW.seq' ?_
  refine AW.region ?_
  iterate 4 refine AO.c ?_
  refine AO.nil ?_
  refine SQ.normal ?_
  refine AW.iteB (GL.ev _) (fun h1 => ?_) (fun h1 => ?_)
  ·
   rw [decide_eq_true_eq] at h1
   have hk : k < grpN b i := by unfold grpN; omega
   have hml := memN_len b i k
   have hwr0 : 0 ≤ numAt (toldF b (shK b i)) (4 * (k : Int) + 4) 4 ∧ numAt (toldF b (shK b i)) (4 * (k : Int) + 4) 4 < 4294967296 := numAt_range hBt (4 * (k : Int) + 4) 4
   have hwr : 0 ≤ wK b i k ∧ wK b i k < 4294967296 := hwr0
   have hgl : grpN b i ≤ 20000 := by unfold grpN; omega
   have hnum : A0 Tryz.prog 91 [.rd 1 (bys (((toldF b (shK b i)).take (4 * (k : Int) + 4 + 4).toNat).drop (4 * (k : Int) + 4).toNat))] (fun r => r = .v (.int .u64 (wK b i k))) := by
    have e : ((toldF b (shK b i)).take (4 * (k : Int) + 4 + 4).toNat).drop (4 * (k : Int) + 4).toNat = ((toldF b (shK b i)).drop (4 * (k : Int) + 4).toNat).take 4 := by rw [List.drop_take]; congr 1; omega
    rw [e]
    exact ref_Num _ ((hBt.drop _).take _) (by rw [List.length_take]; omega)
   refine AW.skip ?_
   refine SQ.normal ?_
   refine AW.seq' ?_
   refine AW.block' ?_
   refine AW.seq' ?_
   refine AW.region ?_
   iterate 3 refine AO.c ?_
   iterate 2 refine AO.oo ?_
   refine AO.call1 Tryz.func91 rfl rfl (hnum) ?_
   refine AO.oo ?_
   refine AO.c ?_
   refine AO.nil ?_
   refine SQ.normal ?_
   refine AW.seq' ?_
   refine AW.region ?_
   iterate 2 refine AO.c ?_
   refine AO.call1 Tryz.func35 rfl rfl (ref_Number b (hdOf b).names true (by omega) _) ?_
   refine AO.c ?_
   refine AO.nil ?_
   refine SQ.normal ?_
   refine AW.seq' ?_
   refine AW.region ?_
   iterate 2 refine AO.c ?_
   refine AO.call1 Tryz.func87 rfl rfl (ref_FIs b (hdsN b (mnH b)) (hdOf b).names true _ 4 (by rw [hdsN_len]; omega)) ?_
   refine AO.c ?_
   refine AO.nil ?_
   refine SQ.normal ?_
   refine AW.seq' ?_
   refine AW.seq' ?_
   refine AW.region ?_
   iterate 3 refine AO.c ?_
   iterate 2 refine AO.gx ?_
   refine AO.c ?_
   refine AO.nil ?_
   refine SQ.normal ?_
   refine AW.iteB (GL.ev _) (fun h2 => ?_) (fun h2 => ?_)
   ·
    have hno : ¬ grpOk b tb i := fun h => by
     simp only [Bool.and_eq_true, decide_eq_true_eq, Bool.not_eq_true'] at h2
     rcases h.2.2.2.2.2 k hk with q | q
     · exact q h2.1
     · rw [h2.2] at q; cases q
    refine AW.seq' ?_
    refine AW.ghost (Gh.freezeC 2 1 (by simp) (by simp; omega)) ?_
    refine AW.region ?_
    refine AO.c ?_
    refine AO.sst ?_
    refine AO.c ?_
    refine AO.nil ?_
    refine SQ.normal ?_
    refine AW.ret ?_
    refine SQ.ret <| BQ.ret <| SQ.ret <| AW.out <| LU.ret <| BQ.ret <| SQ.ret ?_
    refine Fin.ret (Gh.tellC 0 [.any, .any]) noid2 ?_
    exact .inr ⟨hno, rfl⟩
   ·
    have hal2 : ∀ q, q < k + 1 → numF b (wK b i q) ≠ 0 ∨ isF (hdsN b (mnH b)) (wK b i q) 4 = true := fun q hq => by
     by_cases e : q = k
     · subst e
       simp only [Bool.and_eq_false_iff, decide_eq_false_iff_not, Bool.not_eq_false'] at h2
       exact h2
     · exact hx2 q (by omega)
    refine AW.skip ?_
    refine SQ.normal ?_
    refine AW.seq' ?_
    refine AW.region ?_
    iterate 2 refine AO.c ?_
    refine AO.nil ?_
    refine SQ.normal ?_
    refine AW.iteB (GL.ev _) (fun h3 => ?_) (fun h3 => ?_)
    ·
     rw [decide_eq_true_eq] at h3
     have hms : memN b i (k + 1) = memN b i k ++ [numF b (wK b i k)] := by rw [memN, if_pos h3]
     refine AW.region ?_
     iterate 3 refine AO.c ?_
     refine AO.rr ?_
     refine AO.ww ?_
     refine AO.c ?_
     refine AO.sst ?_
     refine AO.nil ?_
     refine BQ.normal ?_
     refine SQ.normal ?_
     refine AW.region ?_
     refine AO.c ?_
     refine AO.oo ?_
     refine AO.c ?_
     refine AO.nil ?_
     exact AW.backU [.k, .f, .f, .f, .f, .f, .k, .f, .k, .k, .k, .k, .F, .F, .F, .F, .F, .F, .F, .F, .F, .f, .f, .f, .f, .f, .f] (m0 - 1) (k + 1, e8 + 1) (by omega) (by (try dsimp only); exact ⟨by omega, hal2⟩) (by first | rfl | (simp; done)) (by first | (rw [hms, List.map_append, List.length_append]; done) | (rw [hms, List.map_append, List.length_append]; rfl))
    ·
     rw [decide_eq_false_iff_not] at h3
     have hms : memN b i (k + 1) = memN b i k := by rw [memN, if_neg h3]
     refine AW.skip ?_
     refine BQ.normal ?_
     refine SQ.normal ?_
     refine AW.region ?_
     refine AO.c ?_
     refine AO.oo ?_
     refine AO.c ?_
     refine AO.nil ?_
     exact AW.backU [.k, .f, .f, .f, .f, .f, .k, .f, .k, .k, .k, .k, .F, .F, .F, .F, .F, .F, .F, .F, .F, .f, .f, .f, .f, .f, .f] (m0 - 1) (k + 1, e8) (by omega) (by (try dsimp only); exact ⟨by omega, hal2⟩) (by first | rfl | (simp; done)) (by first | (rw [hms]; done) | (rw [hms]; rfl))
  ·
   rw [decide_eq_false_iff_not] at h1
   have hk : k = grpN b i := by unfold grpN at *; omega
   subst hk
   have hml := memN_len b i (grpN b i)
   have hgl : grpN b i ≤ 20000 := by unfold grpN; omega
   refine AW.exit ?_
   refine SQ.exit <| AW.out <| LU.exit <| BQ.exit ?_
   refine SQ.normal ?_
   refine AW.seq' ?_
   refine AW.ghost (Gh.freezeC 2 1 (by simp) (by simp; omega)) ?_
   refine AW.region ?_
   refine AO.c ?_
   refine AO.sst ?_
   refine AO.c ?_
   refine AO.nil ?_
   refine SQ.normal ?_
   refine AW.ret ?_
   refine Fin.ret (Gh.refl) noid2 ?_
   exact .inl ⟨⟨g1, g2, g3, g4, g5, hx2⟩, rfl⟩
end Go.Proofs.YtdniaamhbfadnaaGreat.AL
namespace Go.Proofs.YtdniaamhbfadnaaGreat.AL
open Go Go.RowKit Go.Proofs.YtdniaamhbfadnaaGreat.Base
set_option linter.unusedVariables false
set_option linter.unusedSimpArgs false
set_option maxRecDepth 4000
set_option synthInstance.maxSize 1000
set_option synthInstance.maxHeartbeats 200000
theorem ref_symsY (b : List Int) (hB : Bytes b) (hr : readOk b) (tb : Nat) (h : symsOk b tb) : A0 Tryz.prog 33 [.eptr [.rd 1 (bys b), .rd 10 ((hdsN b (mnH b)).map shA), .v (.int .i64 ((hdOf b).names)), .v (.bool true)]] (fun ret => ret = .tup [.rd 6 ((symL b tb (syMany b tb)).map symA), .v (.int .i64 ((tb : Int)))]) :=
 A0.mono (ref_symbols b hB hr) fun r q => by
  rcases q with ⟨t, q1, q⟩ | ⟨q, _⟩
  · obtain rfl := symsOk_uniq h q1
    exact q
  · exact absurd h (q _)
theorem ref_symsN (b : List Int) (hB : Bytes b) (hr : readOk b) (h : ∀ q, ¬ symsOk b q) : A0 Tryz.prog 33 [.eptr [.rd 1 (bys b), .rd 10 ((hdsN b (mnH b)).map shA), .v (.int .i64 ((hdOf b).names)), .v (.bool true)]] (fun ret => ret = .tup [.v (.slice none 0 0), .v (.int .i64 (0))]) :=
 A0.mono (ref_symbols b hB hr) fun r q => by
  rcases q with ⟨t, q1, q⟩ | ⟨_, q⟩
  · exact absurd q1 (h _)
  · exact q
theorem refN_cases {b : List Int} (h : ¬ (readOk b ∧ secsOk b ∧ ∃ q, symsOk b q)) : ¬ readOk b ∨ (readOk b ∧ ¬ secsOk b ∧ ∃ q, symsOk b q) ∨ (readOk b ∧ ¬ secsOk b ∧ ∀ q, ¬ symsOk b q) ∨ (readOk b ∧ secsOk b ∧ ∀ q, ¬ symsOk b q) := by
 by_cases h1 : readOk b
 · by_cases h3 : ∃ q, symsOk b q
   · by_cases h2 : secsOk b
     · exact absurd ⟨h1, h2, h3⟩ h
     · exact .inr (.inl ⟨h1, h2, h3⟩)
   · by_cases h2 : secsOk b
     · exact .inr (.inr (.inr ⟨h1, h2, fun q hq => h3 ⟨q, hq⟩⟩))
     · exact .inr (.inr (.inl ⟨h1, h2, fun q hq => h3 ⟨q, hq⟩⟩))
 · exact .inl h1
theorem relC_cases (l : List RelD) : relC l = .v (.slice none 0 0) ∨ ∃ L, relC l = .rd 4 L := by
 cases l with
 | nil => exact .inl rfl
 | cons r l => exact .inr ⟨_, rfl⟩
theorem rel_cases (b : List Int) (tb : Int) (i : Nat) (l : List RelD) : (relsOk b tb i ∧ relC l = .v (.slice none 0 0)) ∨ (relsOk b tb i ∧ ∃ L, relC l = .rd 4 L) ∨ ¬ relsOk b tb i := by
 by_cases h : relsOk b tb i
 · rcases relC_cases l with c | c
   · exact .inl ⟨h, c⟩
   · exact .inr (.inl ⟨h, c⟩)
 · exact .inr (.inr h)
theorem rel_store {S : List SecD} {v : Nat} {l : List RelD} {c : AV} (hv : v < S.length) (hc : relC l = c) : (S.map secR).set v (layAt ((S.map secR).getD v []) 8 [c]) = (S.set v ((S.getD v default).rel l)).map secR := by
 have e : (S.map secR).getD v [] = secR (S.getD v default) := by rw [List.getD_eq_getElem?_getD, secR_at hv]; rfl
 rw [e, List.map_set]
 congr 1
 rw [← hc]; rfl
theorem grp_small {b : List Int} (hr : readOk b) : ∀ i, i ≤ mnH b → ∀ g ∈ grpS b i, g.mem.length ≤ 1000000000 := by
 intro i
 induction i with
 | zero => intro _ g hg; cases hg
 | succ i ih =>
  intro hi g hg
  by_cases h17 : (shK b i).a1 = 17
  · rw [grpS_yes h17] at hg
    rcases List.mem_append.1 hg with hg | hg
    · exact ih (by omega) g hg
    · obtain rfl := List.mem_singleton.1 hg
      have hml := memN_len b i (grpN b i)
      have htl := told_len b (shK b i)
      have hbl := hr.2.1
      show (memN b i (grpN b i)).length ≤ _
      unfold grpN at *
      omega
  · rw [grpS_no h17] at hg
    exact ih (by omega) g hg
set_option maxHeartbeats 4000000 in
theorem ref_GetA (b : List Int) (hB : Bytes b) (hb : b.length ≤ 1000000) (hno : ¬ (readOk b ∧ secsOk b ∧ ∃ q, symsOk b q)) : A0 Tryz.prog 8 [.rd 1 (bys b)] (fun ret => ret = .tup [.agg (objA zObj), .v (.bool false)]) := by
 refine A0.body 136 Tryz.func8 rfl rfl Tryz.ntmps8 fun base n0 => ?_
 refine AW.seq' ?_
 refine AW.region ?_
 refine AO.ww ?_
 refine AO.c ?_
 refine AO.nil ?_
 refine SQ.normal ?_
 refine AW.seq' ?_
 rcases refN_cases hno with hr | ⟨hr, hs, tb, h3⟩ | ⟨hr, hs, h3⟩ | ⟨hr, hs, h3⟩
 ·
  refine AW.region ?_
  refine AO.c ?_
  refine AO.call1 Tryz.func31 rfl rfl (ref_readN b hB hb hr) ?_
  refine AO.c ?_
  refine AO.nil ?_
  refine SQ.normal ?_
  refine AW.seq' ?_
  refine AW.seq' ?_
  refine AW.region ?_
  iterate 5 refine AO.c ?_
  refine AO.eq 25 (av' := .v (.bool true)) rfl ?_
  refine AO.nil ?_
  refine SQ.normal ?_
  refine AW.iteB (GL.ev _) (fun h0 => ?_) (fun h0 => ?_)
  ·
   skip
   refine AW.seq' ?_
   refine AW.region ?_
   refine AO.c ?_
   refine AO.sst ?_
   refine AO.c ?_
   refine AO.nil ?_
   refine SQ.normal ?_
   refine AW.ret ?_
   refine SQ.ret ?_
   refine Fin.ret (Gh.tellC 0 [.rd 9 (([] : List SecD).map secA), .rd 6 (([] : List SymD).map symA), .rd 2 (([] : List GrpD).map grpA), .v (.bool false), .rd 1 (([] : List Int).map iA)]) noid2 ?_
   rfl
  ·
   cases h0
 ·
  refine AW.region ?_
  refine AO.c ?_
  refine AO.call1 Tryz.func31 rfl rfl (ref_readY b hB hb hr) ?_
  refine AO.c ?_
  refine AO.nil ?_
  refine SQ.normal ?_
  refine AW.seq' ?_
  refine AW.seq' ?_
  refine AW.region ?_
  iterate 5 refine AO.c ?_
  refine AO.eq 25 (av' := .v (.bool false)) rfl ?_
  refine AO.nil ?_
  refine SQ.normal ?_
  refine AW.iteB (GL.ev _) (fun h0 => ?_) (fun h0 => ?_)
  ·
   cases h0
  ·
   skip
   refine AW.skip ?_
   refine SQ.normal ?_
   refine AW.seq' ?_
   refine AW.region ?_
   refine AO.c ?_
   refine AO.callE (α := List (Option AB)) (av := fun _ => .tup [.v (.slice none 0 0), .v (.bool false)]) (H2 := fun X => Hn n0 (some (.box 29 zOC) :: X)) (p := fun _ => True) Tryz.func32 rfl rfl (AC.cong (ref_sections n0 (some (.box 29 zOC)) b hB hr) rfl (fun r H' h => by
    rcases h with ⟨x, q1, _⟩ | ⟨X, _, q1, q2⟩
    · exact absurd q1 hs
    · exact ⟨X, q1, q2, trivial⟩)) ?_
   intro X _
   iterate 5 refine AO.c ?_
   refine AO.nil ?_
   refine SQ.normal ?_
   refine AW.seq' ?_
   refine AW.region ?_
   refine AO.c ?_
   refine AO.call1 Tryz.func33 rfl rfl (ref_symsY b hB hr tb h3) ?_
   iterate 5 refine AO.c ?_
   refine AO.nil ?_
   refine SQ.normal ?_
   refine AW.seq' ?_
   refine AW.seq' ?_
   refine AW.region ?_
   iterate 2 refine AO.c ?_
   refine AO.eq 38 (av' := .v (.bool true)) rfl ?_
   refine AO.c ?_
   iterate 2 refine AO.sk rfl ?_
   refine AO.pt rfl ?_
   refine AO.nil ?_
   refine SQ.normal ?_
   refine AW.iteB (GL.ev _) (fun h1 => ?_) (fun h1 => ?_)
   ·
    skip
    refine AW.seq' ?_
    refine AW.region ?_
    refine AO.c ?_
    refine AO.sst ?_
    refine AO.c ?_
    refine AO.nil ?_
    refine SQ.normal ?_
    refine AW.ret ?_
    refine SQ.ret ?_
    refine Fin.ret (Gh.tellC 0 [.rd 9 (([] : List SecD).map secA), .rd 6 (([] : List SymD).map symA), .rd 2 (([] : List GrpD).map grpA), .v (.bool false), .rd 1 (([] : List Int).map iA)]) noid2 ?_
    rfl
   ·
    cases h1
 ·
  refine AW.region ?_
  refine AO.c ?_
  refine AO.call1 Tryz.func31 rfl rfl (ref_readY b hB hb hr) ?_
  refine AO.c ?_
  refine AO.nil ?_
  refine SQ.normal ?_
  refine AW.seq' ?_
  refine AW.seq' ?_
  refine AW.region ?_
  iterate 5 refine AO.c ?_
  refine AO.eq 25 (av' := .v (.bool false)) rfl ?_
  refine AO.nil ?_
  refine SQ.normal ?_
  refine AW.iteB (GL.ev _) (fun h0 => ?_) (fun h0 => ?_)
  ·
   cases h0
  ·
   skip
   refine AW.skip ?_
   refine SQ.normal ?_
   refine AW.seq' ?_
   refine AW.region ?_
   refine AO.c ?_
   refine AO.callE (α := List (Option AB)) (av := fun _ => .tup [.v (.slice none 0 0), .v (.bool false)]) (H2 := fun X => Hn n0 (some (.box 29 zOC) :: X)) (p := fun _ => True) Tryz.func32 rfl rfl (AC.cong (ref_sections n0 (some (.box 29 zOC)) b hB hr) rfl (fun r H' h => by
    rcases h with ⟨x, q1, _⟩ | ⟨X, _, q1, q2⟩
    · exact absurd q1 hs
    · exact ⟨X, q1, q2, trivial⟩)) ?_
   intro X _
   iterate 5 refine AO.c ?_
   refine AO.nil ?_
   refine SQ.normal ?_
   refine AW.seq' ?_
   refine AW.region ?_
   refine AO.c ?_
   refine AO.call1 Tryz.func33 rfl rfl (ref_symsN b hB hr h3) ?_
   iterate 5 refine AO.c ?_
   refine AO.nil ?_
   refine SQ.normal ?_
   refine AW.seq' ?_
   refine AW.seq' ?_
   refine AW.region ?_
   iterate 2 refine AO.c ?_
   refine AO.eq 38 (av' := .v (.bool true)) rfl ?_
   refine AO.c ?_
   iterate 2 refine AO.sk rfl ?_
   refine AO.pt rfl ?_
   refine AO.nil ?_
   refine SQ.normal ?_
   refine AW.iteB (GL.ev _) (fun h1 => ?_) (fun h1 => ?_)
   ·
    skip
    refine AW.seq' ?_
    refine AW.region ?_
    refine AO.c ?_
    refine AO.sst ?_
    refine AO.c ?_
    refine AO.nil ?_
    refine SQ.normal ?_
    refine AW.ret ?_
    refine SQ.ret ?_
    refine Fin.ret (Gh.tellC 0 [.rd 9 (([] : List SecD).map secA), .rd 6 (([] : List SymD).map symA), .rd 2 (([] : List GrpD).map grpA), .v (.bool false), .rd 1 (([] : List Int).map iA)]) noid2 ?_
    rfl
   ·
    cases h1
 ·
  refine AW.region ?_
  refine AO.c ?_
  refine AO.call1 Tryz.func31 rfl rfl (ref_readY b hB hb hr) ?_
  refine AO.c ?_
  refine AO.nil ?_
  refine SQ.normal ?_
  refine AW.seq' ?_
  refine AW.seq' ?_
  refine AW.region ?_
  iterate 5 refine AO.c ?_
  refine AO.eq 25 (av' := .v (.bool false)) rfl ?_
  refine AO.nil ?_
  refine SQ.normal ?_
  refine AW.iteB (GL.ev _) (fun h0 => ?_) (fun h0 => ?_)
  ·
   cases h0
  ·
   skip
   refine AW.skip ?_
   refine SQ.normal ?_
   refine AW.seq' ?_
   refine AW.region ?_
   refine AO.c ?_
   refine AO.callE (α := Nat × Nat) (av := fun x => .tup [.own (n0 + 1) x.1 0 (outR b (mnH b - 1)).length, .v (.bool true)]) (H2 := fun x => Hn n0 (([some (.box 29 zOC), some (.row 104 9 x.1 ((outR b (mnH b - 1)).map secN))] ++ List.replicate x.2 none) ++ [])) (p := fun _ => True) Tryz.func32 rfl rfl (AC.cong (ref_sections n0 (some (.box 29 zOC)) b hB hr) rfl (fun r H' h => by
    rcases h with ⟨x, _, q1, q2⟩ | ⟨X, q1, _⟩
    · exact ⟨x, q1, q2, trivial⟩
    · exact absurd hs q1)) ?_
   rintro ⟨ep, j⟩ _
   iterate 5 refine AO.c ?_
   refine AO.nil ?_
   refine SQ.normal ?_
   refine AW.seq' ?_
   refine AW.region ?_
   refine AO.c ?_
   refine AO.call1 Tryz.func33 rfl rfl (ref_symsN b hB hr h3) ?_
   iterate 5 refine AO.c ?_
   refine AO.nil ?_
   refine SQ.normal ?_
   refine AW.seq' ?_
   refine AW.seq' ?_
   refine AW.region ?_
   iterate 2 refine AO.c ?_
   refine AO.eq 38 (av' := .v (.bool false)) rfl ?_
   refine AO.c ?_
   refine AO.gk rfl ?_
   refine AO.c ?_
   refine AO.gk rfl ?_
   refine AO.c ?_
   refine AO.eq 41 (av' := .v (.bool true)) rfl ?_
   refine AO.pf rfl ?_
   refine AO.nil ?_
   refine SQ.normal ?_
   refine AW.iteB (GL.ev _) (fun h1 => ?_) (fun h1 => ?_)
   ·
    skip
    refine AW.seq' ?_
    refine AW.region ?_
    refine AO.c ?_
    refine AO.sst ?_
    refine AO.c ?_
    refine AO.nil ?_
    refine SQ.normal ?_
    refine AW.ret ?_
    refine SQ.ret ?_
    refine Fin.ret (Gh.tellC 0 [.rd 9 (([] : List SecD).map secA), .rd 6 (([] : List SymD).map symA), .rd 2 (([] : List GrpD).map grpA), .v (.bool false), .rd 1 (([] : List Int).map iA)]) noid2 ?_
    rfl
   ·
    cases h1
set_option maxHeartbeats 8000000 in
theorem ref_GetB (b : List Int) (hB : Bytes b) (hb : b.length ≤ 1000000) (hr : readOk b) (hs : secsOk b) (tb : Nat) (hsy : symsOk b tb) : A0 Tryz.prog 8 [.rd 1 (bys b)] (fun ret => (othOk b tb ∧ shapeB (objG b tb) = true ∧ ret = .tup [.agg (objA (objG b tb)), .v (.bool true)]) ∨ ((othOk b tb → shapeB (objG b tb) = false) ∧ ret = .tup [.agg (objA zObj), .v (.bool false)])) := by
 have hmay := hr.1.2.1
 unfold HdD.may MayHd at hmay
 have hmn : ((mnH b : Nat) : Int) = (hdOf b).many := by unfold mnH; omega
 have hbl := hr.2.1
 have hn0 : 0 < mnH b := by omega
 obtain ⟨hf, hlk⟩ := fr_read.2 ⟨hr, hs⟩
 have h00 : (shK b 0).a1 = 0 := by rw [(hr.2.2.1 0 hn0).2.1 rfl]; rfl
 have hr1 : relS b 1 = lnkM b (mnH b) := relS_no (b := b) (i := 0) (by rw [h00]; decide)
 have hg1 : grpS b 1 = [] := grpS_no (b := b) (i := 0) (by rw [h00]; decide)
 have hs1 : sgS b 1 = (false, []) := sgS_no (b := b) (i := 0) (by rw [h00]; decide)
 have hrow : (outR b (mnH b - 1)).map secN = (relS b 1).map secR := by rw [hr1, ← lnkM_R hn0, secN_R (lnkM_rels b _)]
 have hrl : (outR b (mnH b - 1)).length = (relS b 1).length := by rw [hr1, ← lnkM_R hn0]
 refine A0.body 136 Tryz.func8 rfl rfl Tryz.ntmps8 fun base n0 => ?_
 refine AW.seq' ?_
 refine AW.region ?_
 refine AO.ww ?_
 refine AO.c ?_
 refine AO.nil ?_
 refine SQ.normal ?_
 refine AW.seq' ?_
 refine AW.region ?_
 refine AO.c ?_
 refine AO.call1 Tryz.func31 rfl rfl (ref_readY b hB hb hr) ?_
 refine AO.c ?_
 refine AO.nil ?_
 refine SQ.normal ?_
 refine AW.seq' ?_
 refine AW.seq' ?_
 refine AW.region ?_
 iterate 5 refine AO.c ?_
 refine AO.eq 25 (av' := .v (.bool false)) rfl ?_
 refine AO.nil ?_
 refine SQ.normal ?_
 refine AW.iteB (GL.ev _) (fun h0 => ?_) (fun h0 => ?_)
 ·
  cases h0
 ·
  skip
  refine AW.skip ?_
  refine SQ.normal ?_
  refine AW.seq' ?_
  refine AW.region ?_
  refine AO.c ?_
  refine AO.callE (α := Nat × Nat) (av := fun x => .tup [.own (n0 + 1) x.1 0 (relS b 1).length, .v (.bool true)]) (H2 := fun x => Hn n0 (([some (.box 29 zOC), some (.row 104 9 x.1 ((relS b 1).map secR))] ++ List.replicate x.2 none) ++ [])) (p := fun _ => True) Tryz.func32 rfl rfl (AC.cong (ref_sections n0 (some (.box 29 zOC)) b hB hr) rfl (fun r H' h => by
   rcases h with ⟨x, _, q1, q2⟩ | ⟨X, q1, _⟩
   · exact ⟨x, q1.trans (by rw [hrl]), q2.trans (by rw [hrow]), trivial⟩
   · exact absurd hs q1)) ?_
  rintro ⟨ep, j⟩ _
  iterate 5 refine AO.c ?_
  refine AO.nil ?_
  refine SQ.normal ?_
  refine AW.seq' ?_
  refine AW.region ?_
  refine AO.c ?_
  refine AO.call1 Tryz.func33 rfl rfl (ref_symsY b hB hr tb hsy) ?_
  iterate 5 refine AO.c ?_
  refine AO.nil ?_
  refine SQ.normal ?_
  refine AW.seq' ?_
  refine AW.seq' ?_
  refine AW.region ?_
  iterate 2 refine AO.c ?_
  refine AO.eq 38 (av' := .v (.bool false)) rfl ?_
  refine AO.c ?_
  refine AO.gk rfl ?_
  refine AO.c ?_
  refine AO.gk rfl ?_
  refine AO.c ?_
  refine AO.eq 41 (av' := .v (.bool false)) (by rw [decide_eq_false (show ¬ (tb : Int) = 0 by have := hsy.1; omega)]) ?_
  refine AO.pf rfl ?_
  refine AO.nil ?_
  refine SQ.normal ?_
  refine AW.iteB (GL.ev _) (fun h1 => ?_) (fun h1 => ?_)
  ·
   cases h1
  ·
   skip
   refine AW.skip ?_
   refine SQ.normal ?_
   refine AW.seq' ?_
   refine AW.region ?_
   iterate 3 refine AO.c ?_
   refine AO.ww ?_
   refine AO.sst ?_
   refine AO.nil ?_
   refine SQ.normal ?_
   refine AW.seq' ?_
   refine AW.seq' ?_
   refine AW.ghost (Gh.adoptC (zadd (zadd (0 + 1 + 1) j) 0) 2 107 2 rfl) ?_
   refine AW.ghost (Gh.tellC (zadd (zadd (0 + 1 + 1) j) 0) [.own (n0 + 1) ep 0 (relS b 1).length, .rd 6 ((symL b tb (syMany b tb)).map symA), .own (n0 + (zadd (zadd (0 + 1 + 1) j) (0 + 1))) 0 0 ([] : List GrpD).length, .v (.bool false), .rd 1 (([] : List Int).map iA)]) ?_
   refine AW.region ?_
   refine AO.c ?_
   refine AO.nil ?_
   refine SQ.normal ?_
   refine AW.block' ?_
   refine AW.loopU3 [.f, .f, .k, .f, .k, .f, .f, .f, .k, .k, .k, .F, .F, .F, .F, .F, .F, .F, .F, .F, .F, .F, .F, .F, .F, .F, .f, .f, .f, .f, .f] (fun (k j2 e7 : Nat) => [(10, .v (.int .i64 (((k + 1 : Nat) : Int))))]) (fun k j2 e7 => Hn n0 (((([some (.box 29 zOC), some (.row 104 9 ep ((relS b (k + 1)).map secR))] ++ List.replicate j none) ++ [some (.box 29 [.own (n0 + 1) ep 0 (relS b (k + 1)).length, .rd 6 ((symL b tb (syMany b tb)).map symA), .own (n0 + (zadd (zadd (0 + 1 + 1) j) (0 + 1))) (e7) 0 (grpS b (k + 1)).length, .v (.bool (sgS b (k + 1)).1), .rd 1 ((sgS b (k + 1)).2.map iA)]), some (.row 107 2 (e7) ((grpS b (k + 1)).map grpA))]) ++ List.replicate j2 none) ++ [])) (fun m k j2 e7 => (k + 1 ≤ mnH b ∧ m = mnH b - 1 - k) ∧ ∀ q, q < k + 1 → oth1 b tb q) (mnH b - 1) (0) (0) (0) ⟨by omega, fun q h => by obtain rfl : q = 0 := (by omega); exact ⟨fun c => (by rw [h00] at c; cases c), fun c => (by rw [h00] at c; cases c), fun c => (by rw [h00] at c; cases c)⟩⟩ (by first | rfl | (simp; done)) (by simp [hg1, hs1]) ?_
   rintro m0 k j2 e7 ⟨hx1, hx2⟩
   refine AW.seq' ?_
   refine AW.seq' ?_
   refine AW.region ?_
   iterate 7 refine AO.c ?_
   refine AO.nil ?_
   refine SQ.normal ?_
   refine AW.iteB (GL.ev _) (fun h2 => ?_) (fun h2 => ?_)
   ·
    rw [decide_eq_true_eq, hdsN_len] at h2
    have hkk : k + 1 < mnH b := by omega
    have hgk : (hdsN b (mnH b)).getD (k + 1) default = (shK b (k + 1)) := hdsN_get hkk
    have hgk2 : (hdsN b (mnH b)).getD ((k + 1 : Nat) : Int).toNat default = (shK b (k + 1)) := by rw [Int.toNat_natCast]; exact hgk
    have hok1 := hr.2.2.1 (k + 1) hkk
    have hsa := shK_all hok1
    have htk := tell_ok hok1
    have htold := ref_Told b (hdsN b (mnH b)) (hdOf b).names true ((k + 1 : Nat) : Int) ⟨by omega, by rw [hdsN_len]; omega⟩ (by omega) (by rw [hgk2]; exact htk) (fun q => absurd q (by omega))
    rw [hgk2] at htold
    have htl2 := told_len b (shK b (k + 1))
    have hBt := told_bytes hB (shK b (k + 1))
    have hgl := grpS_len b (k + 1)
    have hsl := (secM_len b (mnH b - 1)).1
    have hstep : oth1 b tb (k + 1) → ∀ q, q < k + 1 + 1 → oth1 b tb q := fun h q hq => by
     by_cases e : q = k + 1
     · subst e; exact h
     · exact hx2 q (by omega)
    refine AW.skip ?_
    refine SQ.normal ?_
    refine AW.seq' ?_
    refine AW.block' ?_
    refine AW.seq' ?_
    refine AW.region ?_
    iterate 5 refine AO.c ?_
    refine AO.o (by rw [hdsN_len]; omega) ?_
    refine AO.c ?_
    refine AO.eq 62 (av' := .agg (shA (shK b (k + 1)))) (by rw [hgk]) ?_
    refine AO.ww ?_
    refine AO.sst ?_
    refine AO.nil ?_
    refine SQ.normal ?_
    refine AW.seq' ?_
    refine AW.region ?_
    iterate 2 refine AO.c ?_
    refine AO.nil ?_
    refine SQ.normal ?_
    refine AW.block' ?_
    refine AW.seq' ?_
    refine AW.region ?_
    iterate 2 refine AO.c ?_
    refine AO.nil ?_
    refine SQ.normal ?_
    refine AW.iteB (GL.ev _) (fun h3 => ?_) (fun h3 => ?_)
    ·
     have h3a : (shK b (k + 1)).a1 = 4 := of_decide_eq_true h3
     refine AW.seq' ?_
     rcases rel_cases b tb (k + 1) (relL b (k + 1) (relMany b (k + 1))) with ⟨hq, hc⟩ | ⟨hq, L, hc⟩ | hq
     ·
      have hrel : A0 Tryz.prog 34 [.eptr [.rd 1 (bys b), .rd 10 ((hdsN b (mnH b)).map shA), .v (.int .i64 ((hdOf b).names)), .v (.bool true)], .v (.int .i64 (((k + 1 : Nat) : Int))), .v (.int .i64 ((tb : Int)))] (fun ret => ret = .tup [.v (.slice none 0 0), .v (.bool true)]) := A0.mono (ref_Frels b hB hr (tb : Int) (k + 1) hkk h3a) fun r q => by
       rcases q with ⟨_, q⟩ | ⟨q, _⟩
       · rw [hc] at q; exact q
       · exact absurd hq q
      obtain ⟨v, hv⟩ := Option.isSome_iff_exists.1 (num_is hq.2.2.2.1)
      have hvr := num_rng hv
      have hvd : numF b (shK b (k + 1)).a7 = v := by unfold numF; rw [hv]; rfl
      have hvl : secV b (k + 1) < (relS b (k + 1)).length := by rw [relS_len, lnkM_len]; unfold secV; omega
      have hix : 0 + (numF b (shK b (k + 1)).a7 - 1).toNat = secV b (k + 1) := Nat.zero_add _
      have hvl2 := hvl
      unfold secV at hvl2
      refine AW.region ?_
      iterate 3 refine AO.c ?_
      refine AO.call1 Tryz.func34 rfl rfl (hrel) ?_
      iterate 5 refine AO.c ?_
      refine AO.nil ?_
      refine SQ.normal ?_
      refine AW.seq' ?_
      refine AW.seq' ?_
      refine AW.region ?_
      iterate 2 refine AO.c ?_
      refine AO.nil ?_
      refine SQ.normal ?_
      refine AW.iteB (GL.ev _) (fun h4 => ?_) (fun h4 => ?_)
      ·
       cases h4
      ·
       skip
       refine AW.skip ?_
       refine SQ.normal ?_
       refine AW.drawsZ [10] (.one 0 false (.one 1 false (.one 2 false (.one 3 false (.one 4 false (.one 7 false (.one 5 true (.one 6 false (.one 8 false (.one 9 false (.one 10 true .nil))))))))))) (by kernel_rfl) rfl (by kernel_rfl) ?_
       iterate 6 refine AZ.c rfl ?_
       refine AZ.call1 rfl Tryz.func35 rfl rfl (ref_Number b (hdOf b).names true (by omega) _) ?_
       refine AZ.oo rfl ?_
       refine AZ.o rfl (by omega) ?_
       refine AZ.c rfl ?_
       refine AZ.stR ((relS b (k + 1 + 1)).map secR) rfl rfl (by rw [List.length_map]; omega) ?_ ?_
       · rw [relS_yes h3a, hix]; exact rel_store hvl hc
       refine AZ.done ?_
       refine BQ.normal ?_
       refine BQ.normal ?_
       refine SQ.normal ?_
       refine AW.region ?_
       refine AO.c ?_
       refine AO.oo ?_
       refine AO.c ?_
       refine AO.nil ?_
       have hall := hstep ⟨fun _ => hq, fun h => (by rw [h3a] at h; cases h), fun h => (by rw [h3a] at h; cases h)⟩
       exact AW.backE [.f, .f, .k, .f, .k, .f, .f, .f, .k, .k, .k, .F, .F, .F, .F, .F, .F, .F, .F, .F, .F, .F, .F, .F, .F, .F, .f, .f, .f, .f, .f] (j2) (m0 - 1) (k + 1, j2 + 1, e7) (by omega) (by (try dsimp only); exact ⟨by omega, hall⟩) (by first | rfl | (simp; done)) (by first | ((try dsimp only); rw [grpS_no (i := k + 1) (by rw [h3a]; decide), sgS_no (i := k + 1) (by rw [h3a]; decide), show (relS b (k + 1 + 1)).length = (relS b (k + 1)).length by rw [relS_len, relS_len]]; done) | ((try dsimp only); rw [grpS_no (i := k + 1) (by rw [h3a]; decide), sgS_no (i := k + 1) (by rw [h3a]; decide), show (relS b (k + 1 + 1)).length = (relS b (k + 1)).length by rw [relS_len, relS_len]]; rfl))
     ·
      have hrel : A0 Tryz.prog 34 [.eptr [.rd 1 (bys b), .rd 10 ((hdsN b (mnH b)).map shA), .v (.int .i64 ((hdOf b).names)), .v (.bool true)], .v (.int .i64 (((k + 1 : Nat) : Int))), .v (.int .i64 ((tb : Int)))] (fun ret => ret = .tup [.rd 4 L, .v (.bool true)]) := A0.mono (ref_Frels b hB hr (tb : Int) (k + 1) hkk h3a) fun r q => by
       rcases q with ⟨_, q⟩ | ⟨q, _⟩
       · rw [hc] at q; exact q
       · exact absurd hq q
      obtain ⟨v, hv⟩ := Option.isSome_iff_exists.1 (num_is hq.2.2.2.1)
      have hvr := num_rng hv
      have hvd : numF b (shK b (k + 1)).a7 = v := by unfold numF; rw [hv]; rfl
      have hvl : secV b (k + 1) < (relS b (k + 1)).length := by rw [relS_len, lnkM_len]; unfold secV; omega
      have hix : 0 + (numF b (shK b (k + 1)).a7 - 1).toNat = secV b (k + 1) := Nat.zero_add _
      have hvl2 := hvl
      unfold secV at hvl2
      refine AW.region ?_
      iterate 3 refine AO.c ?_
      refine AO.call1 Tryz.func34 rfl rfl (hrel) ?_
      iterate 5 refine AO.c ?_
      refine AO.nil ?_
      refine SQ.normal ?_
      refine AW.seq' ?_
      refine AW.seq' ?_
      refine AW.region ?_
      iterate 2 refine AO.c ?_
      refine AO.nil ?_
      refine SQ.normal ?_
      refine AW.iteB (GL.ev _) (fun h4 => ?_) (fun h4 => ?_)
      ·
       cases h4
      ·
       skip
       refine AW.skip ?_
       refine SQ.normal ?_
       refine AW.drawsZ [10] (.one 0 false (.one 1 false (.one 2 false (.one 3 false (.one 4 false (.one 7 false (.one 5 true (.one 6 false (.one 8 false (.one 9 false (.one 10 true .nil))))))))))) (by kernel_rfl) rfl (by kernel_rfl) ?_
       iterate 6 refine AZ.c rfl ?_
       refine AZ.call1 rfl Tryz.func35 rfl rfl (ref_Number b (hdOf b).names true (by omega) _) ?_
       refine AZ.oo rfl ?_
       refine AZ.o rfl (by omega) ?_
       refine AZ.c rfl ?_
       refine AZ.stR ((relS b (k + 1 + 1)).map secR) rfl rfl (by rw [List.length_map]; omega) ?_ ?_
       · rw [relS_yes h3a, hix]; exact rel_store hvl hc
       refine AZ.done ?_
       refine BQ.normal ?_
       refine BQ.normal ?_
       refine SQ.normal ?_
       refine AW.region ?_
       refine AO.c ?_
       refine AO.oo ?_
       refine AO.c ?_
       refine AO.nil ?_
       have hall := hstep ⟨fun _ => hq, fun h => (by rw [h3a] at h; cases h), fun h => (by rw [h3a] at h; cases h)⟩
       exact AW.backE [.f, .f, .k, .f, .k, .f, .f, .f, .k, .k, .k, .F, .F, .F, .F, .F, .F, .F, .F, .F, .F, .F, .F, .F, .F, .F, .f, .f, .f, .f, .f] (j2) (m0 - 1) (k + 1, j2 + 1, e7) (by omega) (by (try dsimp only); exact ⟨by omega, hall⟩) (by first | rfl | (simp; done)) (by first | ((try dsimp only); rw [grpS_no (i := k + 1) (by rw [h3a]; decide), sgS_no (i := k + 1) (by rw [h3a]; decide), show (relS b (k + 1 + 1)).length = (relS b (k + 1)).length by rw [relS_len, relS_len]]; done) | ((try dsimp only); rw [grpS_no (i := k + 1) (by rw [h3a]; decide), sgS_no (i := k + 1) (by rw [h3a]; decide), show (relS b (k + 1 + 1)).length = (relS b (k + 1)).length by rw [relS_len, relS_len]]; rfl))
     ·
      have hrel : A0 Tryz.prog 34 [.eptr [.rd 1 (bys b), .rd 10 ((hdsN b (mnH b)).map shA), .v (.int .i64 ((hdOf b).names)), .v (.bool true)], .v (.int .i64 (((k + 1 : Nat) : Int))), .v (.int .i64 ((tb : Int)))] (fun ret => ret = .tup [.v (.slice none 0 0), .v (.bool false)]) := A0.mono (ref_Frels b hB hr (tb : Int) (k + 1) hkk h3a) fun r q => by
       rcases q with ⟨q, _⟩ | ⟨_, q⟩
       · exact absurd q hq
       · exact q
      refine AW.region ?_
      iterate 3 refine AO.c ?_
      refine AO.call1 Tryz.func34 rfl rfl (hrel) ?_
      iterate 5 refine AO.c ?_
      refine AO.nil ?_
      refine SQ.normal ?_
      refine AW.seq' ?_
      refine AW.seq' ?_
      refine AW.region ?_
      iterate 2 refine AO.c ?_
      refine AO.nil ?_
      refine SQ.normal ?_
      refine AW.iteB (GL.ev _) (fun h4 => ?_) (fun h4 => ?_)
      ·
       have hno : ¬ othOk b tb := fun h => hq ((h (k + 1) hkk).1 h3a)
       refine AW.seq' ?_
       refine AW.region ?_
       refine AO.c ?_
       refine AO.sst ?_
       refine AO.c ?_
       refine AO.nil ?_
       refine SQ.normal ?_
       refine AW.ret ?_
       refine SQ.ret <| BQ.ret <| BQ.ret <| SQ.ret <| AW.out <| LU.ret <| BQ.ret <| SQ.ret ?_
       refine Fin.ret (Gh.tellC 0 [.rd 9 (([] : List SecD).map secA), .rd 6 (([] : List SymD).map symA), .rd 2 (([] : List GrpD).map grpA), .v (.bool false), .rd 1 (([] : List Int).map iA)]) noid2 ?_
       exact .inr ⟨fun h => absurd h hno, rfl⟩
      ·
       cases h4
    ·
     have h3a : (shK b (k + 1)).a1 ≠ 4 := of_decide_eq_false h3
     refine AW.seq' ?_
     refine AW.region ?_
     iterate 2 refine AO.c ?_
     refine AO.nil ?_
     refine SQ.normal ?_
     refine AW.iteB (GL.ev _) (fun h5 => ?_) (fun h5 => ?_)
     ·
      have h5a : (shK b (k + 1)).a1 = 17 := of_decide_eq_true h5
      refine AW.seq' ?_
      rcases Classical.em (grpOk b tb (k + 1)) with hq | hq
      ·
       have hgrp : A0 Tryz.prog 36 [.eptr [.rd 1 (bys b), .rd 10 ((hdsN b (mnH b)).map shA), .v (.int .i64 ((hdOf b).names)), .v (.bool true)], .v (.int .i64 (((k + 1 : Nat) : Int))), .v (.int .i64 ((tb : Int)))] (fun ret => ret = .tup [.agg (grpA (grpD b (k + 1))), .v (.bool true)]) := A0.mono (ref_group b hB hr (tb : Int) (k + 1) hkk h5a) fun r q => by
        rcases q with ⟨_, q⟩ | ⟨q, _⟩
        · exact q
        · exact absurd hq q
       refine AW.region ?_
       iterate 3 refine AO.c ?_
       refine AO.call1 Tryz.func36 rfl rfl (hgrp) ?_
       iterate 3 refine AO.c ?_
       refine AO.ww ?_
       refine AO.sst ?_
       refine AO.c ?_
       refine AO.nil ?_
       refine SQ.normal ?_
       refine AW.seq' ?_
       refine AW.seq' ?_
       refine AW.region ?_
       iterate 2 refine AO.c ?_
       refine AO.nil ?_
       refine SQ.normal ?_
       refine AW.iteB (GL.ev _) (fun h6 => ?_) (fun h6 => ?_)
       ·
        cases h6
       ·
        skip
        refine AW.skip ?_
        refine SQ.normal ?_
        refine AW.region ?_
        iterate 3 refine AO.c ?_
        refine AO.rr ?_
        refine AO.ww ?_
        refine AO.c ?_
        refine AO.sst ?_
        refine AO.nil ?_
        refine BQ.normal ?_
        refine BQ.normal ?_
        refine SQ.normal ?_
        refine AW.region ?_
        refine AO.c ?_
        refine AO.oo ?_
        refine AO.c ?_
        refine AO.nil ?_
        have hall := hstep ⟨fun h => absurd h h3a, fun _ => hq, fun h => (by rw [h5a] at h; cases h)⟩
        exact AW.backE [.f, .f, .k, .f, .k, .f, .f, .f, .k, .k, .k, .F, .F, .F, .F, .F, .F, .F, .F, .F, .F, .F, .F, .F, .F, .F, .f, .f, .f, .f, .f] (j2) (m0 - 1) (k + 1, j2 + 2, e7 + 1) (by omega) (by (try dsimp only); exact ⟨by omega, hall⟩) (by first | rfl | (simp; done)) (by first | ((try dsimp only); rw [relS_no (i := k + 1) h3a, sgS_no (i := k + 1) (by rw [h5a]; decide), grpS_yes h5a, List.map_append, List.length_append]; done) | ((try dsimp only); rw [relS_no (i := k + 1) h3a, sgS_no (i := k + 1) (by rw [h5a]; decide), grpS_yes h5a, List.map_append, List.length_append]; rfl))
      ·
       have hgrp : A0 Tryz.prog 36 [.eptr [.rd 1 (bys b), .rd 10 ((hdsN b (mnH b)).map shA), .v (.int .i64 ((hdOf b).names)), .v (.bool true)], .v (.int .i64 (((k + 1 : Nat) : Int))), .v (.int .i64 ((tb : Int)))] (fun ret => ret = .tup [.agg [.any, .any], .v (.bool false)]) := A0.mono (ref_group b hB hr (tb : Int) (k + 1) hkk h5a) fun r q => by
        rcases q with ⟨q, _⟩ | ⟨_, q⟩
        · exact absurd q hq
        · exact q
       refine AW.region ?_
       iterate 3 refine AO.c ?_
       refine AO.call1 Tryz.func36 rfl rfl (hgrp) ?_
       iterate 3 refine AO.c ?_
       refine AO.ww ?_
       refine AO.sst ?_
       refine AO.c ?_
       refine AO.nil ?_
       refine SQ.normal ?_
       refine AW.seq' ?_
       refine AW.seq' ?_
       refine AW.region ?_
       iterate 2 refine AO.c ?_
       refine AO.nil ?_
       refine SQ.normal ?_
       refine AW.iteB (GL.ev _) (fun h6 => ?_) (fun h6 => ?_)
       ·
        have hno : ¬ othOk b tb := fun h => hq ((h (k + 1) hkk).2.1 h5a)
        refine AW.seq' ?_
        refine AW.region ?_
        refine AO.c ?_
        refine AO.sst ?_
        refine AO.c ?_
        refine AO.nil ?_
        refine SQ.normal ?_
        refine AW.ret ?_
        refine SQ.ret <| BQ.ret <| BQ.ret <| SQ.ret <| AW.out <| LU.ret <| BQ.ret <| SQ.ret ?_
        refine Fin.ret (Gh.tellC 0 [.rd 9 (([] : List SecD).map secA), .rd 6 (([] : List SymD).map symA), .rd 2 (([] : List GrpD).map grpA), .v (.bool false), .rd 1 (([] : List Int).map iA)]) noid2 ?_
        exact .inr ⟨fun h => absurd h hno, rfl⟩
       ·
        cases h6
     ·
      have h5a : (shK b (k + 1)).a1 ≠ 17 := of_decide_eq_false h5
      refine AW.seq' ?_
      refine AW.region ?_
      iterate 2 refine AO.c ?_
      refine AO.nil ?_
      refine SQ.normal ?_
      refine AW.iteB (GL.ev _) (fun h7 => ?_) (fun h7 => ?_)
      ·
       have h7a : (shK b (k + 1)).a1 = 1879002115 := of_decide_eq_true h7
       refine AW.seq' ?_
       refine AW.region ?_
       iterate 2 refine AO.c ?_
       refine AO.call1 Tryz.func38 rfl rfl (htold) ?_
       refine AO.call1 Tryz.func37 rfl rfl (ref_ListI (toldF b (shK b (k + 1))) hBt (by omega)) ?_
       iterate 5 refine AO.c ?_
       refine AO.nil ?_
       refine SQ.normal ?_
       refine AW.seq' ?_
       refine AW.seq' ?_
       refine AW.region ?_
       iterate 3 refine AO.c ?_
       iterate 2 refine AO.gx ?_
       iterate 2 refine AO.c ?_
       iterate 4 refine AO.gx ?_
       refine AO.c ?_
       refine AO.nil ?_
       refine SQ.normal ?_
       refine AW.iteB (GL.ev _) (fun h8 => ?_) (fun h8 => ?_)
       ·
        have hno : ¬ othOk b tb := fun h => by
         obtain ⟨g1, g2, g3⟩ := (h (k + 1) hkk).2.2 h7a
         unfold sgL at g1
         rw [g1, g2, g3] at h8
         simp at h8
        refine AW.seq' ?_
        refine AW.region ?_
        refine AO.c ?_
        refine AO.sst ?_
        refine AO.c ?_
        refine AO.nil ?_
        refine SQ.normal ?_
        refine AW.ret ?_
        refine SQ.ret <| BQ.ret <| BQ.ret <| SQ.ret <| AW.out <| LU.ret <| BQ.ret <| SQ.ret ?_
        refine Fin.ret (Gh.tellC 0 [.rd 9 (([] : List SecD).map secA), .rd 6 (([] : List SymD).map symA), .rd 2 (([] : List GrpD).map grpA), .v (.bool false), .rd 1 (([] : List Int).map iA)]) noid2 ?_
        exact .inr ⟨fun h => absurd h hno, rfl⟩
       ·
        simp at h8
        have hall := hstep ⟨fun h => absurd h h3a, fun h => absurd h h5a, fun _ => by
         unfold sgL
         exact ⟨h8.1.1, h8.1.2, h8.2⟩⟩
        refine AW.skip ?_
        refine SQ.normal ?_
        refine AW.seq' ?_
        refine AW.region ?_
        refine AO.c ?_
        refine AO.sst ?_
        refine AO.nil ?_
        refine SQ.normal ?_
        refine AW.region ?_
        iterate 2 refine AO.c ?_
        refine AO.sst ?_
        refine AO.nil ?_
        refine BQ.normal ?_
        refine BQ.normal ?_
        refine SQ.normal ?_
        refine AW.region ?_
        refine AO.c ?_
        refine AO.oo ?_
        refine AO.c ?_
        refine AO.nil ?_
        exact AW.backE [.f, .f, .k, .f, .k, .f, .f, .f, .k, .k, .k, .F, .F, .F, .F, .F, .F, .F, .F, .F, .F, .F, .F, .F, .F, .F, .f, .f, .f, .f, .f] (j2) (m0 - 1) (k + 1, j2 + 1, e7) (by omega) (by (try dsimp only); exact ⟨by omega, hall⟩) (by first | rfl | (simp; done)) (by first | ((try dsimp only); rw [relS_no h3a, grpS_no h5a, sgS_yes h7a]; done) | ((try dsimp only); rw [relS_no h3a, grpS_no h5a, sgS_yes h7a]; rfl))
      ·
       have h7a : (shK b (k + 1)).a1 ≠ 1879002115 := of_decide_eq_false h7
       refine AW.skip ?_
       refine BQ.normal ?_
       refine BQ.normal ?_
       refine SQ.normal ?_
       refine AW.region ?_
       refine AO.c ?_
       refine AO.oo ?_
       refine AO.c ?_
       refine AO.nil ?_
       have hall := hstep ⟨fun h => absurd h h3a, fun h => absurd h h5a, fun h => absurd h h7a⟩
       exact AW.backE [.f, .f, .k, .f, .k, .f, .f, .f, .k, .k, .k, .F, .F, .F, .F, .F, .F, .F, .F, .F, .F, .F, .F, .F, .F, .F, .f, .f, .f, .f, .f] (j2) (m0 - 1) (k + 1, j2 + 1, e7) (by omega) (by (try dsimp only); exact ⟨by omega, hall⟩) (by first | rfl | (simp; done)) (by first | ((try dsimp only); rw [relS_no h3a, grpS_no h5a, sgS_no h7a]; done) | ((try dsimp only); rw [relS_no h3a, grpS_no h5a, sgS_no h7a]; rfl))
   ·
    rw [decide_eq_false_iff_not, hdsN_len] at h2
    have hke : k + 1 = mnH b := by omega
    simp only [hke] at hx2 ⊢
    have hoth : othOk b tb := hx2
    have hget : getOk b tb := ⟨hf, hlk, hsy, hoth⟩
    have hq := objG_ok hB hget
    have hln := objG_lens hget
    have ha1 : (relS b (mnH b)).length ≤ 100000000000000 := hln.1
    have ha3 : (grpS b (mnH b)).length ≤ 900000 := hln.2.2
    have hgs : GSmall (objG b tb).groups := ⟨Nat.le_trans hln.2.2 (by decide), grp_small hr (mnH b) (Nat.le_refl _)⟩
    have hshp := ref_Shape (objG b tb) hq hgs
    refine AW.exit ?_
    refine SQ.exit <| AW.out <| LU.exit <| BQ.exit ?_
    refine SQ.normal ?_
    refine AW.seq' ?_
    refine AW.ghost (Gh.freezeC (zadd (zadd (0 + 1 + 1) j) 0) 0 (by rw [List.length_map]) (by rw [List.length_map]; omega)) ?_
    refine AW.ghost (Gh.freezeC (zadd (zadd (0 + 1 + 1) j) 0) 2 (by rw [List.length_map]) (by rw [List.length_map]; omega)) ?_
    haveI hT : TELL (.rd 9 ((relS b (mnH b)).map secR)) (.rd 9 ((relS b (mnH b)).map secA)) := tell_map fun s _ => secR_tell s
    refine AW.ghost (Gh.tellC (zadd (zadd (0 + 1 + 1) j) 0) [.rd 9 ((relS b (mnH b)).map secA), .rd 6 ((symL b tb (syMany b tb)).map symA), .rd 2 ((grpS b (mnH b)).map grpA), .v (.bool (sgS b (mnH b)).1), .rd 1 ((sgS b (mnH b)).2.map iA)]) ?_
    refine AW.region ?_
    refine AO.c ?_
    refine AO.call1 Tryz.func39 rfl rfl (hshp) ?_
    refine AO.c ?_
    refine AO.nil ?_
    refine SQ.normal ?_
    refine AW.seq' ?_
    refine AW.seq' ?_
    refine AW.region ?_
    iterate 2 refine AO.c ?_
    refine AO.nil ?_
    refine SQ.normal ?_
    refine AW.iteB (GL.ev _) (fun h9 => ?_) (fun h9 => ?_)
    ·
     rw [Bool.not_eq_true'] at h9
     refine AW.seq' ?_
     refine AW.region ?_
     refine AO.c ?_
     refine AO.sst ?_
     refine AO.c ?_
     refine AO.nil ?_
     refine SQ.normal ?_
     refine AW.ret ?_
     refine SQ.ret ?_
     refine Fin.ret (Gh.tellC 0 [.rd 9 (([] : List SecD).map secA), .rd 6 (([] : List SymD).map symA), .rd 2 (([] : List GrpD).map grpA), .v (.bool false), .rd 1 (([] : List Int).map iA)]) noid2 ?_
     exact .inr ⟨fun _ => h9, rfl⟩
    ·
     rw [Bool.not_eq_false'] at h9
     refine AW.skip ?_
     refine SQ.normal ?_
     refine AW.seq' ?_
     refine AW.region ?_
     refine AO.c ?_
     refine AO.sst ?_
     refine AO.c ?_
     refine AO.nil ?_
     refine SQ.normal ?_
     refine AW.ret ?_
     refine Fin.ret (Gh.refl) noid2 ?_
     exact .inl ⟨hoth, h9, rfl⟩
end Go.Proofs.YtdniaamhbfadnaaGreat.AL
namespace Go.Proofs.YtdniaamhbfadnaaGreat.AL
open Go Go.RowKit Go.Proofs.YtdniaamhbfadnaaGreat.Base
set_option linter.unusedVariables false
set_option linter.unusedSimpArgs false
set_option maxRecDepth 4000
set_option synthInstance.maxSize 1000
set_option synthInstance.maxHeartbeats 200000
instance tuErr : TU Tryz.prog 31 (.interface #[("Error", 261)]) := ⟨by kernel_rfl⟩
instance tcCode : TCMP Tryz.prog 37 := ⟨by kernel_rfl⟩
@[reducible] def zSym : SymD := ⟨noS, 0, 0, 0, 0, 0⟩
@[reducible] def oUp : ObjD := ⟨[], [zSym], [], false, []⟩
theorem zObj_ok : zObj.ok := ⟨by rw [maxLen_eq]; decide, fun s h => (by cases h), by rw [maxLen_eq]; decide, fun s h => (by cases h), by rw [maxLen_eq]; decide, fun s h => (by cases h), by rw [maxLen_eq]; decide, fun s h => (by cases h)⟩
theorem oUp_ok : oUp.ok := by
 refine ⟨by rw [maxLen_eq]; decide, fun s h => (by cases h), by rw [maxLen_eq]; decide, fun s h => ?_, by rw [maxLen_eq]; decide, fun s h => (by cases h), by rw [maxLen_eq]; decide, fun s h => (by cases h)⟩
 obtain rfl := List.mem_singleton.1 h
 exact ⟨by rw [maxLen_eq]; decide, by decide, by decide, by decide, by decide, by decide⟩
theorem oUp_H : LayH oUp := ⟨oUp_ok, by decide +kernel, by decide, by decide⟩
theorem oUp_len : (bytesF oUp).length = 372 := by decide +kernel
theorem oUp_may : mayP oUp = true := by
 unfold mayP
 rw [oUp_H.sh, oUp_len]; rfl
theorem zObj_may : mayP zObj = false := by
 unfold mayP
 rw [show shapeB zObj = false by decide]; rfl
theorem obj_PutY {o : ObjD} (ho : o.ok) (hg : o.groups.length ≤ 900000) (hsg : o.sig.length ≤ 1000000) (h : mayP o = true) : A0 Tryz.prog 24 [.agg (objA o)] (fun ret => ret = .tup [.rd 1 (bys (bytesF o)), .v (ifV 37 0)]) := by
 have := obj_Put o ho hg hsg
 rw [if_pos h, if_pos h] at this
 exact this
theorem obj_MayV {o : ObjD} {v : Bool} (ho : o.ok) (hg : o.groups.length ≤ 900000) (hsg : o.sig.length ≤ 1000000) (h : mayP o = v) : A0 Tryz.prog 25 [.agg (objA o)] (fun ret => ret = .v (.bool v)) := by
 have := obj_May o ho hg hsg
 rw [h] at this
 exact this
theorem gets_cases (b : List Int) (hB : Bytes b) (hb : b.length ≤ 1000000) : (∃ o : ObjD, o.ok ∧ A0 Tryz.prog 7 [.rd 1 (bys b)] (fun ret => ret = .tup [.agg (objA o), .v (ifV 37 0)]) ∧ A0 Tryz.prog 8 [.rd 1 (bys b)] (fun ret => ret = .tup [.agg (objA o), .v (.bool true)])) ∨ (A0 Tryz.prog 7 [.rd 1 (bys b)] (fun ret => ret = .tup [.agg (objA zObj), .v (ifV 37 2)]) ∧ A0 Tryz.prog 8 [.rd 1 (bys b)] (fun ret => ret = .tup [.agg (objA zObj), .v (.bool false)])) := by
 by_cases h : readOk b ∧ secsOk b ∧ ∃ q, symsOk b q
 · obtain ⟨hr, hs, tb, hy⟩ := h
   obtain ⟨hf, hl⟩ := fr_read.2 ⟨hr, hs⟩
   have hB2 := ref_GetB b hB hb hr hs tb hy
   by_cases ho : othOk b tb ∧ shapeB (objG b tb) = true
   · refine .inl ⟨objG b tb, objG_ok hB ⟨hf, hl, hy, ho.1⟩, obj_GetY b hB hb tb ⟨hf, hl, hy, ho.1⟩ ho.2, A0.mono hB2 fun r q => ?_⟩
     rcases q with ⟨_, _, q⟩ | ⟨q, _⟩
     · exact q
     · have := q ho.1; rw [ho.2] at this; cases this
   · refine .inr ⟨obj_GetN b hB hb fun t ht => ?_, A0.mono hB2 fun r q => ?_⟩
     · obtain rfl := symsOk_uniq hy ht.2.2.1
       cases hs2 : shapeB (objG b tb) with
       | false => rfl
       | true => exact absurd ⟨ht.2.2.2, hs2⟩ ho
     · rcases q with ⟨q1, q2, _⟩ | ⟨_, q⟩
       · exact absurd ⟨q1, q2⟩ ho
       · exact q
 · refine .inr ⟨obj_GetN b hB hb fun t ht => ?_, ref_GetA b hB hb h⟩
   obtain ⟨hr, hs⟩ := fr_read.1 ⟨ht.1, ht.2.1⟩
   exact absurd ⟨hr, hs, t, ht.2.2.1⟩ h
theorem up_m : mnH (bytesF oUp) = 4 := by decide +kernel
theorem up_1 : (HdOk (bytesF oUp)) := by decide +kernel
theorem up_2 : (∀ k, k < mnH (bytesF oUp) → hdOk1 (bytesF oUp) k) := by
 rw [up_m]
 unfold hdOk1
 decide +kernel
theorem up_3 : isF (hdsN (bytesF oUp) (mnH (bytesF oUp))) (hdOf (bytesF oUp)).names 3 = true := by decide +kernel
theorem up_4 : ∀ k, k < mnH (bytesF oUp) → 1 ≤ k → (nmK (bytesF oUp) k).isSome = true := by rw [up_m]; decide +kernel
theorem up_5 : ∀ k, k < mnH (bytesF oUp) → lnk1 (bytesF oUp) k := by rw [up_m]; unfold lnk1; decide +kernel
theorem up_6 : ∀ q, q < mnH (bytesF oUp) → (shK (bytesF oUp) q).a1 = 2 → q = 1 := by rw [up_m]; decide +kernel
theorem up_7 : symOk1 (bytesF oUp) 1 := by unfold symOk1 ent1; decide +kernel
theorem up_8 : ∀ i, i < mnH (bytesF oUp) → (shK (bytesF oUp) i).a1 ≠ 4 ∧ (shK (bytesF oUp) i).a1 ≠ 17 ∧ (shK (bytesF oUp) i).a1 ≠ 1879002115 := by rw [up_m]; decide +kernel
theorem up_get : getOk (bytesF oUp) 1 := by
 refine ⟨⟨up_1, by rw [oUp_len]; decide, up_2, up_3, fun k h1 h2 => up_4 k h2 h1⟩, up_5, ⟨by decide, by rw [up_m]; decide, by decide +kernel, up_6, up_7⟩, fun i hi => ?_⟩
 have h := up_8 i hi
 exact ⟨fun c => absurd c h.1, fun c => absurd c h.2.1, fun c => absurd c h.2.2⟩
theorem up_obj : objG (bytesF oUp) 1 = oUp := by kernel_rfl
theorem up_B : Bytes (bytesF oUp) := by unfold Bytes; decide +kernel
theorem up_GetB : A0 Tryz.prog 7 [.rd 1 (bys (bytesF oUp))] (fun ret => ret = .tup [.agg (objA oUp), .v (ifV 37 0)]) := by
 have h := obj_GetY (bytesF oUp) up_B (by rw [oUp_len]; decide) 1 up_get (by rw [up_obj]; exact oUp_H.sh)
 rw [up_obj] at h
 exact h
set_option maxHeartbeats 4000000 in
theorem up08  : A0 Tryz.prog 6 [] (fun ret => ret = .v (.bool true)) := by
 refine A0.body 45 Tryz.func6 rfl rfl Tryz.ntmps6 fun base n0 => ?_
 refine AW.seq' ?_
 refine AW.region ?_
 refine AO.c ?_
 refine AO.nil ?_
 refine SQ.normal ?_
 refine AW.seq' ?_
 refine AW.region ?_
 refine AO.c ?_
 refine AO.rr ?_
 refine AO.eq 7 (av' := .rd 6 (([zSym] : List SymD).map symA)) rfl ?_
 refine AO.c ?_
 refine AO.ghost (Gh.tell 8 (.agg [.rd 9 (([] : List SecD).map secA), .rd 6 (([zSym] : List SymD).map symA), .rd 2 (([] : List GrpD).map grpA), .v (.bool false), .rd 1 (([] : List Int).map iA)])) ?_
 refine AO.call1 Tryz.func24 rfl rfl (obj_PutY oUp_ok (by decide) (by decide) oUp_may) ?_
 iterate 5 refine AO.c ?_
 refine AO.nil ?_
 refine SQ.normal ?_
 refine AW.seq' ?_
 refine AW.region ?_
 refine AO.c ?_
 refine AO.call1 Tryz.func7 rfl rfl (up_GetB) ?_
 iterate 3 refine AO.c ?_
 refine AO.ww ?_
 refine AO.sst ?_
 refine AO.c ?_
 refine AO.nil ?_
 refine SQ.normal ?_
 refine AW.seq' ?_
 refine AW.region ?_
 iterate 2 refine AO.c ?_
 refine AO.eq 18 (av' := .v (.int .i64 372)) (by rw [oUp_len]; rfl) ?_
 refine AO.c ?_
 refine AO.eq 19 (av' := .v (.bool true)) rfl ?_
 refine AO.c ?_
 refine AO.gk rfl ?_
 refine AO.c ?_
 refine AO.gk rfl ?_
 refine AO.c ?_
 refine AO.eq 22 (av' := .v (.bool true)) rfl ?_
 refine AO.pt rfl ?_
 refine AO.c ?_
 refine AO.gk rfl ?_
 refine AO.c ?_
 refine AO.gk rfl ?_
 refine AO.c ?_
 refine AO.eq 26 (av' := .v (.bool true)) rfl ?_
 refine AO.pt rfl ?_
 refine AO.c ?_
 refine AO.gk rfl ?_
 refine AO.c ?_
 refine AO.gk rfl ?_
 refine AO.c ?_
 refine AO.gk rfl ?_
 refine AO.c ?_
 refine AO.gk rfl ?_
 refine AO.c ?_
 refine AO.eq 32 (av' := .v (.bool true)) rfl ?_
 refine AO.pt rfl ?_
 refine AO.c ?_
 refine AO.gk rfl ?_
 refine AO.c ?_
 refine AO.gk rfl ?_
 refine AO.c ?_
 refine AO.gk rfl ?_
 refine AO.c ?_
 refine AO.gk rfl ?_
 refine AO.c ?_
 refine AO.eq 38 (av' := .v (.bool true)) rfl ?_
 refine AO.pt rfl ?_
 refine AO.c ?_
 refine AO.gk rfl ?_
 refine AO.c ?_
 refine AO.gk rfl ?_
 refine AO.ghost (Gh.tell 41 (.agg [.rd 9 (([] : List SecD).map secA), .rd 6 (([] : List SymD).map symA), .rd 2 (([] : List GrpD).map grpA), .v (.bool false), .rd 1 (([] : List Int).map iA)])) ?_
 refine AO.call1 Tryz.func25 rfl rfl (obj_MayV (o := zObj) zObj_ok (by decide) (by decide) zObj_may) ?_
 refine AO.gk rfl ?_
 refine AO.c ?_
 refine AO.eq 43 (av' := .v (.bool true)) rfl ?_
 refine AO.pt rfl ?_
 refine AO.c ?_
 refine AO.nil ?_
 refine SQ.normal ?_
 refine AW.ret ?_
 refine Fin.ret (Gh.refl) noid1 ?_
 first | rfl | (simp [packA]; done)
set_option maxHeartbeats 4000000 in
theorem obj_Gets (b : List Int) (hB : Bytes b) (hb : b.length ≤ maxLen) : A0 Tryz.prog 3 [.rd 1 (bys b)] (fun ret => ret = .v (.bool true)) := by
 rw [maxLen_eq] at hb
 refine A0.body 46 Tryz.func3 rfl rfl Tryz.ntmps3 fun base n0 => ?_
 refine AW.seq' ?_
 refine AW.region ?_
 refine AO.c ?_
 refine AO.nil ?_
 refine SQ.normal ?_
 refine AW.seq' ?_
 refine AW.region ?_
 refine AO.call1 Tryz.func6 rfl rfl (up08) ?_
 refine AO.c ?_
 refine AO.nil ?_
 refine SQ.normal ?_
 refine AW.seq' ?_
 refine AW.seq' ?_
 refine AW.region ?_
 iterate 3 refine AO.c ?_
 refine AO.nil ?_
 refine SQ.normal ?_
 refine AW.iteB (GL.ev _) (fun h0 => ?_) (fun h0 => ?_)
 ·
  skip
  refine AW.seq' ?_
  refine AW.region ?_
  iterate 2 refine AO.c ?_
  refine AO.nil ?_
  refine SQ.normal ?_
  refine AW.ret ?_
  refine SQ.ret ?_
  refine Fin.ret (Gh.refl) noid1 ?_
  first | rfl | (simp [packA]; done)
 ·
  rw [decide_eq_false_iff_not] at h0
  refine AW.skip ?_
  refine SQ.normal ?_
  refine AW.seq' ?_
  rcases gets_cases b hB (by omega) with ⟨o, ho, hg1, hg2⟩ | ⟨hg1, hg2⟩
  ·
   refine AW.region ?_
   refine AO.c ?_
   refine AO.call1 Tryz.func7 rfl rfl (hg1) ?_
   iterate 3 refine AO.c ?_
   refine AO.ww ?_
   refine AO.sst ?_
   refine AO.c ?_
   refine AO.nil ?_
   refine SQ.normal ?_
   refine AW.seq' ?_
   refine AW.region ?_
   refine AO.c ?_
   refine AO.call1 Tryz.func8 rfl rfl (hg2) ?_
   iterate 3 refine AO.c ?_
   refine AO.ww ?_
   refine AO.sst ?_
   refine AO.c ?_
   refine AO.nil ?_
   refine SQ.normal ?_
   refine AW.seq' ?_
   refine AW.region ?_
   iterate 2 refine AO.c ?_
   refine AO.call1 Tryz.func9 rfl rfl (ref_Same o ho) ?_
   refine AO.c ?_
   refine AO.nil ?_
   refine SQ.normal ?_
   refine AW.seq' ?_
   refine AW.seq' ?_
   refine AW.region ?_
   iterate 2 refine AO.c ?_
   refine AO.nil ?_
   refine SQ.normal ?_
   refine AW.iteB (GL.ev _) (fun h1 => ?_) (fun h1 => ?_)
   ·
    exfalso
    simp at h1
   ·
    skip
    refine AW.skip ?_
    refine SQ.normal ?_
    refine AW.seq' ?_
    refine AW.region ?_
    iterate 2 refine AO.c ?_
    refine AO.gx ?_
    iterate 2 refine AO.c ?_
    iterate 2 refine AO.gx ?_
    iterate 2 refine AO.c ?_
    refine AO.nil ?_
    refine SQ.normal ?_
    refine AW.ret ?_
    refine Fin.ret (Gh.refl) noid1 ?_
    first | rfl | (simp [packA]; done)
  ·
   refine AW.region ?_
   refine AO.c ?_
   refine AO.call1 Tryz.func7 rfl rfl (hg1) ?_
   iterate 3 refine AO.c ?_
   refine AO.ww ?_
   refine AO.sst ?_
   refine AO.c ?_
   refine AO.nil ?_
   refine SQ.normal ?_
   refine AW.seq' ?_
   refine AW.region ?_
   refine AO.c ?_
   refine AO.call1 Tryz.func8 rfl rfl (hg2) ?_
   iterate 3 refine AO.c ?_
   refine AO.ww ?_
   refine AO.sst ?_
   refine AO.c ?_
   refine AO.nil ?_
   refine SQ.normal ?_
   refine AW.seq' ?_
   refine AW.region ?_
   iterate 2 refine AO.c ?_
   refine AO.call1 Tryz.func9 rfl rfl (ref_Same zObj zObj_ok) ?_
   refine AO.c ?_
   refine AO.nil ?_
   refine SQ.normal ?_
   refine AW.seq' ?_
   refine AW.seq' ?_
   refine AW.region ?_
   iterate 2 refine AO.c ?_
   refine AO.nil ?_
   refine SQ.normal ?_
   refine AW.iteB (GL.ev _) (fun h1 => ?_) (fun h1 => ?_)
   ·
    skip
    refine AW.seq' ?_
    refine AW.region ?_
    iterate 2 refine AO.c ?_
    refine AO.gx ?_
    iterate 2 refine AO.c ?_
    iterate 2 refine AO.gx ?_
    refine AO.gxoo ?_
    iterate 2 refine AO.c ?_
    refine AO.nil ?_
    refine SQ.normal ?_
    refine AW.ret ?_
    refine SQ.ret ?_
    refine Fin.ret (Gh.refl) noid1 ?_
    first | rfl | (simp [packA]; done)
   ·
    exfalso
    simp at h1
theorem args_ObjGets {avs : List AV} (h : TArgs Tryz.prog [22] avs) : A0 Tryz.prog 3 avs (fun ret => ret = .v (.bool true)) := by
 obtain ⟨av1, b1, rfl, k1, h1⟩ := TArgs.inv_one rfl h
 obtain rfl := TArgs.inv_nil h1
 obtain ⟨b, he, w1, q1⟩ := TA.inv_bytes (e := 5) k1
 cases he
 exact obj_Gets b q1 w1
end Go.Proofs.YtdniaamhbfadnaaGreat.AL
