/- What functions of the program compute, each by its own contract; the conditions stand with each. -/
import Derived.Test.YtlapfdfbgckfcaaFExec2
import Derived.Test.YtlapfdfbgckfcaaAlR
namespace Go.Proofs.Ytlapfdfbgckfcaa.AL
open Go Go.RowKit Go.Proofs.Ytlapfdfbgckfcaa.Base
set_option linter.unusedVariables false
set_option linter.unusedSimpArgs false
set_option maxRecDepth 4000
set_option synthInstance.maxSize 1000
set_option synthInstance.maxHeartbeats 200000

theorem exec_segment (b : List Int) (a last : Int) (hB : Bytes b) (hb : b.length ≤ 1000000000000) (ha : 0 ≤ a ∧ a ≤ 50000) (hl : 0 ≤ last ∧ last ≤ 2147483648) :
    A0 Try.prog 34 [.rd 1 (bys b), .v (.int .i64 a), .v (.int .i64 last)] (fun ret => ret = segR (if segOk b a last then some (segOf b a) else none)) := by
  by_cases h : HasB b (a + 4) 4
  · exact exec_segmentY b a last hB hb ha hl h
  · have h2 : ¬ segOk b a last := fun hk => h ⟨by unfold Wide; omega, by omega, by have := hk.1; omega⟩
    rw [if_neg h2]
    exact exec_segmentN b a last hB hb ha h
instance : TCMP Try.prog 33 := ⟨by kernel_rfl⟩
instance : TU Try.prog 28 (.interface #[("Error", 260)]) := ⟨by kernel_rfl⟩
@[reducible] def loadR (o : Option (Int × List SegD)) : AV := .tup [.agg [.v (.int .i64 (o.getD (0, [])).1), .rd 4 ((o.getD (0, [])).2.map segA)], .v (ifV 33 (if o.isSome then 0 else 2))]
theorem segs_step {b : List Int} {n : Nat} {i last : Int} (h : segOk b (64 + 56 * i) last) : segsF b (n + 1) i last = (segsF b n (i + 1) ((segOf b (64 + 56 * i)).addr + (segOf b (64 + 56 * i)).size)).map (segOf b (64 + 56 * i) :: ·) := by
  rw [segsF, if_pos h]; rfl
theorem map_app (o : Option (List SegD)) (out : List SegD) (s : SegD) : (o.map (s :: ·)).map (out ++ ·) = o.map ((out ++ [s]) ++ ·) := by
  cases o <;> simp

theorem exec_LoadN (b : List Int) (hB : Bytes b) (hb : b.length ≤ 1000000000000) (hno : ¬ (64 ≤ b.length ∧ fixedB b = true)) : A0 Try.prog 11 [.rd 1 (bys b)] (fun ret => ret = loadR none) := by
  have hq : (decide ((b.length : Int) < 64) || !fixedB b) = true := by
    by_cases h : 64 ≤ b.length
    · have : fixedB b = false := by
        cases hf : fixedB b with
        | false => rfl
        | true => exact absurd ⟨h, hf⟩ hno
      rw [this]; simp
    · rw [decide_eq_true (by omega)]; rfl
  refine A0.body 73 Try.func11 rfl rfl Try.ntmps11 fun base n0 => ?_
  refine AW.seq' ?_
  refine AW.region ?_
  refine AO.ww ?_
  refine AO.c ?_
  refine AO.nil ?_
  refine SQ.normal ?_
  refine AW.seq' ?_
  refine AW.region ?_
  refine AO.ww ?_
  refine AO.nil ?_
  refine SQ.normal ?_
  refine AW.seq' ?_
  refine AW.region ?_
  refine AO.ww ?_
  refine AO.c ?_
  refine AO.nil ?_
  refine SQ.normal ?_
  refine AW.seq' ?_
  refine AW.seq' ?_
  refine AW.region ?_
  refine AO.c ?_
  refine AO.c ?_
  refine AO.c ?_
  refine AO.c ?_
  refine AO.gx ?_
  refine AO.gxcall1 Try.func31 rfl rfl (fun hgd => exec_fixed b hB hb (by have q := hgd; simp only [Bool.not_eq_true', decide_eq_false_iff_not] at q; omega)) ?_
  refine AO.gx ?_
  refine AO.c ?_
  refine AO.c ?_
  refine AO.eq 21 (av' := .v (.bool true)) (by rw [hq]) ?_
  refine AO.s rfl ?_
  refine AO.s rfl ?_
  refine AO.s rfl ?_
  refine AO.s rfl ?_
  refine AO.eq 25 (av' := cv (!true) (.v (.bool true))) rfl ?_
  refine AO.c ?_
  refine AO.nil ?_
  refine SQ.normal ?_
  refine AW.iteB (GL.ev _) (fun h0 => ?_) (fun h0 => ?_)
  · skip
    skip
    refine AW.seq' ?_
    refine AW.region ?_
    refine AO.c ?_
    refine AO.c ?_
    refine AO.sst ?_
    refine AO.c ?_
    refine AO.nil ?_
    refine SQ.normal ?_
    refine AW.ret ?_
    refine SQ.ret ?_
    refine Fin.ret (Gh.tellC 0 [.v (.int .i64 0), .rd 4 (([] : List SegD).map segA)]) noid2 ?_
    rfl
  · skip
    exfalso
    simp at h0
set_option maxHeartbeats 2000000 in
theorem exec_LoadY (b : List Int) (hB : Bytes b) (hb : b.length ≤ 1000000000000) (h64 : 64 ≤ b.length) (hfx : fixedB b = true) : A0 Try.prog 11 [.rd 1 (bys b)] (fun ret => ret = loadR (loadF b)) := by
  have hq : (decide ((b.length : Int) < 64) || !fixedB b) = false := by
    rw [hfx, decide_eq_false (by omega)]; rfl
  have hm0 := numAt_range hB 56 2
  have hms : (0 : Int) ≤ numAt b 56 2 := hm0.1
  refine A0.body 73 Try.func11 rfl rfl Try.ntmps11 fun base n0 => ?_
  refine AW.seq' ?_
  refine AW.region ?_
  refine AO.ww ?_
  refine AO.c ?_
  refine AO.nil ?_
  refine SQ.normal ?_
  refine AW.seq' ?_
  refine AW.region ?_
  refine AO.ww ?_
  refine AO.nil ?_
  refine SQ.normal ?_
  refine AW.seq' ?_
  refine AW.region ?_
  refine AO.ww ?_
  refine AO.c ?_
  refine AO.nil ?_
  refine SQ.normal ?_
  refine AW.seq' ?_
  refine AW.seq' ?_
  refine AW.eqH (H' := Hn n0 [some (.box 26 [.v (.int .i64 0), .v (.slice none 0 0)]), some (.box 26 [.v (.int .i64 0), .v (.slice none 0 0)]), some (.row 3 1 0 (List.map iA [0]))]) rfl ?_
  refine AW.region ?_
  refine AO.c ?_
  refine AO.c ?_
  refine AO.c ?_
  refine AO.c ?_
  refine AO.gx ?_
  refine AO.gxcall1 Try.func31 rfl rfl (fun hgd => exec_fixed b hB hb (by omega)) ?_
  refine AO.gx ?_
  refine AO.c ?_
  refine AO.c ?_
  refine AO.eq 21 (av' := .v (.bool false)) (by rw [hq]) ?_
  refine AO.gk rfl ?_
  refine AO.c ?_
  refine AO.gk rfl ?_
  refine AO.c ?_
  refine AO.gk rfl ?_
  refine AO.callE Try.func32 rfl rfl (exec_numbersR b 24 [0] hB hb (by decide) (by decide) n0 2 0 _ _) ?_
  intro q hqq
  refine AO.gk rfl ?_
  refine AO.c ?_
  refine AO.eq 25 (av' := cv (!false) (.v (.bool (!numsB b 24 1)))) rfl ?_
  refine AO.c ?_
  refine AO.nil ?_
  refine SQ.normal ?_
  refine AW.iteB (GL.ev _) (fun h0 => ?_) (fun h0 => ?_)
  · skip
    simp only [Bool.false_or, Bool.not_eq_true'] at h0
    have e : loadF b = none := by
      unfold loadF
      rw [if_neg]
      rintro ⟨_, _, h3, _⟩
      have : numsB b 24 1 = true := by
        rw [numsB_succ]
        rw [show numsB b 24 0 = true from rfl, show numOk b (24 + 8 * ((0 : Nat) : Int)) = true from numOk_iff.2 ⟨⟨by decide, by decide, by omega⟩, h3⟩]; rfl
      rw [this] at h0; cases h0
    refine AW.seq' ?_
    refine AW.region ?_
    refine AO.c ?_
    refine AO.c ?_
    refine AO.sst ?_
    refine AO.c ?_
    refine AO.nil ?_
    refine SQ.normal ?_
    refine AW.ret ?_
    refine SQ.ret ?_
    refine Fin.ret (Gh.tellC 0 [.v (.int .i64 0), .rd 4 (([] : List SegD).map segA)]) noid2 ?_
    first | (rw [e]; done) | (rw [e]; rfl)
  · skip
    simp only [Bool.false_or, Bool.not_eq_false'] at h0
    obtain rfl := hqq h0
    have hen := (nums_all h0 (show 0 < 1 by omega)).2
    have hen0 := (numAt_range hB 24 8).1
    have hen : numAt b 24 8 ≤ 2147483648 := hen
    refine AW.skip ?_
    refine SQ.normal ?_
    refine AW.seq' ?_
    refine AW.region ?_
    refine AO.c ?_
    refine AO.oo ?_
    refine AO.o (by rw [numsL_len]; decide) ?_
    refine AO.eq 31 (av' := .v (.int .i64 (numAt b 24 8))) rfl ?_
    refine AO.c ?_
    refine AO.sst ?_
    refine AO.nil ?_
    refine SQ.normal ?_
    refine AW.seq' ?_
    refine AW.region ?_
    refine AO.c ?_
    refine AO.call1 Try.func33 rfl rfl (get_numAt b 56 2 hB hb ⟨by decide, by decide, by omega⟩) ?_
    refine AO.c ?_
    refine AO.c ?_
    refine AO.c ?_
    refine AO.c ?_
    refine AO.c ?_
    refine AO.nil ?_
    refine SQ.normal ?_
    refine AW.seq' ?_
    refine AW.seq' ?_
    refine AW.region ?_
    refine AO.c ?_
    refine AO.c ?_
    refine AO.nil ?_
    refine SQ.normal ?_
    refine AW.iteB (GL.ev _) (fun h1 => ?_) (fun h1 => ?_)
    · skip
      rw [decide_eq_true_eq] at h1
      have e : loadF b = none := by
        unfold loadF
        rw [if_neg]
        rintro ⟨_, _, _, h4⟩
        omega
      refine AW.seq' ?_
      refine AW.region ?_
      refine AO.c ?_
      refine AO.c ?_
      refine AO.sst ?_
      refine AO.c ?_
      refine AO.nil ?_
      refine SQ.normal ?_
      refine AW.ret ?_
      refine SQ.ret ?_
      refine Fin.ret (Gh.tellC 0 [.v (.int .i64 0), .rd 4 (([] : List SegD).map segA)]) noid2 ?_
      first | (rw [e]; done) | (rw [e]; rfl)
    · skip
      rw [decide_eq_false_iff_not] at h1
      have el : loadF b = (segsF b (numAt b 56 2).toNat 0 0).map fun l => (numAt b 24 8, l) := by
        unfold loadF
        rw [if_pos ⟨h64, hfx, hen, by omega⟩]
      refine AW.skip ?_
      refine SQ.normal ?_
      refine AW.seq' ?_
      refine AW.region ?_
      refine AO.c ?_
      refine AO.nil ?_
      refine SQ.normal ?_
      refine AW.seq' ?_
      refine AW.seq' ?_
      refine AW.region ?_
      refine AO.c ?_
      refine AO.oo ?_
      refine AO.c ?_
      refine AO.nil ?_
      refine SQ.normal ?_
      refine AW.block' ?_
      refine AW.ghost (Gh.adoptC 1 1 32 4 rfl) ?_
      refine AW.loopU4 [.k, .f, .k, .f, .k, .f, .f, .f, .k, .F, .F, .F, .F, .f, .f, .k, .k, .F, .F, .F, .f, .f, .f, .f] (fun (i : Nat) (ep : Nat) (last : Int) (out : List SegD) => [(8, .v (.int .i64 (last))), (44, .v (.int .i64 (i)))]) (fun i ep last out => Hn n0 (([some (.box 26 [.v (.int .i64 0), .v (.slice none 0 0)]), some (.box 26 [.v (.int .i64 (numAt b 24 8)), .own (n0 + 3) (ep) 0 (out).length]), some (.row 3 1 0 (List.map iA [(numAt b 24 8)])), some (.row 32 4 (ep) ((out).map segA))] ++ List.replicate i none) ++ [])) (fun m i ep last out => (i ≤ (numAt b 56 2).toNat ∧ m = (numAt b 56 2).toNat - i) ∧ out.length = i ∧ (0 ≤ last ∧ last ≤ 2147483648) ∧ segsF b (numAt b 56 2).toNat 0 0 = (segsF b ((numAt b 56 2).toNat - i) i last).map (out ++ ·)) ((numAt b 56 2).toNat) (0) (0) (0) ([]) ⟨by omega, rfl, by omega, by cases h : segsF b (numAt b 56 2).toNat 0 0 <;> simp [h]⟩ (by first | rfl | (simp; done)) (by first | rfl | (simp; done)) ?_
      rintro m0 i ep last out ⟨hx1, hx2, hx3, hx4⟩
      refine AW.seq' ?_
      refine AW.region ?_
      refine AO.c ?_
      refine AO.nil ?_
      refine SQ.normal ?_
      refine AW.seq' ?_
      refine AW.iteB (GL.ev _) (fun h2 => ?_) (fun h2 => ?_)
      · skip
        rw [decide_eq_true_eq] at h2
        have hi : i < (numAt b 56 2).toNat := by omega
        obtain ⟨k, hk⟩ : ∃ k, (numAt b 56 2).toNat - i = k + 1 := ⟨(numAt b 56 2).toNat - i - 1, by omega⟩
        refine AW.skip ?_
        refine SQ.normal ?_
        refine AW.seq' ?_
        refine AW.block' ?_
        refine AW.seq' ?_
        refine AW.region ?_
        refine AO.c ?_
        refine AO.c ?_
        refine AO.nil ?_
        refine SQ.normal ?_
        refine AW.seq' ?_
        refine AW.region ?_
        refine AO.c ?_
        refine AO.c ?_
        refine AO.oo ?_
        refine AO.oo ?_
        refine AO.c ?_
        refine AO.call1 Try.func34 rfl rfl (exec_segment b (64 + 56 * (i : Int)) last hB hb (by omega) (by omega)) ?_
        refine AO.c ?_
        refine AO.c ?_
        refine AO.c ?_
        refine AO.ww ?_
        refine AO.sst ?_
        refine AO.c ?_
        refine AO.nil ?_
        refine SQ.normal ?_
        refine AW.seq' ?_
        refine AW.seq' ?_
        refine AW.region ?_
        refine AO.c ?_
        refine AO.c ?_
        refine AO.nil ?_
        refine SQ.normal ?_
        refine AW.iteB (GL.ev _) (fun h3 => ?_) (fun h3 => ?_)
        · skip
          have hok : ¬ segOk b (64 + 56 * (i : Int)) last := fun h => by rw [if_pos h] at h3; cases h3
          have e : loadF b = none := by
            rw [el, hx4, hk, segsF, if_neg hok]; rfl
          refine AW.seq' ?_
          refine AW.region ?_
          refine AO.c ?_
          refine AO.c ?_
          refine AO.sst ?_
          refine AO.c ?_
          refine AO.nil ?_
          refine SQ.normal ?_
          refine AW.ret ?_
          refine SQ.ret <| BQ.ret <| SQ.ret <| AW.out <| LU.ret <| BQ.ret <| SQ.ret ?_
          refine Fin.ret (Gh.tellC 0 [.v (.int .i64 0), .rd 4 (([] : List SegD).map segA)]) noid2 ?_
          first | (rw [e]; done) | (rw [e]; rfl)
        · skip
          have hok : segOk b (64 + 56 * (i : Int)) last := by
            rcases Decidable.em (segOk b (64 + 56 * (i : Int)) last) with h | h
            · exact h
            · rw [if_neg h] at h3; cases h3
          have hst := segs_step (n := k) hok
          have hsr : 0 ≤ (segOf b (64 + 56 * (i : Int))).addr ∧ 0 ≤ (segOf b (64 + 56 * (i : Int))).size ∧ (segOf b (64 + 56 * (i : Int))).addr + (segOf b (64 + 56 * (i : Int))).size ≤ 2147483648 := ⟨segN_nn hB _ _, segN_nn hB _ _, hok.2.2.2.2.2.2.2.2.1⟩
          rw [if_pos hok]
          generalize hse : segOf b (64 + 56 * (i : Int)) = s at hst hsr
          have e : segsF b (numAt b 56 2).toNat 0 0 = (segsF b ((numAt b 56 2).toNat - (i + 1)) ((i + 1 : Nat) : Int) (s.addr + s.size)).map ((out ++ [s]) ++ ·) := by
            rw [hx4, hk, hst, map_app, show (numAt b 56 2).toNat - (i + 1) = k by omega]; rfl
          refine AW.skip ?_
          refine SQ.normal ?_
          refine AW.seq' ?_
          refine AW.region ?_
          refine AO.c ?_
          refine AO.c ?_
          refine AO.eq 61 (av' := .v (.int .i64 s.addr)) rfl ?_
          refine AO.c ?_
          refine AO.c ?_
          refine AO.eq 63 (av' := .v (.int .i64 s.size)) rfl ?_
          refine AO.oo ?_
          refine AO.c ?_
          refine AO.nil ?_
          refine SQ.normal ?_
          refine AW.region ?_
          refine AO.c ?_
          refine AO.c ?_
          refine AO.c ?_
          refine AO.eq 67 (av' := .agg (segA s)) rfl ?_
          refine AO.rr ?_
          refine AO.ww ?_
          refine AO.c ?_
          refine AO.sst ?_
          refine AO.nil ?_
          refine BQ.normal ?_
          refine SQ.normal ?_
          refine AW.region ?_
          refine AO.oo ?_
          refine AO.c ?_
          refine AO.nil ?_
          exact AW.backD [.k, .f, .k, .f, .k, .f, .f, .f, .k, .F, .F, .F, .F, .f, .f, .k, .k, .F, .F, .F, .f, .f, .f, .f] ([some (.box 26 [.v (.int .i64 0), .v (.slice none 0 0)]), some (.box 26 [.v (.int .i64 (numAt b 24 8)), .own (n0 + 3) (ep + 1) 0 (out.length + [segA s].length)]), some (.row 3 1 0 (List.map iA [(numAt b 24 8)])), some (.row 32 4 (ep + 1) (out.map segA ++ [segA s]))]) (i) (m0 - 1) (i + 1, ep + 1, s.addr + s.size, out ++ [s]) (by omega) (by (try dsimp only); exact ⟨by omega, by simp [hx2], by omega, e⟩) (by first | rfl | (simp; done)) (by first | rfl | (simp; done))
      · skip
        rw [decide_eq_false_iff_not] at h2
        have hi : i = (numAt b 56 2).toNat := by omega
        have e : loadF b = some (numAt b 24 8, out) := by
          rw [el, hx4, show (numAt b 56 2).toNat - i = 0 by omega]; simp [segsF]
        refine AW.exit ?_
        refine SQ.exit <| AW.out <| LU.exit <| BQ.exit ?_
        refine SQ.normal ?_
        refine AW.seq' ?_
        refine AW.ghost (Gh.freezeC 1 1 (by simp) (by simp; omega)) ?_
        refine AW.region ?_
        refine AO.c ?_
        refine AO.sst ?_
        refine AO.c ?_
        refine AO.nil ?_
        refine SQ.normal ?_
        refine AW.ret ?_
        refine Fin.ret (Gh.refl) noid2 ?_
        rw [e]; rfl

theorem exec_Load (b : List Int) (hB : Bytes b) (hb : b.length ≤ 1000000000000) : A0 Try.prog 11 [.rd 1 (bys b)] (fun ret => ret = loadR (loadF b)) := by
  by_cases h : 64 ≤ b.length ∧ fixedB b = true
  · exact exec_LoadY b hB hb h.1 h.2
  · have e : loadF b = none := by
      unfold loadF
      rw [if_neg]
      rintro ⟨h1, h2, _⟩
      exact h ⟨h1, h2⟩
    rw [e]
    exact exec_LoadN b hB hb h


end Go.Proofs.Ytlapfdfbgckfcaa.AL
