/- What functions of the program compute, each by its own contract; the conditions stand with each. -/
import Derived.Test.YtlapfdfbgckfcaaFShape2
namespace Go.Proofs.Ytlapfdfbgckfcaa.AL
open Go Go.RowKit Go.Proofs.Ytlapfdfbgckfcaa.Base
set_option linter.unusedVariables false
set_option linter.unusedSimpArgs false
set_option maxRecDepth 4000
set_option synthInstance.maxSize 1000
set_option synthInstance.maxHeartbeats 200000

theorem grpOk_at {l : List GrpD} (h : ∀ r ∈ l, r.ok) {i : Nat} (hi : i < l.length) : (l.getD i default).ok := by
  have := h l[i] (List.getElem_mem hi)
  simpa [hi] using this
theorem symOk_at {l : List SymD} (h : ∀ r ∈ l, r.ok) {i : Nat} (hi : i < l.length) : (l.getD i default).ok := by
  have := h l[i] (List.getElem_mem hi)
  simpa [hi] using this
theorem memberF_big {l : List GrpD} {n : Int} (h : ∀ g ∈ l, g.mem.length ≤ 1000000000) : memberF l n ≤ 1000000000 * l.length := by
  unfold memberF
  induction l with
  | nil => simp
  | cons a l ih =>
    have h1 := h a List.mem_cons_self
    have h2 := ih fun g hg => h g (List.mem_cons_of_mem _ hg)
    have h3 : a.mem.count n ≤ a.mem.length := List.count_le_length
    simp only [List.map_cons, List.sum_cons, List.length_cons]
    omega
theorem mem_take {l : List GrpD} (h : ∀ g ∈ l, g.mem.length ≤ 1000000000) (i : Nat) : ∀ g ∈ l.take i, g.mem.length ≤ 1000000000 := fun g hg => h g (List.mem_of_mem_take hg)
def GSmall (l : List GrpD) : Prop := l.length ≤ 1000000000 ∧ ∀ g ∈ l, g.mem.length ≤ 1000000000
theorem gsm_at {l : List GrpD} (h : GSmall l) {i : Nat} (hi : i < l.length) : (l.getD i default).mem.length ≤ 1000000000 := by
  have := h.2 l[i] (List.getElem_mem hi)
  simpa [hi] using this

theorem ref_member (o : ObjD) (n : Int) (hs : GSmall o.groups) : A0 Try.prog 122 [.agg (objA o), .v (.int .i64 (n))] (fun ret => ret = .v (.int .i64 (memberF o.groups n))) := by
  have hs1 := hs.1
  have hs2 := hs.2
  refine A0.body 40 Try.func122 rfl rfl Try.ntmps122 fun base n0 => ?_
  refine AW.seq' ?_
  refine AW.region ?_
  refine AO.ww ?_
  refine AO.c ?_
  refine AO.nil ?_
  refine SQ.normal ?_
  refine AW.seq' ?_
  refine AW.region ?_
  refine AO.c ?_
  refine AO.nil ?_
  refine SQ.normal ?_
  refine AW.seq' ?_
  refine AW.seq' ?_
  refine AW.region ?_
  refine AO.c ?_
  refine AO.nil ?_
  refine SQ.normal ?_
  refine AW.block' ?_
  refine AW.loopU [.f, .k, .k, .f, .f, .k, .k, .F, .F, .F, .F, .f] (fun (i : Nat) => [(5, .v (.int .i64 (memberF (o.groups.take i) n))), (6, .v (.int .i64 (i)))]) (fun i => Hn n0 [some (.box 52 (objA o))]) (fun m i => i ≤ o.groups.length ∧ m = o.groups.length - i) (o.groups.length) (0) ⟨by omega, by omega⟩ (by first | rfl | (simp; done)) (by first | rfl | (simp; done)) ?_
  rintro m0 i ⟨hx1, hx2⟩
  refine AW.seq' ?_
  refine AW.seq' ?_
  refine AW.region ?_
  refine AO.c ?_
  refine AO.c ?_
  refine AO.c ?_
  refine AO.c ?_
  refine AO.c ?_
  refine AO.nil ?_
  refine SQ.normal ?_
  refine AW.iteB (GL.ev _) (fun h0 => ?_) (fun h0 => ?_)
  · skip
    rw [decide_eq_true_eq] at h0
    have hi : i < o.groups.length := by omega
    have hm := gsm_at hs hi
    have hb := memberF_big (n := n) (mem_take hs2 i)
    have hb0 := memberF_range (l := o.groups.take i) (n := n)
    rw [List.length_take] at hb
    refine AW.skip ?_
    refine SQ.normal ?_
    refine AW.seq' ?_
    refine AW.block' ?_
    refine AW.seq' ?_
    refine AW.region ?_
    refine AO.c ?_
    refine AO.nil ?_
    refine SQ.normal ?_
    refine AW.block' ?_
    refine AW.loopU [.f, .k, .k, .f, .f, .k, .k, .k, .F, .F, .F, .F] (fun (k : Nat) => [(5, .v (.int .i64 (memberF (o.groups.take i) n + ((o.groups.getD i default).mem.take k).count n))), (7, .v (.int .i64 (k)))]) (fun k => Hn n0 [some (.box 52 (objA o))]) (fun m k => k ≤ (o.groups.getD i default).mem.length ∧ m = (o.groups.getD i default).mem.length - k) ((o.groups.getD i default).mem.length) (0) ⟨by omega, by omega⟩ (by first | rfl | (simp; done)) (by first | rfl | (simp; done)) ?_
    rintro m1 k ⟨hk1, hk2⟩
    have hc : ((o.groups.getD i default).mem.take k).count n ≤ k := Nat.le_trans List.count_le_length (by rw [List.length_take]; omega)
    refine AW.seq' ?_
    refine AW.seq' ?_
    refine AW.region ?_
    refine AO.c ?_
    refine AO.c ?_
    refine AO.c ?_
    refine AO.c ?_
    refine AO.oo ?_
    refine AO.c ?_
    refine AO.c ?_
    refine AO.c ?_
    refine AO.c ?_
    refine AO.nil ?_
    refine SQ.normal ?_
    refine AW.iteB (GL.ev _) (fun h1 => ?_) (fun h1 => ?_)
    · skip
      rw [decide_eq_true_eq] at h1
      have hk : k < (o.groups.getD i default).mem.length := by omega
      refine AW.skip ?_
      refine SQ.normal ?_
      refine AW.seq' ?_
      refine AW.block' ?_
      refine AW.seq' ?_
      refine AW.region ?_
      refine AO.c ?_
      refine AO.c ?_
      refine AO.c ?_
      refine AO.oo ?_
      refine AO.c ?_
      refine AO.c ?_
      refine AO.c ?_
      refine AO.oo ?_
      refine AO.c ?_
      refine AO.c ?_
      refine AO.c ?_
      refine AO.nil ?_
      refine SQ.normal ?_
      refine AW.iteB (GL.ev _) (fun h2 => ?_) (fun h2 => ?_)
      · skip
        rw [decide_eq_true_eq] at h2
        have e2 : (((o.groups.getD i default).mem.take (k + 1)).count n : Int) = ((o.groups.getD i default).mem.take k).count n + 1 := by
          rw [count_take hk, if_pos h2]; rfl
        refine AW.region ?_
        refine AO.c ?_
        refine AO.oo ?_
        refine AO.c ?_
        refine AO.nil ?_
        refine BQ.normal ?_
        refine SQ.normal ?_
        refine AW.region ?_
        refine AO.c ?_
        refine AO.oo ?_
        refine AO.c ?_
        refine AO.nil ?_
        exact AW.backU [.f, .k, .k, .f, .f, .k, .k, .k, .F, .F, .F, .F] (m1 - 1) (k + 1) (by omega) (by first | omega | (simp; done) | (simp; omega)) (by (try dsimp only); rw [e2, ← Int.add_assoc] <;> rfl) (by first | rfl | (simp; done))
      · skip
        rw [decide_eq_false_iff_not] at h2
        have e2 : (((o.groups.getD i default).mem.take (k + 1)).count n : Int) = ((o.groups.getD i default).mem.take k).count n := by
          rw [count_take hk, if_neg h2]; rfl
        refine AW.skip ?_
        refine BQ.normal ?_
        refine SQ.normal ?_
        refine AW.region ?_
        refine AO.c ?_
        refine AO.oo ?_
        refine AO.c ?_
        refine AO.nil ?_
        exact AW.backU [.f, .k, .k, .f, .f, .k, .k, .k, .F, .F, .F, .F] (m1 - 1) (k + 1) (by omega) (by first | omega | (simp; done) | (simp; omega)) (by (try dsimp only); rw [e2] <;> rfl) (by first | rfl | (simp; done))
    · skip
      rw [decide_eq_false_iff_not] at h1
      have e := memberF_take (n := n) hi
      rw [show ((o.groups.getD i default).mem) = (o.groups.getD i default).mem.take k from (List.take_of_length_le (by omega)).symm] at e
      refine AW.exit ?_
      refine SQ.exit <| AW.out <| LU.exit <| BQ.exit ?_
      refine BQ.normal ?_
      refine SQ.normal ?_
      refine AW.region ?_
      refine AO.c ?_
      refine AO.oo ?_
      refine AO.c ?_
      refine AO.nil ?_
      exact AW.backU [.f, .k, .k, .f, .f, .k, .k, .F, .F, .F, .F, .f] (m0 - 1) (i + 1) (by omega) (by first | omega | (simp; done) | (simp; omega)) (by (try dsimp only); rw [e] <;> rfl) (by first | rfl | (simp; done))
  · skip
    try simp only [Bool.and_eq_true, Bool.or_eq_true, Bool.not_eq_true', Bool.and_eq_false_iff, Bool.or_eq_false_iff, decide_eq_true_eq, decide_eq_false_iff_not, bys_length] at h0
    refine AW.exit ?_
    refine SQ.exit <| AW.out <| LU.exit <| BQ.exit ?_
    refine SQ.normal ?_
    refine AW.seq' ?_
    refine AW.region ?_
    refine AO.c ?_
    refine AO.c ?_
    refine AO.nil ?_
    refine SQ.normal ?_
    refine AW.ret ?_
    refine Fin.ret (Gh.refl) noid1 ?_
    rw [List.take_of_length_le (by omega)]; rfl
theorem ref_rels (o : ObjD) (s : SecD) (ho : o.syms.length ≤ maxLen) (hs : s.ok) : A0 Try.prog 121 [.agg (objA o), .agg (secA s)] (fun ret => ret = .v (.bool (relsB o s))) := by
  have hs0 := hs
  obtain ⟨q1, q2, q3, q4, q5, q6, q7, q8, q9, q10, q11⟩ := hs
  rw [maxLen_eq] at q8 q10 ho
  refine A0.body 71 Try.func121 rfl rfl Try.ntmps121 fun base n0 => ?_
  refine AW.seq' ?_
  refine AW.region ?_
  refine AO.ww ?_
  refine AO.ww ?_
  refine AO.c ?_
  refine AO.nil ?_
  refine SQ.normal ?_
  refine AW.seq' ?_
  refine AW.seq' ?_
  refine AW.region ?_
  refine AO.c ?_
  refine AO.c ?_
  refine AO.c ?_
  refine AO.c ?_
  refine AO.nil ?_
  refine SQ.normal ?_
  refine AW.iteB (GL.ev _) (fun h0 => ?_) (fun h0 => ?_)
  · skip
    try simp only [Bool.and_eq_true, Bool.or_eq_true, Bool.not_eq_true', Bool.and_eq_false_iff, Bool.or_eq_false_iff, decide_eq_true_eq, decide_eq_false_iff_not, bys_length] at h0
    refine AW.seq' ?_
    refine AW.region ?_
    refine AO.c ?_
    refine AO.nil ?_
    refine SQ.normal ?_
    refine AW.ret ?_
    refine SQ.ret ?_
    refine Fin.ret (Gh.refl) noid1 ?_
    unfold relsB; rw [decide_eq_false (by omega)]; rfl
  · skip
    try simp only [Bool.and_eq_true, Bool.or_eq_true, Bool.not_eq_true', Bool.and_eq_false_iff, Bool.or_eq_false_iff, decide_eq_true_eq, decide_eq_false_iff_not, bys_length] at h0
    refine AW.skip ?_
    refine SQ.normal ?_
    refine AW.seq' ?_
    refine AW.seq' ?_
    refine AW.region ?_
    refine AO.c ?_
    refine AO.nil ?_
    refine SQ.normal ?_
    refine AW.block' ?_
    refine AW.loopU2 [.f, .f, .k, .k, .f, .k, .F, .F, .F, .F, .F, .F, .F, .F, .f] (fun (i j : Nat) => [(5, .v (.int .i64 (i)))]) (fun i j => Hn n0 (([some (.box 52 (objA o)), some (.box 75 (secA s))] ++ List.replicate j none) ++ [])) (fun m i j => i ≤ s.rels.length ∧ m = s.rels.length - i ∧ (∀ k, k < i → mayRelB (s.rels.getD k default) = true) ∧ relsG o.syms.length s.data.length none s.rels = relsG o.syms.length s.data.length (prevR s.rels i) (s.rels.drop i)) (s.rels.length) (0) (0) ⟨by omega, by omega, fun k h => by omega, rfl⟩ (by first | rfl | (simp; done)) (by first | rfl | (simp; done)) ?_
    rintro m0 i j ⟨hx1, hx2, hx3, hx4⟩
    refine AW.seq' ?_
    refine AW.seq' ?_
    refine AW.region ?_
    refine AO.c ?_
    refine AO.c ?_
    refine AO.c ?_
    refine AO.c ?_
    refine AO.c ?_
    refine AO.nil ?_
    refine SQ.normal ?_
    refine AW.iteB (GL.ev _) (fun h1 => ?_) (fun h1 => ?_)
    · skip
      rw [decide_eq_true_eq] at h1
      have hi : i < s.rels.length := by omega
      rw [drop_getD hi, relsG_cons] at hx4
      refine AW.skip ?_
      refine SQ.normal ?_
      refine AW.seq' ?_
      refine AW.block' ?_
      refine AW.seq' ?_
      refine AW.region ?_
      refine AO.c ?_
      refine AO.c ?_
      refine AO.c ?_
      refine AO.oo ?_
      refine AO.c ?_
      refine AO.ww ?_
      refine AO.sst ?_
      refine AO.nil ?_
      refine SQ.normal ?_
      refine AW.seq' ?_
      refine AW.region ?_
      refine AO.c ?_
      refine AO.call1 Try.func139 rfl rfl (ref_MayRel _ (relOk_at q11 hi)) ?_
      refine AO.c ?_
      refine AO.nil ?_
      refine SQ.normal ?_
      refine AW.seq' ?_
      refine AW.seq' ?_
      refine AW.drawsZ [] (.one 0 false (.one 1 false (.one 2 false (.one 3 false (.one 4 false (.one 5 false (.one 6 false (.one 7 false (.one 8 false (.one 9 false (.one 10 false (.one 11 false (.one 12 false (.one 13 false (.one 14 false (.one 17 false (.one 18 false (.one 19 false (.one 15 true (.one 16 false (.one 20 false (.one 21 false .nil)))))))))))))))))))))) (by kernel_rfl) rfl (by kernel_rfl) ?_
      refine AZ.c rfl ?_
      refine AZ.c rfl ?_
      refine AZ.c rfl ?_
      refine AZ.gx rfl ?_
      refine AZ.gx rfl ?_
      refine AZ.gx rfl ?_
      refine AZ.gx rfl ?_
      refine AZ.gx rfl ?_
      refine AZ.gx rfl ?_
      refine AZ.c rfl ?_
      refine AZ.c rfl ?_
      refine AZ.gx rfl ?_
      refine AZ.gx rfl ?_
      refine AZ.gx rfl ?_
      refine AZ.gx rfl ?_
      refine AZ.gx rfl ?_
      refine AZ.gx rfl ?_
      refine AZ.gx rfl ?_
      refine AZ.gxcall1 rfl Try.func115 rfl rfl (fun hgd => ref_Width _) ?_
      refine AZ.gxo rfl (fun h => ?_) ?_
      · have hw := widthF_range (s.rels.getD i default).typ
        simp only [Bool.not_eq_true', Bool.or_eq_false_iff, Bool.not_eq_false', decide_eq_false_iff_not] at h
        have := mayRel_off h.1
        omega
      refine AZ.gx rfl ?_
      refine AZ.c rfl ?_
      refine AZ.done ?_
      refine SQ.normal ?_
      refine AW.iteB (GL.ev _) (fun h2 => ?_) (fun h2 => ?_)
      · skip
        rw [h2, cond_true] at hx4
        refine AW.seq' ?_
        refine AW.region ?_
        refine AO.c ?_
        refine AO.nil ?_
        refine SQ.normal ?_
        refine AW.ret ?_
        refine SQ.ret <| BQ.ret <| SQ.ret <| AW.out <| LU.ret <| BQ.ret <| SQ.ret ?_
        refine Fin.ret (Gh.refl) noid1 ?_
        unfold relsB; rw [hx4, Bool.and_false]; rfl
      · skip
        have hmay : mayRelB (s.rels.getD i default) = true := by
          simp only [Bool.or_eq_false_iff, Bool.not_eq_false'] at h2
          exact h2.1.1
        rw [h2, cond_false] at hx4
        have hp : prevBad (s.rels.getD i default) (prevR s.rels i) = (decide ((i : Int) > 0) && decide ((s.rels.getD ((i : Int) - 1).toNat default).off + widthF (s.rels.getD ((i : Int) - 1).toNat default).typ > (s.rels.getD i default).off)) := by
          unfold prevR
          by_cases h : i = 0
          · subst h; rfl
          · rw [if_neg h, show ((i : Int) - 1).toNat = i - 1 by omega, decide_eq_true (show (i : Int) > 0 by omega), Bool.true_and]; rfl
        refine AW.skip ?_
        refine SQ.normal ?_
        refine AW.seq' ?_
        refine AW.drawsZ [] (.one 0 false (.one 1 false (.one 2 false (.one 3 false (.one 4 false (.one 5 false (.one 6 false (.one 7 false (.one 8 false (.one 9 false (.one 10 false (.one 11 false (.one 12 false (.one 13 false (.one 14 false (.one 15 false (.one 16 false (.one 19 false (.one 20 false (.one 17 true (.one 18 false (.one 21 false (.one 22 false .nil))))))))))))))))))))))) (by kernel_rfl) rfl (by kernel_rfl) ?_
        refine AZ.c rfl ?_
        refine AZ.c rfl ?_
        refine AZ.c rfl ?_
        refine AZ.gx rfl ?_
        refine AZ.gx rfl ?_
        refine AZ.gx rfl ?_
        refine AZ.gxo rfl (fun h => by omega) ?_
        refine AZ.gxo rfl (fun h => by rw [decide_eq_true_eq] at h; omega) ?_
        refine AZ.gx rfl ?_
        refine AZ.gx rfl ?_
        refine AZ.gx rfl ?_
        refine AZ.gx rfl ?_
        refine AZ.gx rfl ?_
        refine AZ.gxo rfl (fun h => by omega) ?_
        refine AZ.gxo rfl (fun h => by rw [decide_eq_true_eq] at h; omega) ?_
        refine AZ.gx rfl ?_
        refine AZ.gx rfl ?_
        refine AZ.gx rfl ?_
        refine AZ.gx rfl ?_
        refine AZ.gxcall1 rfl Try.func115 rfl rfl (fun hgd => ref_Width _) ?_
        refine AZ.gxo rfl (fun h => ?_) ?_
        · have hw := widthF_range (s.rels.getD ((i : Int) - 1).toNat default).typ
          rw [decide_eq_true_eq] at h
          have := mayRel_off (hx3 ((i : Int) - 1).toNat (by omega))
          omega
        refine AZ.gx rfl ?_
        refine AZ.c rfl ?_
        refine AZ.done ?_
        refine SQ.normal ?_
        refine AW.iteB (GL.ev _) (fun h3 => ?_) (fun h3 => ?_)
        · skip
          rw [hp, h3, cond_true] at hx4
          refine AW.seq' ?_
          refine AW.region ?_
          refine AO.c ?_
          refine AO.nil ?_
          refine SQ.normal ?_
          refine AW.ret ?_
          refine BQ.ret <| SQ.ret <| AW.out <| LU.ret <| BQ.ret <| SQ.ret ?_
          refine Fin.ret (Gh.refl) noid1 ?_
          unfold relsB; rw [hx4, Bool.and_false]; rfl
        · skip
          rw [hp, h3, cond_false] at hx4
          rw [show some (s.rels.getD i default) = prevR s.rels (i + 1) by unfold prevR; rw [if_neg (by omega)]; rfl] at hx4
          refine AW.skip ?_
          refine BQ.normal ?_
          refine SQ.normal ?_
          refine AW.region ?_
          refine AO.c ?_
          refine AO.oo ?_
          refine AO.c ?_
          refine AO.nil ?_
          exact AW.backD [.f, .f, .k, .k, .f, .k, .F, .F, .F, .F, .F, .F, .F, .F, .f] ([some (.box 52 (objA o)), some (.box 75 (secA s))]) (j) (m0 - 1) (i + 1, j + 1) (by omega) (by (try dsimp only); exact ⟨by omega, by omega, fun k hk => by rcases Nat.lt_succ_iff_lt_or_eq.1 hk with h | rfl; exact hx3 k h; exact hmay, hx4⟩) (by first | rfl | (simp; done)) (by first | rfl | (simp; done))
    · skip
      try simp only [Bool.and_eq_true, Bool.or_eq_true, Bool.not_eq_true', Bool.and_eq_false_iff, Bool.or_eq_false_iff, decide_eq_true_eq, decide_eq_false_iff_not, bys_length] at h1
      refine AW.exit ?_
      refine SQ.exit <| AW.out <| LU.exit <| BQ.exit ?_
      refine SQ.normal ?_
      refine AW.seq' ?_
      refine AW.region ?_
      refine AO.c ?_
      refine AO.nil ?_
      refine SQ.normal ?_
      refine AW.ret ?_
      refine Fin.ret (Gh.refl) noid1 ?_
      unfold relsB; rw [hx4, List.drop_of_length_le (by omega), decide_eq_true (by omega)]; unfold relsG; rfl
theorem ref_section (o : ObjD) (n : Int) (ho : o.ok) (hg : GSmall o.groups) (hn : 1 ≤ n ∧ n ≤ o.secs.length) : A0 Try.prog 75 [.agg (objA o), .v (.int .i64 (n))] (fun ret => ret = .v (.bool (sectionB o n))) := by
  have hl := ho.1
  rw [maxLen_eq] at hl
  have hi : (n - 1).toNat < o.secs.length := by omega
  have hs := secOk_at ho.2.1 hi
  refine A0.body 85 Try.func75 rfl rfl Try.ntmps75 fun base n0 => ?_
  refine AW.seq' ?_
  refine AW.region ?_
  refine AO.ww ?_
  refine AO.c ?_
  refine AO.nil ?_
  refine SQ.normal ?_
  refine AW.seq' ?_
  refine AW.region ?_
  refine AO.c ?_
  refine AO.c ?_
  refine AO.c ?_
  refine AO.oo ?_
  refine AO.oo ?_
  refine AO.c ?_
  refine AO.ww ?_
  refine AO.sst ?_
  refine AO.nil ?_
  refine SQ.normal ?_
  refine AW.seq' ?_
  refine AW.region ?_
  refine AO.c ?_
  refine AO.c ?_
  refine AO.call1 Try.func119 rfl rfl (ref_Name _ hs.1) ?_
  refine AO.c ?_
  refine AO.nil ?_
  refine SQ.normal ?_
  refine AW.seq' ?_
  refine AW.region ?_
  refine AO.c ?_
  refine AO.call1 Try.func120 rfl rfl (ref_kind _ hs) ?_
  refine AO.c ?_
  refine AO.nil ?_
  refine SQ.normal ?_
  refine AW.seq' ?_
  refine AW.region ?_
  refine AO.c ?_
  refine AO.c ?_
  refine AO.call1 Try.func121 rfl rfl (ref_rels _ _ ho.2.2.1 hs) ?_
  refine AO.c ?_
  refine AO.nil ?_
  refine SQ.normal ?_
  refine AW.seq' ?_
  refine AW.seq' ?_
  refine AW.region ?_
  refine AO.c ?_
  refine AO.c ?_
  refine AO.c ?_
  refine AO.gx ?_
  refine AO.gx ?_
  refine AO.c ?_
  refine AO.c ?_
  refine AO.gx ?_
  refine AO.gx ?_
  refine AO.c ?_
  refine AO.nil ?_
  refine SQ.normal ?_
  refine AW.iteB (GL.ev _) (fun h0 => ?_) (fun h0 => ?_)
  · skip
    skip
    refine AW.seq' ?_
    refine AW.region ?_
    refine AO.c ?_
    refine AO.nil ?_
    refine SQ.normal ?_
    refine AW.ret ?_
    refine SQ.ret ?_
    refine Fin.ret (Gh.refl) noid1 ?_
    unfold sectionB; simp only [*, cond_true, cond_false]; rfl
  · skip
    skip
    refine AW.skip ?_
    refine SQ.normal ?_
    refine AW.seq' ?_
    refine AW.region ?_
    refine AO.c ?_
    refine AO.call1 Try.func29 rfl rfl (ref_Has _ _ hs (by omega)) ?_
    refine AO.c ?_
    refine AO.nil ?_
    refine SQ.normal ?_
    refine AW.seq' ?_
    refine AW.seq' ?_
    refine AW.region ?_
    refine AO.c ?_
    refine AO.c ?_
    refine AO.gx ?_
    refine AO.gx ?_
    refine AO.gx ?_
    refine AO.gx ?_
    refine AO.gx ?_
    refine AO.gx ?_
    refine AO.gx ?_
    refine AO.gx ?_
    refine AO.gx ?_
    refine AO.gx ?_
    refine AO.gx ?_
    refine AO.gx ?_
    refine AO.gx ?_
    refine AO.gx ?_
    refine AO.gx ?_
    refine AO.gx ?_
    refine AO.gx ?_
    refine AO.c ?_
    refine AO.c ?_
    refine AO.gx ?_
    refine AO.gx ?_
    refine AO.gx ?_
    refine AO.gx ?_
    refine AO.gx ?_
    refine AO.gx ?_
    refine AO.gx ?_
    refine AO.c ?_
    refine AO.nil ?_
    refine SQ.normal ?_
    refine AW.iteB (GL.ev _) (fun h1 => ?_) (fun h1 => ?_)
    · skip
      skip
      refine AW.seq' ?_
      refine AW.region ?_
      refine AO.c ?_
      refine AO.nil ?_
      refine SQ.normal ?_
      refine AW.ret ?_
      refine SQ.ret ?_
      refine Fin.ret (Gh.refl) noid1 ?_
      unfold sectionB; simp only [*, cond_true, cond_false]; rfl
    · skip
      skip
      refine AW.skip ?_
      refine SQ.normal ?_
      refine AW.seq' ?_
      refine AW.region ?_
      refine AO.c ?_
      refine AO.call1 Try.func29 rfl rfl (ref_Has _ _ hs (by omega)) ?_
      refine AO.c ?_
      refine AO.nil ?_
      refine SQ.normal ?_
      refine AW.seq' ?_
      refine AW.region ?_
      refine AO.c ?_
      refine AO.c ?_
      refine AO.call1 Try.func122 rfl rfl (ref_member _ _ hg) ?_
      refine AO.c ?_
      refine AO.nil ?_
      refine SQ.normal ?_
      refine AW.seq' ?_
      refine AW.region ?_
      refine AO.c ?_
      refine AO.c ?_
      refine AO.c ?_
      refine AO.gx ?_
      refine AO.gx ?_
      refine AO.c ?_
      refine AO.c ?_
      refine AO.gx ?_
      refine AO.gx ?_
      refine AO.gx ?_
      refine AO.gx ?_
      refine AO.gx ?_
      refine AO.c ?_
      refine AO.c ?_
      refine AO.nil ?_
      refine SQ.normal ?_
      refine AW.ret ?_
      refine Fin.ret (Gh.refl) noid1 ?_
      unfold sectionB; simp only [*, cond_true, cond_false]; rfl

end Go.Proofs.Ytlapfdfbgckfcaa.AL
