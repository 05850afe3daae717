/- What functions of the program compute, each by its own contract; the conditions stand with each. -/
import Derived.Test.YtbaibjhkmajplaaFData
namespace Go.Proofs.Ytbaibjhkmajplaa.AL
open Go Go.RowKit Go.Proofs.Ytbaibjhkmajplaa.Base
set_option linter.unusedVariables false
set_option linter.unusedSimpArgs false
set_option maxRecDepth 4000

/-- Where a place is. -/
def findG (N at_ : Int) : Int → List (Int × Int) → Int
  | _, [] => -1
  | i, p :: ps => if (p.1 ≤ at_ ∧ at_ - p.1 < p.2) ∨ (i + 1 = N ∧ at_ - p.1 = p.2 ∧ 0 ≤ at_) then i else findG N at_ (i + 1) ps
def inG (N at_ : Int) : Int → Int → List (Int × Int) → Int
  | _, out, [] => out
  | i, out, p :: ps => inG N at_ (i + 1) (if p.1 ≤ at_ ∧ (at_ < p.1 + p.2 ∨ (i + 1 = N ∧ at_ = p.1 + p.2)) then i else out) ps
def PcOk (l : List (Int × Int)) : Prop := l.length ≤ 1000000000 ∧ ∀ p ∈ l, 0 ≤ p.1 ∧ p.1 ≤ 2147483648 ∧ 0 ≤ p.2 ∧ p.2 ≤ 2147483648
theorem pcs_at {l : List (Int × Int)} (h : PcOk l) (i : Nat) : 0 ≤ (l.getD i default).1 ∧ (l.getD i default).1 ≤ 2147483648 ∧ 0 ≤ (l.getD i default).2 ∧ (l.getD i default).2 ≤ 2147483648 := by
  by_cases hi : i < l.length
  · have := h.2 l[i] (List.getElem_mem hi)
    simpa [hi] using this
  · simp [hi]; decide
theorem drop_getD {α : Type} [Inhabited α] {l : List α} {i : Nat} (h : i < l.length) : l.drop i = l.getD i default :: l.drop (i + 1) := by
  rw [List.drop_eq_getElem_cons h]; simp [h]
theorem wi64' {x : Int} (h : -9223372036854775808 ≤ x ∧ x ≤ 9223372036854775807) : IntKind.i64.wrap x = x := by rw [wi64_eq]; exact w64 h.1 h.2
theorem find_cond {a p s i n : Int} (ha : -9223372036854775808 ≤ a ∧ a ≤ 9223372036854775807) (hp : 0 ≤ p ∧ p ≤ 2147483648) : (decide (a ≥ p) && decide (a - p < s) || decide (i = n - 1) && decide (IntKind.i64.wrap (a - p) = s) && decide (a ≥ 0)) = decide ((p ≤ a ∧ a - p < s) ∨ (i + 1 = n ∧ a - p = s ∧ 0 ≤ a)) := by
  rw [Bool.eq_iff_iff]
  simp only [Bool.or_eq_true, Bool.and_eq_true, decide_eq_true_eq]
  by_cases h : 0 ≤ a
  · rw [wi64' (by omega)]; omega
  · omega
theorem in_cond {a p s i n : Int} : (decide (a ≥ p) && (decide (a < p + s) || decide (i = n - 1) && decide (a = p + s))) = decide (p ≤ a ∧ (a < p + s ∨ (i + 1 = n ∧ a = p + s))) := by
  rw [Bool.eq_iff_iff]
  simp only [Bool.or_eq_true, Bool.and_eq_true, decide_eq_true_eq]
  omega

theorem piece_Find (l : List (Int × Int)) (at_ : Int) (hl : PcOk l) (ha : I64 at_) : A0 Try.prog 25 [.rd 2 (l.map pcA), .v (.int .i64 at_)] (fun ret => ret = .v (.int .i64 (findG l.length at_ 0 l))) := by
  have hl1 := hl.1
  have hl2 := pcs_at hl
  unfold I64 at ha
  refine A0.body 51 Try.func25 rfl rfl Try.ntmps25 fun base n0 => ?_
  refine AW.seq' ?_
  refine AW.region ?_
  refine AO.c ?_
  refine AO.nil ?_
  refine SQ.normal ?_
  refine AW.seq' ?_
  refine AW.seq' ?_
  refine AW.region ?_
  refine AO.c ?_
  refine AO.c ?_
  refine AO.c ?_
  refine AO.nil ?_
  refine SQ.normal ?_
  refine AW.block' ?_
  refine AW.loopU2 [.k, .k, .f, .f, .f, .f, .f, .f, .k, .k, .k, .F, .F, .F, .F, .F] (fun (i j : Nat) => [(10, .v (.int .i64 i))]) (fun i j => Hn n0 (([] ++ List.replicate j none) ++ [])) (fun m i j => i ≤ l.length ∧ m = l.length - i ∧ findG l.length at_ 0 l = findG l.length at_ i (l.drop i)) (l.length) (0) (0) (by first | omega | (simp; done) | (simp; omega)) (by first | rfl | (simp; done)) (by first | rfl | (simp; done)) ?_
  rintro m0 i j ⟨hx1, hx2, hx3⟩
  have hp := hl2 i
  refine AW.seq' ?_
  refine AW.region ?_
  refine AO.c ?_
  refine AO.nil ?_
  refine SQ.normal ?_
  refine AW.seq' ?_
  refine AW.iteB (GL.ev _) (fun h0 => ?_) (fun h0 => ?_)
  · skip
    try simp only [Bool.and_eq_true, Bool.or_eq_true, Bool.not_eq_true', Bool.and_eq_false_iff, Bool.or_eq_false_iff, decide_eq_true_eq, decide_eq_false_iff_not, bys_length] at h0
    refine AW.skip ?_
    refine SQ.normal ?_
    refine AW.seq' ?_
    refine AW.block' ?_
    refine AW.seq' ?_
    refine AW.region ?_
    refine AO.c ?_
    refine AO.oo ?_
    refine AO.c ?_
    refine AO.ww ?_
    refine AO.c ?_
    refine AO.sst ?_
    refine AO.nil ?_
    refine SQ.normal ?_
    refine AW.seq' ?_
    refine AW.region ?_
    refine AO.c ?_
    refine AO.c ?_
    refine AO.c ?_
    refine AO.c ?_
    refine AO.c ?_
    refine AO.gx ?_
    refine AO.gx ?_
    refine AO.gx ?_
    refine AO.gxoo ?_
    refine AO.gx ?_
    refine AO.gx ?_
    refine AO.gx ?_
    refine AO.c ?_
    refine AO.c ?_
    refine AO.nil ?_
    refine SQ.normal ?_
    refine AW.seq' ?_
    refine AW.region ?_
    refine AO.c ?_
    refine AO.c ?_
    refine AO.gx ?_
    refine AO.gx ?_
    refine AO.gx ?_
    refine AO.gxoo ?_
    refine AO.gx ?_
    refine AO.gx ?_
    refine AO.gx ?_
    refine AO.gx ?_
    refine AO.gx ?_
    refine AO.gxpw ?_
    refine AO.gx ?_
    refine AO.gx ?_
    refine AO.gx ?_
    refine AO.gx ?_
    refine AO.gx ?_
    refine AO.gx ?_
    refine AO.gx ?_
    refine AO.gx ?_
    refine AO.c ?_
    refine AO.nil ?_
    refine SQ.normal ?_
    refine AW.iteB (GL.ev _) (fun h1 => ?_) (fun h1 => ?_)
    · skip
      have hlt : i < l.length := by omega
      rw [find_cond ha ⟨hp.1, hp.2.1⟩, decide_eq_true_eq] at h1
      rw [hx3, drop_getD hlt, findG, if_pos h1]
      refine AW.seq' ?_
      refine AW.region ?_
      refine AO.c ?_
      refine AO.c ?_
      refine AO.nil ?_
      refine SQ.normal ?_
      refine AW.ret ?_
      refine BQ.ret <| SQ.ret <| AW.out <| LU.ret <| BQ.ret <| SQ.ret ?_
      refine Fin.ret (Gh.refl) noid1 ?_
      rfl
    · skip
      have hlt : i < l.length := by omega
      rw [find_cond ha ⟨hp.1, hp.2.1⟩, decide_eq_false_iff_not] at h1
      rw [drop_getD hlt, findG, if_neg h1] at hx3
      refine AW.skip ?_
      refine BQ.normal ?_
      refine SQ.normal ?_
      refine AW.region ?_
      refine AO.oo ?_
      refine AO.c ?_
      refine AO.nil ?_
      exact AW.backD [.k, .k, .f, .f, .f, .f, .f, .f, .k, .k, .k, .F, .F, .F, .F, .F] ([]) (j) (m0 - 1) (i + 1, j + 1) (by omega) (by (try dsimp only); exact ⟨by omega, by omega, hx3⟩) (by first | rfl | (simp; done)) (by first | rfl | (simp; done))
  · skip
    try simp only [Bool.and_eq_true, Bool.or_eq_true, Bool.not_eq_true', Bool.and_eq_false_iff, Bool.or_eq_false_iff, decide_eq_true_eq, decide_eq_false_iff_not, bys_length] at h0
    refine AW.exit ?_
    refine SQ.exit <| AW.out <| LU.exit <| BQ.exit ?_
    refine SQ.normal ?_
    refine AW.seq' ?_
    refine AW.region ?_
    refine AO.c ?_
    refine AO.nil ?_
    refine SQ.normal ?_
    refine AW.ret ?_
    refine Fin.ret (Gh.refl) noid1 ?_
    rw [hx3, List.drop_of_length_le (by omega)]; rfl
theorem ref_In (l : List (Int × Int)) (at_ : Int) (hl : PcOk l) (ha : I64 at_) : A0 Try.prog 26 [.rd 2 (l.map pcA), .v (.int .i64 at_)] (fun ret => ret = .v (.int .i64 (inG l.length at_ 0 (-1) l))) := by
  have hl1 := hl.1
  have hl2 := pcs_at hl
  unfold I64 at ha
  refine A0.body 59 Try.func26 rfl rfl Try.ntmps26 fun base n0 => ?_
  refine AW.seq' ?_
  refine AW.region ?_
  refine AO.c ?_
  refine AO.nil ?_
  refine SQ.normal ?_
  refine AW.seq' ?_
  refine AW.region ?_
  refine AO.c ?_
  refine AO.nil ?_
  refine SQ.normal ?_
  refine AW.seq' ?_
  refine AW.seq' ?_
  refine AW.region ?_
  refine AO.c ?_
  refine AO.nil ?_
  refine SQ.normal ?_
  refine AW.block' ?_
  refine AW.loopU2 [.k, .k, .f, .f, .f, .k, .k, .F, .F, .F, .F, .F, .F, .f, .f, .f, .f] (fun (i : Nat) (out : Int) => [(5, .v (.int .i64 out)), (6, .v (.int .i64 i))]) (fun i out => Hn n0 []) (fun m i out => i ≤ l.length ∧ m = l.length - i ∧ inG l.length at_ 0 (-1) l = inG l.length at_ i out (l.drop i)) (l.length) (0) (-1) (by first | omega | (simp; done) | (simp; omega)) (by first | rfl | (simp; done)) (by first | rfl | (simp; done)) ?_
  rintro m0 i out ⟨hx1, hx2, hx3⟩
  have hp := hl2 i
  refine AW.seq' ?_
  refine AW.seq' ?_
  refine AW.region ?_
  refine AO.c ?_
  refine AO.c ?_
  refine AO.c ?_
  refine AO.c ?_
  refine AO.nil ?_
  refine SQ.normal ?_
  refine AW.iteB (GL.ev _) (fun h0 => ?_) (fun h0 => ?_)
  · skip
    try simp only [Bool.and_eq_true, Bool.or_eq_true, Bool.not_eq_true', Bool.and_eq_false_iff, Bool.or_eq_false_iff, decide_eq_true_eq, decide_eq_false_iff_not, bys_length] at h0
    refine AW.skip ?_
    refine SQ.normal ?_
    refine AW.seq' ?_
    refine AW.block' ?_
    refine AW.seq' ?_
    refine AW.drawsZ [] [(0, false), (1, false), (2, false), (3, false), (4, false), (5, false), (6, false), (7, false), (8, false), (9, false), (10, false), (11, false), (12, false), (13, false), (14, false), (15, false), (16, false), (17, false), (18, false), (19, false), (20, false), (21, false), (22, false), (23, false), (24, false), (25, false), (26, false), (27, false), (28, false), (29, false), (30, false), (31, false), (32, false), (33, false), (34, false), (35, false), (36, false), (37, false), (38, false), (39, false), (40, false), (41, false), (42, false), (43, false)] (by kernel_rfl) rfl (by kernel_rfl) ?_
    refine AZ.c rfl ?_
    refine AZ.c rfl ?_
    refine AZ.c rfl ?_
    refine AZ.oo rfl ?_
    refine AZ.c rfl ?_
    refine AZ.c rfl ?_
    refine AZ.c rfl ?_
    refine AZ.c rfl ?_
    refine AZ.gx rfl ?_
    refine AZ.gx rfl ?_
    refine AZ.gx rfl ?_
    refine AZ.gxoo rfl ?_
    refine AZ.gx rfl ?_
    refine AZ.gx rfl ?_
    refine AZ.gx rfl ?_
    refine AZ.gx rfl ?_
    refine AZ.gxoo rfl ?_
    refine AZ.gx rfl ?_
    refine AZ.gx rfl ?_
    refine AZ.gxoo rfl ?_
    refine AZ.gx rfl ?_
    refine AZ.gx rfl ?_
    refine AZ.gx rfl ?_
    refine AZ.gx rfl ?_
    refine AZ.gx rfl ?_
    refine AZ.gxoo rfl ?_
    refine AZ.gx rfl ?_
    refine AZ.gx rfl ?_
    refine AZ.gx rfl ?_
    refine AZ.gx rfl ?_
    refine AZ.gx rfl ?_
    refine AZ.gxoo rfl ?_
    refine AZ.gx rfl ?_
    refine AZ.gx rfl ?_
    refine AZ.gx rfl ?_
    refine AZ.gx rfl ?_
    refine AZ.gxoo rfl ?_
    refine AZ.gx rfl ?_
    refine AZ.gx rfl ?_
    refine AZ.gxoo rfl ?_
    refine AZ.gx rfl ?_
    refine AZ.gx rfl ?_
    refine AZ.gx rfl ?_
    refine AZ.c rfl ?_
    refine AZ.done ?_
    refine SQ.normal ?_
    refine AW.iteB (GL.ev _) (fun h1 => ?_) (fun h1 => ?_)
    · skip
      have hlt : i < l.length := by omega
      rw [in_cond, decide_eq_true_eq] at h1
      rw [drop_getD hlt, inG, if_pos h1] at hx3
      refine AW.region ?_
      refine AO.c ?_
      refine AO.c ?_
      refine AO.nil ?_
      refine BQ.normal ?_
      refine SQ.normal ?_
      refine AW.region ?_
      refine AO.c ?_
      refine AO.oo ?_
      refine AO.c ?_
      refine AO.nil ?_
      exact AW.backU [.k, .k, .f, .f, .f, .k, .k, .F, .F, .F, .F, .F, .F, .f, .f, .f, .f] (m0 - 1) (i + 1, i) (by omega) (by (try dsimp only); exact ⟨by omega, by omega, hx3⟩) (by first | rfl | (simp; done)) (by first | rfl | (simp; done))
    · skip
      have hlt : i < l.length := by omega
      rw [in_cond, decide_eq_false_iff_not] at h1
      rw [drop_getD hlt, inG, if_neg h1] at hx3
      refine AW.skip ?_
      refine BQ.normal ?_
      refine SQ.normal ?_
      refine AW.region ?_
      refine AO.c ?_
      refine AO.oo ?_
      refine AO.c ?_
      refine AO.nil ?_
      exact AW.backU [.k, .k, .f, .f, .f, .k, .k, .F, .F, .F, .F, .F, .F, .f, .f, .f, .f] (m0 - 1) (i + 1, out) (by omega) (by (try dsimp only); exact ⟨by omega, by omega, hx3⟩) (by first | rfl | (simp; done)) (by first | rfl | (simp; done))
  · skip
    try simp only [Bool.and_eq_true, Bool.or_eq_true, Bool.not_eq_true', Bool.and_eq_false_iff, Bool.or_eq_false_iff, decide_eq_true_eq, decide_eq_false_iff_not, bys_length] at h0
    refine AW.exit ?_
    refine SQ.exit <| AW.out <| LU.exit <| BQ.exit ?_
    refine SQ.normal ?_
    refine AW.seq' ?_
    refine AW.region ?_
    refine AO.c ?_
    refine AO.c ?_
    refine AO.nil ?_
    refine SQ.normal ?_
    refine AW.ret ?_
    refine Fin.ret (Gh.refl) noid1 ?_
    rw [hx3, List.drop_of_length_le (by omega)]; rfl

end Go.Proofs.Ytbaibjhkmajplaa.AL
