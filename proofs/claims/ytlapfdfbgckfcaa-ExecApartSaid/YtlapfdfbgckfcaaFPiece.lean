/- What functions of the program compute, each by its own contract; the conditions stand with each. -/
import Derived.Test.YtlapfdfbgckfcaaFData
namespace Go.Proofs.Ytlapfdfbgckfcaa.AL
open Go Go.RowKit Go.Proofs.Ytlapfdfbgckfcaa.Base
set_option linter.unusedVariables false
set_option linter.unusedSimpArgs false
set_option maxRecDepth 4000
set_option synthInstance.maxSize 1000
set_option synthInstance.maxHeartbeats 200000

/-- Where a place is. -/
def findG (N at_ : Int) : Int → List (Int × Int) → Int
  | _, [] => -1
  | i, p :: ps => if (p.1 ≤ at_ ∧ at_ - p.1 < p.2) ∨ (i + 1 = N ∧ at_ - p.1 = p.2 ∧ 0 ≤ at_) then i else findG N at_ (i + 1) ps
def inG (N at_ : Int) : Int → Int → List (Int × Int) → Int
  | _, out, [] => out
  | i, out, p :: ps => inG N at_ (i + 1) (if p.1 ≤ at_ ∧ (at_ < p.1 + p.2 ∨ (i + 1 = N ∧ at_ = p.1 + p.2)) then i else out) ps
def PcOk (l : List (Int × Int)) : Prop := l.length ≤ 1000000000 ∧ ∀ p ∈ l, 0 ≤ p.1 ∧ p.1 ≤ 2147483648 ∧ 0 ≤ p.2 ∧ p.2 ≤ 2147483648
theorem pcs_at {l : List (Int × Int)} (h : PcOk l) (i : Nat) : 0 ≤ (l.getD i default).1 ∧ (l.getD i default).1 ≤ 2147483648 ∧ 0 ≤ (l.getD i default).2 ∧ (l.getD i default).2 ≤ 2147483648 := by
  by_cases hi : i < l.length
  · have := h.2 l[i] (List.getElem_mem hi)
    simpa [hi] using this
  · simp [hi]; decide
theorem find_cond {a p s i n : Int} (ha : -9223372036854775808 ≤ a ∧ a ≤ 9223372036854775807) (hp : 0 ≤ p ∧ p ≤ 2147483648) : (decide (a ≥ p) && decide (a - p < s) || decide (i = n - 1) && decide (IntKind.i64.wrap (a - p) = s) && decide (a ≥ 0)) = decide ((p ≤ a ∧ a - p < s) ∨ (i + 1 = n ∧ a - p = s ∧ 0 ≤ a)) := by
  rw [Bool.eq_iff_iff]
  simp only [Bool.or_eq_true, Bool.and_eq_true, decide_eq_true_eq]
  by_cases h : 0 ≤ a
  · rw [wi64' (by omega)]; omega
  · omega
theorem in_cond {a p s i n : Int} : (decide (a ≥ p) && (decide (a < p + s) || decide (i = n - 1) && decide (a = p + s))) = decide (p ≤ a ∧ (a < p + s ∨ (i + 1 = n ∧ a = p + s))) := by
  rw [Bool.eq_iff_iff]
  simp only [Bool.or_eq_true, Bool.and_eq_true, decide_eq_true_eq]
  omega

theorem piece_Find (l : List (Int × Int)) (at_ : Int) (hl : PcOk l) (ha : I64 at_) : A0 Try.prog 151 [.rd 2 (l.map pcA), .v (.int .i64 at_)] (fun ret => ret = .v (.int .i64 (findG l.length at_ 0 l))) := by
  have hl1 := hl.1
  have hl2 := pcs_at hl
  unfold I64 at ha
  refine A0.body 51 Try.func151 rfl rfl Try.ntmps151 fun base n0 => ?_
  refine AW.seq' ?_
  refine AW.region ?_
  refine AO.c ?_
  refine AO.nil ?_
  refine SQ.normal ?_
  refine AW.seq' ?_
  refine AW.seq' ?_
  refine AW.region ?_
  refine AO.c ?_
  refine AO.c ?_
  refine AO.c ?_
  refine AO.nil ?_
  refine SQ.normal ?_
  refine AW.block' ?_
  refine AW.loopU2 [.k, .k, .f, .f, .f, .f, .f, .f, .k, .k, .k, .F, .F, .F, .F, .F] (fun (i j : Nat) => [(10, .v (.int .i64 i))]) (fun i j => Hn n0 (([] ++ List.replicate j none) ++ [])) (fun m i j => i ≤ l.length ∧ m = l.length - i ∧ findG l.length at_ 0 l = findG l.length at_ i (l.drop i)) (l.length) (0) (0) (by first | omega | (simp; done) | (simp; omega)) (by first | rfl | (simp; done)) (by first | rfl | (simp; done)) ?_
  rintro m0 i j ⟨hx1, hx2, hx3⟩
  have hp := hl2 i
  refine AW.seq' ?_
  refine AW.region ?_
  refine AO.c ?_
  refine AO.nil ?_
  refine SQ.normal ?_
  refine AW.seq' ?_
  refine AW.iteB (GL.ev _) (fun h0 => ?_) (fun h0 => ?_)
  · skip
    try simp only [Bool.and_eq_true, Bool.or_eq_true, Bool.not_eq_true', Bool.and_eq_false_iff, Bool.or_eq_false_iff, decide_eq_true_eq, decide_eq_false_iff_not, bys_length] at h0
    refine AW.skip ?_
    refine SQ.normal ?_
    refine AW.seq' ?_
    refine AW.block' ?_
    refine AW.seq' ?_
    refine AW.region ?_
    refine AO.c ?_
    refine AO.oo ?_
    refine AO.c ?_
    refine AO.ww ?_
    refine AO.c ?_
    refine AO.sst ?_
    refine AO.nil ?_
    refine SQ.normal ?_
    refine AW.seq' ?_
    refine AW.region ?_
    refine AO.c ?_
    refine AO.c ?_
    refine AO.c ?_
    refine AO.c ?_
    refine AO.c ?_
    refine AO.gx ?_
    refine AO.gx ?_
    refine AO.gx ?_
    refine AO.gxoo ?_
    refine AO.gx ?_
    refine AO.gx ?_
    refine AO.gx ?_
    refine AO.c ?_
    refine AO.c ?_
    refine AO.nil ?_
    refine SQ.normal ?_
    refine AW.seq' ?_
    refine AW.region ?_
    refine AO.c ?_
    refine AO.c ?_
    refine AO.gx ?_
    refine AO.gx ?_
    refine AO.gx ?_
    refine AO.gxoo ?_
    refine AO.gx ?_
    refine AO.gx ?_
    refine AO.gx ?_
    refine AO.gx ?_
    refine AO.gx ?_
    refine AO.gxpw ?_
    refine AO.gx ?_
    refine AO.gx ?_
    refine AO.gx ?_
    refine AO.gx ?_
    refine AO.gx ?_
    refine AO.gx ?_
    refine AO.gx ?_
    refine AO.gx ?_
    refine AO.c ?_
    refine AO.nil ?_
    refine SQ.normal ?_
    refine AW.iteB (GL.ev _) (fun h1 => ?_) (fun h1 => ?_)
    · skip
      have hlt : i < l.length := by omega
      rw [find_cond ha ⟨hp.1, hp.2.1⟩, decide_eq_true_eq] at h1
      rw [hx3, drop_getD hlt, findG, if_pos h1]
      refine AW.seq' ?_
      refine AW.region ?_
      refine AO.c ?_
      refine AO.c ?_
      refine AO.nil ?_
      refine SQ.normal ?_
      refine AW.ret ?_
      refine BQ.ret <| SQ.ret <| AW.out <| LU.ret <| BQ.ret <| SQ.ret ?_
      refine Fin.ret (Gh.refl) noid1 ?_
      rfl
    · skip
      have hlt : i < l.length := by omega
      rw [find_cond ha ⟨hp.1, hp.2.1⟩, decide_eq_false_iff_not] at h1
      rw [drop_getD hlt, findG, if_neg h1] at hx3
      refine AW.skip ?_
      refine BQ.normal ?_
      refine SQ.normal ?_
      refine AW.region ?_
      refine AO.oo ?_
      refine AO.c ?_
      refine AO.nil ?_
      exact AW.backD [.k, .k, .f, .f, .f, .f, .f, .f, .k, .k, .k, .F, .F, .F, .F, .F] ([]) (j) (m0 - 1) (i + 1, j + 1) (by omega) (by (try dsimp only); exact ⟨by omega, by omega, hx3⟩) (by first | rfl | (simp; done)) (by first | rfl | (simp; done))
  · skip
    try simp only [Bool.and_eq_true, Bool.or_eq_true, Bool.not_eq_true', Bool.and_eq_false_iff, Bool.or_eq_false_iff, decide_eq_true_eq, decide_eq_false_iff_not, bys_length] at h0
    refine AW.exit ?_
    refine SQ.exit <| AW.out <| LU.exit <| BQ.exit ?_
    refine SQ.normal ?_
    refine AW.seq' ?_
    refine AW.region ?_
    refine AO.c ?_
    refine AO.nil ?_
    refine SQ.normal ?_
    refine AW.ret ?_
    refine Fin.ret (Gh.refl) noid1 ?_
    rw [hx3, List.drop_of_length_le (by omega)]; rfl

end Go.Proofs.Ytlapfdfbgckfcaa.AL
