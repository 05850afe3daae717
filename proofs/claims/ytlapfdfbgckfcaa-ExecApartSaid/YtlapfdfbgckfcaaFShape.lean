/- What functions of the program compute, each by its own contract; the conditions stand with each. -/
import Derived.Test.YtlapfdfbgckfcaaFFits
namespace Go.Proofs.Ytlapfdfbgckfcaa.AL
open Go Go.RowKit Go.Proofs.Ytlapfdfbgckfcaa.Base
set_option linter.unusedVariables false
set_option linter.unusedSimpArgs false
set_option maxRecDepth 4000
set_option synthInstance.maxSize 1000
set_option synthInstance.maxHeartbeats 200000

def nameB (s : ByteArray) : Bool := decide (s.size ≤ 32) && s.data.toList.all (· ≠ 0)
theorem name_step {s : ByteArray} {i : Nat} (h : i < s.size) : s.data.toList.drop i = s.data.toList.getD i 0 :: s.data.toList.drop (i + 1) := by
  have h' : i < s.data.toList.length := by simpa using h
  rw [List.drop_eq_getElem_cons h', List.getD_eq_getElem?_getD, List.getElem?_eq_getElem h']; rfl
def hasF (f k : Int) : Bool := decide (0 ≤ f) && decide (f / k % 2 = 1)
def flagL : List Int := [1, 2, 4, 16, 32, 128, 512, 2097152]
def flagStep (n x : Int) : Int := if 0 ≤ n ∧ n / x % 2 = 1 then n - x else n
def flagsB (n : Int) : Bool := decide (flagL.foldl flagStep n = 0)
theorem flag_pos (i : Nat) (h : i < flagL.length) : 0 < flagL.getD i 0 ∧ flagL.getD i 0 ≤ 2097152 := by
  have : i < 8 := h
  have : i = 0 ∨ i = 1 ∨ i = 2 ∨ i = 3 ∨ i = 4 ∨ i = 5 ∨ i = 6 ∨ i = 7 := by omega
  rcases this with rfl | rfl | rfl | rfl | rfl | rfl | rfl | rfl <;> decide
theorem foldl_take_succ {α β : Type} [Inhabited β] (f : α → β → α) (a : α) (l : List β) (i : Nat) (h : i < l.length) : (l.take (i + 1)).foldl f a = f ((l.take i).foldl f a) (l.getD i default) := by
  rw [List.take_add_one, List.foldl_append]
  simp [h]
theorem flag_range (n : Int) (hn : I64 n) : ∀ i : Nat, I64 ((flagL.take i).foldl flagStep n) := by
  intro i
  induction i with
  | zero => simpa using hn
  | succ i ih =>
    by_cases h : i < flagL.length
    · rw [foldl_take_succ _ _ _ _ h]
      have := flag_pos i h
      have e : flagL.getD i default = flagL.getD i 0 := rfl
      rw [e]
      unfold flagStep I64 at *
      split
      · rename_i hh
        have h2 : flagL.getD i 0 ≤ (flagL.take i).foldl flagStep n := by
          rcases Int.lt_or_le ((flagL.take i).foldl flagStep n) (flagL.getD i 0) with h3 | h3
          · have := Int.ediv_eq_zero_of_lt hh.1 h3
            omega
          · exact h3
        unfold flagStep at h2
        omega
      · exact ih
    · rw [List.take_of_length_le (by omega)] at ih ⊢
      exact ih
theorem pow2_le {k : Nat} (h : k ≤ 12) : (2 : Int) ^ k ≤ 4096 := by
  have h : k = 0 ∨ k = 1 ∨ k = 2 ∨ k = 3 ∨ k = 4 ∨ k = 5 ∨ k = 6 ∨ k = 7 ∨ k = 8 ∨ k = 9 ∨ k = 10 ∨ k = 11 ∨ k = 12 := by omega
  rcases h with rfl | rfl | rfl | rfl | rfl | rfl | rfl | rfl | rfl | rfl | rfl | rfl | rfl <;> decide
def powL : List Int := [1, 2, 4, 8, 16, 32, 64, 128, 256, 512, 1024, 2048, 4096]
def alignB (n : Int) : Bool := powL.contains n
theorem align_end {n : Int} {k : Nat} (hk : k ≤ 12) (hb : ∀ j : Nat, j < k → (2 : Int) ^ j < n) (he : ¬ ((2 : Int) ^ k < n ∧ (2 : Int) ^ k < 4096)) : decide ((2 : Int) ^ k = n) = alignB n := by
  have h : k = 0 ∨ k = 1 ∨ k = 2 ∨ k = 3 ∨ k = 4 ∨ k = 5 ∨ k = 6 ∨ k = 7 ∨ k = 8 ∨ k = 9 ∨ k = 10 ∨ k = 11 ∨ k = 12 := by omega
  have hb' := hb (k - 1)
  rw [Bool.eq_iff_iff]
  unfold alignB powL
  rcases h with rfl | rfl | rfl | rfl | rfl | rfl | rfl | rfl | rfl | rfl | rfl | rfl | rfl <;> simp at hb' he ⊢ <;> omega

theorem ref_Name (s : ByteArray) (hs : s.size ≤ maxLen) : A0 Try.prog 119 [.v (.string s)] (fun ret => ret = .v (.bool (nameB s))) := by
  rw [maxLen_eq] at hs
  refine A0.body 18 Try.func119 rfl rfl Try.ntmps119 fun base n0 => ?_
  refine AW.seq' ?_
  refine AW.region ?_
  refine AO.c ?_
  refine AO.nil ?_
  refine SQ.normal ?_
  refine AW.seq' ?_
  refine AW.seq' ?_
  refine AW.region ?_
  refine AO.c ?_
  refine AO.nil ?_
  refine SQ.normal ?_
  refine AW.block' ?_
  refine AW.loopU [.k, .f, .f, .k, .F, .f, .f, .f, .f, .f, .f] (fun (i : Nat) => [(3, .v (.int .i64 (i)))]) (fun i => Hn n0 []) (fun m i => i ≤ s.size ∧ i ≤ 32 ∧ m = s.size - i ∧ (s.data.toList.take i).all (· ≠ 0) = true) (s.size) (0) (by first | omega | (simp; done) | (simp; omega)) (by first | rfl | (simp; done)) (by first | rfl | (simp; done)) ?_
  rintro m0 i ⟨hx1, hx2, hx3, hx4⟩
  refine AW.seq' ?_
  refine AW.seq' ?_
  refine AW.region ?_
  refine AO.c ?_
  refine AO.c ?_
  refine AO.c ?_
  refine AO.c ?_
  refine AO.nil ?_
  refine SQ.normal ?_
  refine AW.iteB (GL.ev _) (fun h0 => ?_) (fun h0 => ?_)
  · skip
    try simp only [Bool.and_eq_true, Bool.or_eq_true, Bool.not_eq_true', Bool.and_eq_false_iff, Bool.or_eq_false_iff, decide_eq_true_eq, decide_eq_false_iff_not, bys_length] at h0
    refine AW.skip ?_
    refine SQ.normal ?_
    refine AW.seq' ?_
    refine AW.block' ?_
    refine AW.seq' ?_
    refine AW.region ?_
    refine AO.c ?_
    refine AO.c ?_
    refine AO.c ?_
    refine AO.gx ?_
    refine AO.gx ?_
    refine AO.gxoo ?_
    refine AO.gx ?_
    refine AO.c ?_
    refine AO.nil ?_
    refine SQ.normal ?_
    refine AW.iteB (GL.ev _) (fun h1 => ?_) (fun h1 => ?_)
    · skip
      simp only [Bool.or_eq_true, decide_eq_true_eq] at h1
      refine AW.seq' ?_
      refine AW.region ?_
      refine AO.c ?_
      refine AO.nil ?_
      refine SQ.normal ?_
      refine AW.ret ?_
      refine BQ.ret <| SQ.ret <| AW.out <| LU.ret <| BQ.ret <| SQ.ret ?_
      refine Fin.ret (Gh.refl) noid1 ?_
      have hlt : i < s.data.toList.length := by simp; omega
      have : nameB s = false := by
        unfold nameB
        rcases h1 with h1 | h1
        · have : ¬ s.size ≤ 32 := by omega
          simp [this]
        · have : s.data.toList.all (· ≠ 0) = false := by
            rw [List.all_eq_false]
            refine ⟨s.data.toList[i], List.getElem_mem hlt, ?_⟩
            simp only [List.getD_eq_getElem?_getD, Int.toNat_natCast, List.getElem?_eq_getElem hlt, Option.getD_some] at h1
            have h2 : s.data.toList[i] = 0 := UInt8.toNat_inj.1 (by simpa using h1)
            simp [h2]
          rw [this, Bool.and_false]
      rw [this]; rfl
    · skip
      simp only [Bool.or_eq_false_iff, decide_eq_false_iff_not] at h1
      have e : (s.data.toList.take (i + 1)).all (· ≠ 0) = true := by
        have hlt : i < s.data.toList.length := by simp; omega
        rw [List.take_add_one, List.all_append, hx4]
        have h2 := h1.2
        simp only [List.getD_eq_getElem?_getD, Int.toNat_natCast, List.getElem?_eq_getElem hlt, Option.getD_some] at h2
        simp only [List.getElem?_eq_getElem hlt, Option.toList_some, List.all_cons, List.all_nil, Bool.and_true, Bool.true_and, decide_eq_true_eq]
        intro h3
        rw [h3] at h2
        exact h2 rfl
      refine AW.skip ?_
      refine BQ.normal ?_
      refine SQ.normal ?_
      refine AW.region ?_
      refine AO.c ?_
      refine AO.oo ?_
      refine AO.c ?_
      refine AO.nil ?_
      exact AW.backU [.k, .f, .f, .k, .F, .f, .f, .f, .f, .f, .f] (m0 - 1) (i + 1) (by omega) (by (try dsimp only); exact ⟨by omega, by omega, by omega, e⟩) (by first | rfl | (simp; done)) (by first | rfl | (simp; done))
  · skip
    try simp only [Bool.and_eq_true, Bool.or_eq_true, Bool.not_eq_true', Bool.and_eq_false_iff, Bool.or_eq_false_iff, decide_eq_true_eq, decide_eq_false_iff_not, bys_length] at h0
    refine AW.exit ?_
    refine SQ.exit <| AW.out <| LU.exit <| BQ.exit ?_
    refine SQ.normal ?_
    refine AW.seq' ?_
    refine AW.region ?_
    refine AO.c ?_
    refine AO.nil ?_
    refine SQ.normal ?_
    refine AW.ret ?_
    refine Fin.ret (Gh.refl) noid1 ?_
    have : nameB s = true := by
      unfold nameB
      rw [List.take_of_length_le (by simp; omega)] at hx4
      rw [hx4, decide_eq_true (by omega)]; rfl
    rw [this]; rfl
theorem ref_Has (s : SecD) (k : Int) (hs : s.ok) (hk : 0 < k) : A0 Try.prog 29 [.agg (secA s), .v (.int .i64 (k))] (fun ret => ret = .v (.bool (hasF s.flags k))) := by
  have hf := hs.2.2.1
  unfold I64 at hf
  refine A0.body 16 Try.func29 rfl rfl Try.ntmps29 fun base n0 => ?_
  refine AW.seq' ?_
  refine AW.region ?_
  refine AO.ww ?_
  refine AO.c ?_
  refine AO.nil ?_
  refine SQ.normal ?_
  refine AW.seq' ?_
  refine AW.region ?_
  refine AO.c ?_
  refine AO.c ?_
  refine AO.c ?_
  refine AO.c ?_
  refine AO.gx ?_
  refine AO.gx ?_
  refine AO.gx ?_
  refine AO.gxo (fun h => ?_) ?_
  · have h0 : 0 ≤ s.flags := by simpa using h
    exact ⟨h0, hk, by have := Int.ediv_le_self k h0; omega, by omega⟩
  refine AO.gxo (fun h => ?_) ?_
  · have h0 : 0 ≤ s.flags := by simpa using h
    exact ⟨Int.ediv_nonneg h0 (by omega), by omega⟩
  refine AO.gx ?_
  refine AO.c ?_
  refine AO.c ?_
  refine AO.nil ?_
  refine SQ.normal ?_
  refine AW.ret ?_
  refine Fin.ret (Gh.refl) noid1 ?_
  rfl
theorem ref_flags (n : Int) (hn : I64 n) : A0 Try.prog 154 [.v (.int .i64 (n))] (fun ret => ret = .v (.bool (flagsB n))) := by
  refine A0.body 32 Try.func154 rfl rfl Try.ntmps154 fun base n0 => ?_
  refine AW.seq' ?_
  refine AW.region ?_
  refine AO.c ?_
  refine AO.nil ?_
  refine SQ.normal ?_
  refine AW.seq' ?_
  refine AW.region ?_
  refine AO.rr ?_
  refine AO.eq 5 (av' := .rd 1 (flagL.map iA)) rfl ?_
  refine AO.c ?_
  refine AO.nil ?_
  refine SQ.normal ?_
  refine AW.seq' ?_
  refine AW.seq' ?_
  refine AW.region ?_
  refine AO.c ?_
  refine AO.nil ?_
  refine SQ.normal ?_
  refine AW.block' ?_
  refine AW.loopU [.k, .f, .f, .k, .k, .F, .F, .F, .f, .f, .f] (fun (i : Nat) => [(0, .v (.int .i64 ((flagL.take i).foldl flagStep n))), (4, .v (.int .i64 (i)))]) (fun i => Hn n0 []) (fun m i => i ≤ 8 ∧ m = 8 - i) (8) (0) (by decide) (by first | rfl | (simp; done)) (by first | rfl | (simp; done)) ?_
  rintro m0 i ⟨hx1, hx2⟩
  have hr := flag_range n hn i
  unfold I64 at hr
  have hl8 : flagL.length = 8 := rfl
  refine AW.seq' ?_
  refine AW.seq' ?_
  refine AW.region ?_
  refine AO.c ?_
  refine AO.c ?_
  refine AO.c ?_
  refine AO.c ?_
  refine AO.nil ?_
  refine SQ.normal ?_
  refine AW.iteB (GL.ev _) (fun h0 => ?_) (fun h0 => ?_)
  · skip
    rw [decide_eq_true_eq, hl8] at h0
    have hp := flag_pos i (by omega)
    have e0 : flagL.getD i default = flagL.getD i 0 := rfl
    have e := foldl_take_succ flagStep n flagL i (by omega)
    rw [e0] at e
    refine AW.skip ?_
    refine SQ.normal ?_
    refine AW.seq' ?_
    refine AW.block' ?_
    refine AW.seq' ?_
    refine AW.region ?_
    refine AO.c ?_
    refine AO.c ?_
    refine AO.c ?_
    refine AO.gx ?_
    refine AO.gx ?_
    refine AO.gx ?_
    refine AO.gxoo ?_
    refine AO.gx ?_
    refine AO.gxo (fun h => ?_) ?_
    · have h0 : 0 ≤ (flagL.take i).foldl flagStep n := by simpa using h
      exact ⟨h0, hp.1, by have := Int.ediv_le_self (flagL.getD i 0) h0; have e : flagL.getD i default = flagL.getD i 0 := rfl; rw [e]; omega, by omega⟩
    refine AO.gxo (fun h => ?_) ?_
    · have h0 : 0 ≤ (flagL.take i).foldl flagStep n := by simpa using h
      exact ⟨Int.ediv_nonneg h0 (Int.le_of_lt hp.1), by omega⟩
    refine AO.gx ?_
    refine AO.c ?_
    refine AO.nil ?_
    refine SQ.normal ?_
    refine AW.iteB (GL.ev _) (fun h1 => ?_) (fun h1 => ?_)
    · skip
      simp only [Bool.and_eq_true, decide_eq_true_eq, e0] at h1
      rw [show flagStep ((flagL.take i).foldl flagStep n) (flagL.getD i 0) = _ from if_pos h1] at e
      have h2 : flagL.getD i 0 ≤ (flagL.take i).foldl flagStep n := by
        rcases Int.lt_or_le ((flagL.take i).foldl flagStep n) (flagL.getD i 0) with h3 | h3
        · have := Int.ediv_eq_zero_of_lt h1.1 h3
          omega
        · exact h3
      refine AW.region ?_
      refine AO.c ?_
      refine AO.c ?_
      refine AO.c ?_
      refine AO.oo ?_
      refine AO.c ?_
      refine AO.o ⟨by omega, by omega⟩ ?_
      refine AO.c ?_
      refine AO.nil ?_
      refine BQ.normal ?_
      refine SQ.normal ?_
      refine AW.region ?_
      refine AO.c ?_
      refine AO.oo ?_
      refine AO.c ?_
      refine AO.nil ?_
      exact AW.backU [.k, .f, .f, .k, .k, .F, .F, .F, .f, .f, .f] (m0 - 1) (i + 1) (by omega) (by first | omega | (simp; done) | (simp; omega)) (by (try dsimp only); rw [e, e0] <;> rfl) (by first | rfl | (simp; done))
    · skip
      have h2 : ¬ (0 ≤ (flagL.take i).foldl flagStep n ∧ (flagL.take i).foldl flagStep n / flagL.getD i 0 % 2 = 1) := by
        intro h
        rw [e0, decide_eq_true h.2, decide_eq_true h.1] at h1
        cases h1
      rw [show flagStep ((flagL.take i).foldl flagStep n) (flagL.getD i 0) = _ from if_neg h2] at e
      refine AW.skip ?_
      refine BQ.normal ?_
      refine SQ.normal ?_
      refine AW.region ?_
      refine AO.c ?_
      refine AO.oo ?_
      refine AO.c ?_
      refine AO.nil ?_
      exact AW.backU [.k, .f, .f, .k, .k, .F, .F, .F, .f, .f, .f] (m0 - 1) (i + 1) (by omega) (by first | omega | (simp; done) | (simp; omega)) (by (try dsimp only); rw [e] <;> rfl) (by first | rfl | (simp; done))
  · skip
    try simp only [Bool.and_eq_true, Bool.or_eq_true, Bool.not_eq_true', Bool.and_eq_false_iff, Bool.or_eq_false_iff, decide_eq_true_eq, decide_eq_false_iff_not, bys_length] at h0
    refine AW.exit ?_
    refine SQ.exit <| AW.out <| LU.exit <| BQ.exit ?_
    refine SQ.normal ?_
    refine AW.seq' ?_
    refine AW.region ?_
    refine AO.c ?_
    refine AO.c ?_
    refine AO.c ?_
    refine AO.nil ?_
    refine SQ.normal ?_
    refine AW.ret ?_
    refine Fin.ret (Gh.refl) noid1 ?_
    rw [List.take_of_length_le (by omega)]; rfl
theorem ref_align (n : Int) (hn : I64 n) : A0 Try.prog 155 [.v (.int .i64 (n))] (fun ret => ret = .v (.bool (alignB n))) := by
  unfold I64 at hn
  refine A0.body 16 Try.func155 rfl rfl Try.ntmps155 fun base n0 => ?_
  refine AW.seq' ?_
  refine AW.region ?_
  refine AO.c ?_
  refine AO.nil ?_
  refine SQ.normal ?_
  refine AW.seq' ?_
  refine AW.region ?_
  refine AO.c ?_
  refine AO.nil ?_
  refine SQ.normal ?_
  refine AW.seq' ?_
  refine AW.block' ?_
  refine AW.loopU [.k, .f, .f, .k, .F, .f, .f, .f, .f] (fun (k : Nat) => [(3, .v (.int .i64 (2 ^ k)))]) (fun k => Hn n0 []) (fun m k => k ≤ 12 ∧ m = 12 - k ∧ ∀ j : Nat, j < k → (2 : Int) ^ j < n) (12) (0) ⟨by decide, by decide, fun j h => by omega⟩ (by first | rfl | (simp; done)) (by first | rfl | (simp; done)) ?_
  rintro m0 k ⟨hx1, hx2, hx3⟩
  have hpw : (1 : Int) ≤ 2 ^ k ∧ (2 : Int) ^ k ≤ 4096 := ⟨(Int.pow_pos (by decide) : (0 : Int) < 2 ^ k), pow2_le hx1⟩
  refine AW.seq' ?_
  refine AW.seq' ?_
  refine AW.region ?_
  refine AO.c ?_
  refine AO.c ?_
  refine AO.c ?_
  refine AO.c ?_
  refine AO.gx ?_
  refine AO.gx ?_
  refine AO.c ?_
  refine AO.nil ?_
  refine SQ.normal ?_
  refine AW.iteB (GL.ev _) (fun h0 => ?_) (fun h0 => ?_)
  · skip
    simp only [Bool.and_eq_true, decide_eq_true_eq] at h0
    have hk12 : k < 12 := by
      rcases Nat.lt_or_ge k 12 with h | h
      · exact h
      · have : k = 12 := by omega
        subst this
        exact absurd h0.2 (by decide)
    refine AW.skip ?_
    refine SQ.normal ?_
    refine AW.block' ?_
    refine AW.region ?_
    refine AO.c ?_
    refine AO.oo ?_
    refine AO.c ?_
    refine AO.nil ?_
    refine BQ.normal ?_
    exact AW.backU [.k, .f, .f, .k, .F, .f, .f, .f, .f] (m0 - 1) (k + 1) (by omega) (by (try dsimp only); exact ⟨by omega, by omega, fun j hj => by rcases Nat.lt_succ_iff_lt_or_eq.1 hj with h | rfl; exact hx3 j h; exact h0.1⟩) (by (try dsimp only); rw [Int.pow_succ, Int.mul_comm] <;> rfl) (by first | rfl | (simp; done))
  · skip
    simp only [Bool.and_eq_false_iff, decide_eq_false_iff_not] at h0
    refine AW.exit ?_
    refine SQ.exit <| AW.out <| LU.exit <| BQ.exit ?_
    refine SQ.normal ?_
    refine AW.seq' ?_
    refine AW.region ?_
    refine AO.c ?_
    refine AO.c ?_
    refine AO.c ?_
    refine AO.c ?_
    refine AO.nil ?_
    refine SQ.normal ?_
    refine AW.ret ?_
    refine Fin.ret (Gh.refl) noid1 ?_
    rw [← align_end hx1 hx3 (by omega)]; rfl

end Go.Proofs.Ytlapfdfbgckfcaa.AL
