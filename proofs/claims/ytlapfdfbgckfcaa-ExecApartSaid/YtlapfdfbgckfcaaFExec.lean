/- What functions of the program compute, each by its own contract; the conditions stand with each. -/
import Derived.Test.YtlapfdfbgckfcaaFExecP
import Derived.Test.YtlapfdfbgckfcaaFShape4
namespace Go.Proofs.Ytlapfdfbgckfcaa.AL
open Go Go.RowKit Go.Proofs.Ytlapfdfbgckfcaa.Base
set_option linter.unusedVariables false
set_option linter.unusedSimpArgs false
set_option maxRecDepth 4000
set_option synthInstance.maxSize 1000
set_option synthInstance.maxHeartbeats 200000

theorem get_lgN (b : List Int) (a w : Int) (hB : Bytes b) (hb : b.length ≤ 9223372036854775807) (ha : -9223372036854775808 ≤ a ∧ a ≤ 9223372036854775807) (hw : -9223372036854775808 ≤ w ∧ w ≤ 9223372036854775807) : A0 Try.prog 33 [.rd 1 (bys b), .v (.int .i64 a), .v (.int .i64 w)] (fun r => r = .tup [.v (.int .u64 (lgN b a w)), .v (.bool (decide (HasB b a w)))]) := le_Get b a w hB hb ha hw
theorem get_numAt (b : List Int) (a w : Int) (hB : Bytes b) (hb : b.length ≤ 1000000000000) (hh : HasB b a w) : A0 Try.prog 33 [.rd 1 (bys b), .v (.int .i64 a), .v (.int .i64 w)] (fun r => r = .tup [.v (.int .u64 (numAt b a w)), .v (.bool true)]) := by
  have h := get_lgN b a w hB (by omega) (by unfold HasB Wide at hh; omega) (by unfold HasB Wide at hh; omega)
  rw [show lgN b a w = numAt b a w from if_pos hh, decide_eq_true hh] at h
  exact h
@[reducible] def tripA (t : Int × Int × Int) : List AV := [.v (.int .i64 t.1), .v (.int .i64 t.2.1), .v (.int .u64 t.2.2)]
theorem fix_at : ∀ t ∈ fixL, (0 ≤ t.1 ∧ t.1 + t.2.1 ≤ 64) ∧ (t.2.1 = 2 ∨ t.2.1 = 4 ∨ t.2.1 = 8) := by decide
def numOk (b : List Int) (a : Int) : Bool := decide (HasB b a 8) && decide (numAt b a 8 ≤ 2147483648)
def numsB (b : List Int) (a : Int) (n : Nat) : Bool := (List.range n).all fun i => numOk b (a + 8 * (i : Int))
def numsL (b : List Int) (a : Int) (n : Nat) : List Int := (List.range n).map fun i : Nat => numAt b (a + 8 * (i : Int)) 8
theorem numsL_len (b : List Int) (a : Int) (n : Nat) : (numsL b a n).length = n := by unfold numsL; simp
theorem numOk_iff {b : List Int} {a : Int} : numOk b a = true ↔ HasB b a 8 ∧ numAt b a 8 ≤ 2147483648 := by unfold numOk; rw [Bool.and_eq_true, decide_eq_true_eq, decide_eq_true_eq]
theorem num_bad {b : List Int} {a : Int} : (!decide (HasB b a 8) || decide (lgN b a 8 > 2147483648)) = !numOk b a := by
  unfold numOk
  by_cases h : HasB b a 8
  · rw [show lgN b a 8 = numAt b a 8 from if_pos h, decide_eq_true h, Bool.not_true, Bool.false_or, Bool.true_and, Bool.eq_iff_iff]
    simp
  · rw [decide_eq_false h]; rfl
theorem numsB_succ {b : List Int} {a : Int} {n : Nat} : numsB b a (n + 1) = (numsB b a n && numOk b (a + 8 * (n : Int))) := by
  unfold numsB; rw [List.range_succ, List.all_append]; simp
theorem nums_false {b : List Int} {a : Int} {n i : Nat} (h : i < n) (hp : numOk b (a + 8 * (i : Int)) = false) : numsB b a n = false := by
  unfold numsB; rw [List.all_eq_false]
  exact ⟨i, List.mem_range.2 h, by rw [hp]; simp⟩
theorem nums_set {b : List Int} {a : Int} {li : List Int} {i : Nat} (h : i < li.length) : (numsL b a i ++ li.drop i).set i (numAt b (a + 8 * (i : Int)) 8) = numsL b a (i + 1) ++ li.drop (i + 1) := by
  rw [List.set_append, if_neg (by rw [numsL_len]; omega), numsL_len, Nat.sub_self, List.drop_eq_getElem_cons h, List.set_cons_zero]
  unfold numsL
  rw [List.range_succ, List.map_append]; simp
theorem magic_step {b : List Int} {i : Nat} (h : b.take i = magicL.take i) (hi : i < 16) (hl : 16 ≤ b.length) (e : b.getD i 0 = magicL.getD i 0) : b.take (i + 1) = magicL.take (i + 1) := by
  have hm : i < magicL.length := hi
  rw [List.take_add_one, List.take_add_one, h]
  rw [List.getD_eq_getElem?_getD, List.getD_eq_getElem?_getD, List.getElem?_eq_getElem (show i < b.length by omega), List.getElem?_eq_getElem hm] at e
  rw [List.getElem?_eq_getElem (show i < b.length by omega), List.getElem?_eq_getElem hm]
  simp only [Option.getD_some] at e
  simp only [Option.toList_some]
  rw [e]
theorem fix_get {i : Nat} (h : i < 11) : fixL.getD i default ∈ fixL := by
  have hl : i < fixL.length := h
  have e : fixL.getD i default = fixL[i] := by simp [hl]
  rw [e]; exact List.getElem_mem hl

set_option maxHeartbeats 1000000 in
theorem exec_fixed (b : List Int) (hB : Bytes b) (hb : b.length ≤ 1000000000000) (h64 : 64 ≤ b.length) : A0 Try.prog 31 [.rd 1 (bys b)] (fun ret => ret = .v (.bool (fixedB b))) := by
  have hm16 : magicL.length = 16 := rfl
  have hf11 : fixL.length = 11 := rfl
  refine A0.body 54 Try.func31 rfl rfl Try.ntmps31 fun base n0 => ?_
  refine AW.seq' ?_
  refine AW.region ?_
  refine AO.c ?_
  refine AO.nil ?_
  refine SQ.normal ?_
  refine AW.seq' ?_
  refine AW.seq' ?_
  refine AW.region ?_
  refine AO.rr ?_
  refine AO.eq 9 (av' := .rd 1 (bys magicL)) rfl ?_
  refine AO.c ?_
  refine AO.c ?_
  refine AO.nil ?_
  refine SQ.normal ?_
  refine AW.block' ?_
  refine AW.loopU [.k, .F, .k, .k, .k, .F, .F, .F, .F, .F, .f, .f] (fun (i : Nat) => [(11, .v (.int .i64 (i)))]) (fun i => Hn n0 []) (fun m i => i ≤ 16 ∧ m = 16 - i ∧ b.take i = magicL.take i) (16) (0) ⟨by omega, by omega, rfl⟩ (by first | rfl | (simp; done)) (by first | rfl | (simp; done)) ?_
  rintro m0 i ⟨hx1, hx2, hx3⟩
  refine AW.seq' ?_
  refine AW.region ?_
  refine AO.c ?_
  refine AO.nil ?_
  refine SQ.normal ?_
  refine AW.seq' ?_
  refine AW.iteB (GL.ev _) (fun h0 => ?_) (fun h0 => ?_)
  · skip
    rw [decide_eq_true_eq] at h0
    have hi : i < 16 := by omega
    refine AW.skip ?_
    refine SQ.normal ?_
    refine AW.seq' ?_
    refine AW.block' ?_
    refine AW.seq' ?_
    refine AW.region ?_
    refine AO.c ?_
    refine AO.oo ?_
    refine AO.c ?_
    refine AO.c ?_
    refine AO.c ?_
    refine AO.nil ?_
    refine SQ.normal ?_
    refine AW.seq' ?_
    refine AW.region ?_
    refine AO.c ?_
    refine AO.c ?_
    refine AO.oo ?_
    refine AO.c ?_
    refine AO.c ?_
    refine AO.c ?_
    refine AO.nil ?_
    refine SQ.normal ?_
    refine AW.iteB (GL.ev _) (fun h1 => ?_) (fun h1 => ?_)
    · skip
      rw [decide_eq_true_eq] at h1
      have e : fixedB b = false := by
        unfold fixedB
        rw [decide_eq_false, Bool.false_and]
        intro h
        apply h1
        have h2 := congrArg (fun l => l.getD i 0) h
        simp only [List.getD_eq_getElem?_getD, List.getElem?_take, if_pos hi] at h2
        simpa [List.getD_eq_getElem?_getD] using h2
      refine AW.seq' ?_
      refine AW.region ?_
      refine AO.c ?_
      refine AO.nil ?_
      refine SQ.normal ?_
      refine AW.ret ?_
      refine BQ.ret <| SQ.ret <| AW.out <| LU.ret <| BQ.ret <| SQ.ret ?_
      refine Fin.ret (Gh.refl) noid1 ?_
      rw [e]; rfl
    · skip
      rw [decide_eq_false_iff_not, Decidable.not_not] at h1
      have e := magic_step hx3 hi (by omega) h1
      refine AW.skip ?_
      refine BQ.normal ?_
      refine SQ.normal ?_
      refine AW.region ?_
      refine AO.oo ?_
      refine AO.c ?_
      refine AO.nil ?_
      exact AW.backU [.k, .F, .k, .k, .k, .F, .F, .F, .F, .F, .f, .f] (m0 - 1) (i + 1) (by omega) (by (try dsimp only); exact ⟨by omega, by omega, e⟩) (by first | rfl | (simp; done)) (by first | rfl | (simp; done))
  · skip
    rw [decide_eq_false_iff_not] at h0
    have hmag : b.take 16 = magicL := by
      rw [show i = 16 by omega] at hx3; exact hx3
    refine AW.exit ?_
    refine SQ.exit <| AW.out <| LU.exit <| BQ.exit ?_
    refine SQ.normal ?_
    refine AW.seq' ?_
    refine AW.seq' ?_
    refine AW.region ?_
    refine AO.c ?_
    refine AO.c ?_
    refine AO.c ?_
    refine AO.c ?_
    refine AO.c ?_
    refine AO.c ?_
    refine AO.c ?_
    refine AO.c ?_
    refine AO.c ?_
    refine AO.c ?_
    refine AO.c ?_
    refine AO.rr ?_
    refine AO.eq 34 (av' := .rd 3 (fixL.map tripA)) rfl ?_
    refine AO.c ?_
    refine AO.c ?_
    refine AO.nil ?_
    refine SQ.normal ?_
    refine AW.block' ?_
    refine AW.loopU2 [.k, .F, .F, .F, .F, .f, .k, .k, .k, .F, .F, .f] (fun (i j : Nat) => [(36, .v (.int .i64 (i)))]) (fun i j => Hn n0 (([] ++ List.replicate j none) ++ [])) (fun m i j => i ≤ 11 ∧ m = 11 - i ∧ (fixL.take i).all (fun t => decide (numAt b t.1 t.2.1 = t.2.2)) = true) (11) (0) (0) ⟨by omega, by omega, rfl⟩ (by first | rfl | (simp; done)) (by first | rfl | (simp; done)) ?_
    rintro m1 i j ⟨hx1, hx2, hx3⟩
    refine AW.seq' ?_
    refine AW.region ?_
    refine AO.c ?_
    refine AO.nil ?_
    refine SQ.normal ?_
    refine AW.seq' ?_
    refine AW.iteB (GL.ev _) (fun h2 => ?_) (fun h2 => ?_)
    · skip
      rw [decide_eq_true_eq] at h2
      have hi : i < 11 := by omega
      have htm := fix_at _ (fix_get hi)
      have hts := all_take_succ (p := fun t : Int × Int × Int => decide (numAt b t.1 t.2.1 = t.2.2)) (show i < fixL.length from hi)
      generalize hte : fixL.getD i default = t at htm hts
      refine AW.skip ?_
      refine SQ.normal ?_
      refine AW.seq' ?_
      refine AW.block' ?_
      refine AW.seq' ?_
      refine AW.region ?_
      refine AO.oo ?_
      refine AO.c ?_
      refine AO.eq 39 (av' := .agg (tripA t)) (by rw [hte]) ?_
      refine AO.ww ?_
      refine AO.sst ?_
      refine AO.nil ?_
      refine SQ.normal ?_
      refine AW.seq' ?_
      refine AW.region ?_
      refine AO.c ?_
      refine AO.c ?_
      refine AO.c ?_
      refine AO.c ?_
      refine AO.c ?_
      refine AO.call1 Try.func33 rfl rfl (get_numAt b t.1 t.2.1 hB hb ⟨by unfold Wide; omega, by omega, by omega⟩) ?_
      refine AO.c ?_
      refine AO.c ?_
      refine AO.c ?_
      refine AO.c ?_
      refine AO.c ?_
      refine AO.nil ?_
      refine SQ.normal ?_
      refine AW.seq' ?_
      refine AW.region ?_
      refine AO.c ?_
      refine AO.c ?_
      refine AO.c ?_
      refine AO.c ?_
      refine AO.nil ?_
      refine SQ.normal ?_
      refine AW.iteB (GL.ev _) (fun h3 => ?_) (fun h3 => ?_)
      · skip
        rw [decide_eq_true_eq] at h3
        have e : fixedB b = false := by
          unfold fixedB
          rw [all_false_at (i := i) (show i < fixL.length from hi) (by rw [hte]; exact decide_eq_false h3), Bool.and_false]
        refine AW.seq' ?_
        refine AW.region ?_
        refine AO.c ?_
        refine AO.nil ?_
        refine SQ.normal ?_
        refine AW.ret ?_
        refine BQ.ret <| SQ.ret <| AW.out <| LU.ret <| BQ.ret <| SQ.ret ?_
        refine Fin.ret (Gh.refl) noid1 ?_
        rw [e]; rfl
      · skip
        rw [decide_eq_false_iff_not, Decidable.not_not] at h3
        have e : (fixL.take (i + 1)).all (fun t => decide (numAt b t.1 t.2.1 = t.2.2)) = true := by
          rw [hts, hx3, decide_eq_true h3]; rfl
        refine AW.skip ?_
        refine BQ.normal ?_
        refine SQ.normal ?_
        refine AW.region ?_
        refine AO.oo ?_
        refine AO.c ?_
        refine AO.nil ?_
        exact AW.backD [.k, .F, .F, .F, .F, .f, .k, .k, .k, .F, .F, .f] ([]) (j) (m1 - 1) (i + 1, j + 1) (by omega) (by (try dsimp only); exact ⟨by omega, by omega, e⟩) (by first | rfl | (simp; done)) (by first | rfl | (simp; done))
    · skip
      rw [decide_eq_false_iff_not] at h2
      have e : fixedB b = true := by
        unfold fixedB
        rw [decide_eq_true hmag, Bool.true_and]
        rw [List.take_of_length_le (by omega)] at hx3; exact hx3
      refine AW.exit ?_
      refine SQ.exit <| AW.out <| LU.exit <| BQ.exit ?_
      refine SQ.normal ?_
      refine AW.seq' ?_
      refine AW.region ?_
      refine AO.c ?_
      refine AO.nil ?_
      refine SQ.normal ?_
      refine AW.ret ?_
      refine Fin.ret (Gh.refl) noid1 ?_
      rw [e]; rfl
set_option maxHeartbeats 1000000 in
theorem exec_numbersR (b : List Int) (a : Int) (li : List Int) (hB : Bytes b) (hb : b.length ≤ 1000000000000) (ha : 0 ≤ a ∧ a ≤ 100000) (hl : li.length ≤ 6) (n k ep : Nat) (L : List (Option AB)) (L' : List Int → List (Option AB)) [gb : GB L k (.row 3 1 ep (List.map iA li))] [sb : ∀ q : List Int, SB L k (some (.row 3 1 ep (List.map iA q))) (L' q)] :
    AC Try.prog 32 (Hn n L) [.rd 1 (bys b), .v (.int .i64 a), .own (n + k) ep 0 li.length] (fun r H' => ∃ q : List Int, r = .v (.bool (numsB b a li.length)) ∧ H' = Hn n (L' q) ∧ (numsB b a li.length = true → q = numsL b a li.length)) := by
  have gbq : ∀ q : List Int, GB (L' q) k (.row 3 1 ep (List.map iA q)) := fun q => ⟨by rw [← (sb q).h, List.getElem?_set_self (List.getElem?_eq_some_iff.1 gb.h).1]⟩
  have sbq : ∀ q q' : List Int, SB (L' q) k (some (.row 3 1 ep (List.map iA q'))) (L' q') := fun q q' => ⟨by rw [← (sb q).h, ← (sb q').h, List.set_set]⟩
  have hL0 : L = L' li := by
    rw [← (sb li).h]
    have h2 := List.getElem?_eq_some_iff.1 gb.h
    obtain ⟨h3, h4⟩ := h2
    rw [← h4]; exact (List.set_getElem_self h3).symm
  refine AC.body 36 Try.func32 rfl rfl Try.ntmps32 fun base => ?_
  refine AW.seq' ?_
  refine AW.region ?_
  refine AO.c ?_
  refine AO.nil ?_
  refine SQ.normal ?_
  refine AW.seq' ?_
  refine AW.seq' ?_
  refine AW.region ?_
  refine AO.c ?_
  refine AO.c ?_
  refine AO.c ?_
  refine AO.nil ?_
  refine SQ.normal ?_
  refine AW.block' ?_
  refine AW.loopU [.k, .k, .k, .F, .k, .k, .F, .F, .f, .f, .f, .f, .f, .f, .f] (fun (i : Nat) => [(12, .v (.int .i64 (i)))]) (fun i => Hn n (L' (numsL b a i ++ li.drop i))) (fun m i => i ≤ li.length ∧ m = li.length - i ∧ numsB b a i = true) (li.length) (0) ⟨by omega, by omega, rfl⟩ (by first | rfl | (simp; done)) (by rw [hL0]; rfl) ?_
  rintro m0 i ⟨hx1, hx2, hx3⟩
  refine AW.seq' ?_
  refine AW.region ?_
  refine AO.c ?_
  refine AO.nil ?_
  refine SQ.normal ?_
  refine AW.seq' ?_
  refine AW.iteB (GL.ev _) (fun h0 => ?_) (fun h0 => ?_)
  · skip
    rw [decide_eq_true_eq] at h0
    have hi : i < li.length := by omega
    have hr := lgN_range hB (a + 8 * (i : Int)) 8
    have hql : (numsL b a i ++ li.drop i).length = li.length := by rw [List.length_append, numsL_len, List.length_drop]; omega
    refine AW.skip ?_
    refine SQ.normal ?_
    refine AW.seq' ?_
    refine AW.block' ?_
    refine AW.seq' ?_
    refine AW.region ?_
    refine AO.c ?_
    refine AO.c ?_
    refine AO.nil ?_
    refine SQ.normal ?_
    refine AW.seq' ?_
    refine AW.region ?_
    refine AO.c ?_
    refine AO.c ?_
    refine AO.c ?_
    refine AO.oo ?_
    refine AO.oo ?_
    refine AO.call1 Try.func33 rfl rfl (get_lgN b (a + 8 * (i : Int)) 8 hB (by omega) (by omega) (by decide)) ?_
    refine AO.c ?_
    refine AO.c ?_
    refine AO.c ?_
    refine AO.c ?_
    refine AO.c ?_
    refine AO.nil ?_
    refine SQ.normal ?_
    refine AW.seq' ?_
    refine AW.seq' ?_
    refine AW.region ?_
    refine AO.c ?_
    refine AO.c ?_
    refine AO.c ?_
    refine AO.gx ?_
    refine AO.gx ?_
    refine AO.c ?_
    refine AO.nil ?_
    refine SQ.normal ?_
    refine AW.iteB (GL.ev _) (fun h1 => ?_) (fun h1 => ?_)
    · skip
      rw [num_bad] at h1
      have e : numsB b a li.length = false := nums_false hi (by simpa using h1)
      refine AW.seq' ?_
      refine AW.region ?_
      refine AO.c ?_
      refine AO.nil ?_
      refine SQ.normal ?_
      refine AW.ret ?_
      refine SQ.ret <| BQ.ret <| SQ.ret <| AW.out <| LU.ret <| BQ.ret <| SQ.ret ?_
      exact FinC.ret Gh.refl ⟨_, by rw [e]; rfl, rfl, fun h => by rw [e] at h; cases h⟩ (.inr rfl)
    · skip
      rw [num_bad] at h1
      have h2 : numOk b (a + 8 * (i : Int)) = true := by simpa using h1
      have e : numsB b a (i + 1) = true := by rw [numsB_succ, hx3, h2]; rfl
      have hyes := (numOk_iff.1 h2).1
      have e8 : lgN b (a + 8 * (i : Int)) 8 = numAt b (a + 8 * (i : Int)) 8 := if_pos hyes
      have h8 := (numOk_iff.1 h2).2
      have h80 := (numAt_range hB (a + 8 * (i : Int)) 8).1
      refine AW.skip ?_
      refine SQ.normal ?_
      refine AW.region ?_
      refine AO.c ?_
      refine AO.c ?_
      refine AO.c ?_
      refine AO.pw ?_
      refine AO.eq 33 (av' := .v (.int .i64 (numAt b (a + 8 * (i : Int)) 8))) (by rw [e8, wi64_eq, w64 (by omega) (by omega)]) ?_
      refine AO.oo ?_
      refine AO.sst ?_
      refine AO.nil ?_
      refine BQ.normal ?_
      refine SQ.normal ?_
      refine AW.region ?_
      refine AO.oo ?_
      refine AO.c ?_
      refine AO.nil ?_
      exact AW.backU [.k, .k, .k, .F, .k, .k, .F, .F, .f, .f, .f, .f, .f, .f, .f] (m0 - 1) (i + 1) (by omega) (by (try dsimp only); exact ⟨by omega, by omega, e⟩) (by first | rfl | (simp; done)) (by rw [show (0 + (Int.toNat ((i : Nat) : Int))) = i by omega, nums_set hi])
  · skip
    rw [decide_eq_false_iff_not] at h0
    have hi : i = li.length := by omega
    subst hi
    refine AW.exit ?_
    refine SQ.exit <| AW.out <| LU.exit <| BQ.exit ?_
    refine SQ.normal ?_
    refine AW.seq' ?_
    refine AW.region ?_
    refine AO.c ?_
    refine AO.nil ?_
    refine SQ.normal ?_
    refine AW.ret ?_
    exact FinC.ret Gh.refl ⟨_, by rw [hx3]; rfl, rfl, fun _ => by simp⟩ (.inr rfl)
set_option maxHeartbeats 1000000 in
theorem exec_numbersA (b : List Int) (a : Int) (li : List Int) (hB : Bytes b) (hb : b.length ≤ 1000000000000) (ha : 0 ≤ a ∧ a ≤ 100000) (hl : li.length ≤ 6) (n k : Nat) (L : List (Option AB)) (L' : List Int → List (Option AB)) [gb : GB L k (.box 154 (List.map iV li))] [sb : ∀ q : List Int, SB L k (some (.box 154 (List.map iV q))) (L' q)] :
    AC Try.prog 32 (Hn n L) [.rd 1 (bys b), .v (.int .i64 a), .bsl (n + k) 0 li.length] (fun r H' => ∃ q : List Int, r = .v (.bool (numsB b a li.length)) ∧ H' = Hn n (L' q) ∧ (numsB b a li.length = true → q = numsL b a li.length)) := by
  have gbq : ∀ q : List Int, GB (L' q) k (.box 154 (List.map iV q)) := fun q => ⟨by rw [← (sb q).h, List.getElem?_set_self (List.getElem?_eq_some_iff.1 gb.h).1]⟩
  have sbq : ∀ q q' : List Int, SB (L' q) k (some (.box 154 (List.map iV q'))) (L' q') := fun q q' => ⟨by rw [← (sb q).h, ← (sb q').h, List.set_set]⟩
  have hL0 : L = L' li := by
    rw [← (sb li).h]
    have h2 := List.getElem?_eq_some_iff.1 gb.h
    obtain ⟨h3, h4⟩ := h2
    rw [← h4]; exact (List.set_getElem_self h3).symm
  refine AC.body 36 Try.func32 rfl rfl Try.ntmps32 fun base => ?_
  refine AW.seq' ?_
  refine AW.region ?_
  refine AO.c ?_
  refine AO.nil ?_
  refine SQ.normal ?_
  refine AW.seq' ?_
  refine AW.seq' ?_
  refine AW.region ?_
  refine AO.c ?_
  refine AO.c ?_
  refine AO.c ?_
  refine AO.nil ?_
  refine SQ.normal ?_
  refine AW.block' ?_
  refine AW.loopU [.k, .k, .k, .F, .k, .k, .F, .F, .f, .f, .f, .f, .f, .f, .f] (fun (i : Nat) => [(12, .v (.int .i64 (i)))]) (fun i => Hn n (L' (numsL b a i ++ li.drop i))) (fun m i => i ≤ li.length ∧ m = li.length - i ∧ numsB b a i = true) (li.length) (0) ⟨by omega, by omega, rfl⟩ (by first | rfl | (simp; done)) (by rw [hL0]; rfl) ?_
  rintro m0 i ⟨hx1, hx2, hx3⟩
  refine AW.seq' ?_
  refine AW.region ?_
  refine AO.c ?_
  refine AO.nil ?_
  refine SQ.normal ?_
  refine AW.seq' ?_
  refine AW.iteB (GL.ev _) (fun h0 => ?_) (fun h0 => ?_)
  · skip
    rw [decide_eq_true_eq] at h0
    have hi : i < li.length := by omega
    have hr := lgN_range hB (a + 8 * (i : Int)) 8
    have hql : (numsL b a i ++ li.drop i).length = li.length := by rw [List.length_append, numsL_len, List.length_drop]; omega
    refine AW.skip ?_
    refine SQ.normal ?_
    refine AW.seq' ?_
    refine AW.block' ?_
    refine AW.seq' ?_
    refine AW.region ?_
    refine AO.c ?_
    refine AO.c ?_
    refine AO.nil ?_
    refine SQ.normal ?_
    refine AW.seq' ?_
    refine AW.region ?_
    refine AO.c ?_
    refine AO.c ?_
    refine AO.c ?_
    refine AO.oo ?_
    refine AO.oo ?_
    refine AO.call1 Try.func33 rfl rfl (get_lgN b (a + 8 * (i : Int)) 8 hB (by omega) (by omega) (by decide)) ?_
    refine AO.c ?_
    refine AO.c ?_
    refine AO.c ?_
    refine AO.c ?_
    refine AO.c ?_
    refine AO.nil ?_
    refine SQ.normal ?_
    refine AW.seq' ?_
    refine AW.seq' ?_
    refine AW.region ?_
    refine AO.c ?_
    refine AO.c ?_
    refine AO.c ?_
    refine AO.gx ?_
    refine AO.gx ?_
    refine AO.c ?_
    refine AO.nil ?_
    refine SQ.normal ?_
    refine AW.iteB (GL.ev _) (fun h1 => ?_) (fun h1 => ?_)
    · skip
      rw [num_bad] at h1
      have e : numsB b a li.length = false := nums_false hi (by simpa using h1)
      refine AW.seq' ?_
      refine AW.region ?_
      refine AO.c ?_
      refine AO.nil ?_
      refine SQ.normal ?_
      refine AW.ret ?_
      refine SQ.ret <| BQ.ret <| SQ.ret <| AW.out <| LU.ret <| BQ.ret <| SQ.ret ?_
      exact FinC.ret Gh.refl ⟨_, by rw [e]; rfl, rfl, fun h => by rw [e] at h; cases h⟩ (.inr rfl)
    · skip
      rw [num_bad] at h1
      have h2 : numOk b (a + 8 * (i : Int)) = true := by simpa using h1
      have e : numsB b a (i + 1) = true := by rw [numsB_succ, hx3, h2]; rfl
      have hyes := (numOk_iff.1 h2).1
      have e8 : lgN b (a + 8 * (i : Int)) 8 = numAt b (a + 8 * (i : Int)) 8 := if_pos hyes
      have h8 := (numOk_iff.1 h2).2
      have h80 := (numAt_range hB (a + 8 * (i : Int)) 8).1
      refine AW.skip ?_
      refine SQ.normal ?_
      refine AW.region ?_
      refine AO.c ?_
      refine AO.c ?_
      refine AO.c ?_
      refine AO.pw ?_
      refine AO.eq 33 (av' := .v (.int .i64 (numAt b (a + 8 * (i : Int)) 8))) (by rw [e8, wi64_eq, w64 (by omega) (by omega)]) ?_
      refine AO.oo ?_
      refine AO.sst ?_
      refine AO.nil ?_
      refine BQ.normal ?_
      refine SQ.normal ?_
      refine AW.region ?_
      refine AO.oo ?_
      refine AO.c ?_
      refine AO.nil ?_
      exact AW.backU [.k, .k, .k, .F, .k, .k, .F, .F, .f, .f, .f, .f, .f, .f, .f] (m0 - 1) (i + 1) (by omega) (by (try dsimp only); exact ⟨by omega, by omega, e⟩) (by first | rfl | (simp; done)) (by rw [show (0 + (Int.toNat ((i : Nat) : Int))) = i by omega, nums_set hi])
  · skip
    rw [decide_eq_false_iff_not] at h0
    have hi : i = li.length := by omega
    subst hi
    refine AW.exit ?_
    refine SQ.exit <| AW.out <| LU.exit <| BQ.exit ?_
    refine SQ.normal ?_
    refine AW.seq' ?_
    refine AW.region ?_
    refine AO.c ?_
    refine AO.nil ?_
    refine SQ.normal ?_
    refine AW.ret ?_
    exact FinC.ret Gh.refl ⟨_, by rw [hx3]; rfl, rfl, fun _ => by simp⟩ (.inr rfl)

end Go.Proofs.Ytlapfdfbgckfcaa.AL
