/- A part of the proof: rules of an own logic over blocks, and what functions of the program compute, each by its own contract; the conditions stand with each. -/
import Derived.Test.YtkbbcenjklaglaaGreatCe
import Derived.Test.YtkbbcenjklaglaaGreatCd
namespace Go.Proofs.YtkbbcenjklaglaaGreat.AL
open Go Go.RowKit Go.Proofs.YtkbbcenjklaglaaGreat.Base
set_option linter.unusedVariables false
set_option linter.unusedSimpArgs false
set_option maxRecDepth 4000
set_option synthInstance.maxSize 1000
set_option synthInstance.maxHeartbeats 200000
def nameB (s : ByteArray) : Bool := decide (s.size ≤ 32) && s.data.toList.all (· ≠ 0)
def hasF (f k : Int) : Bool := decide (0 ≤ f) && decide (f / k % 2 = 1)
def flagL : List Int := [1, 2, 4, 16, 32, 128, 512, 2097152]
def flagStep (n x : Int) : Int := if 0 ≤ n ∧ n / x % 2 = 1 then n - x else n
def flagsB (n : Int) : Bool := decide (flagL.foldl flagStep n = 0)
theorem flag_pos (i : Nat) (h : i < flagL.length) : 0 < flagL.getD i 0 ∧ flagL.getD i 0 ≤ 2097152 := by
 have : i < 8 := h;have : i = 0 ∨ i = 1 ∨ i = 2 ∨ i = 3 ∨ i = 4 ∨ i = 5 ∨ i = 6 ∨ i = 7 := by omega
 rcases this with rfl | rfl | rfl | rfl | rfl | rfl | rfl | rfl <;> decide
theorem foldl_take_succ {α β : Type} [Inhabited β] (f : α → β → α) (a : α) (l : List β) (i : Nat) (h : i < l.length) : (l.take (i + 1)).foldl f a = f ((l.take i).foldl f a) (l.getD i default) := by
 rw [List.take_add_one, List.foldl_append];simp [h]
theorem flag_range (n : Int) (hn : I64 n) : ∀ i : Nat, I64 ((flagL.take i).foldl flagStep n) := by
 intro i
 induction i with
 | zero => simpa using hn
 | succ i ih =>
  by_cases h : i < flagL.length
  · rw [foldl_take_succ _ _ _ _ h]
    have := flag_pos i h;have e : flagL.getD i default = flagL.getD i 0 := rfl;rw [e];unfold flagStep I64 at *
    split
    · rename_i hh
      have h2 : flagL.getD i 0 ≤ (flagL.take i).foldl flagStep n := by
       rcases Int.lt_or_le ((flagL.take i).foldl flagStep n) (flagL.getD i 0) with h3 | h3
       · have := Int.ediv_eq_zero_of_lt hh.1 h3
         omega
       · exact h3
      unfold flagStep at h2;omega
    · exact ih
  · rw [List.take_of_length_le (by omega)] at ih ⊢
    exact ih
theorem pow2_le {k : Nat} (h : k ≤ 12) : (2 : Int) ^ k ≤ 4096 := by
 have h : k = 0 ∨ k = 1 ∨ k = 2 ∨ k = 3 ∨ k = 4 ∨ k = 5 ∨ k = 6 ∨ k = 7 ∨ k = 8 ∨ k = 9 ∨ k = 10 ∨ k = 11 ∨ k = 12 := by omega
 rcases h with rfl | rfl | rfl | rfl | rfl | rfl | rfl | rfl | rfl | rfl | rfl | rfl | rfl <;> decide
def powL : List Int := [1, 2, 4, 8, 16, 32, 64, 128, 256, 512, 1024, 2048, 4096]
def alignB (n : Int) : Bool := powL.contains n
theorem align_end {n : Int} {k : Nat} (hk : k ≤ 12) (hb : ∀ j : Nat, j < k → (2 : Int) ^ j < n) (he : ¬ ((2 : Int) ^ k < n ∧ (2 : Int) ^ k < 4096)) : decide ((2 : Int) ^ k = n) = alignB n := by
 have h : k = 0 ∨ k = 1 ∨ k = 2 ∨ k = 3 ∨ k = 4 ∨ k = 5 ∨ k = 6 ∨ k = 7 ∨ k = 8 ∨ k = 9 ∨ k = 10 ∨ k = 11 ∨ k = 12 := by omega
 have hb' := hb (k - 1);rw [Bool.eq_iff_iff];unfold alignB powL;rcases h with rfl | rfl | rfl | rfl | rfl | rfl | rfl | rfl | rfl | rfl | rfl | rfl | rfl <;> simp at hb' he ⊢ <;> omega
theorem ref_Name (s : ByteArray) (hs : s.size ≤ maxLen) : A0 Tryz.prog 94 [.v (.string s)] (fun ret => ret = .v (.bool (nameB s))) := by
 rw [maxLen_eq] at hs;refine A0.body 18 Tryz.func94 rfl rfl Tryz.ntmps94 fun base n0 => ?_
 refine go ?_;refine AW.loopU [.k, .f, .f, .k, .F, .f, .f, .f, .f, .f, .f] (fun (i : Nat) => [(3, .v (.int .i64 (i)))]) (fun i => Hn n0 []) (fun m i => i ≤ s.size ∧ i ≤ 32 ∧ m = s.size - i ∧ (s.data.toList.take i).all (· ≠ 0) = true) (s.size) (0) co cr cr ?_;rintro m0 i ⟨hx1, hx2, hx3, hx4⟩
 refine go ?_;refine AW.iteB (GL.ev _) (fun h0 => ?_) (fun h0 => ?_)
 ·
  try simp only [Bool.and_eq_true, Bool.or_eq_true, Bool.not_eq_true', Bool.and_eq_false_iff, Bool.or_eq_false_iff, decide_eq_true_eq, decide_eq_false_iff_not, bys_length] at h0
  refine go ?_;refine AW.iteB (GL.ev _) (fun h1 => ?_) (fun h1 => ?_)
  ·
   simp only [Bool.or_eq_true, decide_eq_true_eq] at h1;refine go ?_;refine AW.ret <|BQ.ret <|SQ.ret <|AW.out <|LU.ret <|BQ.ret <|SQ.ret ?_;refine Fin.ret (Gh.refl) noid1 ?_;have hlt : i < s.data.toList.length := by simp; omega
   have : nameB s = false := by
    unfold nameB;rcases h1 with h1 | h1
    · have : ¬ s.size ≤ 32 := by omega
      simp [this]
    · have : s.data.toList.all (· ≠ 0) = false := by
       rw [List.all_eq_false];refine ⟨s.data.toList[i], List.getElem_mem hlt, ?_⟩;simp only [List.getD_eq_getElem?_getD, Int.toNat_natCast, List.getElem?_eq_getElem hlt, Option.getD_some] at h1;have h2 : s.data.toList[i] = 0 := UInt8.toNat_inj.1 (by simpa using h1);simp [h2]
      rw [this, Bool.and_false]
   rw [this]; rfl
  ·
   simp only [Bool.or_eq_false_iff, decide_eq_false_iff_not] at h1;have e : (s.data.toList.take (i + 1)).all (· ≠ 0) = true := by
    have hlt : i < s.data.toList.length := by simp; omega
    rw [List.take_add_one, List.all_append, hx4];have h2 := h1.2;simp only [List.getD_eq_getElem?_getD, Int.toNat_natCast, List.getElem?_eq_getElem hlt, Option.getD_some] at h2;simp only [List.getElem?_eq_getElem hlt, Option.toList_some, List.all_cons, List.all_nil, Bool.and_true, Bool.true_and, decide_eq_true_eq];intro h3;rw [h3] at h2;exact h2 rfl
   refine AW.skip <|BQ.normal ?_;refine go ?_;exact AW.backU [.k, .f, .f, .k, .F, .f, .f, .f, .f, .f, .f] (m0 - 1) (i + 1) (by omega) (by (try dsimp only); exact ⟨by omega, by omega, by omega, e⟩) cr cr
 ·
  try simp only [Bool.and_eq_true, Bool.or_eq_true, Bool.not_eq_true', Bool.and_eq_false_iff, Bool.or_eq_false_iff, decide_eq_true_eq, decide_eq_false_iff_not, bys_length] at h0
  refine AW.exit <|SQ.exit <|AW.out <|LU.exit <|BQ.exit ?_;refine go ?_;refine AW.ret ?_;refine Fin.ret (Gh.refl) noid1 ?_;have : nameB s = true := by
   unfold nameB;rw [List.take_of_length_le (by simp; omega)] at hx4;rw [hx4, decide_eq_true (by omega)]; rfl
  rw [this]; rfl
theorem ref_Has (s : SecD) (k : Int) (hs : s.ok) (hk : 0 < k) : A0 Tryz.prog 19 [.agg (secA s), .v (.int .i64 (k))] (fun ret => ret = .v (.bool (hasF s.flags k))) := by
 have hf := hs.2.2.1;unfold I64 at hf;refine A0.body 16 Tryz.func19 rfl rfl Tryz.ntmps19 fun base n0 => ?_
 refine gs ?_;refine AO.ww ?_;refine AO.c ?_;refine gs ?_;iterate 4 refine AO.c ?_
 iterate 3 refine AO.gx ?_
 refine AO.gxo (fun h => ?_) ?_
 · have h0 : 0 ≤ s.flags := by simpa using h
   exact ⟨h0, hk, by have := Int.ediv_le_self k h0; omega, by omega⟩
 refine AO.gxo (fun h => ?_) ?_
 · have h0 : 0 ≤ s.flags := by simpa using h
   exact ⟨Int.ediv_nonneg h0 (by omega), by omega⟩
 refine go ?_;refine AW.ret ?_;refine Fin.ret (Gh.refl) noid1 ?_;rfl
theorem ref_flags (n : Int) (hn : I64 n) : A0 Tryz.prog 113 [.v (.int .i64 (n))] (fun ret => ret = .v (.bool (flagsB n))) := by
 refine A0.body 32 Tryz.func113 rfl rfl Tryz.ntmps113 fun base n0 => ?_
 refine gr ?_;refine AO.rr ?_;refine AO.eq 5 (av' := .rd 1 (flagL.map iA)) rfl ?_;refine go ?_;refine AW.loopU [.k, .f, .f, .k, .k, .F, .F, .F, .f, .f, .f] (fun (i : Nat) => [(0, .v (.int .i64 ((flagL.take i).foldl flagStep n))), (4, .v (.int .i64 (i)))]) (fun i => Hn n0 []) (fun m i => i ≤ 8 ∧ m = 8 - i) (8) (0) (by decide) cr cr ?_;rintro m0 i ⟨hx1, hx2⟩
 have hr := flag_range n hn i;unfold I64 at hr;have hl8 : flagL.length = 8 := rfl;refine go ?_;refine AW.iteB (GL.ev _) (fun h0 => ?_) (fun h0 => ?_)
 ·
  rw [decide_eq_true_eq, hl8] at h0;have hp := flag_pos i (by omega);have e0 : flagL.getD i default = flagL.getD i 0 := rfl;have e := foldl_take_succ flagStep n flagL i (by omega);rw [e0] at e;refine gs ?_;iterate 3 refine AO.c ?_
  iterate 3 refine AO.gx ?_
  refine AO.gxoo ?_;refine AO.gx ?_;refine AO.gxo (fun h => ?_) ?_
  · have h0 : 0 ≤ (flagL.take i).foldl flagStep n := by simpa using h
    exact ⟨h0, hp.1, by have := Int.ediv_le_self (flagL.getD i 0) h0; have e : flagL.getD i default = flagL.getD i 0 := rfl; rw [e]; omega, by omega⟩
  refine AO.gxo (fun h => ?_) ?_
  · have h0 : 0 ≤ (flagL.take i).foldl flagStep n := by simpa using h
    exact ⟨Int.ediv_nonneg h0 (Int.le_of_lt hp.1), by omega⟩
  refine go ?_;refine AW.iteB (GL.ev _) (fun h1 => ?_) (fun h1 => ?_)
  ·
   simp only [Bool.and_eq_true, decide_eq_true_eq, e0] at h1;rw [show flagStep ((flagL.take i).foldl flagStep n) (flagL.getD i 0) = _ from if_pos h1] at e;have h2 : flagL.getD i 0 ≤ (flagL.take i).foldl flagStep n := by
    rcases Int.lt_or_le ((flagL.take i).foldl flagStep n) (flagL.getD i 0) with h3 | h3
    · have := Int.ediv_eq_zero_of_lt h1.1 h3
      omega
    · exact h3
   refine AW.region ?_;iterate 3 refine AO.c ?_
   refine AO.oo ?_;refine AO.c ?_;refine AO.o ⟨by omega, by omega⟩ ?_;refine go ?_;refine BQ.normal ?_;refine go ?_;exact AW.backU [.k, .f, .f, .k, .k, .F, .F, .F, .f, .f, .f] (m0 - 1) (i + 1) (by omega) co (by (try dsimp only); rw [e, e0] <;> rfl) cr
  ·
   have h2 : ¬ (0 ≤ (flagL.take i).foldl flagStep n ∧ (flagL.take i).foldl flagStep n / flagL.getD i 0 % 2 = 1) := by
    intro h;rw [e0, decide_eq_true h.2, decide_eq_true h.1] at h1;cases h1
   rw [show flagStep ((flagL.take i).foldl flagStep n) (flagL.getD i 0) = _ from if_neg h2] at e;refine AW.skip <|BQ.normal ?_;refine go ?_;exact AW.backU [.k, .f, .f, .k, .k, .F, .F, .F, .f, .f, .f] (m0 - 1) (i + 1) (by omega) co (by (try dsimp only); rw [e] <;> rfl) cr
 ·
  try simp only [Bool.and_eq_true, Bool.or_eq_true, Bool.not_eq_true', Bool.and_eq_false_iff, Bool.or_eq_false_iff, decide_eq_true_eq, decide_eq_false_iff_not, bys_length] at h0
  refine AW.exit <|SQ.exit <|AW.out <|LU.exit <|BQ.exit ?_;refine go ?_;refine AW.ret ?_;refine Fin.ret (Gh.refl) noid1 ?_;rw [List.take_of_length_le (by omega)]; rfl
theorem ref_align (n : Int) (hn : I64 n) : A0 Tryz.prog 114 [.v (.int .i64 (n))] (fun ret => ret = .v (.bool (alignB n))) := by
 unfold I64 at hn;refine A0.body 16 Tryz.func114 rfl rfl Tryz.ntmps114 fun base n0 => ?_
 refine go ?_;refine AW.loopU [.k, .f, .f, .k, .F, .f, .f, .f, .f] (fun (k : Nat) => [(3, .v (.int .i64 (2 ^ k)))]) (fun k => Hn n0 []) (fun m k => k ≤ 12 ∧ m = 12 - k ∧ ∀ j : Nat, j < k → (2 : Int) ^ j < n) (12) (0) ⟨by decide, by decide, fun j h => by omega⟩ cr cr ?_;rintro m0 k ⟨hx1, hx2, hx3⟩
 have hpw : (1 : Int) ≤ 2 ^ k ∧ (2 : Int) ^ k ≤ 4096 := ⟨(Int.pow_pos (by decide) : (0 : Int) < 2 ^ k), pow2_le hx1⟩;refine go ?_;refine AW.iteB (GL.ev _) (fun h0 => ?_) (fun h0 => ?_)
 ·
  simp only [Bool.and_eq_true, decide_eq_true_eq] at h0;have hk12 : k < 12 := by
   rcases Nat.lt_or_ge k 12 with h | h
   · exact h
   · have : k = 12 := by omega
     subst this;exact absurd h0.2 (by decide)
  refine go ?_;refine BQ.normal ?_;exact AW.backU [.k, .f, .f, .k, .F, .f, .f, .f, .f] (m0 - 1) (k + 1) (by omega) (by (try dsimp only); exact ⟨by omega, by omega, fun j hj => by rcases Nat.lt_succ_iff_lt_or_eq.1 hj with h | rfl; exact hx3 j h; exact h0.1⟩) (by (try dsimp only); rw [Int.pow_succ, Int.mul_comm] <;> rfl) cr
 ·
  simp only [Bool.and_eq_false_iff, decide_eq_false_iff_not] at h0;refine AW.exit <|SQ.exit <|AW.out <|LU.exit <|BQ.exit ?_;refine go ?_;refine AW.ret ?_;refine Fin.ret (Gh.refl) noid1 ?_;rw [← align_end hx1 hx3 (by omega)]; rfl
def kindB (s : SecD) : Bool :=
 bif !flagsB s.flags || !alignB s.align || (hasF s.flags 1 && hasF s.flags 4) then false
 else bif decide (s.typ = 1) && (decide (s.size ≠ s.data.length) || decide (s.size > 16384)) then false
 else bif decide (s.typ = 8) && (decide ((s.data.length : Int) > 0) || decide (s.size < 0) || decide (s.size > 2147483647) || !hasF s.flags 1 || hasF s.flags 16) then false
 else bif decide (s.typ ≠ 1) && decide (s.typ ≠ 8) then false
 else bif !hasF s.flags 16 then decide (s.ent = 0) && !hasF s.flags 32
 else bif hasF s.flags 1 || hasF s.flags 4 || decide ((s.rels.length : Int) > 0) then false
 else bif hasF s.flags 32 then decide (s.ent = 1) && decide (s.align = 1) && (decide ((s.data.length : Int) = 0) || decide (s.data.getD ((s.data.length : Int) - 1).toNat 0 = 0))
 else (decide (s.ent = 4) || decide (s.ent = 8) || decide (s.ent = 16)) && decide (s.align ≤ s.ent) && decide (s.size % s.ent = 0)
def memberF (gs : List GrpD) (n : Int) : Int := (gs.map fun g => (g.mem.count n : Int)).sum
def prevBad (r : RelD) : Option RelD → Bool
 | none => false
 | some p => decide (p.off + widthF p.typ > r.off)
def relsG (many len : Int) : Option RelD → List RelD → Bool
 | _, [] => true
 | prev, r :: rs => bif !mayRelB r || decide (r.sym ≥ many) || decide (r.off + widthF r.typ > len) then false else
  bif prevBad r prev then false else relsG many len (some r) rs
theorem relsG_cons (many len : Int) (prev : Option RelD) (r : RelD) (rs : List RelD) : relsG many len prev (r :: rs) = bif !mayRelB r || decide (r.sym ≥ many) || decide (r.off + widthF r.typ > len) then false else
 bif prevBad r prev then false else relsG many len (some r) rs := by cases prev <;> rfl
def relsB (o : ObjD) (s : SecD) : Bool := decide ((s.rels.length : Int) ≤ 64) && relsG o.syms.length s.data.length none s.rels
def prevR (l : List RelD) (i : Nat) : Option RelD := if i = 0 then none else some (l.getD (i - 1) default)
theorem widthF_range (t : Int) : 0 ≤ widthF t ∧ widthF t ≤ 8 := by unfold widthF; split <;> (try split) <;> omega
theorem mayRel_off {r : RelD} (h : mayRelB r = true) : 0 ≤ r.off ∧ r.off ≤ 2147483647 ∧ 0 ≤ r.sym ∧ r.sym ≤ 2147483647 ∧ 0 < widthF r.typ := by
 unfold mayRelB fitsB at h;simp only [Bool.and_eq_true, decide_eq_true_eq] at h;omega
theorem relOk_at {l : List RelD} (h : ∀ r ∈ l, r.ok) {i : Nat} (hi : i < l.length) : (l.getD i default).ok := by
 have := h l[i] (List.getElem_mem hi);simpa [hi] using this
def sectionB (o : ObjD) (n : Int) : Bool :=
 bif !nameB (o.secs.getD (n - 1).toNat default).name || !kindB (o.secs.getD (n - 1).toNat default) || !relsB o (o.secs.getD (n - 1).toNat default) then false
 else bif hasF (o.secs.getD (n - 1).toNat default).flags 128 && (decide ((o.secs.getD (n - 1).toNat default).link < 1) || decide ((o.secs.getD (n - 1).toNat default).link > o.secs.length) || decide ((o.secs.getD (n - 1).toNat default).link = n)) || (!hasF (o.secs.getD (n - 1).toNat default).flags 128 && decide ((o.secs.getD (n - 1).toNat default).link ≠ 0)) then false
 else decide (memberF o.groups n = 0) && !hasF (o.secs.getD (n - 1).toNat default).flags 512 || decide (memberF o.groups n = 1) && hasF (o.secs.getD (n - 1).toNat default).flags 512
theorem secOk_at {l : List SecD} (h : ∀ r ∈ l, r.ok) {i : Nat} (hi : i < l.length) : (l.getD i default).ok := by
 have := h l[i] (List.getElem_mem hi);simpa [hi] using this
theorem memberF_take {l : List GrpD} {n : Int} {i : Nat} (hi : i < l.length) : memberF (l.take (i + 1)) n = memberF (l.take i) n + ((l.getD i default).mem.count n : Int) := by
 unfold memberF;rw [List.take_add_one, List.map_append, List.sum_append];simp only [List.getElem?_eq_getElem hi, Option.toList_some, List.map_cons, List.map_nil, List.sum_cons, List.sum_nil, List.getD_eq_getElem?_getD, Option.getD_some];omega
theorem memberF_range {l : List GrpD} {n : Int} : 0 ≤ memberF l n := by
 unfold memberF
 induction l with
 | nil => simp
 | cons a l ih => simp only [List.map_cons, List.sum_cons]; omega
theorem count_take {l : List Int} {n : Int} {i : Nat} (hi : i < l.length) : (l.take (i + 1)).count n = (l.take i).count n + (if l.getD i default = n then 1 else 0) := by
 rw [List.take_add_one, List.count_append];simp only [List.getElem?_eq_getElem hi, Option.toList_some, List.count_cons, List.count_nil, List.getD_eq_getElem?_getD, Option.getD_some];by_cases h : l[i] = n <;> simp [h]
set_option maxHeartbeats 1000000 in
theorem ref_kind (s : SecD) (hs : s.ok) : A0 Tryz.prog 95 [.agg (secA s)] (fun ret => ret = .v (.bool (kindB s))) := by
 have hs0 := hs;obtain ⟨q1, q2, q3, q4, q5, q6, q7, q8, q9, q10, q11⟩ := hs;unfold I64 at q2 q5 q6 q7;rw [maxLen_eq] at q8 q10;refine A0.body 158 Tryz.func95 rfl rfl Tryz.ntmps95 fun base n0 => ?_
 refine go ?_;refine AO.call1 Tryz.func19 rfl rfl (ref_Has _ _ ‹_› (by omega)) ?_;refine go ?_;refine AO.call1 Tryz.func19 rfl rfl (ref_Has _ _ ‹_› (by omega)) ?_;refine go ?_;refine AO.call1 Tryz.func19 rfl rfl (ref_Has _ _ ‹_› (by omega)) ?_;refine go ?_;refine AO.call1 Tryz.func19 rfl rfl (ref_Has _ _ ‹_› (by omega)) ?_;refine go ?_;refine AO.call1 Tryz.func113 rfl rfl (ref_flags _ q3) ?_
 refine go ?_;refine AO.call1 Tryz.func114 rfl rfl (ref_align _ q4) ?_;refine go ?_;refine AW.iteB (GL.ev _) (fun h0 => ?_) (fun h0 => ?_)
 ·
  refine go ?_;refine AW.ret <|SQ.ret ?_;refine Fin.ret (Gh.refl) noid1 ?_;unfold kindB; simp only [*, cond_true, cond_false]; rfl
 ·
  refine go ?_;refine AW.iteB (GL.ev _) (fun h1 => ?_) (fun h1 => ?_)
  ·
   refine go ?_;refine AW.ret <|SQ.ret ?_;refine Fin.ret (Gh.refl) noid1 ?_;unfold kindB; simp only [*, cond_true, cond_false]; rfl
  ·
   refine go ?_;refine AW.iteB (GL.ev _) (fun h2 => ?_) (fun h2 => ?_)
   ·
    refine go ?_;refine AW.ret <|SQ.ret ?_;refine Fin.ret (Gh.refl) noid1 ?_;unfold kindB; simp only [*, cond_true, cond_false]; rfl
   ·
    refine go ?_;refine AW.iteB (GL.ev _) (fun h3 => ?_) (fun h3 => ?_)
    ·
     refine go ?_;refine AW.ret <|SQ.ret ?_;refine Fin.ret (Gh.refl) noid1 ?_;unfold kindB; simp only [*, cond_true, cond_false]; rfl
    ·
     refine go ?_;refine AW.iteB (GL.ev _) (fun h4 => ?_) (fun h4 => ?_)
     ·
      refine go ?_;refine AW.ret <|SQ.ret ?_;refine Fin.ret (Gh.refl) noid1 ?_;unfold kindB; simp only [*, cond_true, cond_false]; rfl
     ·
      refine go ?_;refine AW.iteB (GL.ev _) (fun h5 => ?_) (fun h5 => ?_)
      ·
       refine go ?_;refine AW.ret <|SQ.ret ?_;refine Fin.ret (Gh.refl) noid1 ?_;unfold kindB; simp only [*, cond_true, cond_false]; rfl
      ·
       refine go ?_;refine AW.iteB (GL.ev _) (fun h6 => ?_) (fun h6 => ?_)
       ·
        refine gs ?_;iterate 4 refine AO.c ?_
        iterate 3 refine AO.gx ?_
        iterate 2 refine AO.c ?_
        iterate 10 refine AO.gx ?_
        refine AO.gxo (fun h => by omega) ?_;refine AO.gxo (fun h => ?_) ?_
        · simp only [Bool.and_eq_true, Bool.not_eq_true', decide_eq_false_iff_not] at h
          omega
        refine go ?_;refine AW.ret <|SQ.ret ?_;refine Fin.ret (Gh.refl) noid1 ?_;unfold kindB; simp only [*, cond_true, cond_false]; rfl
       ·
        refine n5 <|AW.seq' ?_;have hsz : 0 ≤ s.size := by
         simp only [Bool.and_eq_false_iff, Bool.or_eq_false_iff, decide_eq_false_iff_not, Bool.not_eq_false'] at h1 h2 h3;omega
        refine AW.region ?_;iterate 4 refine AO.c ?_
        iterate 3 refine AO.gx ?_
        iterate 2 refine AO.c ?_
        iterate 3 refine AO.gx ?_
        iterate 2 refine AO.c ?_
        iterate 5 refine AO.gx ?_
        iterate 2 refine AO.c ?_
        iterate 4 refine AO.gx ?_
        refine AO.gxo (fun h => ?_) ?_
        · simp only [Bool.and_eq_true, Bool.or_eq_true, decide_eq_true_eq] at h
          exact ⟨by omega, by omega⟩
        refine go ?_;refine AW.ret ?_;refine Fin.ret (Gh.refl) noid1 ?_;unfold kindB; simp only [*, cond_true, cond_false]; rfl
theorem symOk_at {l : List SymD} (h : ∀ r ∈ l, r.ok) {i : Nat} (hi : i < l.length) : (l.getD i default).ok := by
 have := h l[i] (List.getElem_mem hi);simpa [hi] using this
theorem memberF_big {l : List GrpD} {n : Int} (h : ∀ g ∈ l, g.mem.length ≤ 1000000000) : memberF l n ≤ 1000000000 * l.length := by
 unfold memberF
 induction l with
 | nil => simp
 | cons a l ih =>
  have h1 := h a List.mem_cons_self;have h2 := ih fun g hg => h g (List.mem_cons_of_mem _ hg)
  have h3 : a.mem.count n ≤ a.mem.length := List.count_le_length;simp only [List.map_cons, List.sum_cons, List.length_cons];omega
theorem mem_take {l : List GrpD} (h : ∀ g ∈ l, g.mem.length ≤ 1000000000) (i : Nat) : ∀ g ∈ l.take i, g.mem.length ≤ 1000000000 := fun g hg => h g (List.mem_of_mem_take hg)
def GSmall (l : List GrpD) : Prop := l.length ≤ 1000000000 ∧ ∀ g ∈ l, g.mem.length ≤ 1000000000
theorem gsm_at {l : List GrpD} (h : GSmall l) {i : Nat} (hi : i < l.length) : (l.getD i default).mem.length ≤ 1000000000 := by
 have := h.2 l[i] (List.getElem_mem hi);simpa [hi] using this
theorem ref_member (o : ObjD) (n : Int) (hs : GSmall o.groups) : A0 Tryz.prog 97 [.agg (objA o), .v (.int .i64 (n))] (fun ret => ret = .v (.int .i64 (memberF o.groups n))) := by
 have hs1 := hs.1;have hs2 := hs.2;refine A0.body 40 Tryz.func97 rfl rfl Tryz.ntmps97 fun base n0 => ?_
 refine go ?_;refine AW.loopU [.f, .k, .k, .f, .f, .k, .k, .F, .F, .F, .F, .f] (fun (i : Nat) => [(5, .v (.int .i64 (memberF (o.groups.take i) n))), (6, .v (.int .i64 (i)))]) (fun i => Hn n0 [some (.box 52 (objA o))]) (fun m i => i ≤ o.groups.length ∧ m = o.groups.length - i) (o.groups.length) (0) ⟨by omega, by omega⟩ cr cr ?_;rintro m0 i ⟨hx1, hx2⟩
 refine go ?_;refine AW.iteB (GL.ev _) (fun h0 => ?_) (fun h0 => ?_)
 ·
  rw [decide_eq_true_eq] at h0;have hi : i < o.groups.length := by omega
  have hm := gsm_at hs hi;have hb := memberF_big (n := n) (mem_take hs2 i);have hb0 := memberF_range (l := o.groups.take i) (n := n);rw [List.length_take] at hb;refine go ?_
  refine AW.loopU [.f, .k, .k, .f, .f, .k, .k, .k, .F, .F, .F, .F] (fun (k : Nat) => [(5, .v (.int .i64 (memberF (o.groups.take i) n + ((o.groups.getD i default).mem.take k).count n))), (7, .v (.int .i64 (k)))]) (fun k => Hn n0 [some (.box 52 (objA o))]) (fun m k => k ≤ (o.groups.getD i default).mem.length ∧ m = (o.groups.getD i default).mem.length - k) ((o.groups.getD i default).mem.length) (0) ⟨by omega, by omega⟩ cr cr ?_
  rintro m1 k ⟨hk1, hk2⟩
  have hc : ((o.groups.getD i default).mem.take k).count n ≤ k := Nat.le_trans List.count_le_length (by rw [List.length_take]; omega);refine go ?_;refine AW.iteB (GL.ev _) (fun h1 => ?_) (fun h1 => ?_)
  ·
   rw [decide_eq_true_eq] at h1;have hk : k < (o.groups.getD i default).mem.length := by omega
   refine go ?_;refine AW.iteB (GL.ev _) (fun h2 => ?_) (fun h2 => ?_)
   ·
    rw [decide_eq_true_eq] at h2;have e2 : (((o.groups.getD i default).mem.take (k + 1)).count n : Int) = ((o.groups.getD i default).mem.take k).count n + 1 := by
     rw [count_take hk, if_pos h2]; rfl
    refine go ?_;refine BQ.normal ?_;refine go ?_;exact AW.backU [.f, .k, .k, .f, .f, .k, .k, .k, .F, .F, .F, .F] (m1 - 1) (k + 1) (by omega) co (by (try dsimp only); rw [e2, ← Int.add_assoc] <;> rfl) cr
   ·
    rw [decide_eq_false_iff_not] at h2;have e2 : (((o.groups.getD i default).mem.take (k + 1)).count n : Int) = ((o.groups.getD i default).mem.take k).count n := by
     rw [count_take hk, if_neg h2]; rfl
    refine AW.skip <|BQ.normal ?_;refine go ?_;exact AW.backU [.f, .k, .k, .f, .f, .k, .k, .k, .F, .F, .F, .F] (m1 - 1) (k + 1) (by omega) co (by (try dsimp only); rw [e2] <;> rfl) cr
  ·
   rw [decide_eq_false_iff_not] at h1;have e := memberF_take (n := n) hi;rw [show ((o.groups.getD i default).mem) = (o.groups.getD i default).mem.take k from (List.take_of_length_le (by omega)).symm] at e;refine AW.exit <|SQ.exit <|AW.out <|LU.exit <|BQ.exit <|BQ.normal ?_;refine go ?_
   exact AW.backU [.f, .k, .k, .f, .f, .k, .k, .F, .F, .F, .F, .f] (m0 - 1) (i + 1) (by omega) co (by (try dsimp only); rw [e] <;> rfl) cr
 ·
  try simp only [Bool.and_eq_true, Bool.or_eq_true, Bool.not_eq_true', Bool.and_eq_false_iff, Bool.or_eq_false_iff, decide_eq_true_eq, decide_eq_false_iff_not, bys_length] at h0
  refine AW.exit <|SQ.exit <|AW.out <|LU.exit <|BQ.exit ?_;refine go ?_;refine AW.ret ?_;refine Fin.ret (Gh.refl) noid1 ?_;rw [List.take_of_length_le (by omega)]; rfl
theorem ref_rels (o : ObjD) (s : SecD) (ho : o.syms.length ≤ maxLen) (hs : s.ok) : A0 Tryz.prog 96 [.agg (objA o), .agg (secA s)] (fun ret => ret = .v (.bool (relsB o s))) := by
 have hs0 := hs;obtain ⟨q1, q2, q3, q4, q5, q6, q7, q8, q9, q10, q11⟩ := hs;rw [maxLen_eq] at q8 q10 ho;refine A0.body 71 Tryz.func96 rfl rfl Tryz.ntmps96 fun base n0 => ?_
 refine n2 ?_;iterate 2 refine AO.ww ?_
 refine AO.c ?_;refine n4 ?_;iterate 4 refine AO.c ?_
 refine n1 ?_;refine AW.iteB (GL.ev _) (fun h0 => ?_) (fun h0 => ?_)
 ·
  try simp only [Bool.and_eq_true, Bool.or_eq_true, Bool.not_eq_true', Bool.and_eq_false_iff, Bool.or_eq_false_iff, decide_eq_true_eq, decide_eq_false_iff_not, bys_length] at h0
  refine n2 ?_;refine AO.c ?_;refine na <|SQ.ret ?_;refine Fin.ret (Gh.refl) noid1 ?_;unfold relsB; rw [decide_eq_false (by omega)]; rfl
 ·
  try simp only [Bool.and_eq_true, Bool.or_eq_true, Bool.not_eq_true', Bool.and_eq_false_iff, Bool.or_eq_false_iff, decide_eq_true_eq, decide_eq_false_iff_not, bys_length] at h0
  refine n5 <|n8 ?_;refine AO.c ?_;refine nb ?_
  refine AW.loopU2 [.f, .f, .k, .k, .f, .k, .F, .F, .F, .F, .F, .F, .F, .F, .f] (fun (i j : Nat) => [(5, .v (.int .i64 (i)))]) (fun i j => Hn n0 (([some (.box 52 (objA o)), some (.box 41 (secA s))] ++ List.replicate j none) ++ [])) (fun m i j => i ≤ s.rels.length ∧ m = s.rels.length - i ∧ (∀ k, k < i → mayRelB (s.rels.getD k default) = true) ∧ relsG o.syms.length s.data.length none s.rels = relsG o.syms.length s.data.length (prevR s.rels i) (s.rels.drop i)) (s.rels.length) (0) (0) ⟨by omega, by omega, fun k h => by omega, rfl⟩ (by first | rfl | (simp; done)) (by first | rfl | (simp; done)) ?_
  rintro m0 i j ⟨hx1, hx2, hx3, hx4⟩
  refine n8 ?_;iterate 5 refine AO.c ?_
  refine n1 ?_;refine AW.iteB (GL.ev _) (fun h1 => ?_) (fun h1 => ?_)
  ·
   rw [decide_eq_true_eq] at h1;have hi : i < s.rels.length := by omega
   rw [drop_getD hi, relsG_cons] at hx4;refine nc ?_;iterate 3 refine AO.c ?_
   refine AO.oo ?_;refine AO.c ?_;refine AO.ww ?_;refine AO.sst ?_;refine n3 ?_;refine AO.c ?_;refine AO.call1 Tryz.func115 rfl rfl (ref_MayRel _ (relOk_at q11 hi)) ?_;refine AO.c ?_;refine n1 <|AW.seq' <|AW.seq' ?_
   refine AW.drawsZ [] (.one 0 false (.one 1 false (.one 2 false (.one 3 false (.one 4 false (.one 5 false (.one 6 false (.one 7 false (.one 8 false (.one 9 false (.one 10 false (.one 11 false (.one 12 false (.one 13 false (.one 14 false (.one 17 false (.one 18 false (.one 19 false (.one 15 true (.one 16 false (.one 20 false (.one 21 false .nil)))))))))))))))))))))) (by kernel_rfl) rfl (by kernel_rfl) ?_
   iterate 3 refine AZ.c rfl ?_
   iterate 6 refine AZ.gx rfl ?_
   iterate 2 refine AZ.c rfl ?_
   iterate 7 refine AZ.gx rfl ?_
   refine AZ.gxcall1 rfl Tryz.func116 rfl rfl (fun hgd => ref_Width _) ?_;refine AZ.gxo rfl (fun h => ?_) ?_
   · have hw := widthF_range (s.rels.getD i default).typ
     simp only [Bool.not_eq_true', Bool.or_eq_false_iff, Bool.not_eq_false', decide_eq_false_iff_not] at h;have := mayRel_off h.1;omega
   refine AZ.gx rfl ?_;refine AZ.c rfl ?_;refine AZ.done ?_;refine SQ.normal ?_;refine AW.iteB (GL.ev _) (fun h2 => ?_) (fun h2 => ?_)
   ·
    rw [h2, cond_true] at hx4;refine n2 ?_;refine AO.c ?_;refine na <|SQ.ret <|BQ.ret <|SQ.ret <|AW.out <|LU.ret <|BQ.ret <|SQ.ret ?_;refine Fin.ret (Gh.refl) noid1 ?_;unfold relsB; rw [hx4, Bool.and_false]; rfl
   ·
    have hmay : mayRelB (s.rels.getD i default) = true := by
     simp only [Bool.or_eq_false_iff, Bool.not_eq_false'] at h2;exact h2.1.1
    rw [h2, cond_false] at hx4;have hp : prevBad (s.rels.getD i default) (prevR s.rels i) = (decide ((i : Int) > 0) && decide ((s.rels.getD ((i : Int) - 1).toNat default).off + widthF (s.rels.getD ((i : Int) - 1).toNat default).typ > (s.rels.getD i default).off)) := by
     unfold prevR;by_cases h : i = 0
     · subst h; rfl
     · rw [if_neg h, show ((i : Int) - 1).toNat = i - 1 by omega, decide_eq_true (show (i : Int) > 0 by omega), Bool.true_and]; rfl
    refine n5 <|AW.seq' ?_
    refine AW.drawsZ [] (.one 0 false (.one 1 false (.one 2 false (.one 3 false (.one 4 false (.one 5 false (.one 6 false (.one 7 false (.one 8 false (.one 9 false (.one 10 false (.one 11 false (.one 12 false (.one 13 false (.one 14 false (.one 15 false (.one 16 false (.one 19 false (.one 20 false (.one 17 true (.one 18 false (.one 21 false (.one 22 false .nil))))))))))))))))))))))) (by kernel_rfl) rfl (by kernel_rfl) ?_
    iterate 3 refine AZ.c rfl ?_
    iterate 3 refine AZ.gx rfl ?_
    refine AZ.gxo rfl (fun h => by omega) ?_;refine AZ.gxo rfl (fun h => by rw [decide_eq_true_eq] at h; omega) ?_;iterate 5 refine AZ.gx rfl ?_
    refine AZ.gxo rfl (fun h => by omega) ?_;refine AZ.gxo rfl (fun h => by rw [decide_eq_true_eq] at h; omega) ?_;iterate 4 refine AZ.gx rfl ?_
    refine AZ.gxcall1 rfl Tryz.func116 rfl rfl (fun hgd => ref_Width _) ?_;refine AZ.gxo rfl (fun h => ?_) ?_
    · have hw := widthF_range (s.rels.getD ((i : Int) - 1).toNat default).typ
      rw [decide_eq_true_eq] at h;have := mayRel_off (hx3 ((i : Int) - 1).toNat (by omega));omega
    refine AZ.gx rfl ?_;refine AZ.c rfl ?_;refine AZ.done ?_;refine SQ.normal ?_;refine AW.iteB (GL.ev _) (fun h3 => ?_) (fun h3 => ?_)
    ·
     rw [hp, h3, cond_true] at hx4;refine n2 ?_;refine AO.c ?_;refine na <|BQ.ret <|SQ.ret <|AW.out <|LU.ret <|BQ.ret <|SQ.ret ?_;refine Fin.ret (Gh.refl) noid1 ?_;unfold relsB; rw [hx4, Bool.and_false]; rfl
    ·
     rw [hp, h3, cond_false] at hx4;rw [show some (s.rels.getD i default) = prevR s.rels (i + 1) by unfold prevR; rw [if_neg (by omega)]; rfl] at hx4;refine n9 ?_;refine AO.c ?_;refine AO.oo ?_;refine AO.c ?_;refine AO.nil ?_
     exact AW.backD [.f, .f, .k, .k, .f, .k, .F, .F, .F, .F, .F, .F, .F, .F, .f] ([some (.box 52 (objA o)), some (.box 41 (secA s))]) (j) (m0 - 1) (i + 1, j + 1) (by omega) (by (try dsimp only); exact ⟨by omega, by omega, fun k hk => by rcases Nat.lt_succ_iff_lt_or_eq.1 hk with h | rfl; exact hx3 k h; exact hmay, hx4⟩) (by first | rfl | (simp; done)) (by first | rfl | (simp; done))
  ·
   try simp only [Bool.and_eq_true, Bool.or_eq_true, Bool.not_eq_true', Bool.and_eq_false_iff, Bool.or_eq_false_iff, decide_eq_true_eq, decide_eq_false_iff_not, bys_length] at h1
   refine AW.exit <|SQ.exit <|AW.out <|LU.exit <|BQ.exit <|SQ.normal <|n2 ?_;refine AO.c ?_;refine na ?_;refine Fin.ret (Gh.refl) noid1 ?_;unfold relsB; rw [hx4, List.drop_of_length_le (by omega), decide_eq_true (by omega)]; unfold relsG; rfl
theorem ref_section (o : ObjD) (n : Int) (ho : o.ok) (hg : GSmall o.groups) (hn : 1 ≤ n ∧ n ≤ o.secs.length) : A0 Tryz.prog 67 [.agg (objA o), .v (.int .i64 (n))] (fun ret => ret = .v (.bool (sectionB o n))) := by
 have hl := ho.1;rw [maxLen_eq] at hl;have hi : (n - 1).toNat < o.secs.length := by omega
 have hs := secOk_at ho.2.1 hi;refine A0.body 85 Tryz.func67 rfl rfl Tryz.ntmps67 fun base n0 => ?_
 refine n2 ?_;refine AO.ww ?_;refine AO.c ?_;refine n3 ?_;iterate 3 refine AO.c ?_
 iterate 2 refine AO.oo ?_
 refine AO.c ?_;refine AO.ww ?_;refine AO.sst ?_;refine n3 ?_;iterate 2 refine AO.c ?_
 refine AO.call1 Tryz.func94 rfl rfl (ref_Name _ hs.1) ?_;refine AO.c ?_;refine n3 ?_;refine AO.c ?_;refine AO.call1 Tryz.func95 rfl rfl (ref_kind _ hs) ?_;refine AO.c ?_;refine n3 ?_;iterate 2 refine AO.c ?_
 refine AO.call1 Tryz.func96 rfl rfl (ref_rels _ _ ho.2.2.1 hs) ?_;refine AO.c ?_;refine n4 ?_;iterate 3 refine AO.c ?_
 iterate 2 refine AO.gx ?_
 iterate 2 refine AO.c ?_
 iterate 2 refine AO.gx ?_
 refine AO.c ?_;refine n1 ?_;refine AW.iteB (GL.ev _) (fun h0 => ?_) (fun h0 => ?_)
 ·
  skip;refine n2 ?_;refine AO.c ?_;refine na <|SQ.ret ?_;refine Fin.ret (Gh.refl) noid1 ?_;unfold sectionB; simp only [*, cond_true, cond_false]; rfl
 ·
  skip;refine n6 ?_;refine AO.c ?_;refine AO.call1 Tryz.func19 rfl rfl (ref_Has _ _ hs (by omega)) ?_;refine AO.c ?_;refine n4 ?_;iterate 2 refine AO.c ?_
  iterate 17 refine AO.gx ?_
  iterate 2 refine AO.c ?_
  iterate 7 refine AO.gx ?_
  refine AO.c ?_;refine n1 ?_;refine AW.iteB (GL.ev _) (fun h1 => ?_) (fun h1 => ?_)
  ·
   skip;refine n2 ?_;refine AO.c ?_;refine na <|SQ.ret ?_;refine Fin.ret (Gh.refl) noid1 ?_;unfold sectionB; simp only [*, cond_true, cond_false]; rfl
  ·
   skip;refine n6 ?_;refine AO.c ?_;refine AO.call1 Tryz.func19 rfl rfl (ref_Has _ _ hs (by omega)) ?_;refine AO.c ?_;refine n3 ?_;iterate 2 refine AO.c ?_
   refine AO.call1 Tryz.func97 rfl rfl (ref_member _ _ hg) ?_;refine AO.c ?_;refine n3 ?_;iterate 3 refine AO.c ?_
   iterate 2 refine AO.gx ?_
   iterate 2 refine AO.c ?_
   iterate 5 refine AO.gx ?_
   iterate 2 refine AO.c ?_
   refine na ?_;refine Fin.ret (Gh.refl) noid1 ?_;unfold sectionB; simp only [*, cond_true, cond_false]; rfl
@[reducible] def emptyS : ByteArray := { data := #[] }
def symbolB (o : ObjD) (n : Int) : Bool :=
 bif decide (n = 0) then decide ((o.syms.getD n.toNat default).name.toList = emptyS.toList) && decide ((o.syms.getD n.toNat default).bind = 0) && decide ((o.syms.getD n.toNat default).typ = 0) && decide ((o.syms.getD n.toNat default).sec = 0) && decide ((o.syms.getD n.toNat default).val = 0) && decide ((o.syms.getD n.toNat default).size = 0)
 else bif !nameB (o.syms.getD n.toNat default).name || decide ((o.syms.getD n.toNat default).bind < 0) || decide ((o.syms.getD n.toNat default).bind > 2) || decide ((o.syms.getD n.toNat default).typ < 0) || decide ((o.syms.getD n.toNat default).typ > 3) || decide ((o.syms.getD n.toNat default).size < 0) || decide ((o.syms.getD n.toNat default).size > 2147483647) then false
 else bif decide ((o.syms.getD n.toNat default).sec < -1) || decide ((o.syms.getD n.toNat default).sec > o.secs.length) || decide ((o.syms.getD n.toNat default).val < 0) || decide ((o.syms.getD n.toNat default).val > 2147483647) then false
 else bif decide ((o.syms.getD n.toNat default).sec = 0) && decide ((o.syms.getD n.toNat default).val > 0) || decide ((o.syms.getD n.toNat default).sec > 0) && decide ((o.syms.getD n.toNat default).val > (o.secs.getD ((o.syms.getD n.toNat default).sec - 1).toNat default).size) then false
 else bif decide ((o.syms.getD n.toNat default).bind = 0) then decide ((o.syms.getD n.toNat default).sec ≠ 0) && decide ((o.syms.getD (n - 1).toNat default).bind = 0)
 else decide ((o.syms.getD n.toNat default).name.toList ≠ emptyS.toList)
def memB (N : Int) (l : List Int) (k : Nat) : Bool := decide (l.getD k default < 1) || decide (l.getD k default > N) || (decide ((k : Int) > 0) && decide (l.getD k default ≤ l.getD ((k : Int) - 1).toNat default))
def grpB (o : ObjD) (g : GrpD) : Bool := (decide (1 ≤ g.sym) && decide (g.sym < o.syms.length) && decide (g.mem.length ≠ 0)) && (List.range g.mem.length).all fun k => !memB o.secs.length g.mem k
def shapeB (o : ObjD) : Bool :=
 !(decide ((o.secs.length : Int) > 32) || decide ((o.syms.length : Int) < 1) || decide ((o.syms.length : Int) > 128) || (!o.hasSig && decide ((o.sig.length : Int) > 0))) && o.groups.all (grpB o) &&
 ((List.range o.secs.length).all fun k => sectionB o ((k : Int) + 1)) && ((List.range o.syms.length).all fun k => symbolB o k) && o.sig.all fun x => decide (0 ≤ x) && decide (x < o.syms.length)
theorem all_take_succ {α : Type} [Inhabited α] {p : α → Bool} {l : List α} {i : Nat} (h : i < l.length) : (l.take (i + 1)).all p = ((l.take i).all p && p (l.getD i default)) := by
 rw [List.take_add_one, List.all_append]; simp [h]
theorem all_false_at {α : Type} [Inhabited α] {p : α → Bool} {l : List α} {i : Nat} (h : i < l.length) (hp : p (l.getD i default) = false) : l.all p = false := by
 rw [List.all_eq_false];refine ⟨l[i], List.getElem_mem h, ?_⟩;have : l.getD i default = l[i] := by simp [h]
 rw [← this, hp]; simp
theorem range_all_succ {p : Nat → Bool} {i : Nat} : (List.range (i + 1)).all p = ((List.range i).all p && p i) := by
 rw [List.range_succ, List.all_append]; simp
theorem range_all_false {p : Nat → Bool} {n i : Nat} (h : i < n) (hp : p i = false) : (List.range n).all p = false := by
 rw [List.all_eq_false];exact ⟨i, List.mem_range.2 h, by rw [hp]; simp⟩
set_option maxHeartbeats 1000000 in
theorem ref_symbol (o : ObjD) (n : Int) (ho : o.ok) (hn : 0 ≤ n ∧ n < o.syms.length) : A0 Tryz.prog 68 [.agg (objA o), .v (.int .i64 (n))] (fun ret => ret = .v (.bool (symbolB o n))) := by
 have hl := ho.2.2.1;rw [maxLen_eq] at hl;have hl0 := ho.1;rw [maxLen_eq] at hl0;have hi : n.toNat < o.syms.length := by omega
 have hs := symOk_at ho.2.2.2.1 hi;have hsec := hs.2.2.2.1;unfold I64 at hsec;refine A0.body 143 Tryz.func68 rfl rfl Tryz.ntmps68 fun base n0 => ?_
 refine n2 ?_;refine AO.ww ?_;refine AO.c ?_;refine n3 ?_;iterate 3 refine AO.c ?_
 refine AO.oo ?_;refine AO.c ?_;refine AO.ww ?_;refine AO.sst ?_;refine n4 ?_;iterate 2 refine AO.c ?_
 refine n1 ?_;refine AW.iteB (GL.ev _) (fun h0 => ?_) (fun h0 => ?_)
 ·
  skip;refine n2 ?_;iterate 4 refine AO.c ?_
  iterate 3 refine AO.gx ?_
  iterate 2 refine AO.c ?_
  iterate 3 refine AO.gx ?_
  iterate 2 refine AO.c ?_
  iterate 3 refine AO.gx ?_
  iterate 2 refine AO.c ?_
  iterate 3 refine AO.gx ?_
  iterate 2 refine AO.c ?_
  iterate 3 refine AO.gx ?_
  iterate 2 refine AO.c ?_
  refine na <|SQ.ret ?_;refine Fin.ret (Gh.refl) noid1 ?_;unfold symbolB; simp only [*, cond_true, cond_false]; rfl
 ·
  skip;refine n6 ?_;iterate 2 refine AO.c ?_
  refine AO.call1 Tryz.func94 rfl rfl (ref_Name _ hs.1) ?_;refine AO.c ?_;refine n4 ?_;iterate 3 refine AO.c ?_
  iterate 3 refine AO.gx ?_
  iterate 2 refine AO.c ?_
  iterate 3 refine AO.gx ?_
  iterate 2 refine AO.c ?_
  iterate 3 refine AO.gx ?_
  iterate 2 refine AO.c ?_
  iterate 3 refine AO.gx ?_
  iterate 2 refine AO.c ?_
  iterate 3 refine AO.gx ?_
  iterate 2 refine AO.c ?_
  iterate 3 refine AO.gx ?_
  refine AO.c ?_;refine n1 ?_;refine AW.iteB (GL.ev _) (fun h1 => ?_) (fun h1 => ?_)
  ·
   skip;refine n2 ?_;refine AO.c ?_;refine na <|SQ.ret ?_;refine Fin.ret (Gh.refl) noid1 ?_;unfold symbolB; simp only [*, cond_true, cond_false]; rfl
  ·
   skip;refine n5 <|n8 ?_;iterate 4 refine AO.c ?_
   iterate 6 refine AO.gx ?_
   iterate 2 refine AO.c ?_
   iterate 3 refine AO.gx ?_
   iterate 2 refine AO.c ?_
   iterate 3 refine AO.gx ?_
   refine AO.c ?_;refine n1 ?_;refine AW.iteB (GL.ev _) (fun h2 => ?_) (fun h2 => ?_)
   ·
    skip;refine n2 ?_;refine AO.c ?_;refine na <|SQ.ret ?_;refine Fin.ret (Gh.refl) noid1 ?_;unfold symbolB; simp only [*, cond_true, cond_false]; rfl
   ·
    skip;refine n5 <|AW.seq' <|AW.seq' ?_
    refine AW.drawsZ [] (.one 0 false (.one 1 false (.one 2 false (.one 3 false (.one 4 false (.one 5 false (.one 6 false (.one 7 false (.one 8 false (.one 9 false (.one 10 false (.one 11 false (.one 12 false (.one 13 false (.one 14 false (.one 15 false (.one 16 false (.one 17 false (.one 18 false (.one 19 false (.one 20 false (.one 21 false (.one 22 false (.one 23 false (.one 24 false (.one 25 false .nil)))))))))))))))))))))))))) (by kernel_rfl) rfl (by kernel_rfl) ?_
    iterate 4 refine AZ.c rfl ?_
    iterate 3 refine AZ.gx rfl ?_
    iterate 2 refine AZ.c rfl ?_
    iterate 10 refine AZ.gx rfl ?_
    refine AZ.gxo rfl (fun h => by simp only [Bool.and_eq_true, decide_eq_true_eq] at h; omega) ?_;refine AZ.gxo rfl (fun h => by simp only [Bool.and_eq_true, decide_eq_true_eq] at h; simp only [Bool.or_eq_false_iff, decide_eq_false_iff_not] at h2; omega) ?_;iterate 4 refine AZ.gx rfl ?_
    refine AZ.c rfl ?_;refine AZ.done ?_;refine SQ.normal ?_;refine AW.iteB (GL.ev _) (fun h3 => ?_) (fun h3 => ?_)
    ·
     skip;refine n2 ?_;refine AO.c ?_;refine na <|SQ.ret ?_;refine Fin.ret (Gh.refl) noid1 ?_;unfold symbolB; simp only [*, cond_true, cond_false]; rfl
    ·
     skip;refine n5 <|n8 ?_;iterate 3 refine AO.c ?_
     refine n1 ?_;refine AW.iteB (GL.ev _) (fun h4 => ?_) (fun h4 => ?_)
     ·
      skip;refine n2 ?_;iterate 4 refine AO.c ?_
      iterate 3 refine AO.gx ?_
      refine AO.gxo (fun h => by simp only [decide_eq_false_iff_not] at h0; omega) ?_;refine AO.gxo (fun h => by simp only [decide_eq_false_iff_not] at h0; omega) ?_;iterate 3 refine AO.gx ?_
      iterate 2 refine AO.c ?_
      refine na <|SQ.ret ?_;refine Fin.ret (Gh.refl) noid1 ?_;unfold symbolB; simp only [*, cond_true, cond_false]; rfl
     ·
      skip;refine n6 ?_;iterate 4 refine AO.c ?_
      refine na ?_;refine Fin.ret (Gh.refl) noid1 ?_;unfold symbolB; simp only [*, cond_true, cond_false]; rfl
@[reducible] def z0 (o : ObjD) (j : Nat) : List (Option AB) := (([some (.box 52 (objA o))] ++ List.replicate j none) ++ [])
set_option maxHeartbeats 1000000 in
theorem ref_Shape (o : ObjD) (ho : o.ok) (hg : GSmall o.groups) : A0 Tryz.prog 51 [.agg (objA o)] (fun ret => ret = .v (.bool (shapeB o))) := by
 have ho0 := ho;obtain ⟨q1, q2, q3, q4, q5, q6, q7, q8⟩ := ho;rw [maxLen_eq] at q1 q3 q5 q7;have hg1 := hg.1;refine A0.body 157 Tryz.func51 rfl rfl Tryz.ntmps51 fun base n0 => ?_
 refine n2 ?_;refine AO.ww ?_;refine AO.c ?_;refine n4 ?_;iterate 5 refine AO.c ?_
 iterate 4 refine AO.gx ?_
 iterate 2 refine AO.c ?_
 iterate 4 refine AO.gx ?_
 iterate 2 refine AO.c ?_
 iterate 9 refine AO.gx ?_
 refine AO.c ?_;refine n1 ?_;refine AW.iteB (GL.ev _) (fun h0 => ?_) (fun h0 => ?_)
 ·
  skip;refine n2 ?_;refine AO.c ?_;refine na <|SQ.ret ?_;refine Fin.ret (Gh.refl) noid1 ?_;unfold shapeB; rw [h0]; rfl
 ·
  have hs32 : o.secs.length ≤ 32 := by
   have h := h0;simp only [Bool.or_eq_false_iff, decide_eq_false_iff_not] at h;omega
  refine n5 <|n8 ?_;refine AO.c ?_;refine nb ?_
  refine AW.loopU2 [.f, .k, .f, .k, .F, .F, .F, .F, .F, .F, .F, .F, .F, .F, .F, .F, .F, .F, .F, .F, .F, .F, .F, .f] (fun (i j : Nat) => [(3, .v (.int .i64 (i)))]) (fun i j => Hn n0 (z0 o j)) (fun m i j => i ≤ o.groups.length ∧ m = o.groups.length - i ∧ (o.groups.take i).all (grpB o) = true) (o.groups.length) (0) (0) ⟨by omega, by omega, rfl⟩ (by first | rfl | (simp; done)) (by first | rfl | (simp; done)) ?_
  rintro m0 i j ⟨hx1, hx2, hx3⟩
  refine n8 ?_;iterate 5 refine AO.c ?_
  refine n1 ?_;refine AW.iteB (GL.ev _) (fun h1 => ?_) (fun h1 => ?_)
  ·
   have hlt : i < o.groups.length := by simpa using h1
   have hm := gsm_at hg hlt;refine nc ?_;iterate 3 refine AO.c ?_
   refine AO.oo ?_;refine AO.c ?_;refine AO.ww ?_;refine AO.sst ?_;refine n4 ?_;iterate 4 refine AO.c ?_
   iterate 6 refine AO.gx ?_
   iterate 2 refine AO.c ?_
   iterate 4 refine AO.gx ?_
   refine AO.c ?_;refine n1 ?_;refine AW.iteB (GL.ev _) (fun h2 => ?_) (fun h2 => ?_)
   ·
    skip;refine n2 ?_;refine AO.c ?_;refine na <|SQ.ret <|BQ.ret <|SQ.ret <|AW.out <|LU.ret <|BQ.ret <|SQ.ret ?_;refine Fin.ret (Gh.refl) noid1 ?_;have : o.groups.all (grpB o) = false := by
     refine all_false_at hlt ?_;unfold grpB;have : (decide (1 ≤ (o.groups.getD i default).sym) && decide ((o.groups.getD i default).sym < o.syms.length) && decide ((o.groups.getD i default).mem.length ≠ 0)) = false := by
      rw [← Bool.not_eq_true];simp only [Bool.or_eq_true, Bool.and_eq_true, decide_eq_true_eq] at h2 ⊢;omega
     rw [this]; rfl
    unfold shapeB; rw [this, Bool.and_false]; rfl
   ·
    simp only [Bool.or_eq_false_iff, decide_eq_false_iff_not] at h2;refine n6 ?_;refine AO.c ?_;refine nb ?_
    refine AW.loopU2 [.f, .k, .f, .k, .k, .k, .F, .F, .F, .F, .F, .F, .F, .F, .F, .F, .F, .F, .F, .F, .F, .F, .F, .F, .f, .f, .f, .f, .f, .f, .f] (fun (k jj : Nat) => [(5, .v (.int .i64 (k)))]) (fun k jj => Hn n0 ((([some (.box 52 (objA o))] ++ List.replicate j none ++ [some (.box 93 (grpA (o.groups.getD i default)))]) ++ List.replicate jj none) ++ [])) (fun m k jj => k ≤ (o.groups.getD i default).mem.length ∧ m = (o.groups.getD i default).mem.length - k ∧ ((List.range k).all fun k => !memB o.secs.length (o.groups.getD i default).mem k) = true) ((o.groups.getD i default).mem.length) (0) (0) ⟨by omega, by omega, rfl⟩ (by first | rfl | (simp; done)) (by first | rfl | (simp; done)) ?_
    rintro m1 k jj ⟨hk1, hk2, hk3⟩
    refine n8 ?_;iterate 5 refine AO.c ?_
    refine n1 ?_;refine AW.iteB (GL.ev _) (fun h3 => ?_) (fun h3 => ?_)
    ·
     have hk : k < (o.groups.getD i default).mem.length := by simpa using h3
     refine n5 <|AW.seq' <|AW.block' <|AW.seq' ?_
     refine AW.drawsZ [] (.one 0 false (.one 1 false (.one 2 false (.one 3 false (.one 4 false (.one 5 false (.one 6 false (.one 7 false (.one 8 false (.one 9 false (.one 10 false (.one 11 false (.one 12 false (.one 13 false (.one 14 false (.one 15 false (.one 16 false (.one 17 false (.one 18 false (.one 19 false (.one 20 false (.one 21 false (.one 22 false (.one 23 false (.one 24 false (.one 25 false (.one 26 false (.one 27 false (.one 28 false (.one 29 false (.one 30 false (.one 31 false (.one 32 false (.one 33 false (.one 34 false .nil))))))))))))))))))))))))))))))))))) (by kernel_rfl) rfl (by kernel_rfl) ?_
     iterate 3 refine AZ.c rfl ?_
     refine AZ.oo rfl ?_;iterate 3 refine AZ.c rfl ?_
     iterate 3 refine AZ.gx rfl ?_
     refine AZ.gxoo rfl ?_;iterate 5 refine AZ.gx rfl ?_
     iterate 2 refine AZ.c rfl ?_
     iterate 6 refine AZ.gx rfl ?_
     refine AZ.gxoo rfl ?_;iterate 4 refine AZ.gx rfl ?_
     iterate 2 refine AZ.gxoo rfl ?_
     iterate 3 refine AZ.gx rfl ?_
     refine AZ.c rfl ?_;refine AZ.done ?_;refine SQ.normal ?_;refine AW.iteB (GL.ev _) (fun h4 => ?_) (fun h4 => ?_)
     ·
      skip;refine n2 ?_;refine AO.c ?_;refine na <|BQ.ret <|SQ.ret <|AW.out <|LU.ret <|BQ.ret <|BQ.ret <|SQ.ret <|AW.out <|LU.ret <|BQ.ret <|SQ.ret ?_;refine Fin.ret (Gh.refl) noid1 ?_;have : o.groups.all (grpB o) = false := by
       refine all_false_at hlt ?_;unfold grpB;rw [range_all_false hk (by unfold memB; rw [h4]; rfl), Bool.and_false]
      unfold shapeB; rw [this, Bool.and_false]; rfl
     ·
      have hk4 : ((List.range (k + 1)).all fun k => !memB o.secs.length (o.groups.getD i default).mem k) = true := by
       rw [range_all_succ, hk3];unfold memB;rw [h4]; rfl
      refine n9 ?_;refine AO.c ?_;refine AO.oo ?_;refine AO.c ?_;refine AO.nil ?_;exact AW.backU [.f, .k, .f, .k, .k, .k, .F, .F, .F, .F, .F, .F, .F, .F, .F, .F, .F, .F, .F, .F, .F, .F, .F, .F, .f, .f, .f, .f, .f, .f, .f] (m1 - 1) (k + 1, jj) (by omega) (by (try dsimp only); exact ⟨by omega, by omega, hk4⟩) (by first | rfl | (simp; done)) (by first | rfl | (simp; done))
    ·
     have hgi : (o.groups.take (i + 1)).all (grpB o) = true := by
      rw [all_take_succ hlt, hx3];have e : k = (o.groups.getD i default).mem.length := by simp only [decide_eq_false_iff_not] at h3; omega
      rw [e] at hk3;unfold grpB;rw [hk3, decide_eq_true (by omega), decide_eq_true (by omega), decide_eq_true (by omega)]; rfl
     refine AW.exit <|SQ.exit <|AW.out <|LU.exit <|BQ.exit <|BQ.normal <|SQ.normal <|AW.region ?_;refine AO.c ?_;refine AO.oo ?_;refine AO.c ?_;refine AO.nil ?_
     exact AW.backD [.f, .k, .f, .k, .F, .F, .F, .F, .F, .F, .F, .F, .F, .F, .F, .F, .F, .F, .F, .F, .F, .F, .F, .f] ([some (.box 52 (objA o))]) (j) (m0 - 1) (i + 1, j + jj + 1) (by omega) (by (try dsimp only); exact ⟨by omega, by omega, hgi⟩) (by first | rfl | (simp; done)) (by simp [Nat.add_assoc, Nat.add_comm])
  ·
   have hgs : o.groups.all (grpB o) = true := by
    rw [← hx3, List.take_of_length_le];simp at h1; omega
   refine AW.exit <|SQ.exit <|AW.out <|LU.exit <|BQ.exit <|SQ.normal <|n8 ?_;refine AO.c ?_;refine nb ?_
   refine AW.loopU2 [.f, .k, .f, .f, .f, .f, .k, .F, .F, .F, .F, .F, .F, .F, .F, .F, .F, .F, .F, .F, .F, .F, .F, .F, .F, .f, .f, .f, .f, .f, .f] (fun (i j : Nat) => [(6, .v (.int .i64 ((i : Int) + 1)))]) (fun i j => Hn n0 (z0 o j)) (fun m i j => i ≤ o.secs.length ∧ m = o.secs.length - i ∧ ((List.range i).all fun k => sectionB o ((k : Int) + 1)) = true) (o.secs.length) (0) (j) ⟨by omega, by omega, rfl⟩ (by first | rfl | (simp; done)) (by first | rfl | (simp; done)) ?_
   rintro m2 i j ⟨hx1, hx2, hx3⟩
   refine n8 ?_;iterate 5 refine AO.c ?_
   refine n1 ?_;refine AW.iteB (GL.ev _) (fun h5 => ?_) (fun h5 => ?_)
   ·
    have hlt : i < o.secs.length := by simp only [decide_eq_true_eq] at h5; omega
    refine nc ?_;iterate 2 refine AO.c ?_
    refine AO.call1 Tryz.func67 rfl rfl (ref_section _ _ (by assumption) (by assumption) ⟨by omega, by omega⟩) ?_;refine AO.c ?_;refine n3 ?_;iterate 2 refine AO.c ?_
    refine n1 ?_;refine AW.iteB (GL.ev _) (fun h6 => ?_) (fun h6 => ?_)
    ·
     skip;refine n2 ?_;refine AO.c ?_;refine na <|BQ.ret <|SQ.ret <|AW.out <|LU.ret <|BQ.ret <|SQ.ret ?_;refine Fin.ret (Gh.refl) noid1 ?_;have : ((List.range o.secs.length).all fun k => sectionB o ((k : Int) + 1)) = false := range_all_false hlt (by simpa using h6);unfold shapeB; rw [this, Bool.and_false]; rfl
    ·
     have hi : ((List.range (i + 1)).all fun k => sectionB o ((k : Int) + 1)) = true := by
      rw [range_all_succ, hx3];simpa using h6
     refine n9 ?_;refine AO.c ?_;refine AO.oo ?_;refine AO.c ?_;refine AO.nil ?_;exact AW.backU [.f, .k, .f, .f, .f, .f, .k, .F, .F, .F, .F, .F, .F, .F, .F, .F, .F, .F, .F, .F, .F, .F, .F, .F, .F, .f, .f, .f, .f, .f, .f] (m2 - 1) (i + 1, j) (by omega) (by (try dsimp only); exact ⟨by omega, by omega, hi⟩) (by first | rfl | (simp; done)) (by first | rfl | (simp; done))
   ·
    have hss : ((List.range o.secs.length).all fun k => sectionB o ((k : Int) + 1)) = true := by
     rw [← hx3, show i = o.secs.length by simp only [decide_eq_false_iff_not] at h5; omega]
    refine AW.exit <|SQ.exit <|AW.out <|LU.exit <|BQ.exit <|SQ.normal <|n8 ?_;refine AO.c ?_;refine nb ?_
    refine AW.loopU2 [.f, .k, .f, .f, .f, .f, .f, .f, .k, .F, .F, .F, .F, .F, .F, .F, .F, .F, .F, .F, .F, .F, .F, .F, .F, .F, .F, .f, .f, .f, .f] (fun (i j : Nat) => [(8, .v (.int .i64 (i)))]) (fun i j => Hn n0 (z0 o j)) (fun m i j => i ≤ o.syms.length ∧ m = o.syms.length - i ∧ ((List.range i).all fun k => symbolB o k) = true) (o.syms.length) (0) (j) ⟨by omega, by omega, rfl⟩ (by first | rfl | (simp; done)) (by first | rfl | (simp; done)) ?_
    rintro m3 i j ⟨hx1, hx2, hx3⟩
    refine n8 ?_;iterate 5 refine AO.c ?_
    refine n1 ?_;refine AW.iteB (GL.ev _) (fun h7 => ?_) (fun h7 => ?_)
    ·
     have hlt : i < o.syms.length := by simp only [decide_eq_true_eq] at h7; omega
     refine nc ?_;iterate 2 refine AO.c ?_
     refine AO.call1 Tryz.func68 rfl rfl (ref_symbol _ _ (by assumption) ⟨by omega, by omega⟩) ?_;refine AO.c ?_;refine n3 ?_;iterate 2 refine AO.c ?_
     refine n1 ?_;refine AW.iteB (GL.ev _) (fun h8 => ?_) (fun h8 => ?_)
     ·
      skip;refine n2 ?_;refine AO.c ?_;refine na <|BQ.ret <|SQ.ret <|AW.out <|LU.ret <|BQ.ret <|SQ.ret ?_;refine Fin.ret (Gh.refl) noid1 ?_;have : ((List.range o.syms.length).all fun k => symbolB o k) = false := range_all_false hlt (by simpa using h8);unfold shapeB; rw [this, Bool.and_false]; rfl
     ·
      have hi : ((List.range (i + 1)).all fun k => symbolB o k) = true := by
       rw [range_all_succ, hx3];simpa using h8
      refine n9 ?_;refine AO.c ?_;refine AO.oo ?_;refine AO.c ?_;refine AO.nil ?_;exact AW.backU [.f, .k, .f, .f, .f, .f, .f, .f, .k, .F, .F, .F, .F, .F, .F, .F, .F, .F, .F, .F, .F, .F, .F, .F, .F, .F, .F, .f, .f, .f, .f] (m3 - 1) (i + 1, j) (by omega) (by (try dsimp only); exact ⟨by omega, by omega, hi⟩) (by first | rfl | (simp; done)) (by first | rfl | (simp; done))
    ·
     have hys : ((List.range o.syms.length).all fun k => symbolB o k) = true := by
      rw [← hx3, show i = o.syms.length by simp only [decide_eq_false_iff_not] at h7; omega]
     refine AW.exit <|SQ.exit <|AW.out <|LU.exit <|BQ.exit <|SQ.normal <|n8 ?_;refine AO.c ?_;refine nb ?_
     refine AW.loopU2 [.f, .k, .F, .k, .F, .F, .F, .F, .F, .F, .F, .F, .F, .F, .F, .F, .F, .F, .F, .F, .F, .F, .f, .f] (fun (i j : Nat) => [(10, .v (.int .i64 (i)))]) (fun i j => Hn n0 (z0 o j)) (fun m i j => i ≤ o.sig.length ∧ m = o.sig.length - i ∧ ((o.sig.take i).all fun x => decide (0 ≤ x) && decide (x < o.syms.length)) = true) (o.sig.length) (0) (j) ⟨by omega, by omega, rfl⟩ (by first | rfl | (simp; done)) (by first | rfl | (simp; done)) ?_
     rintro m4 i j ⟨hx1, hx2, hx3⟩
     refine n8 ?_;iterate 5 refine AO.c ?_
     refine n1 ?_;refine AW.iteB (GL.ev _) (fun h9 => ?_) (fun h9 => ?_)
     ·
      have hlt : i < o.sig.length := by simp only [decide_eq_true_eq] at h9; omega
      refine n5 <|AW.seq' <|AW.block' <|AW.seq' ?_;refine AW.drawsZ [] (.one 0 false (.one 1 false (.one 2 false (.one 3 false (.one 4 false (.one 5 false (.one 6 false (.one 7 false (.one 8 false (.one 9 false (.one 10 false (.one 11 false (.one 12 false (.one 13 false (.one 14 false (.one 15 false (.one 16 false .nil))))))))))))))))) (by kernel_rfl) rfl (by kernel_rfl) ?_
      iterate 3 refine AZ.c rfl ?_
      refine AZ.oo rfl ?_;iterate 3 refine AZ.c rfl ?_
      iterate 3 refine AZ.gx rfl ?_
      refine AZ.gxoo rfl ?_;iterate 5 refine AZ.gx rfl ?_
      refine AZ.c rfl ?_;refine AZ.done ?_;refine SQ.normal ?_;refine AW.iteB (GL.ev _) (fun h10 => ?_) (fun h10 => ?_)
      ·
       skip;refine n2 ?_;refine AO.c ?_;refine na <|BQ.ret <|SQ.ret <|AW.out <|LU.ret <|BQ.ret <|SQ.ret ?_;refine Fin.ret (Gh.refl) noid1 ?_;have : (o.sig.all fun x => decide (0 ≤ x) && decide (x < o.syms.length)) = false := by
        refine all_false_at hlt ?_;rw [← Bool.not_eq_true];simp only [Bool.or_eq_true, Bool.and_eq_true, decide_eq_true_eq] at h10 ⊢;omega
       unfold shapeB; rw [this, Bool.and_false]; rfl
      ·
       have hi : ((o.sig.take (i + 1)).all fun x => decide (0 ≤ x) && decide (x < o.syms.length)) = true := by
        rw [all_take_succ hlt, hx3];simp only [Bool.or_eq_false_iff, decide_eq_false_iff_not] at h10;rw [decide_eq_true (by omega), decide_eq_true (by omega)]; rfl
       refine n9 ?_;refine AO.c ?_;refine AO.oo ?_;refine AO.c ?_;refine AO.nil ?_;exact AW.backU [.f, .k, .F, .k, .F, .F, .F, .F, .F, .F, .F, .F, .F, .F, .F, .F, .F, .F, .F, .F, .F, .F, .f, .f] (m4 - 1) (i + 1, j) (by omega) (by (try dsimp only); exact ⟨by omega, by omega, hi⟩) (by first | rfl | (simp; done)) (by first | rfl | (simp; done))
     ·
      have hsg : (o.sig.all fun x => decide (0 ≤ x) && decide (x < o.syms.length)) = true := by
       rw [← hx3, List.take_of_length_le];simp only [decide_eq_false_iff_not] at h9; omega
      refine AW.exit <|SQ.exit <|AW.out <|LU.exit <|BQ.exit <|SQ.normal <|n2 ?_;refine AO.c ?_;refine na ?_;refine Fin.ret (Gh.refl) noid1 ?_;unfold shapeB; rw [h0, hgs, hss, hys, hsg]; rfl
theorem and_pow {n : Int} (k : Nat) (h0 : 0 ≤ n) (h1 : n ≤ 9223372036854775807) (hk : k < 63) : IntKind.i64.wrap (BitVec.ofInt IntKind.i64.bits n &&& BitVec.ofInt IntKind.i64.bits (2 ^ k : Nat)).toNat = if n / (2 ^ k : Nat) % 2 = 1 then (2 ^ k : Nat) else 0 := by
 obtain ⟨m, rfl⟩ := Int.eq_ofNat_of_zero_le h0;have hp : (2 : Nat) ^ k < 2 ^ 63 := Nat.pow_lt_pow_right (by decide) hk;have e1 : (BitVec.ofInt IntKind.i64.bits (m : Int)).toNat = m := by
  simp only [IntKind.bits, BitVec.ofInt_natCast, BitVec.toNat_ofNat];exact Nat.mod_eq_of_lt (by omega)
 have e2 : (BitVec.ofInt IntKind.i64.bits ((2 ^ k : Nat) : Int)).toNat = 2 ^ k := by
  simp only [IntKind.bits, BitVec.ofInt_natCast, BitVec.toNat_ofNat];exact Nat.mod_eq_of_lt (by omega)
 have e3 : m &&& 2 ^ k = if m / 2 ^ k % 2 = 1 then 2 ^ k else 0 := by
  have hb : m.testBit k = decide (m / 2 ^ k % 2 = 1) := by rw [Nat.testBit_eq_decide_div_mod_eq]
  apply Nat.eq_of_testBit_eq;intro i;rw [Nat.testBit_and, Nat.testBit_two_pow];by_cases hi : k = i
  · subst hi
    rw [hb];by_cases h : m / 2 ^ k % 2 = 1 <;> simp [h, Nat.testBit_two_pow]
  · split <;> simp [hi, Nat.testBit_two_pow]
 rw [BitVec.toNat_and, e1, e2, e3];have hc : ((m : Int) / ((2 ^ k : Nat) : Int) % 2 = 1) ↔ (m / 2 ^ k % 2 = 1) := by
  rw [← Int.natCast_ediv]; omega
 by_cases h : m / 2 ^ k % 2 = 1
 · rw [if_pos h, if_pos (hc.2 h)]
   exact wi64' (by omega)
 · rw [if_neg h, if_neg (fun h' => h (hc.1 h'))]
   exact wi64' (by omega)
theorem and16 {n : Int} (h0 : 0 ≤ n) (h1 : n ≤ 9223372036854775807) : decide (IntKind.i64.wrap (BitVec.ofInt IntKind.i64.bits n &&& BitVec.ofInt IntKind.i64.bits 16).toNat = 0) = !hasF n 16 := by
 have := and_pow 4 h0 h1 (by decide);rw [show ((2 ^ 4 : Nat) : Int) = 16 from rfl] at this;rw [this];unfold hasF;by_cases h : n / 16 % 2 = 1 <;> simp [h, h0]
theorem and32 {n : Int} (h0 : 0 ≤ n) (h1 : n ≤ 9223372036854775807) : decide (IntKind.i64.wrap (BitVec.ofInt IntKind.i64.bits n &&& BitVec.ofInt IntKind.i64.bits 32).toNat ≠ 0) = hasF n 32 := by
 have := and_pow 5 h0 h1 (by decide);rw [show ((2 ^ 5 : Nat) : Int) = 32 from rfl] at this;rw [this];unfold hasF;by_cases h : n / 32 % 2 = 1 <;> simp [h, h0]
def splitZ : Int → Int → List Int → List (Int × Int)
 | _, _, [] => []
 | at_, i, x :: xs => if x = 0 then (at_, i + 1 - at_) :: splitZ (i + 1) (i + 1) xs else splitZ at_ (i + 1) xs
def splitE (e len : Int) : Nat → Int → List (Int × Int)
 | 0, _ => []
 | k + 1, at_ => if at_ + e ≤ len then (at_, e) :: splitE e len k (at_ + e) else []
def splitB (s : SecD) : List (Int × Int) :=
 if hasF s.flags 16 = false then [(0, s.size)] else if hasF s.flags 32 = true then splitZ 0 0 s.data else if s.ent > 0 then splitE s.ent s.data.length s.data.length 0 else []
def splitR (str : Bool) (e : Int) : Int → Int → List Int → List (Int × Int)
 | _, _, [] => []
 | at_, i, x :: xs => if (if str then x = 0 else i + 1 - at_ = e) then (at_, i + 1 - at_) :: splitR str e (i + 1) (i + 1) xs else splitR str e at_ (i + 1) xs
def splitRB (s : SecD) : List (Int × Int) := if hasF s.flags 16 = false then [(0, s.size)] else splitR (hasF s.flags 32) s.ent 0 0 s.data
theorem piece_Split (s : SecD) (hs : s.ok) (hf : 0 ≤ s.flags) (hd : s.data.length ≤ 1000000000) (he : s.ent ≤ 1000000000) : A0 Tryz.prog 48 [.agg (secA s)] (fun ret => ret = .rd 2 ((splitB s).map pcA)) := by
 have hs0 := hs;obtain ⟨q1, q2, q3, q4, q5, q6, q7, q8, q9, q10, q11⟩ := hs;unfold I64 at q3 q5;refine A0.body 68 Tryz.func48 rfl rfl Tryz.ntmps48 fun base n0 => ?_
 refine n2 ?_;refine AO.ww ?_;refine AO.c ?_;refine n3 ?_;refine AO.c ?_;refine n1 <|AW.seq' <|AW.block' <|n2 ?_;iterate 5 refine AO.c ?_
 refine n1 ?_;refine AW.iteB (GL.ev _) (fun h0 => ?_) (fun h0 => ?_)
 ·
  rw [and16 hf q3.2] at h0;refine n2 ?_;iterate 3 refine AO.c ?_
  refine AO.rr ?_;refine AO.c ?_;refine na <|BQ.ret <|SQ.ret ?_;refine Fin.ret (Gh.refl) noid1 ?_;unfold splitB; rw [if_pos (by simpa using h0)]; rfl
 ·
  rw [and16 hf q3.2, Bool.not_eq_false'] at h0;refine n2 ?_;iterate 5 refine AO.c ?_
  refine n1 ?_;refine AW.iteB (GL.ev _) (fun h1 => ?_) (fun h1 => ?_)
  ·
   rw [and32 hf q3.2] at h1;refine n2 ?_;refine AO.c ?_;refine n3 ?_;iterate 4 refine AO.c ?_
   refine nb ?_;refine AW.ghost (Gh.adoptM 3 133 2) ?_
   refine AW.loopU4 [.f, .f, .f, .k, .k, .F, .F, .f, .f, .k, .k, .k, .F, .F, .F, .F, .F, .f, .f] (fun (i ep : Nat) (p : Int) (out : List (Int × Int)) => [(3, .own (n0 + 1) ep 0 out.length), (4, .v (.int .i64 (p))), (25, .v (.int .i64 (i)))]) (fun i ep p out => Hn n0 [some (.box 41 (secA s)), some (.row 133 2 (ep) ((out).map pcA))]) (fun m i ep p out => i ≤ s.data.length ∧ m = s.data.length - i ∧ (0 ≤ p ∧ p ≤ i ∧ out.length ≤ i) ∧ splitZ 0 0 s.data = out ++ splitZ p i (s.data.drop i)) (s.data.length) (0) (0) (0) ([]) ⟨by omega, by omega, by simp, rfl⟩ (by first | rfl | (simp; done)) (by first | rfl | (simp; done)) ?_
   rintro m0 i ep p out ⟨hx1, hx2, hx3, hx4⟩
   refine n2 ?_;refine AO.c ?_;refine n1 <|AW.seq' ?_;refine AW.iteB (GL.ev _) (fun h2 => ?_) (fun h2 => ?_)
   ·
    rw [decide_eq_true_eq] at h2;have hlt : i < s.data.length := by omega
    rw [drop_getD0 hlt, splitZ] at hx4;refine nc ?_;refine AO.c ?_;refine AO.oo ?_;iterate 3 refine AO.c ?_
    refine n3 ?_;iterate 2 refine AO.c ?_
    refine n1 ?_;refine AW.iteB (GL.ev _) (fun h3 => ?_) (fun h3 => ?_)
    ·
     rw [decide_eq_true_eq] at h3;rw [if_pos h3] at hx4;refine n2 ?_;iterate 3 refine AO.c ?_
     refine AO.oo ?_;refine AO.c ?_;refine AO.oo ?_;refine AO.c ?_;refine AO.rr ?_;refine AO.ww ?_;refine AO.c ?_;refine n1 <|AW.region ?_;refine AO.c ?_;refine AO.oo ?_;refine AO.c ?_;refine n7 ?_;refine AO.oo ?_;refine AO.c ?_;refine AO.nil ?_
     exact AW.backU [.f, .f, .f, .k, .k, .F, .F, .f, .f, .k, .k, .k, .F, .F, .F, .F, .F, .f, .f] (m0 - 1) (i + 1, ep + 1, (i : Int) + 1, out ++ [(p, (i : Int) + 1 - p)]) (by omega) (by (try dsimp only); exact ⟨by omega, by omega, ⟨by omega, by omega, by simp; omega⟩, by rw [hx4]; simp⟩) (by first | rfl | (simp; done)) (by first | rfl | (simp; done))
    ·
     rw [decide_eq_false_iff_not] at h3;rw [if_neg h3] at hx4;refine n9 ?_;refine AO.oo ?_;refine AO.c ?_;refine AO.nil ?_
     exact AW.backU [.f, .f, .f, .k, .k, .F, .F, .f, .f, .k, .k, .k, .F, .F, .F, .F, .F, .f, .f] (m0 - 1) (i + 1, ep, p, out) (by omega) (by (try dsimp only); exact ⟨by omega, by omega, ⟨by omega, by omega, by omega⟩, hx4⟩) (by first | rfl | (simp; done)) (by first | rfl | (simp; done))
   ·
    rw [decide_eq_false_iff_not] at h2;refine AW.exit <|SQ.exit <|AW.out <|LU.exit <|BQ.exit <|BQ.normal <|SQ.normal <|n2 ?_;iterate 2 refine AO.c ?_
    refine na ?_;refine Fin.ret (Gh.freezeM 2 pcA out rfl rfl (by omega)) noid1 ?_;unfold splitB; rw [if_neg (by simp [h0]), if_pos h1, hx4, List.drop_of_length_le (by omega), splitZ, List.append_nil]; rfl
  ·
   rw [and32 hf q3.2] at h1;refine n2 ?_;iterate 4 refine AO.c ?_
   refine n1 ?_;refine AW.iteB (GL.ev _) (fun h4 => ?_) (fun h4 => ?_)
   ·
    rw [decide_eq_true_eq] at h4;refine n2 ?_;refine AO.c ?_;refine nb ?_;refine AW.ghost (Gh.adoptM 3 133 2) ?_
    refine AW.loopU3 [.f, .k, .f, .k, .f, .f, .f, .k, .F, .F, .F, .F, .F, .F, .F, .f, .f, .f, .f] (fun (ep : Nat) (p : Int) (out : List (Int × Int)) => [(3, .own (n0 + 1) ep 0 out.length), (7, .v (.int .i64 (p)))]) (fun ep p out => Hn n0 [some (.box 41 (secA s)), some (.row 133 2 (ep) ((out).map pcA))]) (fun m ep p out => (0 ≤ p ∧ p ≤ s.data.length ∧ (out.length : Int) ≤ p ∧ (s.data.length : Int) - p ≤ m) ∧ splitE s.ent s.data.length s.data.length 0 = out ++ splitE s.ent s.data.length m p) (s.data.length) (0) (0) ([]) ⟨by simp, rfl⟩ (by first | rfl | (simp; done)) (by first | rfl | (simp; done)) ?_
    rintro m1 ep p out ⟨hx3, hx4⟩
    refine n8 ?_;iterate 3 refine AO.c ?_
    refine AO.oo ?_;iterate 4 refine AO.c ?_
    refine n1 ?_;refine AW.iteB (GL.ev _) (fun h5 => ?_) (fun h5 => ?_)
    ·
     rw [decide_eq_true_eq] at h5;have hk0 : m1 ≠ 0 := fun h => by subst h; omega
     obtain ⟨k, rfl⟩ : ∃ k, m1 = k + 1 := ⟨m1 - 1, by omega⟩;rw [splitE, if_pos h5] at hx4;refine n5 <|AW.seq' <|AW.block' <|AW.region ?_;iterate 5 refine AO.c ?_
     refine AO.rr ?_;refine AO.ww ?_;refine AO.c ?_;refine n7 ?_;iterate 3 refine AO.c ?_
     refine AO.oo ?_;refine AO.c ?_;refine AO.nil ?_;exact AW.backU [.f, .k, .f, .k, .f, .f, .f, .k, .F, .F, .F, .F, .F, .F, .F, .f, .f, .f, .f] (k) (ep + 1, p + s.ent, out ++ [(p, s.ent)]) (by omega) (by (try dsimp only); exact ⟨⟨by omega, by omega, by simp; omega, by omega⟩, by rw [hx4]; simp⟩) (by first | rfl | (simp; done)) (by first | rfl | (simp; done))
    ·
     rw [decide_eq_false_iff_not] at h5;refine AW.exit <|SQ.exit <|AW.out <|LU.exit <|BQ.exit <|BQ.normal <|SQ.normal <|n2 ?_;iterate 2 refine AO.c ?_
     refine na ?_;refine Fin.ret (Gh.freezeM 2 pcA out rfl rfl (by omega)) noid1 ?_;unfold splitB; rw [if_neg (by simp [h0]), if_neg (by simp [h1]), if_pos h4, hx4];have : splitE s.ent s.data.length m1 p = [] := by
      cases m1 with
      | zero => rfl
      | succ k => rw [splitE, if_neg h5]
     rw [this, List.append_nil]; rfl
   ·
    rw [decide_eq_false_iff_not] at h4;refine AW.skip <|BQ.normal <|SQ.normal <|n2 ?_;iterate 2 refine AO.c ?_
    refine na ?_;refine Fin.ret (Gh.nilM (α := Int × Int) 2 2 pcA) noid1 ?_;unfold splitB; rw [if_neg (by simp [h0]), if_neg (by simp [h1]), if_neg h4]; rfl
theorem ref_Split (s : SecD) (hs : s.ok) (hd : s.data.length ≤ 1000000000) : A0 Tryz.prog 38 [.agg (secA s)] (fun ret => ret = .rd 2 ((splitRB s).map pcA)) := by
 have hs0 := hs;obtain ⟨q1, q2, q3, q4, q5, q6, q7, q8, q9, q10, q11⟩ := hs;unfold I64 at q3 q5;refine A0.body 54 Tryz.func38 rfl rfl Tryz.ntmps38 fun base n0 => ?_
 refine n2 ?_;refine AO.ww ?_;refine AO.c ?_;refine n3 ?_;refine AO.c ?_;refine AO.call1 Tryz.func19 rfl rfl (ref_Has _ _ hs0 (by omega)) ?_;refine AO.c ?_;refine n3 ?_;refine AO.c ?_;refine AO.call1 Tryz.func19 rfl rfl (ref_Has _ _ hs0 (by omega)) ?_;refine AO.c ?_;refine n4 ?_;iterate 2 refine AO.c ?_
 refine n1 ?_;refine AW.iteB (GL.ev _) (fun h0 => ?_) (fun h0 => ?_)
 ·
  skip;refine n2 ?_;iterate 3 refine AO.c ?_
  refine AO.rr ?_;refine AO.c ?_;refine na <|SQ.ret ?_;refine Fin.ret (Gh.refl) noid1 ?_;unfold splitRB; rw [if_pos (by simpa using h0)]; rfl
 ·
  rw [Bool.not_eq_false'] at h0;refine n6 ?_;refine AO.c ?_;refine n3 ?_;refine AO.c ?_;refine n4 ?_;refine AO.c ?_;refine nb ?_;refine AW.ghost (Gh.adoptM 5 120 2) ?_
  refine AW.loopU4 [.f, .k, .f, .f, .k, .k, .k, .k, .F, .F, .F, .F, .F, .f, .f, .f, .f, .f, .f] (fun (i ep : Nat) (p : Int) (out : List (Int × Int)) => [(5, .own (n0 + 1) ep 0 out.length), (6, .v (.int .i64 (p))), (7, .v (.int .i64 (i)))]) (fun i ep p out => Hn n0 [some (.box 41 (secA s)), some (.row 120 2 (ep) ((out).map pcA))]) (fun m i ep p out => i ≤ s.data.length ∧ m = s.data.length - i ∧ (0 ≤ p ∧ p ≤ i ∧ out.length ≤ i) ∧ splitR (hasF s.flags 32) s.ent 0 0 s.data = out ++ splitR (hasF s.flags 32) s.ent p i (s.data.drop i)) (s.data.length) (0) (0) (0) ([]) ⟨by omega, by omega, by simp, rfl⟩ (by first | rfl | (simp; done)) (by first | rfl | (simp; done)) ?_
  rintro m0 i ep p out ⟨hx1, hx2, hx3, hx4⟩
  refine n8 ?_;iterate 5 refine AO.c ?_
  refine n1 ?_;refine AW.iteB (GL.ev _) (fun h1 => ?_) (fun h1 => ?_)
  ·
   rw [decide_eq_true_eq] at h1;have hlt : i < s.data.length := by omega
   rw [drop_getD0 hlt, splitR] at hx4;refine nc ?_;iterate 3 refine AO.c ?_
   refine AO.oo ?_;iterate 3 refine AO.c ?_
   refine n4 ?_;iterate 2 refine AO.c ?_
   refine n1 ?_;refine AW.iteB (GL.ev _) (fun h2 => ?_) (fun h2 => ?_)
   ·
    rw [Bool.not_eq_true'] at h2;rw [h2] at hx4;simp only [Bool.false_eq_true, if_false] at hx4;refine AW.region ?_;refine AO.c ?_;refine AO.oo ?_;refine AO.c ?_;refine AO.oo ?_;iterate 4 refine AO.c ?_
    refine n3 ?_;refine AO.c ?_;refine n1 ?_;refine AW.iteB (GL.ev _) (fun h3 => ?_) (fun h3 => ?_)
    ·
     rw [decide_eq_true_eq] at h3;rw [if_pos h3] at hx4;refine n2 ?_;iterate 3 refine AO.c ?_
     refine AO.oo ?_;refine AO.c ?_;refine AO.oo ?_;refine AO.c ?_;refine AO.rr ?_;refine AO.ww ?_;refine AO.c ?_;refine n1 <|AW.region ?_;refine AO.c ?_;refine AO.oo ?_;refine AO.c ?_;refine n7 ?_;refine AO.c ?_;refine AO.oo ?_;refine AO.c ?_;refine AO.nil ?_
     exact AW.backU [.f, .k, .f, .f, .k, .k, .k, .k, .F, .F, .F, .F, .F, .f, .f, .f, .f, .f, .f] (m0 - 1) (i + 1, ep + 1, (i : Int) + 1, out ++ [(p, (i : Int) + 1 - p)]) (by omega) (by (try dsimp only); exact ⟨by omega, by omega, ⟨by omega, by omega, by simp; omega⟩, by rw [h2]; rw [hx4]; simp⟩) (by first | rfl | (simp; done)) (by first | rfl | (simp; done))
    ·
     rw [decide_eq_false_iff_not] at h3;rw [if_neg h3] at hx4;refine n9 ?_;refine AO.c ?_;refine AO.oo ?_;refine AO.c ?_;refine AO.nil ?_
     exact AW.backU [.f, .k, .f, .f, .k, .k, .k, .k, .F, .F, .F, .F, .F, .f, .f, .f, .f, .f, .f] (m0 - 1) (i + 1, ep, p, out) (by omega) (by (try dsimp only); exact ⟨by omega, by omega, ⟨by omega, by omega, by omega⟩, by rw [h2]; exact hx4⟩) (by first | rfl | (simp; done)) (by first | rfl | (simp; done))
   ·
    rw [Bool.not_eq_false'] at h2;rw [h2] at hx4;simp only [if_true] at hx4;refine n6 ?_;refine AO.c ?_;refine n1 ?_;refine AW.iteB (GL.ev _) (fun h3 => ?_) (fun h3 => ?_)
    ·
     rw [decide_eq_true_eq] at h3;rw [if_pos h3] at hx4;refine n2 ?_;iterate 3 refine AO.c ?_
     refine AO.oo ?_;refine AO.c ?_;refine AO.oo ?_;refine AO.c ?_;refine AO.rr ?_;refine AO.ww ?_;refine AO.c ?_;refine n1 <|AW.region ?_;refine AO.c ?_;refine AO.oo ?_;refine AO.c ?_;refine n7 ?_;refine AO.c ?_;refine AO.oo ?_;refine AO.c ?_;refine AO.nil ?_
     exact AW.backU [.f, .k, .f, .f, .k, .k, .k, .k, .F, .F, .F, .F, .F, .f, .f, .f, .f, .f, .f] (m0 - 1) (i + 1, ep + 1, (i : Int) + 1, out ++ [(p, (i : Int) + 1 - p)]) (by omega) (by (try dsimp only); exact ⟨by omega, by omega, ⟨by omega, by omega, by simp; omega⟩, by rw [h2]; rw [hx4]; simp⟩) (by first | rfl | (simp; done)) (by first | rfl | (simp; done))
    ·
     rw [decide_eq_false_iff_not] at h3;rw [if_neg h3] at hx4;refine n9 ?_;refine AO.c ?_;refine AO.oo ?_;refine AO.c ?_;refine AO.nil ?_
     exact AW.backU [.f, .k, .f, .f, .k, .k, .k, .k, .F, .F, .F, .F, .F, .f, .f, .f, .f, .f, .f] (m0 - 1) (i + 1, ep, p, out) (by omega) (by (try dsimp only); exact ⟨by omega, by omega, ⟨by omega, by omega, by omega⟩, by rw [h2]; exact hx4⟩) (by first | rfl | (simp; done)) (by first | rfl | (simp; done))
  ·
   rw [decide_eq_false_iff_not] at h1;refine AW.exit <|SQ.exit <|AW.out <|LU.exit <|BQ.exit <|SQ.normal <|n2 ?_;iterate 2 refine AO.c ?_
   refine na ?_;refine Fin.ret (Gh.freezeM 2 pcA out rfl rfl (by omega)) noid1 ?_;unfold splitRB; rw [if_neg (by simp [h0]), hx4, List.drop_of_length_le (by omega), splitR, List.append_nil]; rfl
@[reducible] def band (p q : Int) : Int := IntKind.i64.wrap ((BitVec.ofInt IntKind.i64.bits p &&& BitVec.ofInt IntKind.i64.bits q).toNat)
def hasP (f k : Int) : Bool := decide (band f k = k)
theorem ofInt_nat {m : Nat} (h : m < 2 ^ 63) : (BitVec.ofInt IntKind.i64.bits (m : Int)).toNat = m := by
 simp only [IntKind.bits, BitVec.ofInt_natCast, BitVec.toNat_ofNat];exact Nat.mod_eq_of_lt (by omega)
theorem band_nat {m k : Nat} (hm : m < 2 ^ 63) (hk : k < 2 ^ 63) : band (m : Int) (k : Int) = ((m &&& k : Nat) : Int) := by
 unfold band;rw [BitVec.toNat_and, ofInt_nat hm, ofInt_nat hk];have : m &&& k ≤ m := Nat.and_le_left;exact wi64' (by omega)
theorem andNot_nat {m k : Nat} (hm : m < 2 ^ 63) (hk : k < 2 ^ 63) : (Go.bits .andNot .i64 (m : Int) (k : Int) = 0) ↔ m &&& k = m := by
 have hb : ∀ a b : BitVec 64, a &&& ~~~b = 0#64 ↔ a &&& b = a := by
  intro a b
  constructor
  · intro h
    apply BitVec.eq_of_getLsbD_eq;intro i hi;have := congrArg (fun z => z.getLsbD i) h;simp only [BitVec.getLsbD_and, BitVec.getLsbD_not, hi, decide_true, Bool.true_and, BitVec.getLsbD_zero] at this ⊢
    cases ha : a.getLsbD i <;> cases hb : b.getLsbD i <;> simp_all
  · intro h
    apply BitVec.eq_of_getLsbD_eq;intro i hi;have := congrArg (fun z => z.getLsbD i) h;simp only [BitVec.getLsbD_and, BitVec.getLsbD_not, hi, decide_true, Bool.true_and, BitVec.getLsbD_zero] at this ⊢
    cases ha : a.getLsbD i <;> cases hb : b.getLsbD i <;> simp_all
 have e0 : Go.bits .andNot .i64 (m : Int) (k : Int) = IntKind.i64.wrap ((BitVec.ofInt 64 (m : Int) &&& ~~~ BitVec.ofInt 64 (k : Int)).toNat : Int) := rfl;have hle : (BitVec.ofInt 64 (m : Int) &&& ~~~ BitVec.ofInt 64 (k : Int)).toNat ≤ m := by
  rw [BitVec.toNat_and, show (BitVec.ofInt 64 (m : Int)).toNat = m from ofInt_nat hm];exact Nat.and_le_left
 rw [e0, wi64' (by omega)];have h1 := hb (BitVec.ofInt 64 (m : Int)) (BitVec.ofInt 64 (k : Int))
 constructor
 · intro h
   have h2 := h1.1 (BitVec.eq_of_toNat_eq (by simpa using h));have := congrArg BitVec.toNat h2;rw [BitVec.toNat_and, show (BitVec.ofInt 64 (m : Int)).toNat = m from ofInt_nat hm, show (BitVec.ofInt 64 (k : Int)).toNat = k from ofInt_nat hk] at this;exact this
 · intro h
   have h2 := h1.2 (BitVec.eq_of_toNat_eq (by rw [BitVec.toNat_and, show (BitVec.ofInt 64 (m : Int)).toNat = m from ofInt_nat hm, show (BitVec.ofInt 64 (k : Int)).toNat = k from ofInt_nat hk]; exact h));rw [h2]; rfl
theorem clear_bit {m j : Nat} (h : m / 2 ^ j % 2 = 1) (i : Nat) : (m - 2 ^ j).testBit i = (m.testBit i && decide (i ≠ j)) := by
 have hp : 0 < 2 ^ j := Nat.pow_pos (by decide);obtain ⟨q, hq⟩ : ∃ q, m / 2 ^ j = 2 * q + 1 := ⟨m / 2 ^ j / 2, by omega⟩;have hr : m % 2 ^ j < 2 ^ j := Nat.mod_lt _ hp;have hm : m = 2 ^ j * (2 * q + 1) + m % 2 ^ j := by rw [← hq]; exact (Nat.div_add_mod m (2 ^ j)).symm
 have hm2 : m - 2 ^ j = 2 ^ j * (2 * q) + m % 2 ^ j := by
  have : 2 ^ j * (2 * q + 1) = 2 ^ j * (2 * q) + 2 ^ j := by rw [Nat.mul_add, Nat.mul_one]
  omega
 rw [hm2];have e1 := Nat.testBit_two_pow_mul_add (2 * q) hr i;have e2 := Nat.testBit_two_pow_mul_add (2 * q + 1) hr i;rw [← hm] at e2;rw [e1, e2];by_cases hi : i < j
 · rw [if_pos hi, if_pos hi]
   have : i ≠ j := by omega
   simp [this]
 · rw [if_neg hi, if_neg hi]
   by_cases hij : i = j
   · subst hij
     rw [Nat.sub_self];have : (2 * q).testBit 0 = false := by rw [Nat.testBit_zero]; simp
     rw [this]; simp
   · obtain ⟨k, hk⟩ : ∃ k, i - j = k + 1 := ⟨i - j - 1, by omega⟩
     rw [hk, Nat.testBit_succ, Nat.testBit_succ];have a1 : 2 * q / 2 = q := by omega
     have a2 : (2 * q + 1) / 2 = q := by omega
     rw [a1, a2]; simp [hij]
def clr (m j : Nat) : Nat := if m / 2 ^ j % 2 = 1 then m - 2 ^ j else m
theorem clr_bit (m j i : Nat) : (clr m j).testBit i = (m.testBit i && decide (i ≠ j)) := by
 unfold clr
 split
 · rename_i h; exact clear_bit h i
 · rename_i h
   by_cases hij : i = j
   · subst hij
     rw [Nat.testBit_eq_decide_div_mod_eq, decide_eq_false h]; rfl
   · simp [hij]
theorem flagStep_nat (m j : Nat) : flagStep (m : Int) ((2 ^ j : Nat) : Int) = ((clr m j : Nat) : Int) := by
 unfold flagStep clr;have e : ((m : Int) / ((2 ^ j : Nat) : Int) % 2 = 1) ↔ (m / 2 ^ j % 2 = 1) := by
  rw [← Int.natCast_ediv]; omega
 by_cases h : m / 2 ^ j % 2 = 1
 · rw [if_pos ⟨by omega, e.2 h⟩, if_pos h]
   have : 2 ^ j ≤ m := by
    rcases Nat.lt_or_ge m (2 ^ j) with h2 | h2
    · rw [Nat.div_eq_of_lt h2] at h; cases h
    · exact h2
   omega
 · rw [if_neg (fun h2 => h (e.1 h2.2)), if_neg h]
def bitL : List Nat := [0, 1, 2, 4, 5, 7, 9, 21]
theorem fold_nat : ∀ (l : List Nat) (m : Nat), (l.map fun j => ((2 ^ j : Nat) : Int)).foldl flagStep (m : Int) = ((l.foldl clr m : Nat) : Int)
 | [], _ => rfl
 | j :: l, m => by
  simp only [List.map_cons, List.foldl_cons]
  rw [flagStep_nat]; exact fold_nat l _
theorem clrs_bit : ∀ (l : List Nat) (m i : Nat), (l.foldl clr m).testBit i = (m.testBit i && !l.contains i)
 | [], m, i => by simp
 | j :: l, m, i => by
  rw [List.foldl_cons, clrs_bit l, clr_bit, List.contains_cons, Bool.and_assoc]
  congr 1
  by_cases h : i = j <;> simp [h]
theorem all_bit (i : Nat) : (2097847 : Nat).testBit i = bitL.contains i := by
 by_cases h : i < 22
 · have : ∀ i, i < 22 → (2097847 : Nat).testBit i = bitL.contains i := by decide
   exact this i h
 · rw [Nat.testBit_lt_two_pow (Nat.lt_of_lt_of_le (show 2097847 < 2 ^ 22 by decide) (Nat.pow_le_pow_right (by decide) (by omega)))]
   symm
   rw [← Bool.not_eq_true, List.contains_iff_mem];unfold bitL;simp;omega
theorem flagsB_nat {m : Nat} : flagsB (m : Int) = decide (m &&& 2097847 = m) := by
 unfold flagsB;have e : flagL = bitL.map fun j => ((2 ^ j : Nat) : Int) := rfl
 rw [e, fold_nat, Bool.eq_iff_iff, decide_eq_true_eq, decide_eq_true_eq]
 constructor
 · intro h
   have h : bitL.foldl clr m = 0 := by omega
   apply Nat.eq_of_testBit_eq;intro i;have h1 := clrs_bit bitL m i;rw [h, Nat.zero_testBit] at h1;rw [Nat.testBit_and, all_bit]
   cases hm : m.testBit i <;> cases hc : bitL.contains i <;> simp_all
 · intro h
   have : bitL.foldl clr m = 0 := by
    apply Nat.eq_of_testBit_eq;intro i;rw [clrs_bit, Nat.zero_testBit];have h1 := congrArg (fun z => z.testBit i) h;simp only [Nat.testBit_and, all_bit] at h1
    cases hm : m.testBit i <;> cases hc : bitL.contains i <;> simp_all
   omega
theorem flagsB_neg {f : Int} (h : f < 0) : flagsB f = false := by
 have key : ∀ l : List Int, l.foldl flagStep f = f := by
  intro l
  induction l with
  | nil => rfl
  | cons a l ih =>
   rw [List.foldl_cons];have : flagStep f a = f := by unfold flagStep; rw [if_neg (by omega)]
   rw [this]; exact ih
 unfold flagsB;rw [key]; exact decide_eq_false (by omega)
theorem flagsB_eq {f : Int} (hf : I64 f) : (!(decide (Go.bits .andNot .i64 f 2097847 ≠ 0) || decide (f < 0))) = flagsB f := by
 rcases Int.lt_or_le f 0 with h | h
 · rw [flagsB_neg h, decide_eq_true h, Bool.or_true]; rfl
 · obtain ⟨m, rfl⟩ := Int.eq_ofNat_of_zero_le h
   have hm : m < 2 ^ 63 := by unfold I64 at hf; omega
   have h2 := andNot_nat hm (show 2097847 < 2 ^ 63 by decide);rw [flagsB_nat, decide_eq_false (by omega : ¬ (m : Int) < 0), Bool.or_false, Bool.eq_iff_iff];simp only [Bool.not_eq_true', decide_eq_false_iff_not, Decidable.not_not, decide_eq_true_eq];exact h2
theorem hasP_pow {f : Int} (h0 : 0 ≤ f) (h1 : f ≤ 9223372036854775807) {k : Nat} (hk : k < 63) : hasP f ((2 ^ k : Nat) : Int) = hasF f ((2 ^ k : Nat) : Int) := by
 unfold hasP hasF band;rw [and_pow k h0 h1 hk];have hp : 0 < 2 ^ k := Nat.pow_pos (by decide);by_cases h : f / ((2 ^ k : Nat) : Int) % 2 = 1
 · rw [if_pos h, decide_eq_true (rfl : (((2 ^ k : Nat) : Int)) = _), decide_eq_true h0, decide_eq_true h]; rfl
 · rw [if_neg h]
   have : ¬ (((0 : Nat) : Int) = ((2 ^ k : Nat) : Int)) := by omega
   rw [decide_eq_false this, decide_eq_false h, Bool.and_false]
theorem hasP_5 {f : Int} (h0 : 0 ≤ f) (h1 : f ≤ 9223372036854775807) : hasP f 5 = (hasF f 1 && hasF f 4) := by
 obtain ⟨m, rfl⟩ := Int.eq_ofNat_of_zero_le h0;have hm : m < 2 ^ 63 := by omega
 unfold hasP;have e := band_nat hm (show 5 < 2 ^ 63 by decide);rw [show band (m : Int) 5 = ((m &&& 5 : Nat) : Int) from e];have f1 : hasF (m : Int) 1 = m.testBit 0 := by
  unfold hasF; rw [Nat.testBit_eq_decide_div_mod_eq, Bool.eq_iff_iff]; simp; omega
 have f4 : hasF (m : Int) 4 = m.testBit 2 := by
  unfold hasF; rw [Nat.testBit_eq_decide_div_mod_eq, Bool.eq_iff_iff]; simp; omega
 rw [f1, f4, Bool.eq_iff_iff, decide_eq_true_eq, Bool.and_eq_true];have hb : ∀ i, (5 : Nat).testBit i = (decide (i = 0) || decide (i = 2)) := by
  intro i;by_cases h : i < 3
  · have : ∀ i, i < 3 → (5 : Nat).testBit i = (decide (i = 0) || decide (i = 2)) := by decide
    exact this i h
  · rw [Nat.testBit_lt_two_pow (Nat.lt_of_lt_of_le (show 5 < 2 ^ 3 by decide) (Nat.pow_le_pow_right (by decide) (by omega)))]
    symm; simp; omega
 constructor
 · intro h
   have h : m &&& 5 = 5 := by omega
   have h2 := congrArg (fun z => z.testBit 0) h;have h3 := congrArg (fun z => z.testBit 2) h;simp only [Nat.testBit_and, hb] at h2 h3;simpa using And.intro h2 h3
 · rintro ⟨h2, h3⟩
   have : m &&& 5 = 5 := by
    apply Nat.eq_of_testBit_eq;intro i;rw [Nat.testBit_and, hb];by_cases hi : i = 0
    · subst hi; simp [h2]
    · by_cases hi2 : i = 2
      · subst hi2; simp [h3]
      · simp [hi, hi2]
   omega
def typedP (s : SecD) : Bool :=
 bif decide (s.typ = 1) then decide (s.size = s.data.length) && decide (s.size ≤ 16384)
 else bif decide (s.typ = 8) then decide ((s.data.length : Int) = 0) && withinB s.size 2147483647 && hasP s.flags 1 && !hasP s.flags 16 else false
def mergedP (s : SecD) : Bool :=
 bif !hasP s.flags 16 then decide (s.ent = 0) && !hasP s.flags 32
 else bif hasP s.flags 1 || hasP s.flags 4 || decide ((s.rels.length : Int) > 0) then false
 else bif hasP s.flags 32 then decide (s.ent = 1) && decide (s.align = 1) && (decide ((s.data.length : Int) = 0) || decide (s.data.getD ((s.data.length : Int) - 1).toNat 0 = 0))
 else (decide (s.ent = 4) || decide (s.ent = 8) || decide (s.ent = 16)) && decide (s.align ≤ s.ent) && decide (s.size % s.ent = 0)
theorem typed_size {s : SecD} (h : typedP s = true) : 0 ≤ s.size := by
 unfold typedP withinB at h;by_cases h1 : s.typ = 1
 · rw [decide_eq_true h1, cond_true] at h
   simp only [Bool.and_eq_true, decide_eq_true_eq] at h;omega
 · rw [decide_eq_false h1, cond_false] at h
   by_cases h8 : s.typ = 8
   · rw [decide_eq_true h8, cond_true] at h
     simp only [Bool.and_eq_true, decide_eq_true_eq] at h;omega
   · rw [decide_eq_false h8] at h; cases h
def relGP (many len : Int) : Int → List RelD → Bool
 | _, [] => true
 | e, r :: rs => bif !mayRelB r || decide (r.sym ≥ many) || decide (r.off < e) || decide (r.off > len - widthF r.typ) then false else relGP many len (r.off + widthF r.typ) rs
def relatedP (s : SecD) (many : Int) : Bool := decide ((s.rels.length : Int) ≤ 64) && relGP many s.data.length 0 s.rels
theorem put_len0 (r : RelD) : decide ((((if mayRelB r = true then relB r else []).length : Nat) : Int) = 0) = !mayRelB r := by
 cases h : mayRelB r with
 | true => rw [if_pos rfl, relB_len]; rfl
 | false => rfl
def sectionP (o : ObjD) (i : Int) : Bool :=
 bif !mayS (o.secs.getD (i - 1).toNat default).name || decide (Go.bits .andNot .i64 (o.secs.getD (i - 1).toNat default).flags 2097847 ≠ 0) || decide ((o.secs.getD (i - 1).toNat default).flags < 0) || hasP (o.secs.getD (i - 1).toNat default).flags 5 then false
 else bif decide ((o.secs.getD (i - 1).toNat default).align < 1) || decide ((o.secs.getD (i - 1).toNat default).align > 4096) || decide (band (o.secs.getD (i - 1).toNat default).align ((o.secs.getD (i - 1).toNat default).align - 1) ≠ 0) || !typedP (o.secs.getD (i - 1).toNat default) || !mergedP (o.secs.getD (i - 1).toNat default) then false
 else bif (!(hasP (o.secs.getD (i - 1).toNat default).flags 128 == decide ((o.secs.getD (i - 1).toNat default).link ≠ 0))) || !withinB (o.secs.getD (i - 1).toNat default).link o.secs.length || decide ((o.secs.getD (i - 1).toNat default).link = i) then false
 else (o.groups.any (fun g => g.mem.any fun x => decide (i = x)) == hasP (o.secs.getD (i - 1).toNat default).flags 512) && relatedP (o.secs.getD (i - 1).toNat default) o.syms.length
def symbolP (o : ObjD) (i : Int) : Bool :=
 bif decide (i = 0) then decide ((o.syms.getD i.toNat default).name.toList = emptyS.toList) && (decide ((o.syms.getD i.toNat default).bind = 0) && (decide ((o.syms.getD i.toNat default).typ = 0) && (decide ((o.syms.getD i.toNat default).sec = 0) && (decide ((o.syms.getD i.toNat default).val = 0) && (decide ((o.syms.getD i.toNat default).size = 0) && true)))))
 else bif !mayS (o.syms.getD i.toNat default).name || !withinB (o.syms.getD i.toNat default).bind 2 || !withinB (o.syms.getD i.toNat default).typ 3 || !withinB (o.syms.getD i.toNat default).size 2147483647 || !withinB (o.syms.getD i.toNat default).val 2147483647 then false
 else bif decide ((o.syms.getD i.toNat default).sec < -1) || decide ((o.syms.getD i.toNat default).sec > o.secs.length) then false
 else bif decide ((o.syms.getD i.toNat default).sec > 0) && decide ((o.syms.getD i.toNat default).val > (o.secs.getD ((o.syms.getD i.toNat default).sec - 1).toNat default).size) || decide ((o.syms.getD i.toNat default).sec = 0) && decide ((o.syms.getD i.toNat default).val ≠ 0) then false
 else bif decide ((o.syms.getD i.toNat default).bind = 0) then decide ((o.syms.getD i.toNat default).sec ≠ 0) && decide ((o.syms.getD (i - 1).toNat default).bind = 0)
 else decide ((o.syms.getD i.toNat default).name.toList ≠ emptyS.toList)
theorem obj_has (s : SecD) (k : Int) : A0 Tryz.prog 76 [.agg (secA s), .v (.int .i64 (k))] (fun ret => ret = .v (.bool (hasP s.flags k))) := by
 refine A0.body 11 Tryz.func76 rfl rfl Tryz.ntmps76 fun base n0 => ?_
 refine go ?_;refine AW.ret ?_;refine Fin.ret (Gh.refl) noid1 ?_;rfl
theorem obj_within (n m : Int) : A0 Tryz.prog 59 [.v (.int .i64 (n)), .v (.int .i64 (m))] (fun ret => ret = .v (.bool (withinB n m))) := by
 refine A0.body 12 Tryz.func59 rfl rfl Tryz.ntmps59 fun base n0 => ?_
 refine go ?_;refine AW.ret ?_;refine Fin.ret (Gh.refl) noid1 ?_;rfl
theorem obj_typed (s : SecD) : A0 Tryz.prog 77 [.agg (secA s)] (fun ret => ret = .v (.bool (typedP s))) := by
 refine A0.body 38 Tryz.func77 rfl rfl Tryz.ntmps77 fun base n0 => ?_
 refine go ?_;refine AW.iteB (GL.ev _) (fun h0 => ?_) (fun h0 => ?_)
 ·
  refine go ?_;refine AW.ret <|BQ.ret <|SQ.ret ?_;refine Fin.ret (Gh.refl) noid1 ?_;unfold typedP; simp only [*, cond_true, cond_false]; rfl
 ·
  refine go ?_;refine AW.iteB (GL.ev _) (fun h1 => ?_) (fun h1 => ?_)
  ·
   refine go ?_;refine AO.gxcall1 Tryz.func59 rfl rfl (fun hgd => obj_within _ _) ?_;refine go ?_;refine AO.gxcall1 Tryz.func76 rfl rfl (fun hgd => obj_has _ _) ?_;refine go ?_;refine AO.gxcall1 Tryz.func76 rfl rfl (fun hgd => obj_has _ _) ?_;refine go ?_;refine AW.ret <|BQ.ret <|SQ.ret ?_;refine Fin.ret (Gh.refl) noid1 ?_;unfold typedP; simp only [*, cond_true, cond_false]; rfl
  ·
   refine AW.skip <|BQ.normal ?_;refine go ?_;refine AW.ret ?_;refine Fin.ret (Gh.refl) noid1 ?_;unfold typedP; simp only [*, cond_true, cond_false]; rfl
set_option maxHeartbeats 1000000 in
theorem obj_merged (s : SecD) (hs : s.ok) (hsz : 0 ≤ s.size) : A0 Tryz.prog 78 [.agg (secA s)] (fun ret => ret = .v (.bool (mergedP s))) := by
 obtain ⟨q1, q2, q3, q4, q5, q6, q7, q8, q9, q10, q11⟩ := hs;unfold I64 at q2 q5 q6 q7;rw [maxLen_eq] at q8 q10;refine A0.body 81 Tryz.func78 rfl rfl Tryz.ntmps78 fun base n0 => ?_
 refine go ?_;refine AO.call1 Tryz.func76 rfl rfl (obj_has _ _) ?_;refine go ?_;refine AW.iteB (GL.ev _) (fun h0 => ?_) (fun h0 => ?_)
 ·
  refine go ?_;refine AO.gxcall1 Tryz.func76 rfl rfl (fun hgd => obj_has _ _) ?_;refine go ?_;refine AW.ret <|SQ.ret ?_;refine Fin.ret (Gh.refl) noid1 ?_;unfold mergedP; simp only [*, cond_true, cond_false]; rfl
 ·
  refine go ?_;refine AO.call1 Tryz.func76 rfl rfl (obj_has _ _) ?_;refine go ?_;refine AO.gxcall1 Tryz.func76 rfl rfl (fun hgd => obj_has _ _) ?_;refine go ?_;refine AW.iteB (GL.ev _) (fun h1 => ?_) (fun h1 => ?_)
  ·
   refine go ?_;refine AW.ret <|SQ.ret ?_;refine Fin.ret (Gh.refl) noid1 ?_;unfold mergedP; simp only [*, cond_true, cond_false]; rfl
  ·
   refine go ?_;refine AO.call1 Tryz.func76 rfl rfl (obj_has _ _) ?_;refine go ?_;refine AW.iteB (GL.ev _) (fun h2 => ?_) (fun h2 => ?_)
   ·
    refine gs ?_;iterate 4 refine AO.c ?_
    iterate 3 refine AO.gx ?_
    iterate 2 refine AO.c ?_
    iterate 10 refine AO.gx ?_
    refine AO.gxo (fun h => by omega) ?_;refine AO.gxo (fun h => ?_) ?_
    · simp only [Bool.and_eq_true, Bool.not_eq_true', decide_eq_false_iff_not] at h
      omega
    refine go ?_;refine AW.ret <|SQ.ret ?_;refine Fin.ret (Gh.refl) noid1 ?_;unfold mergedP; simp only [*, cond_true, cond_false]; rfl
   ·
    refine gs ?_;iterate 4 refine AO.c ?_
    iterate 3 refine AO.gx ?_
    iterate 2 refine AO.c ?_
    iterate 3 refine AO.gx ?_
    iterate 2 refine AO.c ?_
    iterate 5 refine AO.gx ?_
    iterate 2 refine AO.c ?_
    iterate 4 refine AO.gx ?_
    refine AO.gxo (fun h => ?_) ?_
    · simp only [Bool.and_eq_true, Bool.or_eq_true, decide_eq_true_eq] at h
      exact ⟨by omega, by omega⟩
    refine go ?_;refine AW.ret ?_;refine Fin.ret (Gh.refl) noid1 ?_;unfold mergedP; simp only [*, cond_true, cond_false]; rfl
set_option maxHeartbeats 1000000 in
theorem obj_related (s : SecD) (many : Int) (hs : s.ok) (hm : I64 many) : A0 Tryz.prog 82 [.agg (secA s), .v (.int .i64 (many))] (fun ret => ret = .v (.bool (relatedP s many))) := by
 obtain ⟨q1, q2, q3, q4, q5, q6, q7, q8, q9, q10, q11⟩ := hs;rw [maxLen_eq] at q8 q10;refine A0.body 54 Tryz.func82 rfl rfl Tryz.ntmps82 fun base n0 => ?_
 refine n2 ?_;refine AO.ww ?_;refine AO.c ?_;refine n4 ?_;iterate 4 refine AO.c ?_
 refine n1 ?_;refine AW.iteB (GL.ev _) (fun h0 => ?_) (fun h0 => ?_)
 ·
  rw [decide_eq_true_eq] at h0;refine n2 ?_;refine AO.c ?_;refine na <|SQ.ret ?_;refine Fin.ret (Gh.refl) noid1 ?_;unfold relatedP; rw [decide_eq_false (by omega)]; rfl
 ·
  rw [decide_eq_false_iff_not] at h0;refine n6 ?_;refine AO.c ?_;refine n4 ?_;iterate 4 refine AO.c ?_
  refine nb ?_
  refine AW.loopU3 [.f, .k, .k, .f, .f, .k, .f, .f, .f, .f, .f, .f, .f, .k, .k, .k, .F, .F, .F, .F, .f, .f, .f, .f, .f, .f] (fun (i j : Nat) (e : Int) => [(5, .v (.int .i64 (e))), (15, .v (.int .i64 (i)))]) (fun i j e => Hn n0 (([some (.box 41 (secA s))] ++ List.replicate j none) ++ [])) (fun m i j e => i ≤ s.rels.length ∧ m = s.rels.length - i ∧ relGP many s.data.length 0 s.rels = relGP many s.data.length e (s.rels.drop i)) (s.rels.length) (0) (0) (0) ⟨by omega, by omega, rfl⟩ (by first | rfl | (simp; done)) (by first | rfl | (simp; done)) ?_
  rintro m0 i j e ⟨hx1, hx2, hx3⟩
  refine n2 ?_;refine AO.c ?_;refine n1 <|AW.seq' ?_;refine AW.iteB (GL.ev _) (fun h1 => ?_) (fun h1 => ?_)
  ·
   rw [decide_eq_true_eq] at h1;have hi : i < s.rels.length := by omega
   have hr := relOk_at q11 hi;rw [drop_getD hi, relGP] at hx3;have hw := widthF_range (s.rels.getD i default).typ;generalize hre : s.rels.getD i default = r at hr hx3 hw;have hr2 := hr.1;unfold I64 at hr2;have hp0 := put_len0 r;refine nc ?_;refine AO.oo ?_;refine AO.c ?_;refine AO.eq 18 (av' := .agg (relA r)) (by rw [hre]) ?_;refine AO.ww ?_;refine AO.sst ?_;refine n1 <|AW.seq' <|AW.seq' ?_
   refine AW.drawsZ [] (.one 0 false (.one 1 true (.one 2 false (.one 3 false (.one 4 false (.one 5 false (.one 6 false (.one 7 false (.one 8 false (.one 9 false (.one 10 false (.one 11 false (.one 12 false (.one 13 false (.one 14 false (.one 15 false (.one 16 false (.one 17 false (.one 18 false (.one 19 false (.one 20 false (.one 21 false (.one 22 false (.one 23 false (.one 24 true (.one 25 false (.one 26 false (.one 27 false .nil)))))))))))))))))))))))))))) (by kernel_rfl) rfl (by kernel_rfl) ?_
   refine AZ.c rfl ?_;refine AZ.call1 rfl Tryz.func108 rfl rfl (rela_Put r hr) ?_;iterate 3 refine AZ.c rfl ?_
   iterate 4 refine AZ.gx rfl ?_
   iterate 2 refine AZ.c rfl ?_
   iterate 4 refine AZ.gx rfl ?_
   iterate 2 refine AZ.c rfl ?_
   iterate 7 refine AZ.gx rfl ?_
   refine AZ.gxcall1 rfl Tryz.func109 rfl rfl (fun hgd => rela_Width _) ?_;refine AZ.gxoo rfl ?_;refine AZ.gx rfl ?_;refine AZ.c rfl ?_;refine AZ.done ?_;refine SQ.normal ?_;refine AW.iteB (GL.ev _) (fun h2 => ?_) (fun h2 => ?_)
   ·
    rw [hp0] at h2;rw [h2, cond_true] at hx3;refine n2 ?_;refine AO.c ?_;refine na <|SQ.ret <|BQ.ret <|SQ.ret <|AW.out <|LU.ret <|BQ.ret <|SQ.ret ?_;refine Fin.ret (Gh.refl) noid1 ?_;unfold relatedP; rw [hx3, Bool.and_false]; rfl
   ·
    rw [hp0] at h2;rw [h2, cond_false] at hx3;simp only [Bool.or_eq_false_iff, Bool.not_eq_false', decide_eq_false_iff_not] at h2;have hmo := mayRel_off h2.1.1.1;refine n5 ?_;refine AW.drawsZ [] (.one 0 false (.one 1 false (.one 2 false (.one 3 false (.one 4 true (.one 5 false (.one 6 false .nil))))))) (by kernel_rfl) rfl (by kernel_rfl) ?_;iterate 4 refine AZ.c rfl ?_
    refine AZ.call1 rfl Tryz.func109 rfl rfl (rela_Width _) ?_;refine AZ.oo rfl ?_;refine AZ.c rfl ?_;refine AZ.done ?_;refine BQ.normal <|SQ.normal <|AW.region ?_;refine AO.oo ?_;refine AO.c ?_;refine AO.nil ?_
    exact AW.backD [.f, .k, .k, .f, .f, .k, .f, .f, .f, .f, .f, .f, .f, .k, .k, .k, .F, .F, .F, .F, .f, .f, .f, .f, .f, .f] ([some (.box 41 (secA s))]) (j) (m0 - 1) (i + 1, j + 1, r.off + widthF r.typ) (by omega) (by (try dsimp only); exact ⟨by omega, by omega, hx3⟩) (by first | rfl | (simp; done)) (by first | rfl | (simp; done))
  ·
   rw [decide_eq_false_iff_not] at h1;refine AW.exit <|SQ.exit <|AW.out <|LU.exit <|BQ.exit <|SQ.normal <|n2 ?_;refine AO.c ?_;refine na ?_;refine Fin.ret (Gh.refl) noid1 ?_;unfold relatedP; rw [hx3, List.drop_of_length_le (by omega), decide_eq_true (by omega)]; rfl
theorem ints_Index (l : List Int) (v : Int) (hl : l.length ≤ 9223372036854775807) : A0 Tryz.prog 106 [.rd 1 (l.map iA), .v (.int .i64 (v))] (fun ret => ret = .v (.int .i64 (idxF (fun x => decide (v = x)) l))) := by
 refine A0.body 19 Tryz.func106 rfl rfl Tryz.ntmps106 fun base n0 => ?_
 refine go ?_;refine AW.loopU [.k, .k, .f, .f, .f, .f, .f, .k, .k, .F, .f, .f] (fun (i : Nat) => [(8, .v (.int .i64 (i)))]) (fun i => Hn n0 []) (fun m i => i ≤ l.length ∧ m = l.length - i ∧ ∀ j, j < i → (fun x => decide (v = x)) (l.getD j default) = false) (l.length) (0) ⟨by omega, rfl, fun j h => by omega⟩ cr cr ?_;rintro m0 i ⟨hx1, hx2, hx3⟩
 refine go ?_;refine AW.iteB (GL.ev _) (fun h0 => ?_) (fun h0 => ?_)
 ·
  rw [decide_eq_true_eq] at h0;have hi : i < l.length := by omega
  refine go ?_;refine AW.iteB (GL.ev _) (fun h1 => ?_) (fun h1 => ?_)
  ·
   refine go ?_;refine AW.ret <|BQ.ret <|SQ.ret <|AW.out <|LU.ret <|BQ.ret <|SQ.ret ?_;refine Fin.ret (Gh.refl) noid1 ?_;rw [idxF_at hi hx3 h1]; rfl
  ·
   refine AW.skip <|BQ.normal ?_;refine go ?_;exact AW.backU [.k, .k, .f, .f, .f, .f, .f, .k, .k, .F, .f, .f] (m0 - 1) (i + 1) (by omega) (by (try dsimp only); exact ⟨by omega, by omega, fun j hj => (Nat.lt_or_eq_of_le (Nat.le_of_lt_succ hj)).elim (hx3 j) (fun h => by rw [h]; exact h1)⟩) cr cr
 ·
  rw [decide_eq_false_iff_not] at h0;refine AW.exit <|SQ.exit <|AW.out <|LU.exit <|BQ.exit ?_;refine go ?_;refine AW.ret ?_;refine Fin.ret (Gh.refl) noid1 ?_;rw [idxF_none (fun j hj => hx3 j (by omega))]; rfl
theorem ints_Contains (l : List Int) (v : Int) (hl : l.length ≤ 9223372036854775807) : A0 Tryz.prog 80 [.rd 1 (l.map iA), .v (.int .i64 (v))] (fun ret => ret = .v (.bool (l.any fun x => decide (v = x)))) := by
 refine A0.body 9 Tryz.func80 rfl rfl Tryz.ntmps80 fun base n0 => ?_
 refine go ?_;refine AO.call1 Tryz.func106 rfl rfl (ints_Index _ _ (by omega)) ?_;refine go ?_;refine AW.ret ?_;refine Fin.ret (Gh.refl) noid1 ?_;rw [← idxF_ge]; rfl
theorem obj_section1 (g : GrpD) (i : Int) (hg : g.mem.length ≤ 9223372036854775807) : A0 Tryz.prog 79 [.agg (grpA g), .eptr [.v (.int .i64 (i))]] (fun ret => ret = .v (.bool (g.mem.any fun x => decide (i = x)))) := by
 refine A0.body 8 Tryz.func79 rfl rfl Tryz.ntmps79 fun base n0 => ?_
 refine go ?_;refine AO.call1 Tryz.func80 rfl rfl (ints_Contains _ _ (by omega)) ?_;refine go ?_;refine AW.ret ?_;refine Fin.ret (Gh.refl) noid1 ?_;rfl
theorem grps_IndexFunc (l : List GrpD) (f : FuncId) (cs : List AV) (q : GrpD → Bool) (fn : Func) (hl : l.length ≤ 9223372036854775807) (hgc : ∀ n, ∀ av ∈ cs, Gen n av) (hf : Tryz.prog.funcs[f]? = some fn) (hname : (fn.name == "runtime.NumGoroutine") = false) (hb : fn.body.isSome = true) (h : ∀ x ∈ l, A0 Tryz.prog f (.agg (grpA (x)) :: cs) (fun r => r = .v (.bool (q x)))) : A0 Tryz.prog 107 [.rd 2 (l.map grpA), .fn f cs] (fun ret => ret = .v (.int .i64 (idxF q l))) := by
 refine A0.body 19 Tryz.func107 rfl rfl Tryz.ntmps107 fun base n0 => ?_
 refine go ?_;refine AW.loopU [.k, .k, .f, .f, .f, .f, .f, .k, .k, .F, .f, .f] (fun (i : Nat) => [(8, .v (.int .i64 (i)))]) (fun i => Hn n0 []) (fun m i => i ≤ l.length ∧ m = l.length - i ∧ ∀ j, j < i → q (l.getD j default) = false) (l.length) (0) ⟨by omega, rfl, fun j h => by omega⟩ cr cr ?_;rintro m0 i ⟨hx1, hx2, hx3⟩
 refine go ?_;refine AW.iteB (GL.ev _) (fun h0 => ?_) (fun h0 => ?_)
 ·
  rw [decide_eq_true_eq] at h0;have hi : i < l.length := by omega
  refine go ?_;refine AO.callF (args' := .agg (grpA ((l.getD i default))) :: cs) hgc hf hname hb (h _ (getD_in hi)) rfl ?_;refine go ?_;refine AW.iteB (GL.ev _) (fun h1 => ?_) (fun h1 => ?_)
  ·
   refine go ?_;refine AW.ret <|BQ.ret <|SQ.ret <|AW.out <|LU.ret <|BQ.ret <|SQ.ret ?_;refine Fin.ret (Gh.refl) noid1 ?_;rw [idxF_at hi hx3 h1]; rfl
  ·
   refine AW.skip <|BQ.normal ?_;refine go ?_;exact AW.backU [.k, .k, .f, .f, .f, .f, .f, .k, .k, .F, .f, .f] (m0 - 1) (i + 1) (by omega) (by (try dsimp only); exact ⟨by omega, by omega, fun j hj => (Nat.lt_or_eq_of_le (Nat.le_of_lt_succ hj)).elim (hx3 j) (fun h => by rw [h]; exact h1)⟩) cr cr
 ·
  rw [decide_eq_false_iff_not] at h0;refine AW.exit <|SQ.exit <|AW.out <|LU.exit <|BQ.exit ?_;refine go ?_;refine AW.ret ?_;refine Fin.ret (Gh.refl) noid1 ?_;rw [idxF_none (fun j hj => hx3 j (by omega))]; rfl
theorem grps_ContainsFunc (l : List GrpD) (f : FuncId) (cs : List AV) (q : GrpD → Bool) (fn : Func) (hl : l.length ≤ 9223372036854775807) (hgc : ∀ n, ∀ av ∈ cs, Gen n av) (hf : Tryz.prog.funcs[f]? = some fn) (hname : (fn.name == "runtime.NumGoroutine") = false) (hb : fn.body.isSome = true) (h : ∀ x ∈ l, A0 Tryz.prog f (.agg (grpA (x)) :: cs) (fun r => r = .v (.bool (q x)))) : A0 Tryz.prog 81 [.rd 2 (l.map grpA), .fn f cs] (fun ret => ret = .v (.bool (l.any q))) := by
 haveI hga : ∀ n, GA n cs := fun n => ⟨hgc n⟩
 have hidx := grps_IndexFunc l f cs q fn hl hgc hf hname hb h;refine A0.body 9 Tryz.func81 rfl rfl Tryz.ntmps81 fun base n0 => ?_
 refine go ?_;refine AO.call1 Tryz.func107 rfl rfl (hidx) ?_;refine go ?_;refine AW.ret ?_;refine Fin.ret (Gh.refl) noid1 ?_;rw [← idxF_ge]; rfl
theorem ints_IndexFunc (l : List Int) (f : FuncId) (cs : List AV) (q : Int → Bool) (fn : Func) (hl : l.length ≤ 9223372036854775807) (hgc : ∀ n, ∀ av ∈ cs, Gen n av) (hf : Tryz.prog.funcs[f]? = some fn) (hname : (fn.name == "runtime.NumGoroutine") = false) (hb : fn.body.isSome = true) (h : ∀ x ∈ l, A0 Tryz.prog f (.v (.int .i64 (x)) :: cs) (fun r => r = .v (.bool (q x)))) : A0 Tryz.prog 83 [.rd 1 (l.map iA), .fn f cs] (fun ret => ret = .v (.int .i64 (idxF q l))) := by
 refine A0.body 19 Tryz.func83 rfl rfl Tryz.ntmps83 fun base n0 => ?_
 refine go ?_;refine AW.loopU [.k, .k, .f, .f, .f, .f, .f, .k, .k, .F, .f, .f] (fun (i : Nat) => [(8, .v (.int .i64 (i)))]) (fun i => Hn n0 []) (fun m i => i ≤ l.length ∧ m = l.length - i ∧ ∀ j, j < i → q (l.getD j default) = false) (l.length) (0) ⟨by omega, rfl, fun j h => by omega⟩ cr cr ?_;rintro m0 i ⟨hx1, hx2, hx3⟩
 refine go ?_;refine AW.iteB (GL.ev _) (fun h0 => ?_) (fun h0 => ?_)
 ·
  rw [decide_eq_true_eq] at h0;have hi : i < l.length := by omega
  refine go ?_;refine AO.callF (args' := .v (.int .i64 ((l.getD i default))) :: cs) hgc hf hname hb (h _ (getD_in hi)) rfl ?_;refine go ?_;refine AW.iteB (GL.ev _) (fun h1 => ?_) (fun h1 => ?_)
  ·
   refine go ?_;refine AW.ret <|BQ.ret <|SQ.ret <|AW.out <|LU.ret <|BQ.ret <|SQ.ret ?_;refine Fin.ret (Gh.refl) noid1 ?_;rw [idxF_at hi hx3 h1]; rfl
  ·
   refine AW.skip <|BQ.normal ?_;refine go ?_;exact AW.backU [.k, .k, .f, .f, .f, .f, .f, .k, .k, .F, .f, .f] (m0 - 1) (i + 1) (by omega) (by (try dsimp only); exact ⟨by omega, by omega, fun j hj => (Nat.lt_or_eq_of_le (Nat.le_of_lt_succ hj)).elim (hx3 j) (fun h => by rw [h]; exact h1)⟩) cr cr
 ·
  rw [decide_eq_false_iff_not] at h0;refine AW.exit <|SQ.exit <|AW.out <|LU.exit <|BQ.exit ?_;refine go ?_;refine AW.ret ?_;refine Fin.ret (Gh.refl) noid1 ?_;rw [idxF_none (fun j hj => hx3 j (by omega))]; rfl
theorem ints_ContainsFunc (l : List Int) (f : FuncId) (cs : List AV) (q : Int → Bool) (fn : Func) (hl : l.length ≤ 9223372036854775807) (hgc : ∀ n, ∀ av ∈ cs, Gen n av) (hf : Tryz.prog.funcs[f]? = some fn) (hname : (fn.name == "runtime.NumGoroutine") = false) (hb : fn.body.isSome = true) (h : ∀ x ∈ l, A0 Tryz.prog f (.v (.int .i64 (x)) :: cs) (fun r => r = .v (.bool (q x)))) : A0 Tryz.prog 60 [.rd 1 (l.map iA), .fn f cs] (fun ret => ret = .v (.bool (l.any q))) := by
 haveI hga : ∀ n, GA n cs := fun n => ⟨hgc n⟩
 have hidx := ints_IndexFunc l f cs q fn hl hgc hf hname hb h;refine A0.body 9 Tryz.func60 rfl rfl Tryz.ntmps60 fun base n0 => ?_
 refine go ?_;refine AO.call1 Tryz.func83 rfl rfl (hidx) ?_;refine go ?_;refine AW.ret ?_;refine Fin.ret (Gh.refl) noid1 ?_;rw [← idxF_ge]; rfl
set_option maxHeartbeats 2000000 in
theorem obj_section (o : ObjD) (i : Int) (ho : o.ok) (hi : 1 ≤ i ∧ i ≤ o.secs.length) : A0 Tryz.prog 56 [.agg (objA o), .v (.int .i64 (i))] (fun ret => ret = .v (.bool (sectionP o i))) := by
 have hl := ho.1;have hly := ho.2.2.1;rw [maxLen_eq] at hl hly;have hii : (i - 1).toNat < o.secs.length := by omega
 have hs := secOk_at ho.2.1 hii;have hal := hs.2.2.2.1;unfold I64 at hal;have hgl := ho.2.2.2.2.1;rw [maxLen_eq] at hgl;have hgm : ∀ g ∈ o.groups, g.mem.length ≤ 9223372036854775807 := fun g hg => by
  have := (ho.2.2.2.2.2.1 g hg).2.1;rwa [maxLen_eq] at this
 have hcf := grps_ContainsFunc o.groups 79 [.eptr [.v (.int .i64 i)]] (fun g => g.mem.any fun x => decide (i = x)) _ hgl (fun n av h => by simp at h; subst h; exact .eptr fun j av hj => by cases j with | zero => simp at hj; subst hj; exact .v _ | succ j => simp at hj) Tryz.func79 rfl rfl (fun g h => obj_section1 g i (hgm g h));refine A0.body 95 Tryz.func56 rfl rfl Tryz.ntmps56 fun base n0 => ?_
 refine n2 ?_;iterate 2 refine AO.ww ?_
 refine AO.c ?_;refine n3 ?_;iterate 3 refine AO.c ?_
 iterate 2 refine AO.oo ?_
 refine AO.c ?_;refine AO.ww ?_;refine AO.sst ?_;refine n4 ?_;iterate 2 refine AO.c ?_
 refine AO.call1 Tryz.func75 rfl rfl (strtab_May _) ?_;iterate 2 refine AO.c ?_
 iterate 4 refine AO.gx ?_
 iterate 2 refine AO.c ?_
 iterate 3 refine AO.gx ?_
 iterate 2 refine AO.c ?_
 refine AO.gx ?_;refine AO.gxcall1 Tryz.func76 rfl rfl (fun hgd => obj_has _ 5) ?_;refine AO.c ?_;refine n1 ?_;refine AW.iteB (GL.ev _) (fun h0 => ?_) (fun h0 => ?_)
 ·
  skip;refine n2 ?_;refine AO.c ?_;refine na <|SQ.ret ?_;refine Fin.ret (Gh.refl) noid1 ?_;unfold sectionP; simp only [*, cond_true, cond_false]; rfl
 ·
  skip;refine n5 <|n8 ?_;iterate 4 refine AO.c ?_
  iterate 3 refine AO.gx ?_
  iterate 2 refine AO.c ?_
  iterate 4 refine AO.gx ?_
  refine AO.gxo (fun h => by simp only [Bool.not_eq_true', Bool.or_eq_false_iff, decide_eq_false_iff_not] at h; omega) ?_;iterate 2 refine AO.gx ?_
  iterate 2 refine AO.c ?_
  refine AO.gx ?_;refine AO.gxcall1 Tryz.func77 rfl rfl (fun hgd => obj_typed _) ?_;refine AO.gx ?_;iterate 2 refine AO.c ?_
  refine AO.gx ?_;refine AO.gxcall1 Tryz.func78 rfl rfl (fun hgd => obj_merged _ hs (typed_size (by simp only [Bool.not_eq_true', Bool.or_eq_false_iff, Bool.not_eq_false'] at hgd; exact hgd.2))) ?_;refine AO.gx ?_;refine AO.c ?_;refine n1 ?_;refine AW.iteB (GL.ev _) (fun h1 => ?_) (fun h1 => ?_)
  ·
   skip;refine n2 ?_;refine AO.c ?_;refine na <|SQ.ret ?_;refine Fin.ret (Gh.refl) noid1 ?_;unfold sectionP; simp only [*, cond_true, cond_false]; rfl
  ·
   skip;refine n5 <|AW.seq' <|AW.seq' ?_
   refine AW.drawsZ [] (.one 0 false (.one 2 false (.one 3 false (.one 4 false (.one 1 true (.one 5 false (.one 6 false (.one 7 false (.one 8 false (.one 9 false (.one 10 false (.one 11 false (.one 12 true (.one 13 false (.one 14 false (.one 15 false (.one 16 false (.one 17 false (.one 18 false (.one 19 false (.one 20 false .nil))))))))))))))))))))) (by kernel_rfl) rfl (by kernel_rfl) ?_
   iterate 4 refine AZ.c rfl ?_
   refine AZ.call1 rfl Tryz.func76 rfl rfl (obj_has _ 128) ?_;iterate 2 refine AZ.c rfl ?_
   iterate 5 refine AZ.gx rfl ?_
   refine AZ.gxcall1 rfl Tryz.func59 rfl rfl (fun hgd => obj_within _ _) ?_;refine AZ.gx rfl ?_;iterate 2 refine AZ.c rfl ?_
   iterate 4 refine AZ.gx rfl ?_
   refine AZ.c rfl ?_;refine AZ.done ?_;refine SQ.normal ?_;refine AW.iteB (GL.ev _) (fun h2 => ?_) (fun h2 => ?_)
   ·
    skip;refine n2 ?_;refine AO.c ?_;refine na <|SQ.ret ?_;refine Fin.ret (Gh.refl) noid1 ?_;unfold sectionP; simp only [*, cond_true, cond_false]; rfl
   ·
    skip;refine n6 ?_;refine AO.ghost (Gh.freezeP 3) ?_;iterate 2 refine AO.c ?_
    refine n1 <|AW.seq' ?_;refine AW.drawsZ [] (.one 0 false (.one 1 false (.one 2 false (.one 4 false (.one 3 true (.one 5 true (.one 6 false (.one 7 false (.one 8 false (.one 9 false (.one 10 false (.one 11 false (.one 12 true (.one 13 false (.one 14 false .nil))))))))))))))) (by kernel_rfl) rfl (by kernel_rfl) ?_;iterate 4 refine AZ.c rfl ?_
    refine AZ.call1 rfl Tryz.func81 rfl rfl (hcf) ?_;refine AZ.call1 rfl Tryz.func76 rfl rfl (obj_has _ 512) ?_;iterate 2 refine AZ.c rfl ?_
    iterate 4 refine AZ.gx rfl ?_
    refine AZ.gxcall1 rfl Tryz.func82 rfl rfl (fun hgd => obj_related _ _ hs (by unfold I64; omega)) ?_;iterate 2 refine AZ.c rfl ?_
    refine AZ.done ?_;refine SQ.normal <|AW.ret ?_;refine Fin.ret (Gh.refl) noid1 ?_;unfold sectionP; simp only [*, cond_true, cond_false]; rfl
set_option maxHeartbeats 2000000 in
theorem obj_symbol (o : ObjD) (i : Int) (ho : o.ok) (hi : 0 ≤ i ∧ i < o.syms.length) : A0 Tryz.prog 57 [.agg (objA o), .v (.int .i64 (i))] (fun ret => ret = .v (.bool (symbolP o i))) := by
 have hl := ho.2.2.1;rw [maxLen_eq] at hl;have hl0 := ho.1;rw [maxLen_eq] at hl0;have hii : i.toNat < o.syms.length := by omega
 have hs := symOk_at ho.2.2.2.1 hii;have hsec := hs.2.2.2.1;unfold I64 at hsec;refine A0.body 101 Tryz.func57 rfl rfl Tryz.ntmps57 fun base n0 => ?_
 refine n2 ?_;refine AO.ww ?_;refine AO.c ?_;refine n3 ?_;iterate 3 refine AO.c ?_
 refine AO.oo ?_;refine AO.c ?_;refine AO.ww ?_;refine AO.sst ?_;refine n4 ?_;iterate 2 refine AO.c ?_
 refine n1 ?_;refine AW.iteB (GL.ev _) (fun h0 => ?_) (fun h0 => ?_)
 ·
  skip;refine n2 ?_;iterate 4 refine AO.c ?_
  refine na <|SQ.ret ?_;refine Fin.ret (Gh.refl) noid1 ?_
  first | (exfalso; rw [h3] at h4; cases h4; done) | (unfold symbolP; simp only [*, cond_true, cond_false]; rfl)
 ·
  skip;refine n5 <|n8 ?_;iterate 2 refine AO.c ?_
  refine AO.call1 Tryz.func75 rfl rfl (strtab_May _) ?_;iterate 2 refine AO.c ?_
  iterate 2 refine AO.gx ?_
  refine AO.gxcall1 Tryz.func59 rfl rfl (fun hgd => obj_within _ _) ?_;refine AO.gx ?_;iterate 2 refine AO.c ?_
  iterate 2 refine AO.gx ?_
  refine AO.gxcall1 Tryz.func59 rfl rfl (fun hgd => obj_within _ _) ?_;refine AO.gx ?_;iterate 2 refine AO.c ?_
  iterate 2 refine AO.gx ?_
  refine AO.gxcall1 Tryz.func59 rfl rfl (fun hgd => obj_within _ _) ?_;refine AO.gx ?_;iterate 2 refine AO.c ?_
  iterate 2 refine AO.gx ?_
  refine AO.gxcall1 Tryz.func59 rfl rfl (fun hgd => obj_within _ _) ?_;refine AO.gx ?_;refine AO.c ?_;refine n1 ?_;refine AW.iteB (GL.ev _) (fun h1 => ?_) (fun h1 => ?_)
  ·
   skip;refine n2 ?_;refine AO.c ?_;refine na <|SQ.ret ?_;refine Fin.ret (Gh.refl) noid1 ?_
   first | (exfalso; rw [h3] at h4; cases h4; done) | (unfold symbolP; simp only [*, cond_true, cond_false]; rfl)
  ·
   skip;refine nc ?_;iterate 4 refine AO.c ?_
   iterate 6 refine AO.gx ?_
   iterate 2 refine AO.c ?_
   refine n1 ?_;refine AW.iteB (GL.ev _) (fun h2 => ?_) (fun h2 => ?_)
   ·
    skip;refine n2 ?_;refine AO.c ?_;refine na <|BQ.ret <|SQ.ret ?_;refine Fin.ret (Gh.refl) noid1 ?_
    first | (exfalso; rw [h3] at h4; cases h4; done) | (unfold symbolP; simp only [*, cond_true, cond_false]; rfl)
   ·
    skip;refine AW.seq' <|AW.seq' ?_;refine AW.drawsZ [] (.one 0 false (.one 1 false (.one 2 false (.one 3 false (.one 4 false (.one 5 false (.one 6 false (.one 7 false (.one 8 false (.one 9 false (.one 10 false (.one 11 false (.one 12 false (.one 13 false (.one 14 false (.one 15 false (.one 16 false .nil))))))))))))))))) (by kernel_rfl) rfl (by kernel_rfl) ?_;iterate 4 refine AZ.c rfl ?_
    iterate 6 refine AZ.gx rfl ?_
    refine AZ.gxoo rfl ?_;refine AZ.gxo rfl (fun h => by rw [decide_eq_true_eq] at h; simp only [Bool.or_eq_false_iff, decide_eq_false_iff_not] at h2; omega) ?_;iterate 3 refine AZ.gx rfl ?_
    iterate 2 refine AZ.c rfl ?_
    refine AZ.done ?_;refine SQ.normal ?_;refine AW.iteB (GL.ev _) (fun h3 => ?_) (fun h3 => ?_)
    ·
     skip;refine n5 ?_;refine AW.iteB (GL.ev _) (fun h4 => ?_) (fun h4 => ?_)
     ·
      skip;refine n2 ?_;refine AO.c ?_;refine na <|BQ.ret <|SQ.ret ?_;refine Fin.ret (Gh.refl) noid1 ?_
      first | (exfalso; rw [h3] at h4; cases h4; done) | (unfold symbolP; simp only [*, cond_true, cond_false]; rfl)
     ·
      skip;refine n2 ?_;iterate 4 refine AO.c ?_
      refine n1 ?_;refine AW.iteB (GL.ev _) (fun h5 => ?_) (fun h5 => ?_)
      ·
       skip;refine n2 ?_;iterate 4 refine AO.c ?_
       iterate 3 refine AO.gx ?_
       refine AO.gxoo ?_;refine AO.gxo (fun h => by simp only [decide_eq_false_iff_not] at h0; omega) ?_;iterate 3 refine AO.gx ?_
       iterate 2 refine AO.c ?_
       refine na <|BQ.ret <|SQ.ret ?_;refine Fin.ret (Gh.refl) noid1 ?_
       first | (exfalso; rw [h3] at h4; cases h4; done) | (unfold symbolP; simp only [*, cond_true, cond_false]; rfl)
      ·
       skip;refine AW.skip <|BQ.normal <|SQ.normal <|n2 ?_;iterate 4 refine AO.c ?_
       refine na ?_;refine Fin.ret (Gh.refl) noid1 ?_
       first | (exfalso; rw [h3] at h4; cases h4; done) | (unfold symbolP; simp only [*, cond_true, cond_false]; rfl)
    ·
     skip;refine AW.region ?_;iterate 4 refine AO.c ?_
     iterate 3 refine AO.gx ?_
     iterate 2 refine AO.c ?_
     refine n1 ?_;refine AW.iteB (GL.ev _) (fun h4 => ?_) (fun h4 => ?_)
     ·
      skip;refine n2 ?_;refine AO.c ?_;refine na <|BQ.ret <|SQ.ret ?_;refine Fin.ret (Gh.refl) noid1 ?_
      first | (exfalso; rw [h3] at h4; cases h4; done) | (unfold symbolP; simp only [*, cond_true, cond_false]; rfl)
     ·
      skip;refine n2 ?_;iterate 4 refine AO.c ?_
      refine n1 ?_;refine AW.iteB (GL.ev _) (fun h5 => ?_) (fun h5 => ?_)
      ·
       skip;refine n2 ?_;iterate 4 refine AO.c ?_
       iterate 3 refine AO.gx ?_
       refine AO.gxoo ?_;refine AO.gxo (fun h => by simp only [decide_eq_false_iff_not] at h0; omega) ?_;iterate 3 refine AO.gx ?_
       iterate 2 refine AO.c ?_
       refine na <|BQ.ret <|SQ.ret ?_;refine Fin.ret (Gh.refl) noid1 ?_
       first | (exfalso; rw [h3] at h4; cases h4; done) | (unfold symbolP; simp only [*, cond_true, cond_false]; rfl)
      ·
       skip;refine AW.skip <|BQ.normal <|SQ.normal <|n2 ?_;iterate 4 refine AO.c ?_
       refine na ?_;refine Fin.ret (Gh.refl) noid1 ?_
       first | (exfalso; rw [h3] at h4; cases h4; done) | (unfold symbolP; simp only [*, cond_true, cond_false]; rfl)
def memsP (N : Int) : List Int → Int → List Int → Option (List Int)
 | seen, _, [] => some seen
 | seen, last, n :: r => if n ≤ last ∨ n > N ∨ n ∈ seen then none else memsP N (n :: seen) n r
def grpsP (N Y : Int) : List Int → List GrpD → Bool
 | _, [] => true
 | seen, g :: gs => if g.sym < 1 ∨ g.sym ≥ Y ∨ g.mem.length = 0 then false else match memsP N seen 0 g.mem with
  | none => false
  | some seen' => grpsP N Y seen' gs
def MapOk (es : List (Int × Int)) (sl : List Int) : Prop := ∀ n, (aget es n).getD 0 = if n ∈ sl then 1 else 0
theorem mapOk_put {es : List (Int × Int)} {sl : List Int} {k v : Int} (h : MapOk es sl) (hk : k ∉ sl) (hv : v = (aget es k).getD 0 + 1) : MapOk (aput es k v) (k :: sl) := by
 intro n;have hk0 : (aget es k).getD 0 = 0 := by rw [h k, if_neg hk]
 rw [aget_aput];by_cases hn : n = k
 · subst hn
   rw [if_pos rfl, if_pos List.mem_cons_self, Option.getD_some]; omega
 · rw [if_neg (by first | exact hn | exact Ne.symm hn), h n]
   by_cases hm : n ∈ sl
   · rw [if_pos hm, if_pos (List.mem_cons_of_mem _ hm)]
   · rw [if_neg hm, if_neg (by simp [hn, hm])]
def shapeP (o : ObjD) : Bool :=
 !(decide ((o.secs.length : Int) > 32) || decide ((o.syms.length : Int) < 1) || decide ((o.syms.length : Int) > 128) || !grpsP o.secs.length o.syms.length [] o.groups) &&
 ((List.range o.secs.length).all fun k => sectionP o ((k : Int) + 1)) && ((List.range o.syms.length).all fun k => symbolP o k) && ((o.hasSig || decide ((o.sig.length : Int) = 0)) && !o.sig.any fun n => !withinB n (o.syms.length - 1))
set_option maxHeartbeats 2000000 in
theorem obj_groups (o : ObjD) (ho : o.ok) : A0 Tryz.prog 55 [.agg (objA o)] (fun ret => ret = .v (.bool (grpsP o.secs.length o.syms.length [] o.groups))) := by
 have hl := ho.2.2.1;have hl0 := ho.1;have hgl := ho.2.2.2.2.1;have hgo := ho.2.2.2.2.2.1;rw [maxLen_eq] at hl hl0 hgl;refine A0.body 64 Tryz.func55 rfl rfl Tryz.ntmps55 fun base n0 => ?_
 refine n2 ?_;refine AO.ww ?_;refine AO.c ?_;refine n3 ?_;refine AO.ww ?_;refine AO.c ?_;refine n4 ?_;iterate 4 refine AO.c ?_
 refine nb ?_;refine AW.ghost (Gh.mapM 1 kI vI) ?_
 refine AW.loopU4 [.f, .k, .f, .k, .f, .f, .f, .f, .f, .f, .f, .k, .k, .k, .F, .F, .F, .F, .F, .F, .f, .f] (fun (i j : Nat) (es : List (Int × Int)) (sl : List Int) => [(13, .v (.int .i64 (i)))]) (fun i j es sl => Hn n0 (([some (.box 52 (objA o)), some (.map ((es : List (Int × Int)).map (mE kI vI)))] ++ List.replicate j none) ++ [])) (fun m i j es sl => (i ≤ o.groups.length ∧ m = o.groups.length - i) ∧ MapOk es sl ∧ grpsP o.secs.length o.syms.length [] o.groups = grpsP o.secs.length o.syms.length sl (o.groups.drop i)) (o.groups.length) (0) (0) ([]) ([]) ⟨by omega, fun n => by simp [aget], rfl⟩ (by first | rfl | (simp; done)) (by first | rfl | (simp; done)) ?_
 rintro m0 i j es sl ⟨hx1, hx2, hx3⟩
 refine n2 ?_;refine AO.c ?_;refine n1 <|AW.seq' ?_;refine AW.iteB (GL.ev _) (fun h0 => ?_) (fun h0 => ?_)
 ·
  rw [decide_eq_true_eq] at h0;have hi : i < o.groups.length := by omega
  have hgm := (hgo _ (show o.groups.getD i default ∈ o.groups by rw [List.getD_eq_getElem?_getD, List.getElem?_eq_getElem hi]; exact List.getElem_mem hi)).2.1;rw [maxLen_eq] at hgm;rw [drop_getD hi, grpsP] at hx3;generalize hge : o.groups.getD i default = g at hgm hx3;refine nc ?_;refine AO.oo ?_;refine AO.c ?_;refine AO.eq 16 (av' := .agg (grpA g)) (by rw [hge]) ?_;refine AO.ww ?_
  refine AO.sst ?_;refine n4 ?_;iterate 4 refine AO.c ?_
  iterate 6 refine AO.gx ?_
  iterate 2 refine AO.c ?_
  iterate 4 refine AO.gx ?_
  refine AO.c ?_;refine n1 ?_;refine AW.iteB (GL.ev _) (fun h1 => ?_) (fun h1 => ?_)
  ·
   simp only [Bool.or_eq_true, decide_eq_true_eq] at h1;rw [if_pos (by omega)] at hx3;refine n2 ?_;refine AO.c ?_;refine na <|SQ.ret <|BQ.ret <|SQ.ret <|AW.out <|LU.ret <|BQ.ret <|SQ.ret ?_;refine Fin.ret (Gh.refl) noid1 ?_;rw [hx3]; rfl
  ·
   simp only [Bool.or_eq_false_iff, decide_eq_false_iff_not] at h1;rw [if_neg (by omega)] at hx3;refine n6 ?_;refine AO.c ?_;refine n3 ?_;iterate 4 refine AO.c ?_
   refine nb ?_
   refine AW.loopU4 [.f, .k, .f, .k, .f, .f, .k, .f, .f, .f, .f, .k, .k, .k, .F, .F, .f, .f, .f, .f, .f, .k, .k, .k, .F, .F, .F, .f, .f] (fun (k : Nat) (last : Int) (es2 : List (Int × Int)) (sl2 : List Int) => [(6, .v (.int .i64 (last))), (37, .v (.int .i64 (k)))]) (fun k last es2 sl2 => Hn n0 ([some (.box 52 (objA o)), some (.map ((es2 : List (Int × Int)).map (mE kI vI)))] ++ List.replicate j none ++ [some (.box 93 (grpA g))])) (fun m k last es2 sl2 => (k ≤ g.mem.length ∧ m = g.mem.length - k) ∧ MapOk es2 sl2 ∧ memsP o.secs.length sl 0 g.mem = memsP o.secs.length sl2 last (g.mem.drop k)) (g.mem.length) (0) (0) (es) (sl) ⟨by omega, hx2, rfl⟩ (by first | rfl | (simp; done)) (by first | rfl | (simp; done)) ?_
   rintro m1 k last es2 sl2 ⟨hk1, hk2, hk3⟩
   refine n2 ?_;refine AO.c ?_;refine n1 <|AW.seq' ?_;refine AW.iteB (GL.ev _) (fun h2 => ?_) (fun h2 => ?_)
   ·
    rw [decide_eq_true_eq] at h2;have hk : k < g.mem.length := by omega
    rw [drop_getD hk, memsP] at hk3;generalize hne : g.mem.getD k default = nn at hk3;have hok := hk2 nn;refine nc ?_;refine AO.oo ?_;refine AO.c ?_;refine AO.eq 40 (av' := .v (.int .i64 nn)) (by rw [hne]) ?_;refine AO.c ?_;refine n4 ?_;iterate 4 refine AO.c ?_
    iterate 5 refine AO.gx ?_
    iterate 2 refine AO.c ?_
    iterate 4 refine AO.gx ?_
    refine AO.c ?_;refine n1 ?_;refine AW.iteB (GL.ev _) (fun h3 => ?_) (fun h3 => ?_)
    ·
     rw [hok] at h3;have h4 : nn ≤ last ∨ nn > o.secs.length ∨ nn ∈ sl2 := by
      simp only [Bool.or_eq_true, decide_eq_true_eq] at h3;rcases h3 with (h3 | h3) | h3
      · exact .inl h3
      · exact .inr (.inl h3)
      · refine .inr (.inr ?_)
        rcases Decidable.em (nn ∈ sl2) with h | h
        · exact h
        · rw [if_neg h] at h3; omega
     rw [if_pos h4] at hk3;rw [hk3] at hx3;dsimp only at hx3;refine n2 ?_;refine AO.c ?_;refine na <|SQ.ret <|BQ.ret <|SQ.ret <|AW.out <|LU.ret <|BQ.ret <|BQ.ret <|SQ.ret <|AW.out <|LU.ret <|BQ.ret <|SQ.ret ?_;refine Fin.ret (Gh.refl) noid1 ?_;rw [hx3]; rfl
    ·
     rw [hok] at h3;simp only [Bool.or_eq_false_iff, decide_eq_false_iff_not] at h3;have hnm : nn ∉ sl2 := fun h => by rw [if_pos h] at h3; exact h3.2 (by decide)
     rw [if_neg (by rintro (h | h | h); exact h3.1.1 h; exact h3.1.2 h; exact hnm h)] at hk3;refine n6 ?_;iterate 3 refine AO.c ?_
     refine AO.o (by rw [hok]; split <;> omega) ?_;refine AO.sst ?_;refine n1 <|AW.region ?_;iterate 2 refine AO.c ?_
     refine n7 ?_;refine AO.oo ?_;refine AO.c ?_;refine AO.nil ?_
     exact AW.backU [.f, .k, .f, .k, .f, .f, .k, .f, .f, .f, .f, .k, .k, .k, .F, .F, .f, .f, .f, .f, .f, .k, .k, .k, .F, .F, .F, .f, .f] (m1 - 1) (k + 1, nn, aput es2 nn ((aget es2 nn).getD 0 + 1), nn :: sl2) (by omega) (by (try dsimp only); exact ⟨by omega, mapOk_put hk2 hnm rfl, hk3⟩) (by first | rfl | (simp; done)) (by first | rfl | (simp; done))
   ·
    rw [decide_eq_false_iff_not] at h2;rw [List.drop_of_length_le (by omega), memsP] at hk3;rw [hk3] at hx3;dsimp only at hx3;refine AW.exit <|SQ.exit <|AW.out <|LU.exit <|BQ.exit <|BQ.normal <|SQ.normal <|AW.region ?_;refine AO.oo ?_;refine AO.c ?_;refine AO.nil ?_
    exact AW.backD [.f, .k, .f, .k, .f, .f, .f, .f, .f, .f, .f, .k, .k, .k, .F, .F, .F, .F, .F, .F, .f, .f] ([some (.box 52 (objA o)), some (.map ((es2 : List (Int × Int)).map (mE kI vI)))]) (j) (m0 - 1) (i + 1, j + 1, es2, sl2) (by omega) (by (try dsimp only); exact ⟨by omega, hk2, hx3⟩) (by first | rfl | (simp; done)) (by first | rfl | (simp; done))
 ·
  rw [decide_eq_false_iff_not] at h0;refine AW.exit <|SQ.exit <|AW.out <|LU.exit <|BQ.exit <|SQ.normal <|n2 ?_;refine AO.c ?_;refine na ?_;refine Fin.ret (Gh.refl) noid1 ?_;rw [hx3, List.drop_of_length_le (by omega)]; rfl
theorem obj_shape1 (n : Int) (o : ObjD) (ho : o.syms.length ≤ 9223372036854775807) : A0 Tryz.prog 58 [.v (.int .i64 (n)), .eptr (objA o)] (fun ret => ret = .v (.bool (!withinB n (o.syms.length - 1)))) := by
 refine A0.body 11 Tryz.func58 rfl rfl Tryz.ntmps58 fun base n0 => ?_
 refine go ?_;refine AO.call1 Tryz.func59 rfl rfl (obj_within _ _) ?_;refine go ?_;refine AW.ret ?_;refine Fin.ret (Gh.refl) noid1 ?_;rfl
set_option maxHeartbeats 2000000 in
theorem obj_shape (o : ObjD) (ho : o.ok) : A0 Tryz.prog 42 [.agg (objA o)] (fun ret => ret = .v (.bool (shapeP o))) := by
 have hl := ho.2.2.1;have hl0 := ho.1;have hsl := ho.2.2.2.2.2.2.1;rw [maxLen_eq] at hl hl0 hsl;have hcf := ints_ContainsFunc o.sig 58 [.eptr (objA o)] (fun n => !withinB n (o.syms.length - 1)) _ hsl (fun n => (inferInstance : GA n [.eptr (objA o)]).h) Tryz.func58 rfl rfl (fun n _ => obj_shape1 n o hl);refine A0.body 66 Tryz.func42 rfl rfl Tryz.ntmps42 fun base n0 => ?_
 refine go ?_;refine AO.gxcall1 Tryz.func55 rfl rfl (fun hgd => obj_groups _ (by assumption)) ?_;refine go ?_;refine AW.iteB (GL.ev _) (fun h0 => ?_) (fun h0 => ?_)
 ·
  have e : shapeP o = false := by unfold shapeP; rw [h0]; rfl
  refine go ?_;refine AW.ret <|SQ.ret ?_;refine Fin.ret (Gh.refl) noid1 ?_;rw [e]; rfl
 ·
  refine go ?_;refine AW.loopU [.f, .k, .F, .F, .F, .f, .f, .f, .k, .k, .F, .F, .F, .F, .f, .f, .f] (fun (i : Nat) => [(30, .v (.int .i64 (i)))]) (fun i => Hn n0 [some (.box 52 (objA o))]) (fun m i => i ≤ o.secs.length ∧ m = o.secs.length - i ∧ ((List.range i).all fun k => sectionP o ((k : Int) + 1)) = true) (o.secs.length) (0) ⟨by omega, by omega, rfl⟩ cr cr ?_;rintro m0 i ⟨hx1, hx2, hx3⟩
  refine go ?_;refine AW.iteB (GL.ev _) (fun h1 => ?_) (fun h1 => ?_)
  ·
   rw [decide_eq_true_eq] at h1;have hi : i < o.secs.length := by omega
   refine go ?_;refine AO.call1 Tryz.func56 rfl rfl (obj_section _ _ (by assumption) (by omega)) ?_;refine go ?_;refine AW.iteB (GL.ev _) (fun h2 => ?_) (fun h2 => ?_)
   ·
    have e : shapeP o = false := by
     have : ((List.range o.secs.length).all fun k => sectionP o ((k : Int) + 1)) = false := range_all_false hi (by simpa using h2);unfold shapeP; rw [this, Bool.and_false]; rfl
    refine go ?_;refine AW.ret <|BQ.ret <|SQ.ret <|AW.out <|LU.ret <|BQ.ret <|SQ.ret ?_;refine Fin.ret (Gh.refl) noid1 ?_;rw [e]; rfl
   ·
    have e : ((List.range (i + 1)).all fun k => sectionP o ((k : Int) + 1)) = true := by
     rw [range_all_succ, hx3]; simpa using h2
    refine AW.skip <|BQ.normal ?_;refine go ?_;exact AW.backU [.f, .k, .F, .F, .F, .f, .f, .f, .k, .k, .F, .F, .F, .F, .f, .f, .f] (m0 - 1) (i + 1) (by omega) (by (try dsimp only); exact ⟨by omega, by omega, e⟩) cr cr
  ·
   rw [decide_eq_false_iff_not] at h1;have hss : ((List.range o.secs.length).all fun k => sectionP o ((k : Int) + 1)) = true := by
    rw [← hx3, show i = o.secs.length by omega]
   refine AW.exit <|SQ.exit <|AW.out <|LU.exit <|BQ.exit ?_;refine go ?_
   refine AW.loopU [.f, .k, .F, .F, .F, .F, .f, .f, .f, .f, .f, .f, .f, .k, .k, .F, .F, .f, .f, .f, .f, .f, .f, .f] (fun (i : Nat) => [(42, .v (.int .i64 (i)))]) (fun i => Hn n0 [some (.box 52 (objA o))]) (fun m i => i ≤ o.syms.length ∧ m = o.syms.length - i ∧ ((List.range i).all fun k => symbolP o k) = true) (o.syms.length) (0) ⟨by omega, by omega, rfl⟩ cr cr ?_;rintro m1 i ⟨hx1, hx2, hx3⟩
   refine go ?_;refine AW.iteB (GL.ev _) (fun h3 => ?_) (fun h3 => ?_)
   ·
    rw [decide_eq_true_eq] at h3;have hi : i < o.syms.length := by omega
    refine go ?_;refine AO.call1 Tryz.func57 rfl rfl (obj_symbol _ _ (by assumption) ⟨by omega, by omega⟩) ?_;refine go ?_;refine AW.iteB (GL.ev _) (fun h4 => ?_) (fun h4 => ?_)
    ·
     have e : shapeP o = false := by
      have : ((List.range o.syms.length).all fun k => symbolP o k) = false := range_all_false hi (by simpa using h4);unfold shapeP; rw [this, Bool.and_false]; rfl
     refine go ?_;refine AW.ret <|BQ.ret <|SQ.ret <|AW.out <|LU.ret <|BQ.ret <|SQ.ret ?_;refine Fin.ret (Gh.refl) noid1 ?_;rw [e]; rfl
    ·
     have e : ((List.range (i + 1)).all fun k => symbolP o k) = true := by
      rw [range_all_succ, hx3]; simpa using h4
     refine AW.skip <|BQ.normal ?_;refine go ?_;exact AW.backU [.f, .k, .F, .F, .F, .F, .f, .f, .f, .f, .f, .f, .f, .k, .k, .F, .F, .f, .f, .f, .f, .f, .f, .f] (m1 - 1) (i + 1) (by omega) (by (try dsimp only); exact ⟨by omega, by omega, e⟩) cr cr
   ·
    rw [decide_eq_false_iff_not] at h3;have hys : ((List.range o.syms.length).all fun k => symbolP o k) = true := by
     rw [← hx3, show i = o.syms.length by omega]
    refine AW.exit <|SQ.exit <|AW.out <|LU.exit <|BQ.exit ?_;refine gs ?_;refine AO.ghost (Gh.freezeP 1) ?_;refine go ?_;refine AO.gxcall1 Tryz.func60 rfl rfl (fun hgd => hcf) ?_;refine go ?_;refine AW.ret ?_;refine Fin.ret (Gh.refl) noid1 ?_;unfold shapeP; rw [h0, hss, hys]; rfl
theorem mayS_nameB (s : ByteArray) : mayS s = nameB s := by
 by_cases hs : s.size ≤ 32
 · by_cases h0 : s.data.toList.all (· ≠ 0) = true
   · have h1 : nameB s = true := by unfold nameB; rw [decide_eq_true hs, h0]; rfl
     rw [h1];refine mayS_of hs fun j hj => ?_
     have hlt : j < s.data.toList.length := by simpa using hj
     have h2 := List.all_eq_true.1 h0 s.data.toList[j] (List.getElem_mem hlt);rw [List.getD_eq_getElem?_getD, List.getElem?_eq_getElem hlt, Option.getD_some];intro h3;have : s.data.toList[j] = 0 := UInt8.toNat_inj.1 (by simpa using h3);rw [this] at h2; simp at h2
   · have h0 : s.data.toList.all (· ≠ 0) = false := by simpa using h0
     have h1 : nameB s = false := by unfold nameB; rw [h0, Bool.and_false]
     rw [h1];rw [List.all_eq_false] at h0;obtain ⟨x, hx, hx0⟩ := h0;obtain ⟨j, hj, rfl⟩ := List.getElem_of_mem hx;refine mayS_no (j := j) (by simpa using hj) ?_;rw [List.getD_eq_getElem?_getD, List.getElem?_eq_getElem hj, Option.getD_some];have : s.data.toList[j] = 0 := by simpa using hx0
     rw [this]; rfl
 · unfold mayS nameB
   rw [decide_eq_false (fun h => hs h.1), decide_eq_false hs, Bool.false_and]
theorem symbol_eq (o : ObjD) (i : Int) : symbolP o i = symbolB o i := by
 unfold symbolP symbolB withinB;rw [mayS_nameB];generalize nameB (o.syms.getD i.toNat default).name = nb;generalize (o.syms.getD i.toNat default).bind = b;generalize (o.syms.getD i.toNat default).typ = t;generalize (o.syms.getD i.toNat default).sec = c;generalize (o.syms.getD i.toNat default).val = v;generalize (o.syms.getD i.toNat default).size = z
 generalize (o.secs.getD (c - 1).toNat default).size = w;generalize (o.syms.getD (i - 1).toNat default).bind = pb;by_cases hi : i = 0
 · rw [decide_eq_true hi, cond_true, cond_true]; simp [Bool.and_assoc]
 · rw [decide_eq_false hi, cond_false, cond_false]
   cases nb with
   | false => rfl
   | true => grind
def inc : Int → List Int → Prop
 | _, [] => True
 | a, x :: r => a < x ∧ inc x r
theorem inc_gt : ∀ (l : List Int) (a : Int), inc a l → ∀ x ∈ l, a < x := by
 intro l
 induction l with
 | nil => intro a _ x hx; cases hx
 | cons y r ih =>
  intro a h x hx;rcases List.mem_cons.1 hx with rfl | hx
  · exact h.1
  · exact Int.lt_trans h.1 (ih y h.2 x hx)
theorem inc_count : ∀ (l : List Int) (a : Int), inc a l → ∀ n, l.count n = if n ∈ l then 1 else 0 := by
 intro l
 induction l with
 | nil => intro a _ n; simp
 | cons y r ih =>
  intro a h n;rw [List.count_cons, ih y h.2 n];by_cases hy : y = n
  · subst hy
    have : y ∉ r := fun hm => absurd (inc_gt r y h.2 y hm) (Int.lt_irrefl y)
    simp [this]
  · have : ¬ n = y := fun h => hy h.symm
    simp [hy, this]
theorem inc_index : ∀ (l : List Int) (a : Int), inc a l ↔ ∀ k, k < l.length → (if k = 0 then a else l.getD (k - 1) default) < l.getD k default := by
 intro l
 induction l with
 | nil => intro a; simp [inc]
 | cons y r ih =>
  intro a;rw [inc, ih y]
  constructor
  · rintro ⟨h1, h2⟩ k hk
    cases k with
    | zero => simpa using h1
    | succ k =>
     have := h2 k (by simpa using hk);rw [if_neg (by omega)]
     cases k with
     | zero => simpa using this
     | succ k => rw [if_neg (by omega)] at this; simpa using this
  · intro h
    refine ⟨by simpa using h 0 (by simp), fun k hk => ?_⟩;have := h (k + 1) (by simpa using hk);rw [if_neg (by omega)] at this
    cases k with
    | zero => simpa using this
    | succ k => rw [if_neg (by omega)]; simpa using this
theorem mem_iff {N : Int} {l : List Int} : ((List.range l.length).all fun k => !memB N l k) = true ↔ inc 0 l ∧ ∀ x ∈ l, x ≤ N := by
 rw [List.all_eq_true]
 constructor
 · intro h
   have h' : ∀ k, k < l.length → 1 ≤ l.getD k default ∧ l.getD k default ≤ N ∧ (0 < k → l.getD (k - 1) default < l.getD k default) := by
    intro k hk;have := h k (List.mem_range.2 hk);unfold memB at this;simp only [Bool.not_eq_true', Bool.or_eq_false_iff, Bool.and_eq_false_iff, decide_eq_false_iff_not] at this;obtain ⟨⟨h1, h2⟩, h3⟩ := this;refine ⟨by omega, by omega, fun h0 => ?_⟩;rw [show ((k : Int) - 1).toNat = k - 1 by omega] at h3;omega
   refine ⟨(inc_index l 0).2 fun k hk => ?_, fun x hx => ?_⟩
   · have := h' k hk
     split
     · omega
     · exact this.2.2 (by omega)
   · obtain ⟨k, hk, rfl⟩ := List.getElem_of_mem hx
     have := (h' k hk).2.1;simpa [hk] using this
 · rintro ⟨h1, h2⟩ k hk
   have hk := List.mem_range.1 hk;have h3 := (inc_index l 0).1 h1 k hk;have hm : l.getD k default ∈ l := by rw [List.getD_eq_getElem?_getD, List.getElem?_eq_getElem hk]; exact List.getElem_mem hk
   have h4 := inc_gt l 0 h1 _ hm;have h5 := h2 _ hm;unfold memB;simp only [Bool.not_eq_true', Bool.or_eq_false_iff, Bool.and_eq_false_iff, decide_eq_false_iff_not];refine ⟨⟨by omega, by omega⟩, ?_⟩;by_cases h0 : k = 0
   · exact .inl (by omega)
   · right
     rw [if_neg h0] at h3;rw [show ((k : Int) - 1).toNat = k - 1 by omega];omega
theorem memsP_spec {N : Int} : ∀ (l : List Int) (seen : List Int) (last : Int) (s' : List Int), memsP N seen last l = some s' ↔ inc last l ∧ (∀ x ∈ l, x ≤ N) ∧ (∀ x ∈ l, x ∉ seen) ∧ s' = l.reverse ++ seen := by
 intro l
 induction l with
 | nil => intro seen last s'; simp [memsP, inc, eq_comm]
 | cons n r ih =>
  intro seen last s';rw [memsP]
  split
  · rename_i h
    constructor
    · intro h2; cases h2
    · rintro ⟨h1, h2, h3, _⟩
      rcases h with h | h | h
      · have := h1.1; omega
      · have := h2 n List.mem_cons_self; omega
      · exact absurd h (h3 n List.mem_cons_self)
  · rename_i h
    have hn : ¬ n ≤ last ∧ ¬ n > N ∧ n ∉ seen := ⟨fun q => h (.inl q), fun q => h (.inr (.inl q)), fun q => h (.inr (.inr q))⟩;rw [ih]
    constructor
    · rintro ⟨h1, h2, h3, h4⟩
      refine ⟨⟨by omega, h1⟩, fun x hx => ?_, fun x hx => ?_, by rw [h4]; simp⟩
      · rcases List.mem_cons.1 hx with rfl | hx
        · omega
        · exact h2 x hx
      · rcases List.mem_cons.1 hx with rfl | hx
        · exact hn.2.2
        · exact fun q => h3 x hx (List.mem_cons_of_mem _ q)
    · rintro ⟨h1, h2, h3, h4⟩
      refine ⟨h1.2, fun x hx => h2 x (List.mem_cons_of_mem _ hx), fun x hx q => ?_, by rw [h4]; simp⟩;rcases List.mem_cons.1 q with rfl | q
      · exact absurd (inc_gt r x h1.2 x hx) (Int.lt_irrefl x)
      · exact h3 x (List.mem_cons_of_mem _ hx) q
theorem memberF_cons (g : GrpD) (gs : List GrpD) (n : Int) : memberF (g :: gs) n = (g.mem.count n : Int) + memberF gs n := by unfold memberF; simp
def GrpOk (N Y : Int) (g : GrpD) : Prop := 1 ≤ g.sym ∧ g.sym < Y ∧ g.mem.length ≠ 0 ∧ inc 0 g.mem ∧ ∀ x ∈ g.mem, x ≤ N
theorem grpsP_spec {N Y : Int} : ∀ (gs : List GrpD) (seen : List Int), grpsP N Y seen gs = true ↔ (∀ g ∈ gs, GrpOk N Y g) ∧ ∀ n, 1 ≤ n → n ≤ N → (if n ∈ seen then 1 else 0) + memberF gs n ≤ 1 := by
 intro gs
 induction gs with
 | nil =>
  intro seen;rw [grpsP];refine ⟨fun _ => ⟨fun g hg => by simp at hg, fun n _ _ => ?_⟩, fun _ => rfl⟩;unfold memberF; simp; split <;> omega
 | cons g gs ih =>
  intro seen;rw [grpsP]
  split
  · rename_i h
    constructor
    · intro h2; cases h2
    · rintro ⟨h1, _⟩
      have := h1 g List.mem_cons_self;unfold GrpOk at this;omega
  · rename_i h
    cases hm : memsP N seen 0 g.mem with
    | none =>
     dsimp only
     constructor
     · intro h2; cases h2
     · rintro ⟨h1, h2⟩
       exfalso
       obtain ⟨_, _, _, g4, g5⟩ := h1 g List.mem_cons_self;have : memsP N seen 0 g.mem = some (g.mem.reverse ++ seen) := by
        refine (memsP_spec _ _ _ _).2 ⟨g4, g5, fun x hx hs => ?_, rfl⟩;have h3 := h2 x (by have := inc_gt _ _ g4 x hx; omega) (g5 x hx);rw [if_pos hs, memberF_cons, inc_count _ _ g4, if_pos hx] at h3;have := memberF_range (l := gs) (n := x);omega
       rw [hm] at this; cases this
    | some s' =>
     dsimp only;obtain ⟨m1, m2, m3, rfl⟩ := (memsP_spec _ _ _ _).1 hm;rw [ih]
     constructor
     · rintro ⟨h1, h2⟩
       refine ⟨fun x hx => ?_, fun n hn1 hn2 => ?_⟩
       · rcases List.mem_cons.1 hx with rfl | hx
         · exact ⟨by omega, by omega, by omega, m1, m2⟩
         · exact h1 x hx
       · have := h2 n hn1 hn2
         rw [memberF_cons, inc_count _ _ m1];by_cases hg : n ∈ g.mem
         · have hs := m3 n hg
           rw [if_pos (by simp [hg])] at this;rw [if_neg hs, if_pos hg]; omega
         · rw [if_neg hg]
           have e : (n ∈ g.mem.reverse ++ seen) ↔ n ∈ seen := by simp [hg]
           simp only [e] at this;omega
     · rintro ⟨h1, h2⟩
       refine ⟨fun x hx => h1 x (List.mem_cons_of_mem _ hx), fun n hn1 hn2 => ?_⟩;have := h2 n hn1 hn2;rw [memberF_cons, inc_count _ _ m1] at this;by_cases hg : n ∈ g.mem
       · have hs := m3 n hg
         rw [if_neg hs, if_pos hg] at this;rw [if_pos (by simp [hg])]; omega
       · rw [if_neg hg] at this
         have e : (n ∈ g.mem.reverse ++ seen) ↔ n ∈ seen := by simp [hg]
         simp only [e];omega
theorem grpB_iff {o : ObjD} {g : GrpD} : grpB o g = true ↔ GrpOk o.secs.length o.syms.length g := by
 unfold grpB GrpOk;rw [Bool.and_eq_true, mem_iff];simp only [Bool.and_eq_true, decide_eq_true_eq]
 constructor
 · rintro ⟨⟨⟨a, b⟩, c⟩, d, e⟩; exact ⟨a, b, c, d, e⟩
 · rintro ⟨a, b, c, d, e⟩; exact ⟨⟨⟨a, b⟩, c⟩, d, e⟩
theorem pow_all : ∀ a : Nat, a < 4097 → (decide (a ≠ 0) && decide (a &&& (a - 1) = 0)) = powL.contains (a : Int) := by decide +kernel
theorem align_eq {a : Int} (ha : I64 a) : (!(decide (a < 1) || decide (a > 4096) || decide (band a (a - 1) ≠ 0))) = alignB a := by
 by_cases h : 1 ≤ a ∧ a ≤ 4096
 · obtain ⟨m, rfl⟩ := Int.eq_ofNat_of_zero_le (by omega : 0 ≤ a)
   have h1 := pow_all m (by omega);have e : ((m : Int) - 1) = ((m - 1 : Nat) : Int) := by omega
   rw [e, band_nat (by omega) (by omega)];unfold alignB;rw [← h1, decide_eq_false (by omega : ¬ (m : Int) < 1), decide_eq_false (by omega : ¬ (m : Int) > 4096), decide_eq_true (by omega : m ≠ 0), Bool.eq_iff_iff];simp
   try omega
 · have : alignB a = false := by
    unfold alignB;rw [← Bool.not_eq_true, List.contains_iff_mem];unfold powL;simp;omega
   rw [this, Bool.not_eq_false'];rcases (by omega : a < 1 ∨ a > 4096) with h | h
   · rw [decide_eq_true h]; rfl
   · rw [decide_eq_true h, Bool.or_true]; rfl
theorem rel_eq {many len : Int} : ∀ (l : List RelD) (prev : Option RelD) (e : Int), (∀ p, prev = some p → e = p.off + widthF p.typ) → (prev = none → e = 0) → relGP many len e l = relsG many len prev l := by
 intro l
 induction l with
 | nil => intro prev e _ _; cases prev <;> rfl
 | cons r rs ih =>
  intro prev e h1 h2;rw [relGP, relsG_cons, ih (some r) (r.off + widthF r.typ) (fun p hp => by rw [Option.some.inj hp]) (fun h => by cases h)]
  cases hm : mayRelB r with
  | false => rfl
  | true =>
   have ho := mayRel_off hm;have e1 : decide (r.off < e) = prevBad r prev := by
    cases prev with
    | none => rw [h2 rfl, decide_eq_false (by omega)]; rfl
    | some p => rw [h1 p rfl]; rfl
   have e2 : decide (r.off > len - widthF r.typ) = decide (r.off + widthF r.typ > len) := by rw [Bool.eq_iff_iff, decide_eq_true_eq, decide_eq_true_eq]; omega
   rw [e1, e2]
   cases decide (r.sym ≥ many) <;> cases prevBad r prev <;> cases decide (r.off + widthF r.typ > len) <;> rfl
theorem related_eq (o : ObjD) (s : SecD) : relatedP s o.syms.length = relsB o s := by
 unfold relatedP relsB;rw [rel_eq s.rels none 0 (fun p h => by cases h) (fun _ => rfl)]
theorem hasP_F {f : Int} (h0 : 0 ≤ f) (h1 : f ≤ 9223372036854775807) : hasP f 1 = hasF f 1 ∧ hasP f 4 = hasF f 4 ∧ hasP f 16 = hasF f 16 ∧ hasP f 32 = hasF f 32 ∧ hasP f 128 = hasF f 128 ∧ hasP f 512 = hasF f 512 :=
 ⟨hasP_pow h0 h1 (k := 0) (by decide), hasP_pow h0 h1 (k := 2) (by decide), hasP_pow h0 h1 (k := 4) (by decide), hasP_pow h0 h1 (k := 5) (by decide), hasP_pow h0 h1 (k := 7) (by decide), hasP_pow h0 h1 (k := 9) (by decide)⟩
theorem kind_eq {s : SecD} (hs : s.ok) : (!(decide (Go.bits .andNot .i64 s.flags 2097847 ≠ 0) || decide (s.flags < 0) || hasP s.flags 5) && !(decide (s.align < 1) || decide (s.align > 4096) || decide (band s.align (s.align - 1) ≠ 0) || !typedP s || !mergedP s)) = kindB s := by
 have hf := hs.2.2.1;have e1 := flagsB_eq hf;have e2 := align_eq hs.2.2.2.1;unfold kindB;rw [← e1, ← e2];generalize hA : (decide (Go.bits .andNot .i64 s.flags 2097847 ≠ 0) || decide (s.flags < 0)) = A;generalize hB : (decide (s.align < 1) || decide (s.align > 4096) || decide (band s.align (s.align - 1) ≠ 0)) = B
 cases A with
 | true => rfl
 | false =>
  have h0 : 0 ≤ s.flags := by
   simp only [Bool.or_eq_false_iff, decide_eq_false_iff_not] at hA;omega
  unfold I64 at hf;obtain ⟨f1, f4, f16, f32, f128, f512⟩ := hasP_F h0 hf.2;rw [hasP_5 h0 hf.2]
  cases B with
  | true => cases hasF s.flags 1 <;> cases hasF s.flags 4 <;> rfl
  | false =>
   unfold typedP mergedP withinB;rw [f1, f4, f16, f32];generalize hasF s.flags 1 = b1;generalize hasF s.flags 4 = b4;generalize hasF s.flags 16 = b16;generalize hasF s.flags 32 = b32;generalize s.data.getD ((s.data.length : Int) - 1).toNat 0 = lastb;generalize s.size % s.ent = sm;generalize s.data.length = dl;generalize s.rels.length = rl;generalize s.typ = ty;generalize s.size = sz
   generalize s.ent = en;generalize s.align = al
   cases b1 <;> cases b4 <;> cases b16 <;> cases b32 <;> grind
theorem section_eq {o : ObjD} (ho : o.ok) {i : Int} (hi : 1 ≤ i ∧ i ≤ o.secs.length) (hc : ∀ n : Int, 1 ≤ n → n ≤ o.secs.length → memberF o.groups n ≤ 1) : sectionP o i = sectionB o i := by
 have hii : (i - 1).toNat < o.secs.length := by omega
 have hs := secOk_at ho.2.1 hii;have hk := kind_eq hs;have hr := related_eq o (o.secs.getD (i - 1).toNat default);have hcm := hc i hi.1 hi.2;have hcm0 := memberF_range (l := o.groups) (n := i);have hany : (o.groups.any fun g => g.mem.any fun x => decide (i = x)) = decide (memberF o.groups i = 1) := by
  have key : ∀ gs : List GrpD, (gs.any fun g => g.mem.any fun x => decide (i = x)) = decide (0 < memberF gs i) := by
   intro gs
   induction gs with
   | nil => rfl
   | cons g gs ih =>
    rw [List.any_cons, ih, memberF_cons, Bool.eq_iff_iff, Bool.or_eq_true, decide_eq_true_eq, decide_eq_true_eq, List.any_eq_true];have h0 := memberF_range (l := gs) (n := i)
    constructor
    · rintro (⟨x, hx, he⟩ | h)
      · have he := of_decide_eq_true he
        subst he;have := List.count_pos_iff.2 hx;omega
      · omega
    · intro h
      by_cases hm : i ∈ g.mem
      · exact .inl ⟨i, hm, by simp⟩
      · have := List.count_eq_zero.2 hm
        right; omega
  rw [key, Bool.eq_iff_iff]; simp; omega
 unfold sectionP sectionB;rw [mayS_nameB, hr, hany, ← hk];have hf := hs.2.2.1;generalize hse : o.secs.getD (i - 1).toNat default = s at hf;generalize relsB o s = rb;generalize memberF o.groups i = mf at hcm hcm0;generalize o.secs.length = N
 have hfl : ∀ b : Bool, b = (decide (Go.bits .andNot .i64 s.flags 2097847 ≠ 0) || decide (s.flags < 0)) → b = false → hasP s.flags 128 = hasF s.flags 128 ∧ hasP s.flags 512 = hasF s.flags 512 := by
  intro b hb hb0;rw [hb, Bool.or_eq_false_iff, decide_eq_false_iff_not, decide_eq_false_iff_not] at hb0;unfold I64 at hf;obtain ⟨_, _, _, _, f128, f512⟩ := hasP_F (f := s.flags) (by omega) hf.2;exact ⟨f128, f512⟩
 generalize hA : (decide (Go.bits .andNot .i64 s.flags 2097847 ≠ 0) || decide (s.flags < 0)) = A at hfl;generalize hB : (decide (s.align < 1) || decide (s.align > 4096) || decide (band s.align (s.align - 1) ≠ 0)) = B;have hA' : (!nameB s.name || decide (Go.bits .andNot .i64 s.flags 2097847 ≠ 0) || decide (s.flags < 0) || hasP s.flags 5) = (!nameB s.name || A || hasP s.flags 5) := by
  rw [← hA]; cases nameB s.name <;> simp
 rw [hA'];generalize nameB s.name = nb;generalize hasP s.flags 5 = p5;generalize typedP s = tp;generalize mergedP s = mp
 cases A with
 | true => cases nb <;> rfl
 | false =>
  obtain ⟨f128, f512⟩ := hfl false rfl rfl;rw [f128, f512];generalize hasF s.flags 128 = b128;generalize hasF s.flags 512 = b512;generalize s.link = lk;unfold withinB
  cases nb <;> cases p5 <;> cases B <;> cases tp <;> cases mp <;> cases rb <;> try rfl
  all_goals (
   have hmf : mf = 0 ∨ mf = 1 := by omega
   clear hc hr hk hany hfl hA' hA hB f128 f512 hse hs hii hf ho
   have e1 : decide (lk < 1) = !decide (lk ≥ 1) := by rw [Bool.eq_iff_iff]; simp
   have e2 : decide (lk > (N : Int)) = !decide (lk ≤ (N : Int)) := by rw [Bool.eq_iff_iff]; simp
   have e3 : decide (lk ≠ 0) = !decide (lk = 0) := by rw [Bool.eq_iff_iff]; simp
   rw [e1, e2, e3];by_cases h1 : lk = 0
   · have q1 : ¬ lk ≥ 1 := by omega
     have q2 : lk ≥ 0 := by omega
     have q3 : lk ≤ (N : Int) := by omega
     have q4 : ¬ lk = i := by omega
     rw [decide_eq_true h1, decide_eq_false q1, decide_eq_true q2, decide_eq_true q3, decide_eq_false q4];rcases hmf with rfl | rfl <;> cases b128 <;> cases b512 <;> rfl
   · by_cases h2 : lk ≥ 0
     · have q1 : lk ≥ 1 := by omega
       rw [decide_eq_false h1, decide_eq_true q1, decide_eq_true h2];generalize decide (lk ≤ (N : Int)) = c3;generalize decide (lk = i) = c4;rcases hmf with rfl | rfl <;> cases c3 <;> cases c4 <;> cases b128 <;> cases b512 <;> rfl
     · have q1 : ¬ lk ≥ 1 := by omega
       rw [decide_eq_false h1, decide_eq_false q1, decide_eq_false h2];rcases hmf with rfl | rfl <;> cases b128 <;> cases b512 <;> rfl)
theorem shape_eq {o : ObjD} (ho : o.ok) : shapeP o = shapeB o := by
 rw [Bool.eq_iff_iff];have hsy : ((List.range o.syms.length).all fun k => symbolP o k) = ((List.range o.syms.length).all fun k => symbolB o k) := by
  congr 1; funext k; exact symbol_eq o k
 have hsig : (!o.sig.any fun n => !withinB n (o.syms.length - 1)) = o.sig.all fun x => decide (0 ≤ x) && decide (x < o.syms.length) := by
  rw [List.not_any_eq_all_not]
  congr 1; funext n
  unfold withinB;rw [Bool.not_not, Bool.eq_iff_iff]; simp; omega
 have hsec : (∀ n : Int, 1 ≤ n → n ≤ o.secs.length → memberF o.groups n ≤ 1) → ((List.range o.secs.length).all fun k => sectionP o ((k : Int) + 1)) = ((List.range o.secs.length).all fun k => sectionB o ((k : Int) + 1)) := by
  intro hc;rw [Bool.eq_iff_iff, List.all_eq_true, List.all_eq_true]
  constructor <;> intro h k hk <;> have := h k hk <;> have hk := List.mem_range.1 hk
  · rwa [section_eq ho (by omega) hc] at this
  · rwa [section_eq ho (by omega) hc]
 have hcnt : ((List.range o.secs.length).all fun k => sectionB o ((k : Int) + 1)) = true → ∀ n : Int, 1 ≤ n → n ≤ o.secs.length → memberF o.groups n ≤ 1 := by
  intro h n h1 h2;have := List.all_eq_true.1 h (n - 1).toNat (List.mem_range.2 (by omega));rw [show (((n - 1).toNat : Nat) : Int) + 1 = n by omega] at this;unfold sectionB at this;generalize hm : memberF o.groups n = mf at this;by_cases h3 : mf ≤ 1
  · exact h3
  · exfalso
    have e0 : decide (mf = 0) = false := decide_eq_false (by omega);have e1 : decide (mf = 1) = false := decide_eq_false (by omega);rw [e0, e1] at this;simp only [Bool.false_and, Bool.or_false] at this
    revert this
    generalize (!nameB _ || _ || _) = x1;generalize (_ && _ || _ && _) = x2
    cases x1 <;> cases x2 <;> simp
 have hg : o.groups.all (grpB o) = true ↔ ∀ g ∈ o.groups, GrpOk o.secs.length o.syms.length g := by
  rw [List.all_eq_true];exact ⟨fun h g hg => grpB_iff.1 (h g hg), fun h g hg => grpB_iff.2 (h g hg)⟩
 have hgp := grpsP_spec (N := o.secs.length) (Y := o.syms.length) o.groups [];simp only [List.not_mem_nil, if_false, Int.zero_add] at hgp;unfold shapeP shapeB;rw [hsy, hsig];simp only [Bool.and_eq_true, Bool.not_eq_true', Bool.or_eq_false_iff, Bool.not_eq_false', hgp, hg]
 constructor
 · rintro ⟨⟨⟨⟨⟨⟨a1, a2⟩, a3⟩, a4, a5⟩, b⟩, c⟩, d, e⟩
   refine ⟨⟨⟨⟨⟨⟨⟨a1, a2⟩, a3⟩, ?_⟩, a4⟩, by rw [← hsec a5]; exact b⟩, c⟩, e⟩
   cases hh : o.hasSig
   · rw [hh] at d; simp at d ⊢; simp [d]
   · rfl
 · rintro ⟨⟨⟨⟨⟨⟨⟨a1, a2⟩, a3⟩, a6⟩, a4⟩, b⟩, c⟩, e⟩
   have a5 := hcnt b;refine ⟨⟨⟨⟨⟨⟨a1, a2⟩, a3⟩, a4, a5⟩, by rw [hsec a5]; exact b⟩, c⟩, ?_, e⟩
   cases hh : o.hasSig
   · rw [hh] at a6; simp at a6 ⊢; simpa using a6
   · rfl
end Go.Proofs.YtkbbcenjklaglaaGreat.AL
