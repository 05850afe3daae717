/- What functions of the program compute, each by its own contract; the conditions stand with each. -/
import Derived.Test.YtbaibjhkmajplaaFLe2
import Derived.Test.YtbaibjhkmajplaaAlJ
namespace Go.Proofs.Ytbaibjhkmajplaa.AL
open Go Go.RowKit Go.Proofs.Ytbaibjhkmajplaa.Base
set_option linter.unusedVariables false
set_option linter.unusedSimpArgs false
set_option maxRecDepth 4000
set_option synthInstance.maxSize 1000

/-- The number at the head of bytes, if it is one that may be. -/
def ulebH (l : List Int) : Option (Int × Nat) := match ulebD 5 l with
  | some (v, n) => if v > 2147483647 then none else some (v, n)
  | none => none
def ulebG (b : List Int) (a : Int) : Option (Int × Nat) := if 0 ≤ a then ulebH (b.drop a.toNat) else none
def gN (r : Option (Int × Nat)) : Int := match r with | some p => p.1 | none => 0
def gX (a : Int) (r : Option (Int × Nat)) : Int := match r with | some p => a + p.2 | none => 0
/-- All numbers of bytes. -/
def ulebAll : Nat → List Int → Option (List Int)
  | _, [] => some []
  | 0, _ :: _ => none
  | f + 1, x :: l => match ulebH (x :: l) with
    | none => none
    | some (v, n) => (ulebAll f ((x :: l).drop n)).map (v :: ·)
def encB (n : Int) : List Int := if 0 ≤ n ∧ n ≤ 2147483647 then enc 5 n else []
theorem ulebH_nil : ulebH [] = none := rfl
theorem ulebH_some {l : List Int} {v : Int} {n : Nat} (hB : Bytes l) (h : ulebH l = some (v, n)) : 0 ≤ v ∧ v ≤ 2147483647 ∧ 1 ≤ n ∧ n ≤ 5 ∧ n ≤ l.length := by
  unfold ulebH at h
  split at h
  · rename_i v' n' h1
    split at h
    · cases h
    · obtain ⟨rfl, rfl⟩ := Prod.mk.inj (Option.some.inj h)
      have := ulebD_bound 5 l _ _ hB h1
      omega
  · cases h
theorem ulebG_some {b : List Int} {a v : Int} {n : Nat} (hB : Bytes b) (h : ulebG b a = some (v, n)) : 0 ≤ a ∧ 0 ≤ v ∧ v ≤ 2147483647 ∧ 1 ≤ n ∧ n ≤ 5 ∧ a + n ≤ b.length := by
  unfold ulebG at h
  split at h
  · rename_i h0
    have := ulebH_some (hB.drop _) h
    rw [List.length_drop] at this
    omega
  · cases h
theorem ulebG_of {b : List Int} {a v : Int} {i k : Nat} {n : Int} (h0 : 0 ≤ a) (h : ulebD 5 (b.drop a.toNat) = (ulebD k (b.drop (a.toNat + i))).map (fun r => (n + 128 ^ i * r.1, r.2 + i))) (h1 : ulebD k (b.drop (a.toNat + i)) = none) : ulebG b a = none := by
  unfold ulebG ulebH
  rw [if_pos h0, h, h1]; rfl
theorem iA_getD {l : List Int} {i : Nat} : l.getD i default = l.getD i 0 := rfl

theorem law_Ints (l l2 : List Int) (hl : l.length ≤ 9223372036854775807) (hl2 : l2.length ≤ 9223372036854775807) : A0 Try.prog 48 [.rd 1 (l.map iA), .rd 1 (l2.map iA)] (fun ret => ret = .v (.int .i64 (if l = l2 then 1 else 0))) := by
  refine A0.body 26 Try.func48 rfl rfl Try.ntmps48 fun base n0 => ?_
  refine AW.seq' ?_
  refine AW.region ?_
  refine AO.c ?_
  refine AO.nil ?_
  refine SQ.normal ?_
  refine AW.seq' ?_
  refine AW.seq' ?_
  refine AW.region ?_
  refine AO.c ?_
  refine AO.c ?_
  refine AO.c ?_
  refine AO.c ?_
  refine AO.c ?_
  refine AO.nil ?_
  refine SQ.normal ?_
  refine AW.iteB (GL.ev _) (fun h0 => ?_) (fun h0 => ?_)
  · skip
    simp only [decide_eq_true_eq, List.length_map] at h0
    have hne : l ≠ l2 := fun h => by subst h; omega
    refine AW.seq' ?_
    refine AW.region ?_
    refine AO.c ?_
    refine AO.nil ?_
    refine SQ.normal ?_
    refine AW.ret ?_
    refine SQ.ret ?_
    refine Fin.ret (Gh.refl) noid1 ?_
    rw [if_neg hne]; rfl
  · skip
    simp only [decide_eq_false_iff_not, List.length_map, Decidable.not_not] at h0
    have hlen : l.length = l2.length := by omega
    refine AW.skip ?_
    refine SQ.normal ?_
    refine AW.seq' ?_
    refine AW.seq' ?_
    refine AW.region ?_
    refine AO.c ?_
    refine AO.nil ?_
    refine SQ.normal ?_
    refine AW.block' ?_
    refine AW.loopU [.k, .k, .f, .f, .f, .k, .F, .F, .f, .f, .f, .f] (fun (i : Nat) => [(5, .v (.int .i64 (i)))]) (fun i => Hn n0 []) (fun m i => i ≤ l.length ∧ m = l.length - i ∧ ∀ j, j < i → l.getD j 0 = l2.getD j 0) (l.length) (0) ⟨by omega, by omega, fun j h => by omega⟩ (by first | rfl | (simp; done)) (by first | rfl | (simp; done)) ?_
    rintro m0 i ⟨hx1, hx2, hx3⟩
    refine AW.seq' ?_
    refine AW.seq' ?_
    refine AW.region ?_
    refine AO.c ?_
    refine AO.c ?_
    refine AO.c ?_
    refine AO.c ?_
    refine AO.nil ?_
    refine SQ.normal ?_
    refine AW.iteB (GL.ev _) (fun h1 => ?_) (fun h1 => ?_)
    · skip
      try simp only [Bool.and_eq_true, Bool.or_eq_true, Bool.not_eq_true', Bool.and_eq_false_iff, Bool.or_eq_false_iff, decide_eq_true_eq, decide_eq_false_iff_not, bys_length] at h1
      refine AW.skip ?_
      refine SQ.normal ?_
      refine AW.seq' ?_
      refine AW.block' ?_
      refine AW.seq' ?_
      refine AW.drawsZ [] (.one 0 false (.one 1 false (.one 2 false (.one 3 false (.one 4 false (.one 5 false (.one 6 false (.one 7 false (.one 8 false .nil))))))))) (by kernel_rfl) rfl (by kernel_rfl) ?_
      refine AZ.c rfl ?_
      refine AZ.c rfl ?_
      refine AZ.oo rfl ?_
      refine AZ.c rfl ?_
      refine AZ.c rfl ?_
      refine AZ.c rfl ?_
      refine AZ.oo rfl ?_
      refine AZ.c rfl ?_
      refine AZ.c rfl ?_
      refine AZ.done ?_
      refine SQ.normal ?_
      refine AW.iteB (GL.ev _) (fun h2 => ?_) (fun h2 => ?_)
      · skip
        rw [decide_eq_true_eq] at h2
        have hne : l ≠ l2 := fun h => by subst h; exact h2 rfl
        refine AW.seq' ?_
        refine AW.region ?_
        refine AO.c ?_
        refine AO.nil ?_
        refine SQ.normal ?_
        refine AW.ret ?_
        refine BQ.ret <| SQ.ret <| AW.out <| LU.ret <| BQ.ret <| SQ.ret ?_
        refine Fin.ret (Gh.refl) noid1 ?_
        rw [if_neg hne]; rfl
      · skip
        rw [decide_eq_false_iff_not, Decidable.not_not] at h2
        refine AW.skip ?_
        refine BQ.normal ?_
        refine SQ.normal ?_
        refine AW.region ?_
        refine AO.c ?_
        refine AO.oo ?_
        refine AO.c ?_
        refine AO.nil ?_
        exact AW.backU [.k, .k, .f, .f, .f, .k, .F, .F, .f, .f, .f, .f] (m0 - 1) (i + 1) (by omega) (by (try dsimp only); exact ⟨by omega, by omega, fun j hj => (Nat.lt_or_eq_of_le (Nat.le_of_lt_succ hj)).elim (hx3 j) (fun h => by rw [h]; exact h2)⟩) (by first | rfl | (simp; done)) (by first | rfl | (simp; done))
    · skip
      try simp only [Bool.and_eq_true, Bool.or_eq_true, Bool.not_eq_true', Bool.and_eq_false_iff, Bool.or_eq_false_iff, decide_eq_true_eq, decide_eq_false_iff_not, bys_length] at h1
      refine AW.exit ?_
      refine SQ.exit <| AW.out <| LU.exit <| BQ.exit ?_
      refine SQ.normal ?_
      refine AW.seq' ?_
      refine AW.region ?_
      refine AO.c ?_
      refine AO.nil ?_
      refine SQ.normal ?_
      refine AW.ret ?_
      have heq : l = l2 := by
        apply List.ext_getElem hlen
        intro j p1 p2
        have := hx3 j (by omega)
        simpa [p1, p2] using this
      refine Fin.ret (Gh.refl) noid1 ?_
      rw [if_pos heq]; rfl
theorem uleb_Get (b : List Int) (a : Int) (hB : Bytes b) (hb : b.length ≤ 1000000000000) (ha : I64 a) : A0 Try.prog 50 [.rd 1 (bys b), .v (.int .i64 (a))] (fun ret => ret = .tup [.v (.int .i64 (gN (ulebG b a))), .v (.int .i64 (gX a (ulebG b a))), .v (.bool (ulebG b a).isSome)]) := by
  unfold I64 at ha
  refine A0.body 47 Try.func50 rfl rfl Try.ntmps50 fun base n0 => ?_
  refine AW.seq' ?_
  refine AW.region ?_
  refine AO.c ?_
  refine AO.c ?_
  refine AO.c ?_
  refine AO.nil ?_
  refine SQ.normal ?_
  refine AW.seq' ?_
  refine AW.region ?_
  refine AO.c ?_
  refine AO.nil ?_
  refine SQ.normal ?_
  refine AW.seq' ?_
  refine AW.seq' ?_
  refine AW.region ?_
  refine AO.c ?_
  refine AO.nil ?_
  refine SQ.normal ?_
  refine AW.block' ?_
  refine AW.loopU2 [.k, .k, .f, .f, .f, .f, .f, .k, .f, .f, .k, .F, .F, .F, .F, .f, .f, .f, .f] (fun (i : Nat) (n : Int) => [(7, .v (.int .i64 (n))), (10, .v (.int .i64 (i)))]) (fun i n => Hn n0 []) (fun m i n => i ≤ 5 ∧ m = 5 - i ∧ (0 < i → 0 ≤ a) ∧ (0 ≤ n ∧ n < 128 ^ i) ∧ (0 ≤ a → ulebD 5 (b.drop a.toNat) = (ulebD (5 - i) (b.drop (a.toNat + i))).map (fun r => (n + 128 ^ i * r.1, r.2 + i)))) (5) (0) (0) ⟨by omega, by omega, by omega, by simp, fun _ => by simp⟩ (by first | rfl | (simp; done)) (by first | rfl | (simp; done)) ?_
  rintro m0 i n ⟨hx1, hx2, hx3, hx4, hx5⟩
  refine AW.seq' ?_
  refine AW.region ?_
  refine AO.c ?_
  refine AO.nil ?_
  refine SQ.normal ?_
  refine AW.seq' ?_
  refine AW.iteB (GL.ev _) (fun h0 => ?_) (fun h0 => ?_)
  · skip
    rw [decide_eq_true_eq] at h0
    have hi5 : i < 5 := by omega
    have hpw : (128 : Int) ^ i ≤ 128 ^ 4 := pow128_le (by omega)
    refine AW.skip ?_
    refine SQ.normal ?_
    refine AW.seq' ?_
    refine AW.block' ?_
    refine AW.seq' ?_
    refine AW.region ?_
    refine AO.c ?_
    refine AO.c ?_
    refine AO.nil ?_
    refine SQ.normal ?_
    refine AW.seq' ?_
    refine AW.seq' ?_
    refine AW.region ?_
    refine AO.c ?_
    refine AO.c ?_
    refine AO.c ?_
    refine AO.gx ?_
    refine AO.gx ?_
    refine AO.gx ?_
    refine AO.gx ?_
    refine AO.gxoo ?_
    refine AO.gx ?_
    refine AO.c ?_
    refine AO.nil ?_
    refine SQ.normal ?_
    refine AW.iteB (GL.ev _) (fun h1 => ?_) (fun h1 => ?_)
    · skip
      simp only [Bool.or_eq_true, decide_eq_true_eq] at h1
      have hg : ulebG b a = none := by
        by_cases h : 0 ≤ a
        · have hnil : b.drop (a.toNat + i) = [] := List.drop_of_length_le (by omega)
          exact ulebG_of (v := 0) h (hx5 h) (by rw [hnil, show 5 - i = (4 - i) + 1 by omega]; rfl)
        · unfold ulebG; rw [if_neg h]
      refine AW.seq' ?_
      refine AW.region ?_
      refine AO.c ?_
      refine AO.c ?_
      refine AO.c ?_
      refine AO.nil ?_
      refine SQ.normal ?_
      refine AW.ret ?_
      refine SQ.ret <| BQ.ret <| SQ.ret <| AW.out <| LU.ret <| BQ.ret <| SQ.ret ?_
      refine Fin.ret (Gh.refl) noid3 ?_
      rw [hg]; rfl
    · skip
      simp only [Bool.or_eq_false_iff, decide_eq_false_iff_not] at h1
      have hpa : 0 ≤ a := by omega
      have hlt : a.toNat + i < b.length := by omega
      have hd : ulebD (5 - i) (b.drop (a.toNat + i)) = if b.getD (a.toNat + i) 0 < 128 then some (b.getD (a.toNat + i) 0, 1) else (ulebD (5 - (i + 1)) (b.drop (a.toNat + (i + 1)))).map fun r => (b.getD (a.toNat + i) 0 % 128 + 128 * r.1, r.2 + 1) := by
        rw [drop_getD0 hlt, show 5 - i = (5 - (i + 1)) + 1 by omega]; rfl
      have hbr := bytes_getD hB (a.toNat + i)
      have hor := or_i64A i hi5 n (b.getD (a.toNat + i) 0 % 128) hx4.1 hx4.2 (by omega) (by omega)
      have hps : (128 : Int) ^ (i + 1) = 128 ^ i * 128 := Int.pow_succ _ _
      have hmul : 128 ^ i * (b.getD (a.toNat + i) 0 % 128) ≤ 128 ^ i * 127 := Int.mul_le_mul_of_nonneg_left (by omega) (by have := pow128_pos i; omega)
      have hmul0 : 0 ≤ 128 ^ i * (b.getD (a.toNat + i) 0 % 128) := Int.mul_nonneg (by have := pow128_pos i; omega) (by omega)
      refine AW.skip ?_
      refine SQ.normal ?_
      refine AW.seq' ?_
      refine AW.region ?_
      refine AO.c ?_
      refine AO.c ?_
      refine AO.c ?_
      refine AO.oo ?_
      refine AO.o (by omega) ?_
      refine AO.c ?_
      refine AO.eq 28 (av' := .v (.int .u8 (b.getD (a.toNat + i) 0))) (by rw [show (a + (i : Int)).toNat = a.toNat + i by omega]) ?_
      refine AO.c ?_
      refine AO.nil ?_
      refine SQ.normal ?_
      refine AW.seq' ?_
      refine AW.region ?_
      refine AO.c ?_
      refine AO.c ?_
      refine AO.oo ?_
      refine AO.oo ?_
      refine AO.c ?_
      refine AO.oo ?_
      refine AO.oo ?_
      refine AO.c ?_
      refine AO.eq 36 (av' := .v (.int .i64 (n + 128 ^ i * (b.getD (a.toNat + i) 0 % 128)))) (by rw [← hor]) ?_
      refine AO.c ?_
      refine AO.nil ?_
      refine SQ.normal ?_
      refine AW.seq' ?_
      refine AW.seq' ?_
      refine AW.region ?_
      refine AO.c ?_
      refine AO.c ?_
      refine AO.nil ?_
      refine SQ.normal ?_
      refine AW.iteB (GL.ev _) (fun h2 => ?_) (fun h2 => ?_)
      · skip
        rw [decide_eq_true_eq] at h2
        refine AW.exit ?_
        refine SQ.exit <| BQ.exit ?_
        refine SQ.normal ?_
        refine AW.region ?_
        refine AO.oo ?_
        refine AO.c ?_
        refine AO.nil ?_
        exact AW.backU [.k, .k, .f, .f, .f, .f, .f, .k, .f, .f, .k, .F, .F, .F, .F, .f, .f, .f, .f] (m0 - 1) (i + 1, n + 128 ^ i * (b.getD (a.toNat + i) 0 % 128)) (by omega) (by (try dsimp only); exact ⟨by omega, by omega, fun _ => hpa, ⟨by omega, by omega⟩, fun _ => by rw [hx5 hpa, hd, if_neg (by omega), Option.map_map]; congr 1; funext r; simp only [Function.comp]; rw [Prod.mk.injEq]; exact ⟨by rw [Int.pow_succ, Int.mul_add, ← Int.mul_assoc]; omega, by omega⟩⟩) (by first | rfl | (simp; done)) (by first | rfl | (simp; done))
      · skip
        rw [decide_eq_false_iff_not] at h2
        refine AW.skip ?_
        refine SQ.normal ?_
        refine AW.seq' ?_
        refine AW.seq' ?_
        refine AW.region ?_
        refine AO.c ?_
        refine AO.c ?_
        refine AO.nil ?_
        refine SQ.normal ?_
        refine AW.iteB (GL.ev _) (fun h3 => ?_) (fun h3 => ?_)
        · skip
          rw [decide_eq_true_eq] at h3
          have hlow : b.getD (a.toNat + i) 0 % 128 = b.getD (a.toNat + i) 0 := by omega
          have hg : ulebG b a = none := by
            unfold ulebG ulebH
            rw [if_pos hpa, hx5 hpa, hd, if_pos (by omega)]
            simp only [Option.map_some]
            rw [if_pos (by rw [← hlow]; omega)]
          refine AW.seq' ?_
          refine AW.region ?_
          refine AO.c ?_
          refine AO.c ?_
          refine AO.c ?_
          refine AO.nil ?_
          refine SQ.normal ?_
          refine AW.ret ?_
          refine SQ.ret <| BQ.ret <| SQ.ret <| AW.out <| LU.ret <| BQ.ret <| SQ.ret ?_
          refine Fin.ret (Gh.refl) noid3 ?_
          rw [hg]; rfl
        · skip
          rw [decide_eq_false_iff_not] at h3
          have hlow : b.getD (a.toNat + i) 0 % 128 = b.getD (a.toNat + i) 0 := by omega
          have hg : ulebG b a = some (n + 128 ^ i * (b.getD (a.toNat + i) 0 % 128), 1 + i) := by
            unfold ulebG ulebH
            rw [if_pos hpa, hx5 hpa, hd, if_pos (by omega)]
            simp only [Option.map_some]
            rw [if_neg (by rw [← hlow]; omega), hlow]
          refine AW.skip ?_
          refine SQ.normal ?_
          refine AW.seq' ?_
          refine AW.region ?_
          refine AO.c ?_
          refine AO.c ?_
          refine AO.c ?_
          refine AO.oo ?_
          refine AO.oo ?_
          refine AO.c ?_
          refine AO.c ?_
          refine AO.c ?_
          refine AO.nil ?_
          refine SQ.normal ?_
          refine AW.ret ?_
          refine BQ.ret <| SQ.ret <| AW.out <| LU.ret <| BQ.ret <| SQ.ret ?_
          refine Fin.ret (Gh.refl) noid3 ?_
          rw [hg]
          show AV.tup [_, AV.v (.int .i64 (a + (i : Int) + 1)), _] = AV.tup [_, AV.v (.int .i64 (a + ((1 + i : Nat) : Int))), _]
          rw [show a + (i : Int) + 1 = a + ((1 + i : Nat) : Int) by omega]
          rfl
  · skip
    rw [decide_eq_false_iff_not] at h0
    have hi5 : i = 5 := by omega
    have hg : ulebG b a = none := ulebG_of (v := 0) (k := 0) (by omega) (by have := hx5 (by omega); rw [hi5] at this; exact this) rfl
    refine AW.exit ?_
    refine SQ.exit <| AW.out <| LU.exit <| BQ.exit ?_
    refine SQ.normal ?_
    refine AW.seq' ?_
    refine AW.region ?_
    refine AO.c ?_
    refine AO.c ?_
    refine AO.c ?_
    refine AO.nil ?_
    refine SQ.normal ?_
    refine AW.ret ?_
    refine Fin.ret (Gh.refl) noid3 ?_
    rw [hg]; rfl

theorem ulebAll_nil (f : Nat) : ulebAll f [] = some [] := by cases f <;> rfl
theorem ulebAll_cons {f : Nat} {l : List Int} (h : l ≠ []) (hf : 1 ≤ f) : ulebAll f l = match ulebH l with
    | none => none
    | some (v, n) => (ulebAll (f - 1) (l.drop n)).map (v :: ·) := by
  obtain ⟨k, rfl⟩ : ∃ k, f = k + 1 := ⟨f - 1, by omega⟩
  cases l with
  | nil => exact absurd rfl h
  | cons x l => rfl
theorem encB_len (n : Int) : (encB n).length ≤ 5 := by unfold encB; split; exact enc_length 5 n; simp
theorem encB_bytes (n : Int) : Bytes (encB n) := by
  unfold encB; split
  · rename_i h; exact enc_bytes 5 n h.1
  · exact Bytes.nil
theorem ulebH_enc {n : Int} (b : List Int) (h : 0 ≤ n ∧ n ≤ 2147483647) : ulebH (encB n ++ b) = some (n, (encB n).length) ∧ 1 ≤ (encB n).length := by
  have h1 := ulebD_enc 4 n b h.1 (by omega)
  have e : encB n = enc 5 n := by unfold encB; rw [if_pos h]
  rw [e]
  refine ⟨?_, enc_pos 4 n⟩
  unfold ulebH
  rw [h1]
  simp only
  rw [if_neg (by omega)]
theorem ulebAll_enc : ∀ (l : List Int) (f : Nat), (∀ x ∈ l, 0 ≤ x ∧ x ≤ 2147483647) → l.length ≤ f → ulebAll f (l.flatMap encB) = some l := by
  intro l
  induction l with
  | nil => intro f _ _; exact ulebAll_nil f
  | cons x l ih =>
    intro f h hf
    simp only [List.length_cons] at hf
    have h1 := ulebH_enc (l.flatMap encB) (h x (by simp))
    rw [List.flatMap_cons, ulebAll_cons (by intro h2; have h3 := congrArg List.length h2; simp only [List.length_append, List.length_nil] at h3; have := h1.2; omega) (by omega), h1.1]
    simp only [List.drop_left]
    rw [ih (f - 1) (fun y hy => h y (by simp [hy])) (by omega)]; rfl

theorem uleb_List (b : List Int) (hB : Bytes b) (hb : b.length ≤ 1000000000) : A0 Try.prog 52 [.rd 1 (bys b)] (fun ret => ret = .tup [.rd 1 (((ulebAll b.length b).getD []).map iA), .v (.bool (ulebAll b.length b).isSome)]) := by
  refine A0.body 28 Try.func52 rfl rfl Try.ntmps52 fun base n0 => ?_
  refine AW.seq' ?_
  refine AW.region ?_
  refine AO.c ?_
  refine AO.c ?_
  refine AO.nil ?_
  refine SQ.normal ?_
  refine AW.seq' ?_
  refine AW.region ?_
  refine AO.c ?_
  refine AO.nil ?_
  refine SQ.normal ?_
  refine AW.seq' ?_
  refine AW.seq' ?_
  refine AW.region ?_
  refine AO.c ?_
  refine AO.nil ?_
  refine SQ.normal ?_
  refine AW.block' ?_
  refine AW.ghost (Gh.adoptM 4 3 1) ?_
  refine AW.loopU3 [.k, .f, .f, .f, .k, .k, .F, .F, .f, .f, .f, .f, .f, .f] (fun (ep : Nat) (a : Int) (out : List Int) => [(4, .own (n0 + 0) ep 0 out.length), (5, .v (.int .i64 (a)))]) (fun ep a out => Hn n0 [some (.row 3 1 ep (out.map iA))]) (fun m ep a out => (0 ≤ a ∧ a ≤ b.length ∧ (b.length : Int) - a ≤ m ∧ (out.length : Int) ≤ a) ∧ ulebAll b.length b = (ulebAll m (b.drop a.toNat)).map (out ++ ·)) (b.length) (0) (0) ([]) ⟨by simp, by simp⟩ (by first | rfl | (simp; done)) (by first | rfl | (simp; done)) ?_
  rintro m0 ep a out ⟨hx1, hx2⟩
  refine AW.seq' ?_
  refine AW.seq' ?_
  refine AW.region ?_
  refine AO.c ?_
  refine AO.c ?_
  refine AO.c ?_
  refine AO.c ?_
  refine AO.nil ?_
  refine SQ.normal ?_
  refine AW.iteB (GL.ev _) (fun h0 => ?_) (fun h0 => ?_)
  · skip
    rw [decide_eq_true_eq] at h0
    have hne : b.drop a.toNat ≠ [] := fun h => by have := congrArg List.length h; rw [List.length_drop] at this; simp at this; omega
    have hI : I64 a := by unfold I64; omega
    have hgd : ulebG b a = ulebH (b.drop a.toNat) := by unfold ulebG; rw [if_pos hx1.1]
    refine AW.skip ?_
    refine SQ.normal ?_
    refine AW.block' ?_
    refine AW.seq' ?_
    refine AW.region ?_
    refine AO.c ?_
    refine AO.c ?_
    refine AO.call1 Try.func50 rfl rfl (uleb_Get _ _ (by assumption) (by omega) (by assumption)) ?_
    refine AO.c ?_
    refine AO.c ?_
    refine AO.c ?_
    refine AO.c ?_
    refine AO.c ?_
    refine AO.c ?_
    refine AO.c ?_
    refine AO.nil ?_
    refine SQ.normal ?_
    refine AW.seq' ?_
    refine AW.seq' ?_
    refine AW.region ?_
    refine AO.c ?_
    refine AO.c ?_
    refine AO.nil ?_
    refine SQ.normal ?_
    refine AW.iteB (GL.ev _) (fun h1 => ?_) (fun h1 => ?_)
    · skip
      have hgn : ulebG b a = none := by simpa using h1
      rw [ulebAll_cons hne (by omega), ← hgd, hgn] at hx2
      refine AW.seq' ?_
      refine AW.region ?_
      refine AO.c ?_
      refine AO.c ?_
      refine AO.nil ?_
      refine SQ.normal ?_
      refine AW.ret ?_
      refine SQ.ret <| BQ.ret <| AW.out <| LU.ret <| BQ.ret <| SQ.ret ?_
      refine Fin.ret (Gh.nilM (α := Int) 2 1 iA) noid2 ?_
      rw [hx2]; rfl
    · skip
      obtain ⟨⟨v, n⟩, hg⟩ : ∃ p, ulebG b a = some p := Option.isSome_iff_exists.1 (by simpa using h1)
      have hgs := ulebG_some hB hg
      have hnext : ulebAll b.length b = (ulebAll (m0 - 1) (b.drop (gX a (ulebG b a)).toNat)).map ((out ++ [gN (ulebG b a)]) ++ ·) := by
        rw [hx2, ulebAll_cons hne (by omega), ← hgd, hg]
        simp only [gX, gN, List.drop_drop]
        rw [Option.map_map, show (a + (n : Int)).toNat = a.toNat + n by omega]
        congr 1
        funext r
        simp
      refine AW.skip ?_
      refine SQ.normal ?_
      refine AW.seq' ?_
      refine AW.region ?_
      refine AO.c ?_
      refine AO.c ?_
      refine AO.rr ?_
      refine AO.ww ?_
      refine AO.c ?_
      refine AO.nil ?_
      refine SQ.normal ?_
      refine AW.region ?_
      refine AO.c ?_
      refine AO.c ?_
      refine AO.nil ?_
      refine BQ.normal ?_
      exact AW.backU [.k, .f, .f, .f, .k, .k, .F, .F, .f, .f, .f, .f, .f, .f] (m0 - 1) (ep + 1, gX a (ulebG b a), out ++ [gN (ulebG b a)]) (by omega) (by (try dsimp only); exact ⟨by rw [hg]; simp only [gX, List.length_append, List.length_cons, List.length_nil]; omega, hnext⟩) (by first | rfl | (simp; done)) (by first | rfl | (simp; done))
  · skip
    rw [decide_eq_false_iff_not] at h0
    have hnil : b.drop a.toNat = [] := List.drop_of_length_le (by omega)
    rw [hnil, ulebAll_nil] at hx2
    refine AW.exit ?_
    refine SQ.exit <| AW.out <| LU.exit <| BQ.exit ?_
    refine SQ.normal ?_
    refine AW.seq' ?_
    refine AW.region ?_
    refine AO.c ?_
    refine AO.c ?_
    refine AO.c ?_
    refine AO.nil ?_
    refine SQ.normal ?_
    refine AW.ret ?_
    refine Fin.ret (Gh.freezeM 2 iA out rfl rfl (by omega)) noid2 ?_
    rw [hx2]; simp [packA]
theorem uleb_Put (n : Int) (hn : I64 n) : A0 Try.prog 54 [.v (.int .i64 (n))] (fun ret => ret = .rd 1 (bys (encB n))) := by
  unfold I64 at hn
  refine A0.body 26 Try.func54 rfl rfl Try.ntmps54 fun base n0 => ?_
  refine AW.seq' ?_
  refine AW.region ?_
  refine AO.c ?_
  refine AO.nil ?_
  refine SQ.normal ?_
  refine AW.seq' ?_
  refine AW.seq' ?_
  refine AW.region ?_
  refine AO.c ?_
  refine AO.c ?_
  refine AO.c ?_
  refine AO.gx ?_
  refine AO.gx ?_
  refine AO.c ?_
  refine AO.nil ?_
  refine SQ.normal ?_
  refine AW.iteB (GL.ev _) (fun h0 => ?_) (fun h0 => ?_)
  · skip
    simp only [Bool.or_eq_true, decide_eq_true_eq] at h0
    have hno : encB n = [] := by unfold encB; rw [if_neg (by omega)]
    refine AW.seq' ?_
    refine AW.region ?_
    refine AO.c ?_
    refine AO.nil ?_
    refine SQ.normal ?_
    refine AW.ret ?_
    refine SQ.ret ?_
    refine Fin.ret (Gh.nilB 2) noid1 ?_
    rw [hno]; rfl
  · skip
    simp only [Bool.or_eq_false_iff, decide_eq_false_iff_not] at h0
    have hyes : encB n = enc 5 n := by unfold encB; rw [if_pos (by omega)]
    refine AW.skip ?_
    refine SQ.normal ?_
    refine AW.seq' ?_
    refine AW.region ?_
    refine AO.c ?_
    refine AO.nil ?_
    refine SQ.normal ?_
    refine AW.seq' ?_
    refine AW.block' ?_
    refine AW.ghost (Gh.adoptB 3 5) ?_
    refine AW.loopU3 [.k, .f, .f, .k, .F, .F, .f, .f, .f, .f, .f, .f] (fun (ep : Nat) (x : Int) (out : List Int) => [(0, .v (.int .i64 (x))), (3, .own (n0 + 0) ep 0 out.length)]) (fun ep x out => Hn n0 [some (.row 5 1 ep (bys out))]) (fun m ep x out => enc 5 n = out ++ enc m x ∧ 0 ≤ x ∧ x < 128 ^ m ∧ (1 ≤ m ∧ out.length + m = 5)) (5) (0) (n) ([]) ⟨rfl, by omega, by omega, by simp⟩ (by first | rfl | (simp; done)) (by first | rfl | (simp; done)) ?_
    rintro m0 ep x out ⟨hx1, hx2, hx3, hx4⟩
    have hxb : x < 128 ^ 5 := Int.lt_of_lt_of_le hx3 (pow128_le (by omega))
    refine AW.seq' ?_
    refine AW.seq' ?_
    refine AW.region ?_
    refine AO.c ?_
    refine AO.c ?_
    refine AO.nil ?_
    refine SQ.normal ?_
    refine AW.iteB (GL.ev _) (fun h1 => ?_) (fun h1 => ?_)
    · skip
      rw [decide_eq_true_eq] at h1
      have hm2 : 2 ≤ m0 := by
        rcases Nat.lt_or_ge m0 2 with h | h
        · have : m0 = 1 := by omega
          subst this; omega
        · exact h
      have hst : enc m0 x = (x % 128 + 128) :: enc (m0 - 1) (x / 128) := by
        obtain ⟨k, rfl⟩ : ∃ k, m0 = k + 1 := ⟨m0 - 1, by omega⟩
        show (if x < 128 then [x] else _) = _
        rw [if_neg (by omega)]; rfl
      have hpp : x / 128 < 128 ^ (m0 - 1) := by
        obtain ⟨k, rfl⟩ : ∃ k, m0 = k + 1 := ⟨m0 - 1, by omega⟩
        have := hx3; rw [Int.pow_succ] at this
        show x / 128 < 128 ^ k
        omega
      refine AW.skip ?_
      refine SQ.normal ?_
      refine AW.seq' ?_
      refine AW.block' ?_
      refine AW.region ?_
      refine AO.c ?_
      refine AO.c ?_
      refine AO.oo ?_
      refine AO.oo ?_
      refine AO.oo ?_
      refine AO.rr ?_
      refine AO.ww ?_
      refine AO.c ?_
      refine AO.nil ?_
      refine BQ.normal ?_
      refine SQ.normal ?_
      refine AW.region ?_
      refine AO.c ?_
      refine AO.oo ?_
      refine AO.c ?_
      refine AO.nil ?_
      exact AW.backU [.k, .f, .f, .k, .F, .F, .f, .f, .f, .f, .f, .f] (m0 - 1) (ep + 1, x / 128, out ++ [x % 128 + 128]) (by omega) (by (try dsimp only); exact ⟨by rw [hx1, hst]; simp, by omega, hpp, by simp; omega⟩) (by first | rfl | (simp; done)) (by first | rfl | (simp; done))
    · skip
      rw [decide_eq_false_iff_not] at h1
      have hst : enc m0 x = [x] := by
        obtain ⟨k, rfl⟩ : ∃ k, m0 = k + 1 := ⟨m0 - 1, by omega⟩
        show (if x < 128 then [x] else _) = _
        rw [if_pos (by omega)]
      have hfin : out ++ [x] = encB n := by rw [hyes, hx1, hst]
      refine AW.exit ?_
      refine SQ.exit <| AW.out <| LU.exit <| BQ.exit ?_
      refine SQ.normal ?_
      refine AW.seq' ?_
      refine AW.region ?_
      refine AO.c ?_
      refine AO.c ?_
      refine AO.oo ?_
      refine AO.rr ?_
      refine AO.ww ?_
      refine AO.c ?_
      refine AO.nil ?_
      refine SQ.normal ?_
      refine AW.ret ?_
      refine Fin.ret (Gh.freezeE 2 hfin (by rw [← hfin]; simp) (by rw [← hfin]; simp; omega)) noid1 ?_
      rfl

end Go.Proofs.Ytbaibjhkmajplaa.AL
