/- A part of the proof: rules of an own logic over blocks, and what functions of the program compute, each by its own contract; the conditions stand with each. -/
import Derived.RowKit
import Derived.WalkKit
import Derived.Laws.BitsLemmas
namespace Go.Proofs.YtdniaamhbfadnaaGreat.Base
open Go.RowKit
theorem w64 {x : Int} (h0 : -9223372036854775808 ≤ x) (h1 : x ≤ 9223372036854775807) : wrap64 x = x := by unfold wrap64; omega
theorem wu64 {x : Int} (h0 : 0 ≤ x) (h1 : x < 18446744073709551616) : IntKind.u64.wrap x = x := by
  simp [IntKind.wrap, IntKind.bits, IntKind.signed]; omega
theorem wu64_mod (x : Int) : IntKind.u64.wrap x = x % 18446744073709551616 := by
  simp [IntKind.wrap, IntKind.bits, IntKind.signed]
theorem wi64_eq (x : Int) : IntKind.i64.wrap x = wrap64 x := by rw [IntKind.wrap_i64]; unfold wrap64; rfl
/-- The number of bytes, the lowest first. -/
def num : List Int → Int
  | [] => 0
  | x :: xs => x + 256 * num xs
/-- A number's n lowest bytes. -/
def dig (v : Int) : Nat → List Int
  | 0 => []
  | n + 1 => v % 256 :: dig (v / 256) n
/-- All of a list are bytes. -/
def Bytes (l : List Int) : Prop := ∀ x ∈ l, 0 ≤ x ∧ x < 256
theorem dig_length (v : Int) (n : Nat) : (dig v n).length = n := by
  induction n generalizing v with
  | zero => rfl
  | succ n ih => simp [dig, ih]
theorem dig_bytes (v : Int) (n : Nat) : Bytes (dig v n) := by
  induction n generalizing v with
  | zero => intro x hx; simp [dig] at hx
  | succ n ih =>
    intro x hx
    simp [dig] at hx
    rcases hx with rfl | hx
    · omega
    · exact ih _ _ hx
theorem pow_pos (n : Nat) : (0 : Int) < 256 ^ n := Int.pow_pos (by decide)
theorem num_nonneg {l : List Int} (h : Bytes l) : 0 ≤ num l := by
  induction l with
  | nil => simp [num]
  | cons x xs ih =>
    have := h x (by simp)
    have := ih (fun y hy => h y (by simp [hy]))
    simp only [num]; omega
theorem num_lt {l : List Int} (h : Bytes l) : num l < 256 ^ l.length := by
  induction l with
  | nil => simp [num]
  | cons x xs ih =>
    have := h x (by simp)
    have := ih (fun y hy => h y (by simp [hy]))
    simp only [num, List.length_cons, Int.pow_succ]; omega
theorem Bytes.take {l : List Int} (h : Bytes l) (n : Nat) : Bytes (l.take n) := fun x hx => h x (List.mem_of_mem_take hx)
theorem Bytes.drop {l : List Int} (h : Bytes l) (n : Nat) : Bytes (l.drop n) := fun x hx => h x (List.mem_of_mem_drop hx)
theorem Bytes.append {l m : List Int} (h : Bytes l) (h' : Bytes m) : Bytes (l ++ m) := fun x hx => by
  rcases List.mem_append.1 hx with hx | hx
  · exact h x hx
  · exact h' x hx
theorem Bytes.nil : Bytes [] := fun x hx => by simp at hx
/-- Two lists of bytes make one string just if they are one. -/
theorem strOfNums_inj {a b : List Int} (ha : Bytes a) (hb : Bytes b) : (strOfNums a).toList = (strOfNums b).toList ↔ a = b := by
  constructor
  · intro h
    have h1 : ∀ l : List Int, (strOfNums l).toList = l.map fun n => UInt8.ofNat n.toNat := by
      intro l; simp [strOfNums, ByteArray.toList_eq]
    rw [h1, h1] at h
    have h2 : ∀ l : List Int, Bytes l → (l.map fun n => UInt8.ofNat n.toNat).map (fun c : UInt8 => (c.toNat : Int)) = l := by
      intro l hl
      rw [List.map_map]
      conv => rhs; rw [← List.map_id l]
      apply List.map_congr_left
      intro x hx
      have := hl x hx
      simp only [Function.comp, UInt8.toNat_ofNat', id]
      omega
    rw [← h2 a ha, ← h2 b hb, h]
  · rintro rfl; rfl
/-- 'or' of what has no bit in common is the sum. -/
theorem or_sum (k : IntKind) (j : Nat) (hj : j ≤ k.bits) (hk : ∀ n : Int, 0 ≤ n → n < 2 ^ j → k.wrap n = n) (i : Nat)
    (y x : Int) (hx₀ : 0 ≤ x) (hx : x % 2 ^ i = 0) (hx₁ : x < 2 ^ j) (hy₀ : 0 ≤ y) (hy : y < 2 ^ i) (hy₁ : y < 2 ^ j) : Go.bits .or k y x = y + x := by
  have h := bits_join k j hj hk i x y hx₀ hx hx₁ hy₀ hy hy₁
  rw [Int.add_comm y x, ← h]
  obtain ⟨a, rfl⟩ := Int.eq_ofNat_of_zero_le hx₀
  obtain ⟨b, rfl⟩ := Int.eq_ofNat_of_zero_le hy₀
  have ha : a < 2 ^ j := by exact_mod_cast hx₁
  have hb : b < 2 ^ j := by exact_mod_cast hy₁
  rw [(bits_nat k j hj hk b a hb ha).2, (bits_nat k j hj hk a b ha hb).2, Nat.or_comm]
theorem u64_wraps (n : Int) (h0 : 0 ≤ n) (h1 : n < 2 ^ 64) : IntKind.u64.wrap n = n := wu64 h0 (by simpa using h1)
theorem i64_wraps (n : Int) (h0 : 0 ≤ n) (h1 : n < 2 ^ 63) : IntKind.i64.wrap n = n := by
  rw [wi64_eq]; exact w64 (by omega) (by have h : (2 : Int) ^ 63 = 9223372036854775808 := by decide
                                         omega)
theorem or_u64A (i : Nat) (hi : i < 8) (y b : Int) (hy0 : 0 ≤ y) (hy : y < 256 ^ i) (hb0 : 0 ≤ b) (hb : b < 256) :
    IntKind.u64.wrap (BitVec.ofInt IntKind.u64.bits y ||| BitVec.ofInt IntKind.u64.bits (IntKind.u64.wrap (b * 2 ^ (8 * (i : Int)).toNat))).toNat = y + 256 ^ i * b := by
  show Go.bits .or .u64 y (IntKind.u64.wrap (b * 2 ^ (8 * (i : Int)).toNat)) = _
  rw [show (8 * (i : Int)).toNat = 8 * i by omega]
  have hc : i = 0 ∨ i = 1 ∨ i = 2 ∨ i = 3 ∨ i = 4 ∨ i = 5 ∨ i = 6 ∨ i = 7 := by omega
  have e4 : IntKind.u64.wrap (b * 2 ^ (8 * i)) = 256 ^ i * b := by
    rcases hc with rfl | rfl | rfl | rfl | rfl | rfl | rfl | rfl <;> (rw [wu64 (by simp; omega) (by simp; omega)]; simp; try omega)
  rw [e4]
  rcases hc with rfl | rfl | rfl | rfl | rfl | rfl | rfl | rfl
  · exact or_sum .u64 64 (by decide) u64_wraps 0 _ _ (by simp; omega) (by omega) (by simp; omega) hy0 (by simp at hy ⊢; omega) (by simp at hy ⊢; omega)
  · exact or_sum .u64 64 (by decide) u64_wraps 8 _ _ (by simp; omega) (by simp) (by simp; omega) hy0 (by simp at hy ⊢; omega) (by simp at hy ⊢; omega)
  · exact or_sum .u64 64 (by decide) u64_wraps 16 _ _ (by simp; omega) (by simp) (by simp; omega) hy0 (by simp at hy ⊢; omega) (by simp at hy ⊢; omega)
  · exact or_sum .u64 64 (by decide) u64_wraps 24 _ _ (by simp; omega) (by simp) (by simp; omega) hy0 (by simp at hy ⊢; omega) (by simp at hy ⊢; omega)
  · exact or_sum .u64 64 (by decide) u64_wraps 32 _ _ (by simp; omega) (by simp) (by simp; omega) hy0 (by simp at hy ⊢; omega) (by simp at hy ⊢; omega)
  · exact or_sum .u64 64 (by decide) u64_wraps 40 _ _ (by simp; omega) (by simp) (by simp; omega) hy0 (by simp at hy ⊢; omega) (by simp at hy ⊢; omega)
  · exact or_sum .u64 64 (by decide) u64_wraps 48 _ _ (by simp; omega) (by simp) (by simp; omega) hy0 (by simp at hy ⊢; omega) (by simp at hy ⊢; omega)
  · exact or_sum .u64 64 (by decide) u64_wraps 56 _ _ (by simp; omega) (by simp) (by simp; omega) hy0 (by simp at hy ⊢; omega) (by simp at hy ⊢; omega)
theorem or_i64A (i : Nat) (hi : i < 5) (y b : Int) (hy0 : 0 ≤ y) (hy : y < 128 ^ i) (hb0 : 0 ≤ b) (hb : b < 128) :
    IntKind.i64.wrap (BitVec.ofInt IntKind.i64.bits y ||| BitVec.ofInt IntKind.i64.bits (IntKind.i64.wrap (b * 2 ^ (7 * (i : Int)).toNat))).toNat = y + 128 ^ i * b := by
  show Go.bits .or .i64 y (IntKind.i64.wrap (b * 2 ^ (7 * (i : Int)).toNat)) = _
  rw [show (7 * (i : Int)).toNat = 7 * i by omega]
  have hc : i = 0 ∨ i = 1 ∨ i = 2 ∨ i = 3 ∨ i = 4 := by omega
  have e4 : IntKind.i64.wrap (b * 2 ^ (7 * i)) = 128 ^ i * b := by
    rw [wi64_eq]
    rcases hc with rfl | rfl | rfl | rfl | rfl <;> (rw [w64 (by simp; omega) (by simp; omega)]; simp; try omega)
  rw [e4]
  rcases hc with rfl | rfl | rfl | rfl | rfl
  · exact or_sum .i64 63 (by decide) i64_wraps 0 _ _ (by simp; omega) (by omega) (by simp; omega) hy0 (by simp at hy ⊢; omega) (by simp at hy ⊢; omega)
  · exact or_sum .i64 63 (by decide) i64_wraps 7 _ _ (by simp; omega) (by simp) (by simp; omega) hy0 (by simp at hy ⊢; omega) (by simp at hy ⊢; omega)
  · exact or_sum .i64 63 (by decide) i64_wraps 14 _ _ (by simp; omega) (by simp) (by simp; omega) hy0 (by simp at hy ⊢; omega) (by simp at hy ⊢; omega)
  · exact or_sum .i64 63 (by decide) i64_wraps 21 _ _ (by simp; omega) (by simp) (by simp; omega) hy0 (by simp at hy ⊢; omega) (by simp at hy ⊢; omega)
  · exact or_sum .i64 63 (by decide) i64_wraps 28 _ _ (by simp; omega) (by simp) (by simp; omega) hy0 (by simp at hy ⊢; omega) (by simp at hy ⊢; omega)
/-- Is n a number of bytes that there is? -/
def Wide (n : Int) : Prop := n = 1 ∨ n = 2 ∨ n = 4 ∨ n = 8
instance (n : Int) : Decidable (Wide n) := by unfold Wide; infer_instance
/-- The bytes of an object's head. -/
def Hd (a m n : Int) : List Int :=
  [127, 69, 76, 70, 2, 1, 1, 0, 0, 0, 0, 0, 0, 0, 0, 0] ++ (dig 1 2 ++ (dig 62 2 ++ (dig 1 4 ++ (dig 0 8 ++ (dig 0 8 ++ (dig a 8 ++ (dig 0 4 ++ (dig 64 2 ++ (dig 0 2 ++ (dig 0 2 ++ (dig 64 2 ++ (dig m 2 ++ dig n 2))))))))))))
/-- May such a head be? -/
def MayHd (a m n : Int) : Prop := 0 ≤ a ∧ a ≤ 2147483647 ∧ 1 ≤ m ∧ m ≤ 65535 ∧ 1 ≤ n ∧ n < m
instance (a m n : Int) : Decidable (MayHd a m n) := by unfold MayHd; infer_instance
theorem hd_length (a m n : Int) : (Hd a m n).length = 64 := by simp [Hd, dig_length]
theorem hd_bytes (a m n : Int) : Bytes (Hd a m n) := by
  unfold Hd
  refine Bytes.append ?_ ?_
  · intro x hx; simp at hx; omega
  repeat' (refine Bytes.append (dig_bytes _ _) ?_)
  exact dig_bytes _ _
theorem pow_le_pow {a b : Nat} (h : a ≤ b) : (256 : Int) ^ a ≤ 256 ^ b := by
  have e : ∀ n : Nat, (256 : Int) ^ n = ((256 ^ n : Nat) : Int) := fun n => by rw [Int.natCast_pow]; rfl
  rw [e, e]
  exact Int.ofNat_le.2 (Nat.pow_le_pow_right (by decide) h)
/-- Numbers, each with its width behind it, as bytes. -/
def numsOf : List Int → List Int
  | v :: n :: l => dig v n.toNat ++ numsOf l
  | _ => []
/-- The number at the head of bytes by digits of seven bits, of at most f digits, and how many they are. -/
def ulebD : Nat → List Int → Option (Int × Nat)
  | 0, _ => none
  | _ + 1, [] => none
  | f + 1, x :: xs => if x < 128 then some (x, 1) else (ulebD f xs).map fun r => (x % 128 + 128 * r.1, r.2 + 1)
/-- A number's digits. -/
def enc : Nat → Int → List Int
  | 0, _ => []
  | f + 1, n => if n < 128 then [n] else (n % 128 + 128) :: enc f (n / 128)
theorem pow128_pos (n : Nat) : (0 : Int) < 128 ^ n := Int.pow_pos (by decide)
theorem pow128_le {a b : Nat} (h : a ≤ b) : (128 : Int) ^ a ≤ 128 ^ b := by
  have e : ∀ n : Nat, (128 : Int) ^ n = ((128 ^ n : Nat) : Int) := fun n => by rw [Int.natCast_pow]; rfl
  rw [e, e]
  exact Int.ofNat_le.2 (Nat.pow_le_pow_right (by decide) h)
theorem ulebD_bound : ∀ (f : Nat) (l : List Int) (v : Int) (n : Nat), Bytes l → ulebD f l = some (v, n) → 0 ≤ v ∧ v < 128 ^ n ∧ 1 ≤ n ∧ n ≤ f ∧ n ≤ l.length := by
  intro f
  induction f with
  | zero => intro l v n _ h; simp [ulebD] at h
  | succ f ih =>
    intro l v n hb h
    cases l with
    | nil => simp [ulebD] at h
    | cons x xs =>
      have hx := hb x (by simp)
      simp only [ulebD] at h
      by_cases hc : x < 128
      · rw [if_pos hc] at h
        simp only [Option.some.injEq, Prod.mk.injEq] at h
        obtain ⟨rfl, rfl⟩ := h
        simp; omega
      · rw [if_neg hc] at h
        cases hr : ulebD f xs with
        | none => rw [hr] at h; simp at h
        | some r =>
          obtain ⟨v', n'⟩ := r
          rw [hr] at h
          simp only [Option.map_some, Option.some.injEq, Prod.mk.injEq] at h
          obtain ⟨rfl, rfl⟩ := h
          have := ih xs v' n' (fun y hy => hb y (by simp [hy])) hr
          rw [Int.pow_succ]
          simp only [List.length_cons]
          omega
theorem enc_length : ∀ (f : Nat) (n : Int), (enc f n).length ≤ f := by
  intro f
  induction f with
  | zero => intro n; simp [enc]
  | succ f ih =>
    intro n
    simp only [enc]
    split
    · simp
    · simp; exact ih _
/-- The number of digits of seven bits, the lowest first. -/
def hv : List Int → Int
  | [] => 0
  | x :: xs => x % 128 + 128 * hv xs
/-- Numbers, of so many bytes each, one behind the other. -/
def joinW : List Nat → List Int → List Int
  | w :: ws, v :: vs => dig v w ++ joinW ws vs
  | _, _ => []
theorem joinW_length : ∀ (ws : List Nat) (vs : List Int), ws.length = vs.length → (joinW ws vs).length = ws.sum := by
  intro ws
  induction ws with
  | nil => intro vs h; cases vs <;> simp [joinW]
  | cons w ws ih =>
    intro vs h
    cases vs with
    | nil => simp at h
    | cons v vs => simp only [joinW, List.length_append, dig_length, List.sum_cons]; rw [ih vs (by simpa using h)]
/-- A symbol's entry: Name, Bind, Type, Index, Value, Size. -/
def MayE (n b t x v s : Int) : Prop := (0 ≤ n ∧ n ≤ 2147483647) ∧ (0 ≤ v ∧ v ≤ 2147483647) ∧ (0 ≤ s ∧ s ≤ 2147483647) ∧ (0 ≤ b ∧ b ≤ 2) ∧ (0 ≤ t ∧ t ≤ 3) ∧ (0 ≤ x ∧ x ≤ 65535)
end Go.Proofs.YtdniaamhbfadnaaGreat.Base
