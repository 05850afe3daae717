/- What the printed functions of UlebTells compute, in plain words. -/
import Derived.Test.YtbaibjhkmajplaaBase
import Derived.Test.YtbaibjhkmajplaaQUlebTellsx4
namespace Go.Proofs.Ytbaibjhkmajplaa.UlebTellsLe
open Go.RowKit Go.Proofs.Ytbaibjhkmajplaa.Base Go.Proofs.Ytbaibjhkmajplaa.PUlebTells Go.Proofs.YtbaibjhkmajplaaW.PrintWords Go.Proofs.YtbaibjhkmajplaaW.PrintLast Go.Proofs.YtbaibjhkmajplaaW.PrintMore

/-- What Get tells. -/
def GetS (l : List Int) (at_ : Int) : Int × Int × Bool :=
  if 0 ≤ at_ ∧ at_ < l.length then
    match ulebD 5 (l.drop at_.toNat) with
    | some (v, m) => if v > 2147483647 then (0, 0, false) else (v, at_ + m, true)
    | none => (0, 0, false)
  else (0, 0, false)

theorem uget_l0 (l : List Int) (hb : Bytes l) (hl : l.length ≤ 1000000000000000) (a : Nat) : ∀ (d i : Nat) (y : Int) (k : Nat), i + d = 5 → 0 ≤ y → y < 128 ^ i → 2 * d < k →
    uleb_Get.l0 k l (a : Int) y (i : Int) = some (match ulebD d (l.drop (a + i)) with
      | some (v, m) => if y + 128 ^ i * v > 2147483647 then (0, 0, false) else (y + 128 ^ i * v, ((a + i + m : Nat) : Int), true)
      | none => (0, 0, false)) := by
  intro d
  induction d with
  | zero =>
    intro i y k hi h0 h1 hk
    obtain ⟨k, rfl⟩ : ∃ m, k = m + 1 := ⟨k - 1, by omega⟩
    simp only [uleb_Get.l0]
    rw [if_neg (by omega)]
    simp [ulebD]
  | succ d ih =>
    intro i y k hi h0 h1 hk
    obtain ⟨k, rfl⟩ : ∃ m, k = m + 2 := ⟨k - 2, by omega⟩
    simp only [uleb_Get.l0]
    rw [if_pos (by omega), if_neg (by omega), w64 (x := (l.length : Int) - (i : Int)) (by omega) (by omega)]
    simp only [uleb_Get.j1]
    by_cases hlt : a + i < l.length
    · rw [if_neg (by simp; omega)]
      have e1 : wrap64 ((a : Int) + (i : Int)) = ((a + i : Nat) : Int) := by rw [w64 (by omega) (by omega)]; omega
      have hbx := hb l[a + i] (List.getElem_mem hlt)
      rw [e1, rd_nat l _ hlt, if_pos (by omega), if_pos (by omega), if_pos (by rw [w64 (by omega) (by omega)]; omega),
        Int.tmod_eq_emod_of_nonneg hbx.1, w64 (x := l[a + i] % 128) (by omega) (by omega), or_i64 i (by omega) y _ h0 h1 (by omega) (by omega),
        List.drop_eq_getElem_cons hlt, ulebD]
      have hp := pow128_pos i
      have hp4 : (128 : Int) ^ i ≤ 128 ^ 4 := pow128_le (by omega)
      have h4 : (128 : Int) ^ 4 = 268435456 := by decide
      have hm : 0 ≤ 128 ^ i * (l[a + i] % 128) := Int.mul_nonneg (by omega) (by omega)
      have hm2 : 128 ^ i * (l[a + i] % 128) ≤ 128 ^ i * 127 := Int.mul_le_mul_of_nonneg_left (by omega) (by omega)
      by_cases hc : l[a + i] < 128
      · rw [if_neg (by omega), if_pos hc]
        have e3 : l[a + i] % 128 = l[a + i] := by omega
        simp only [e3]
        have e4 : wrap64 (((a + i : Nat) : Int) + 1) = ((a + i + 1 : Nat) : Int) := by rw [w64 (by omega) (by omega)]; omega
        rw [e4]
        split <;> rfl
      · rw [if_pos (by omega), if_neg hc, w64 (x := (i : Int) + 1) (by omega) (by omega), show ((i : Int) + 1) = ((i + 1 : Nat) : Int) from by omega,
          ih (i + 1) _ k (by omega) (by omega) (by rw [Int.pow_succ]; omega) (by omega)]
        rw [show a + (i + 1) = a + i + 1 from by omega]
        cases hr : ulebD d (l.drop (a + i + 1)) with
        | none => rfl
        | some r =>
          obtain ⟨v, m⟩ := r
          simp only [Option.map_some]
          have e5 : y + 128 ^ i * (l[a + i] % 128) + 128 ^ (i + 1) * v = y + 128 ^ i * (l[a + i] % 128 + 128 * v) := by
            rw [Int.mul_add, Int.pow_succ, Int.mul_assoc]; omega
          rw [e5, show a + i + 1 + m = a + i + (m + 1) from by omega]
    · rw [if_pos (by simp; omega), List.drop_of_length_le (by omega)]
      cases d <;> simp [ulebD]

theorem uget_eq (l : List Int) (hb : Bytes l) (hl : l.length ≤ 1000000000000000) (a : Int) (k : Nat) (hk : 20 ≤ k) : uleb_Get.f k l a = some (GetS l a) := by
  unfold uleb_Get.f GetS
  by_cases h0 : 0 ≤ a
  · have := uget_l0 l hb hl a.toNat 5 0 0 k (by omega) (by omega) (by simp) (by omega)
    rw [show ((a.toNat : Nat) : Int) = a from by omega] at this
    refine Eq.trans this ?_
    by_cases h1 : a < l.length
    · rw [if_pos ⟨h0, h1⟩]
      simp only [Nat.add_zero]
      cases hr : ulebD 5 (l.drop a.toNat) with
      | none => rfl
      | some r =>
        obtain ⟨v, m⟩ := r
        simp only [Int.pow_zero, Int.one_mul, Int.zero_add]
        rw [show ((a.toNat + m : Nat) : Int) = a + m from by omega]
    · rw [if_neg (by omega), List.drop_of_length_le (by omega)]
      simp [ulebD]
  · rw [if_neg (by omega)]
    obtain ⟨k, rfl⟩ : ∃ m, k = m + 2 := ⟨k - 2, by omega⟩
    simp only [uleb_Get.l0]
    rw [if_pos (by omega), if_pos (by omega)]
    simp [uleb_Get.j1]

theorem uput_l0 : ∀ (f : Nat) (n : Int) (x : List Int) (k : Nat), 0 ≤ n → n < 128 ^ (f + 1) → n ≤ 2147483647 → x.length + f ≤ 1000000 → f + 1 < k →
    uleb_Put.l0 k n x = some (x ++ enc (f + 1) n) := by
  intro f
  induction f with
  | zero =>
    intro n x k h0 h1 h2 hx hk
    obtain ⟨k, rfl⟩ : ∃ m, k = m + 1 := ⟨k - 1, by omega⟩
    have h1 : n < 128 := by simpa using h1
    simp only [uleb_Put.l0, enc]
    rw [if_neg (by omega), if_pos (by omega), if_pos h1, Int.emod_eq_of_lt h0 (by omega)]
  | succ f ih =>
    intro n x k h0 h1 h2 hx hk
    obtain ⟨k, rfl⟩ : ∃ m, k = m + 1 := ⟨k - 1, by omega⟩
    rw [enc]
    simp only [uleb_Put.l0]
    by_cases hc : n < 128
    · rw [if_neg (by omega), if_pos (by omega), if_pos hc, Int.emod_eq_of_lt h0 (by omega)]
    · rw [Int.pow_succ] at h1
      rw [if_pos (by omega), if_pos (by omega), if_neg hc, Int.tdiv_eq_ediv_of_nonneg h0, Int.tmod_eq_emod_of_nonneg h0, w64 (by omega) (by omega),
        ih (n / 128) _ k (by omega) (by omega) (by omega) (by simp; omega) (by omega)]
      rw [show (n % 128 + 128) % 256 = n % 128 + 128 from by omega]
      simp

/-- What Put tells. -/
def PutS (n : Int) : List Int := if 0 ≤ n ∧ n ≤ 2147483647 then enc 5 n else []
theorem uput_eq (n : Int) (k : Nat) (hk : 20 ≤ k) : uleb_Put.f k n = some (PutS n) := by
  obtain ⟨k, rfl⟩ : ∃ m, k = m + 1 := ⟨k - 1, by omega⟩
  unfold uleb_Put.f PutS
  by_cases h0 : n < 0
  · rw [if_pos h0, if_neg (by omega)]; simp [uleb_Put.j0]
  · rw [if_neg h0]
    simp only [uleb_Put.j0]
    by_cases h1 : n > 2147483647
    · rw [if_pos (decide_eq_true h1), if_neg (by omega)]
    · rw [if_neg (by simpa using h1), if_pos (by omega)]
      have := uput_l0 4 n [] k (by omega) (by have h : (128 : Int) ^ (4 + 1) = 34359738368 := by decide
                                              omega) (by omega) (by simp) (by omega)
      simpa using this

theorem uup_eq (k : Nat) (hk : 20 ≤ k) : fishplatelaw02_up.f k = some true := by
  unfold fishplatelaw02_up.f
  rw [uput_eq _ k hk]
  decide +kernel

theorem ints_l0 (l : List Int) (hl : l.length ≤ 1000000000000000) : ∀ (d i : Nat) (k : Nat), i + d = l.length → d < k → fishplatelaw00_Ints.l0 k l l (i : Int) = some 1 := by
  intro d
  induction d with
  | zero =>
    intro i k hi hk
    obtain ⟨k, rfl⟩ : ∃ m, k = m + 1 := ⟨k - 1, by omega⟩
    simp only [fishplatelaw00_Ints.l0]
    rw [if_neg (by omega)]
  | succ d ih =>
    intro i k hi hk
    obtain ⟨k, rfl⟩ : ∃ m, k = m + 1 := ⟨k - 1, by omega⟩
    simp only [fishplatelaw00_Ints.l0]
    rw [if_pos (by omega), if_pos (by omega), if_pos (by omega), if_pos trivial, w64 (by omega) (by omega), show ((i : Int) + 1) = ((i + 1 : Nat) : Int) from by omega]
    exact ih (i + 1) k (by omega) (by omega)
theorem ints_same (l : List Int) (hl : l.length ≤ 1000000000000000) (k : Nat) (hk : l.length < k) : fishplatelaw00_Ints.f k l l = some 1 := by
  unfold fishplatelaw00_Ints.f
  rw [if_pos rfl]
  exact ints_l0 l hl l.length 0 k (by omega) hk

theorem dig_l1 (l : List Int) (hb : Bytes l) (hl : l.length ≤ 1000000000000000) (a p : Nat) (hp : p < l.length) (hap : p < a + 5) (ha : a ≤ p) : ∀ (c j : Nat) (v : Int) (k : Nat), a + c = j → j ≤ p + 1 → v = hv ((l.drop j).take (p + 1 - j)) → c < k →
    fishplateref01_Digits.l1 k l (a : Int) (p : Int) v ((j : Int) - 1) =
      some (if hv ((l.drop a).take (p + 1 - a)) > 2147483647 then (0, 0) else (hv ((l.drop a).take (p + 1 - a)), ((p + 1 - a : Nat) : Int))) := by
  intro c
  induction c with
  | zero =>
    intro j v k hj hjp hv' hk
    obtain rfl : a = j := by omega
    obtain ⟨k, rfl⟩ : ∃ m, k = m + 1 := ⟨k - 1, by omega⟩
    simp only [fishplateref01_Digits.l1]
    rw [if_neg (by omega), ← hv', w64 (x := (p : Int) + 1) (by omega) (by omega), w64 (by omega) (by omega), show (p : Int) + 1 - (a : Int) = ((p + 1 - a : Nat) : Int) from by omega]
    split <;> rfl
  | succ c ih =>
    intro j v k hj hjp hv' hk
    obtain ⟨k, rfl⟩ : ∃ m, k = m + 1 := ⟨k - 1, by omega⟩
    obtain ⟨j, rfl⟩ : ∃ m, j = m + 1 := ⟨j - 1, by omega⟩
    have hlt : j < l.length := by omega
    have hbx := hb l[j] (List.getElem_mem hlt)
    have hvb := hv_bound ((l.drop (j + 1)).take (p + 1 - (j + 1)))
    rw [← hv'] at hvb
    have hlen : ((l.drop (j + 1)).take (p + 1 - (j + 1))).length ≤ 4 := by simp; omega
    have h4 : (128 : Int) ^ ((l.drop (j + 1)).take (p + 1 - (j + 1))).length ≤ 128 ^ 4 := pow128_le hlen
    have h44 : (128 : Int) ^ 4 = 268435456 := by decide
    simp only [fishplateref01_Digits.l1]
    rw [show ((j + 1 : Nat) : Int) - 1 = (j : Int) from by omega, if_pos (by omega), if_pos (by omega), if_pos (by omega), rd_nat l j hlt,
      w64 (x := 128 * v) (by omega) (by omega), w64 (x := l[j]) (by omega) (by omega), Int.tmod_eq_emod_of_nonneg hbx.1, w64 (x := 128 * v + l[j] % 128) (by omega) (by omega), w64 (x := (j : Int) - 1) (by omega) (by omega)]
    refine ih j _ k (by omega) (by omega) ?_ (by omega)
    rw [List.drop_eq_getElem_cons hlt, show p + 1 - j = (p + 1 - (j + 1)) + 1 from by omega, List.take_succ_cons]
    simp only [hv]
    rw [hv']; omega

theorem dig_l0 (l : List Int) (hb : Bytes l) (hl : l.length ≤ 1000000000000000) (a : Nat) : ∀ (d i : Nat) (k : Nat), i + d = 5 → a + i ≤ l.length → d + 12 < k →
    fishplateref01_Digits.l0 k l (a : Int) ((a + i : Nat) : Int) = some (match ulebD d (l.drop (a + i)) with
      | some (v, m) => if hv ((l.drop a).take i) + 128 ^ i * v > 2147483647 then (0, 0) else (hv ((l.drop a).take i) + 128 ^ i * v, ((i + m : Nat) : Int))
      | none => (0, 0)) := by
  intro d
  induction d with
  | zero =>
    intro i k hi hl' hk
    obtain ⟨k, rfl⟩ : ∃ m, k = m + 1 := ⟨k - 1, by omega⟩
    simp only [fishplateref01_Digits.l0]
    obtain ⟨k, rfl⟩ : ∃ m, k = m + 2 := ⟨k - 2, by omega⟩
    have e0 : wrap64 ((a : Int) + 5) = (a : Int) + 5 := w64 (by omega) (by omega)
    have e1 : fishplateref01_Digits.j2 (k + 2) l (a : Int) ((a + i : Nat) : Int) = some (0, 0) := by
      simp only [fishplateref01_Digits.j2]
      by_cases hc : ((a + i : Nat) : Int) = (l.length : Int)
      · rw [if_pos hc]; simp [fishplateref01_Digits.j3]
      · rw [if_neg hc, e0, beq_iff_eq.2 (by omega)]; simp [fishplateref01_Digits.j3]
    rw [e0, e1]
    simp only [ulebD]
    by_cases hc : ((a + i : Nat) : Int) < (l.length : Int)
    · rw [if_pos hc, if_neg (by omega)]
    · rw [if_neg hc]
  | succ d ih =>
    intro i k hi hl' hk
    obtain ⟨k, rfl⟩ : ∃ m, k = m + 1 := ⟨k - 1, by omega⟩
    simp only [fishplateref01_Digits.l0]
    obtain ⟨k, rfl⟩ : ∃ m, k = m + 2 := ⟨k - 2, by omega⟩
    have e0 : wrap64 ((a : Int) + 5) = (a : Int) + 5 := w64 (by omega) (by omega)
    rw [e0]
    by_cases hlt : a + i < l.length
    · have hbx := hb l[a + i] (List.getElem_mem hlt)
      rw [if_pos (by omega), if_pos (by omega), if_pos (by omega), rd_nat l _ hlt, List.drop_eq_getElem_cons hlt, ulebD]
      have hsn : (l.drop a).take (i + 1) = (l.drop a).take i ++ [l[a + i]] := by
        rw [List.take_succ_eq_append_getElem (by simp; omega)]
        simp
      have hlen : ((l.drop a).take i).length = i := by simp; omega
      by_cases hc : l[a + i] > 127
      · rw [if_pos hc, if_neg (by omega), w64 (by omega) (by omega), show ((a + i : Nat) : Int) + 1 = ((a + (i + 1) : Nat) : Int) from by omega,
          ih (i + 1) (k + 2) (by omega) (by omega) (by omega), hsn, hv_snoc, hlen, show a + (i + 1) = a + i + 1 from by omega]
        cases hr : ulebD d (l.drop (a + i + 1)) with
        | none => rfl
        | some r =>
          obtain ⟨v, m⟩ := r
          simp only [Option.map_some]
          have e5 : hv ((l.drop a).take i) + 128 ^ i * (l[a + i] % 128) + 128 ^ (i + 1) * v = hv ((l.drop a).take i) + 128 ^ i * (l[a + i] % 128 + 128 * v) := by
            rw [Int.mul_add, Int.pow_succ, Int.mul_assoc]; omega
          rw [e5, show i + 1 + m = i + (m + 1) from by omega]
      · rw [if_neg hc, if_pos (by omega)]
        simp only [fishplateref01_Digits.j2]
        rw [if_neg (by omega), e0, beq_eq_false_iff_ne.2 (by omega)]
        simp only [fishplateref01_Digits.j3]
        rw [if_neg (by decide)]
        have := dig_l1 l hb hl a (a + i) hlt (by omega) (by omega) (i + 1) (a + i + 1) 0 k (by omega) (by omega) (by simp [hv]) (by omega)
        rw [show ((a + i + 1 : Nat) : Int) - 1 = ((a + i : Nat) : Int) from by omega, show a + i + 1 - a = i + 1 from by omega, hsn, hv_snoc, hlen] at this
        rw [this]
        have e3 : l[a + i] % 128 = l[a + i] := by omega
        rw [e3]
    · rw [if_neg (by omega), List.drop_of_length_le (by omega)]
      simp only [fishplateref01_Digits.j2]
      rw [if_pos (by omega)]
      simp [fishplateref01_Digits.j3, ulebD]

/-- What Digits tells. -/
def DigS (l : List Int) (at_ : Int) : Int × Int :=
  if 0 ≤ at_ ∧ at_ < l.length then
    match ulebD 5 (l.drop at_.toNat) with
    | some (v, m) => if v > 2147483647 then (0, 0) else (v, m)
    | none => (0, 0)
  else (0, 0)
theorem digits_eq (l : List Int) (hb : Bytes l) (hl : l.length ≤ 1000000000000000) (a : Int) (k : Nat) (hk : 20 ≤ k) : fishplateref01_Digits.f k l a = some (DigS l a) := by
  obtain ⟨k, rfl⟩ : ∃ m, k = m + 1 := ⟨k - 1, by omega⟩
  unfold fishplateref01_Digits.f DigS
  by_cases h0 : a < 0
  · rw [if_pos h0, if_neg (by omega)]; simp [fishplateref01_Digits.j0]
  · rw [if_neg h0]
    simp only [fishplateref01_Digits.j0]
    by_cases h1 : a ≥ l.length
    · rw [if_pos (decide_eq_true h1), if_neg (by omega)]
    · rw [if_neg (by simpa using h1), if_pos (by omega)]
      have := dig_l0 l hb hl a.toNat 5 0 k (by omega) (by omega) (by omega)
      rw [show ((a.toNat + 0 : Nat) : Int) = a from by omega, show ((a.toNat : Nat) : Int) = a from by omega] at this
      rw [this]
      simp only [Nat.add_zero, List.take_zero, hv, Int.pow_zero, Int.one_mul, Int.zero_add, Nat.zero_add]

theorem ruleb_eq : ∀ (f : Nat) (n : Int) (k : Nat), f ≤ 100 → 0 ≤ n → n < 128 ^ (f + 1) → n ≤ 2147483647 → 2 * f + 3 ≤ k → fishplateref01_Uleb.f k n = some (enc (f + 1) n) := by
  intro f
  induction f with
  | zero =>
    intro n k hf h0 h1 h2 hk
    obtain ⟨k, rfl⟩ : ∃ m, k = m + 2 := ⟨k - 2, by omega⟩
    have h1 : n < 128 := by simpa using h1
    simp only [fishplateref01_Uleb.f, fishplateref01_Uleb.j0, enc]
    rw [if_neg (by omega), if_neg (by simp; omega), if_pos h1, if_pos h1, Int.emod_eq_of_lt h0 (by omega)]
  | succ f ih =>
    intro n k hf h0 h1 h2 hk
    obtain ⟨k, rfl⟩ : ∃ m, k = m + 2 := ⟨k - 2, by omega⟩
    rw [enc]
    simp only [fishplateref01_Uleb.f, fishplateref01_Uleb.j0]
    rw [if_neg (by omega), if_neg (by simp; omega)]
    by_cases hc : n < 128
    · rw [if_pos hc, if_pos hc, Int.emod_eq_of_lt h0 (by omega)]
    · rw [Int.pow_succ] at h1
      rw [if_neg hc, if_neg hc, Int.tdiv_eq_ediv_of_nonneg h0, Int.tmod_eq_emod_of_nonneg h0, w64 (x := n / 128) (by omega) (by omega), w64 (by omega) (by omega),
        ih (n / 128) k (by omega) (by omega) (by omega) (by omega) (by omega)]
      simp only [Option.bind_some]
      have := enc_length (f + 1) (n / 128)
      rw [if_pos (by simp; omega), show (128 + n % 128) % 256 = n % 128 + 128 from by omega]
      rfl

theorem uleb_none (n : Int) (h : ¬ (0 ≤ n ∧ n ≤ 2147483647)) (k : Nat) (hk : 3 ≤ k) : fishplateref01_Uleb.f k n = some [] := by
  obtain ⟨k, rfl⟩ : ∃ m, k = m + 2 := ⟨k - 2, by omega⟩
  simp only [fishplateref01_Uleb.f]
  by_cases h0 : n < 0
  · rw [if_pos h0]; simp [fishplateref01_Uleb.j0]
  · rw [if_neg h0, decide_eq_true (by omega)]; simp [fishplateref01_Uleb.j0]

end Go.Proofs.Ytbaibjhkmajplaa.UlebTellsLe
