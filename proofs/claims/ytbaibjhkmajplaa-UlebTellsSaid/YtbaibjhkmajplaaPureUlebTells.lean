/- UlebTells, over numbers and lists: for any bytes, any place and any number, the program and the reference tell the same. -/
import Derived.Test.YtbaibjhkmajplaaUlebTellsLe
namespace Go.Proofs.Ytbaibjhkmajplaa.Pure
open Go.Proofs.Ytbaibjhkmajplaa.UlebTellsLe Go.RowKit Go.Proofs.Ytbaibjhkmajplaa.Base Go.Proofs.Ytbaibjhkmajplaa.PUlebTells Go.Proofs.YtbaibjhkmajplaaW.PrintWords Go.Proofs.YtbaibjhkmajplaaW.PrintLast Go.Proofs.YtbaibjhkmajplaaW.PrintMore

theorem GetS_of_dig (l : List Int) (a : Int) (hb : Bytes l) : (GetS l a = (0, 0, false) ∧ DigS l a = (0, 0)) ∨ ∃ (v : Int) (m : Nat), 1 ≤ m ∧ 0 ≤ a ∧ a + m ≤ l.length ∧ GetS l a = (v, a + m, true) ∧ DigS l a = (v, (m : Int)) := by
  unfold GetS DigS
  by_cases h : 0 ≤ a ∧ a < l.length
  · rw [if_pos h, if_pos h]
    cases hr : ulebD 5 (l.drop a.toNat) with
    | none => exact .inl ⟨rfl, rfl⟩
    | some r =>
      obtain ⟨v, m⟩ := r
      have hbd := ulebD_bound 5 _ v m (hb.drop _) hr
      rw [List.length_drop] at hbd
      simp only
      by_cases hc : v > 2147483647
      · rw [if_pos hc, if_pos hc]; exact .inl ⟨rfl, rfl⟩
      · rw [if_neg hc, if_neg hc]; exact .inr ⟨v, m, by omega, by omega, by omega, rfl, rfl⟩
  · rw [if_neg h, if_neg h]; exact .inl ⟨rfl, rfl⟩

theorem lists (l : List Int) (hb : Bytes l) (hl : l.length ≤ 100000) : ∀ (d a : Nat) (x : List Int) (k : Nat), a + d = l.length → x.length ≤ a → d + 30 < k →
    ∃ r b, uleb_List.l0 k l x (a : Int) = some (r, b) ∧ fishplateref01_List.l0 k l x (a : Int) = some (r, b) ∧ r.length ≤ l.length := by
  intro d
  induction d using Nat.strongRecOn with
  | _ d ih =>
  intro a x k ha hx hk
  obtain ⟨k, rfl⟩ : ∃ m, k = m + 1 := ⟨k - 1, by omega⟩
  simp only [uleb_List.l0, fishplateref01_List.l0]
  by_cases hlt : a < l.length
  · rw [if_pos (by omega), if_pos (by omega), uget_eq l hb (by omega) _ k (by omega), digits_eq l hb (by omega) _ k (by omega)]
    simp only [Option.bind_some]
    rcases GetS_of_dig l a hb with ⟨e1, e2⟩ | ⟨v, m, h1, h2, h3, e1, e2⟩
    · rw [e1, e2]
      exact ⟨[], false, rfl, rfl, by simp⟩
    · rw [e1, e2]
      simp only
      rw [if_pos trivial, if_pos (by omega), if_neg (by omega), if_pos (by omega), w64 (by omega) (by omega)]
      rw [show (a : Int) + (m : Int) = ((a + m : Nat) : Int) from by omega]
      exact ih (d - m) (by omega) (a + m) _ k (by omega) (by simp; omega) (by omega)
  · rw [if_neg (by omega), if_neg (by omega)]
    exact ⟨x, true, rfl, rfl, by omega⟩

theorem UlebTells : fishplatelaw02_UlebTells.Pure := by
  intro l a n hl0 hl1 hbw ha hn
  have hb := Bytes.of_wf hbw
  have han := i64_of_wf ha
  refine ⟨20000, ?_⟩
  unfold fishplatelaw02_UlebTells.f
  rw [uup_eq _ (by omega)]
  simp only [Option.bind_some]
  by_cases h1 : (l.length : Int) > 10000
  · rw [if_pos h1]
  rw [if_neg h1, uget_eq l hb (by omega) a _ (by omega), digits_eq l hb (by omega) a _ (by omega)]
  simp only [Option.bind_some]
  have hj : fishplatelaw02_UlebTells.j0 20000 l n true false = some true := by
    simp only [fishplatelaw02_UlebTells.j0]
    rw [if_neg (by decide)]
    obtain ⟨r, b, e1, e2, e3⟩ := lists l hb (by omega) l.length 0 [] 19999 (by omega) (by simp) (by omega)
    unfold uleb_List.f fishplateref01_List.f
    rw [show ((0 : Nat) : Int) = 0 from rfl] at e1 e2
    rw [e1, e2]
    simp only [Option.bind_some]
    rw [if_pos trivial, if_pos (by simp), ints_same r (by omega) 19999 (by omega)]
    simp only [Option.bind_some]
    rw [if_pos trivial, uput_eq n _ (by omega)]
    have e : fishplateref01_Uleb.f 19999 n = some (PutS n) := by
      unfold PutS
      by_cases h : 0 ≤ n ∧ n ≤ 2147483647
      · rw [if_pos h]
        exact ruleb_eq 4 n _ (by omega) h.1 (by have h : (128 : Int) ^ (4 + 1) = 34359738368 := by decide
                                                omega) h.2 (by omega)
      · rw [if_neg h]; exact uleb_none n h _ (by omega)
    rw [e]; simp
  rcases GetS_of_dig l a hb with ⟨e1, e2⟩ | ⟨v, m, h1, h2, h3, e1, e2⟩
  · rw [e1, e2]
    simp only
    rw [if_neg (by simp), if_pos trivial, if_neg (by simp), show ((0 : Int) != 0) = false from rfl]
    exact hj
  · rw [e1, e2]
    simp only
    rw [if_neg (by simp; omega), if_pos trivial, if_pos trivial, w64 (by omega) (by omega), if_pos rfl]
    exact hj

end Go.Proofs.Ytbaibjhkmajplaa.Pure
