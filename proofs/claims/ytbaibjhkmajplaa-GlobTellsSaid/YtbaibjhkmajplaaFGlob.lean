/- What functions of the program compute, each by its own contract; the conditions stand with each. -/
import Derived.Test.YtbaibjhkmajplaaFData
import Derived.Test.YtbaibjhkmajplaaAlK
namespace Go.Proofs.Ytbaibjhkmajplaa.AL
open Go Go.RowKit Go.Proofs.Ytbaibjhkmajplaa.Base
set_option linter.unusedVariables false
set_option linter.unusedSimpArgs false
set_option maxRecDepth 4000
set_option synthInstance.maxSize 1000

/-- A pattern fits a name. -/
inductive Fit : List UInt8 → List UInt8 → Prop
  | nil : Fit [] []
  | star {p s : List UInt8} (w : List UInt8) (h : Fit p s) : Fit (42 :: p) (w ++ s)
  | one {c d : UInt8} {p s : List UInt8} (hc : c ≠ 42) (hd : c = 63 ∨ c = d) (h : Fit p s) : Fit (c :: p) (d :: s)
def fits : List UInt8 → List UInt8 → Bool
  | [], s => s.isEmpty
  | c :: p, s => if c = 42 then (List.range (s.length + 1)).any (fun k => fits p (s.drop k)) else match s with
    | [] => false
    | d :: t => (c == 63 || c == d) && fits p t
theorem fits_iff : ∀ (p s : List UInt8), fits p s = true ↔ Fit p s := by
  intro p
  induction p with
  | nil =>
    intro s
    cases s with
    | nil => exact ⟨fun _ => .nil, fun _ => rfl⟩
    | cons d t => exact ⟨fun h => by simp [fits] at h, fun h => by cases h⟩
  | cons c p ih =>
    intro s
    unfold fits
    by_cases hc : c = 42
    · subst hc
      rw [if_pos rfl, List.any_eq_true]
      constructor
      · rintro ⟨k, _, h⟩
        have := Fit.star (s.take k) ((ih _).1 h)
        rwa [List.take_append_drop] at this
      · intro h
        generalize hq : (42 : UInt8) :: p = q at h
        cases h with
        | nil => cases hq
        | @star p' s' w h' =>
          obtain ⟨_, rfl⟩ := List.cons.inj hq
          exact ⟨w.length, by simp; omega, by rw [List.drop_left]; exact (ih _).2 h'⟩
        | one h1 h2 h3 => exact absurd (List.cons.inj hq).1.symm h1
    · rw [if_neg hc]
      cases s with
      | nil =>
        refine ⟨fun h => by simp at h, fun h => ?_⟩
        generalize hq : c :: p = q at h
        generalize hr : ([] : List UInt8) = r at h
        cases h with
        | nil => cases hq
        | star w h' => exact absurd (List.cons.inj hq).1 hc
        | one h1 h2 h3 => cases hr
      | cons d t =>
        simp only [Bool.and_eq_true, Bool.or_eq_true, beq_iff_eq]
        constructor
        · rintro ⟨h1, h2⟩; exact .one hc h1 ((ih _).1 h2)
        · intro h
          generalize hq : c :: p = q at h
          generalize hr : d :: t = r at h
          cases h with
          | nil => cases hq
          | star w h' => exact absurd (List.cons.inj hq).1 hc
          | one h1 h2 h3 =>
            obtain ⟨rfl, rfl⟩ := List.cons.inj hq
            obtain ⟨rfl, rfl⟩ := List.cons.inj hr
            exact ⟨h2, (ih _).2 h3⟩
theorem fit_star {p s : List UInt8} : Fit (42 :: p) s ↔ ∃ w t, s = w ++ t ∧ Fit p t := by
  constructor
  · intro h
    generalize hq : (42 : UInt8) :: p = q at h
    cases h with
    | nil => cases hq
    | @star p' s' w h' => obtain ⟨_, rfl⟩ := List.cons.inj hq; exact ⟨w, s', rfl, h'⟩
    | one h1 h2 h3 => exact absurd (List.cons.inj hq).1.symm h1
  · rintro ⟨w, t, rfl, h⟩; exact .star w h
theorem fit_one {c : UInt8} {p s : List UInt8} (hc : c ≠ 42) : Fit (c :: p) s ↔ ∃ d t, s = d :: t ∧ (c = 63 ∨ c = d) ∧ Fit p t := by
  constructor
  · intro h
    generalize hq : c :: p = q at h
    cases h with
    | nil => cases hq
    | star w h' => exact absurd (List.cons.inj hq).1 hc
    | one h1 h2 h3 => obtain ⟨rfl, rfl⟩ := List.cons.inj hq; exact ⟨_, _, rfl, h2, h3⟩
  · rintro ⟨d, t, rfl, h1, h2⟩; exact .one hc h1 h2
theorem fit_nil {s : List UInt8} : Fit [] s ↔ s = [] := ⟨fun h => by cases h; rfl, fun h => by subst h; exact .nil⟩
theorem fit_app {p q s t : List UInt8} (h : Fit p s) (h' : Fit q t) : Fit (p ++ q) (s ++ t) := by
  induction h with
  | nil => exact h'
  | star w h ih => rw [List.append_assoc]; exact .star w ih
  | one hc hd h ih => exact .one hc hd ih
theorem fit_split : ∀ {p q u : List UInt8}, Fit (p ++ q) u → ∃ s t, u = s ++ t ∧ Fit p s ∧ Fit q t := by
  intro p
  induction p with
  | nil => intro q u h; exact ⟨[], u, rfl, .nil, h⟩
  | cons c p ih =>
    intro q u h
    rw [List.cons_append] at h
    by_cases hc : c = 42
    · subst hc
      obtain ⟨w, t, rfl, h1⟩ := fit_star.1 h
      obtain ⟨s1, t1, rfl, h2, h3⟩ := ih h1
      exact ⟨w ++ s1, t1, by rw [List.append_assoc], .star w h2, h3⟩
    · obtain ⟨d, t, rfl, h1, h2⟩ := (fit_one hc).1 h
      obtain ⟨s1, t1, rfl, h3, h4⟩ := ih h2
      exact ⟨d :: s1, t1, rfl, .one hc h1 h3, h4⟩
/-- A last star. -/
theorem fit_snoc_star {p u : List UInt8} : Fit (p ++ [42]) u ↔ ∃ s t, u = s ++ t ∧ Fit p s := by
  constructor
  · intro h
    obtain ⟨s, t, e, h1, _⟩ := fit_split h
    exact ⟨s, t, e, h1⟩
  · rintro ⟨s, t, rfl, h⟩
    have : Fit [42] t := by have := Fit.star t Fit.nil; rwa [List.append_nil] at this
    exact fit_app h this
theorem fit_snoc_star_nil {p : List UInt8} : Fit (p ++ [42]) [] ↔ Fit p [] := by
  rw [fit_snoc_star]
  constructor
  · rintro ⟨s, t, e, h⟩
    obtain ⟨rfl, rfl⟩ := List.append_eq_nil_iff.1 e.symm
    exact h
  · intro h; exact ⟨[], [], rfl, h⟩
theorem fit_snoc_star_snoc {p u : List UInt8} {d : UInt8} : Fit (p ++ [42]) (u ++ [d]) ↔ Fit p (u ++ [d]) ∨ Fit (p ++ [42]) u := by
  constructor
  · intro h
    obtain ⟨s, t, e, h1⟩ := fit_snoc_star.1 h
    rcases List.eq_nil_or_concat t with rfl | ⟨t', x, rfl⟩
    · rw [List.append_nil] at e; rw [e]; exact .inl h1
    · rw [List.concat_eq_append, ← List.append_assoc] at e
      obtain ⟨e1, _⟩ := List.append_inj' e rfl
      exact .inr (fit_snoc_star.2 ⟨s, t', e1, h1⟩)
  · rintro (h | h)
    · exact fit_snoc_star.2 ⟨_, [], by simp, h⟩
    · obtain ⟨s, t, e, h1⟩ := fit_snoc_star.1 h
      exact fit_snoc_star.2 ⟨s, t ++ [d], by rw [e, List.append_assoc], h1⟩
theorem fit_snoc_one_nil {p : List UInt8} {c : UInt8} (hc : c ≠ 42) : ¬ Fit (p ++ [c]) [] := by
  intro h
  obtain ⟨s, t, e, h1, h2⟩ := fit_split h
  obtain ⟨rfl, rfl⟩ := List.append_eq_nil_iff.1 e.symm
  obtain ⟨d, t, e, _⟩ := (fit_one hc).1 h2
  cases e
theorem fit_snoc_one_snoc {p u : List UInt8} {c d : UInt8} (hc : c ≠ 42) : Fit (p ++ [c]) (u ++ [d]) ↔ (c = 63 ∨ c = d) ∧ Fit p u := by
  constructor
  · intro h
    obtain ⟨s, t, e, h1, h2⟩ := fit_split h
    obtain ⟨d', t', rfl, h3, h4⟩ := (fit_one hc).1 h2
    obtain rfl := fit_nil.1 h4
    obtain ⟨rfl, e2⟩ := List.append_inj' e rfl
    obtain rfl := (List.cons.inj e2).1
    exact ⟨h3, h1⟩
  · rintro ⟨h1, h2⟩
    exact fit_app h2 (.one hc h1 .nil)
/-- Letters ahead, none of them a star: as many bytes. -/
def Plain (l : List UInt8) : Prop := ∀ c ∈ l, c ≠ 42
theorem plain_len {l s : List UInt8} (hl : Plain l) (h : Fit l s) : s.length = l.length := by
  induction h with
  | nil => rfl
  | star w h ih => exact absurd rfl (hl 42 (by simp))
  | one hc hd h ih => simp [ih fun c hc => hl c (by simp [hc])]
/-- What a later star finds further on, it finds here as well. -/
theorem fit_later {lit rest u v : List UInt8} (hl : Plain lit) (h : Fit (lit ++ 42 :: rest) v) (hv : ∃ w, u = w ++ v.drop lit.length) : Fit (42 :: rest) u := by
  obtain ⟨s, t, rfl, h1, h2⟩ := fit_split h
  have := plain_len hl h1
  rw [← this, List.drop_left] at hv
  obtain ⟨w, rfl⟩ := hv
  obtain ⟨w', t', rfl, h3⟩ := fit_star.1 h2
  rw [← List.append_assoc]
  exact .star _ h3
theorem fit_short {lit rest v : List UInt8} (hl : Plain lit) (h : Fit (lit ++ rest) v) : lit.length ≤ v.length := by
  obtain ⟨s, t, rfl, h1, h2⟩ := fit_split h
  rw [← plain_len hl h1, List.length_append]; omega
theorem getD_drop {l : List UInt8} {i : Nat} (h : i < l.length) : l.drop i = l.getD i 0 :: l.drop (i + 1) := by
  rw [List.drop_eq_getElem_cons h]; simp [h]
/-- Where the walk of a pattern along a name stands. -/
def GI (P S : List UInt8) (p n : Nat) (st : Int) (bk : Nat) : Prop :=
  p ≤ P.length ∧ n ≤ S.length ∧ bk ≤ n ∧
  ((st = -1 ∧ (Fit P S ↔ Fit (P.drop p) (S.drop n))) ∨
   ∃ k : Nat, st = k ∧ p = k + 1 + (n - bk) ∧ (∀ j, k + 1 ≤ j → j < p → P.getD j 0 ≠ 42) ∧
     (Fit P S ↔ Fit (P.drop p) (S.drop n) ∨ ∃ b, bk < b ∧ b ≤ S.length ∧ Fit (P.drop (k + 1)) (S.drop b)))
theorem gi_init (P S : List UInt8) : GI P S 0 0 (-1) 0 := ⟨by omega, by omega, by omega, .inl ⟨rfl, by simp⟩⟩
theorem gi_lit {P : List UInt8} {k p m : Nat} (hp : p ≤ P.length) (hk : p = k + 1 + m) (h : ∀ j, k + 1 ≤ j → j < p → P.getD j 0 ≠ 42) :
    ∃ lit, Plain lit ∧ lit.length = m ∧ P.drop (k + 1) = lit ++ P.drop p := by
  refine ⟨(P.drop (k + 1)).take m, fun c hc => ?_, by rw [List.length_take, List.length_drop]; omega, ?_⟩
  · obtain ⟨i, hi, rfl⟩ := List.getElem_of_mem hc
    rw [List.length_take, List.length_drop] at hi
    have := h (k + 1 + i) (by omega) (by omega)
    rw [List.getElem_take, List.getElem_drop]
    simpa [show k + 1 + i < P.length by omega] using this
  · rw [show P.drop p = (P.drop (k + 1)).drop m by rw [List.drop_drop, hk], List.take_append_drop]
theorem fit_star_drop {r S : List UInt8} {n : Nat} (hn : n ≤ S.length) : Fit (42 :: r) (S.drop n) ↔ Fit r (S.drop n) ∨ ∃ b, n < b ∧ b ≤ S.length ∧ Fit r (S.drop b) := by
  rw [fit_star]
  constructor
  · rintro ⟨w, t, e, h⟩
    have hl : w.length + t.length = S.length - n := by have := congrArg List.length e; simp at this; omega
    have ht : t = S.drop (n + w.length) := by rw [← List.drop_drop, e, List.drop_left]
    rcases Nat.eq_zero_or_pos w.length with h0 | h0
    · left; rw [ht, h0] at h; exact h
    · right; exact ⟨n + w.length, by omega, by omega, by rw [← ht]; exact h⟩
  · rintro (h | ⟨b, h1, h2, h⟩)
    · exact ⟨[], _, rfl, h⟩
    · exact ⟨(S.drop n).take (b - n), S.drop b, by rw [show S.drop b = (S.drop n).drop (b - n) by rw [List.drop_drop]; congr 1; omega, List.take_append_drop], h⟩
theorem gi_star {P S : List UInt8} {p n bk : Nat} {st : Int} (g : GI P S p n st bk) (hp : p < P.length) (h42 : P.getD p 0 = 42) : GI P S (p + 1) n p n := by
  obtain ⟨g1, g2, g3, g4⟩ := g
  refine ⟨by omega, g2, Nat.le_refl _, .inr ⟨p, rfl, by omega, fun j h1 h2 => by omega, ?_⟩⟩
  rw [← fit_star_drop g2]
  have hd : P.drop p = 42 :: P.drop (p + 1) := by rw [getD_drop hp, h42]
  rw [← hd]
  rcases g4 with ⟨_, h⟩ | ⟨k, _, hk, hl, h⟩
  · exact h
  · rw [h]
    refine ⟨fun hh => ?_, .inl⟩
    rcases hh with hh | ⟨b, h1, h2, h3⟩
    · exact hh
    · obtain ⟨lit, q1, q2, q3⟩ := gi_lit g1 hk hl
      rw [q3, hd] at h3
      rw [hd]
      refine fit_later q1 h3 ⟨(S.drop n).take (b - bk), ?_⟩
      rw [q2, List.drop_drop, show S.drop (b + (n - bk)) = (S.drop n).drop (b - bk) by rw [List.drop_drop]; congr 1; omega, List.take_append_drop]
theorem gi_match {P S : List UInt8} {p n bk : Nat} {st : Int} (g : GI P S p n st bk) (hp : p < P.length) (hn : n < S.length) (h42 : P.getD p 0 ≠ 42) (hm : P.getD p 0 = 63 ∨ P.getD p 0 = S.getD n 0) : GI P S (p + 1) (n + 1) st bk := by
  obtain ⟨g1, g2, g3, g4⟩ := g
  have hf : Fit (P.drop p) (S.drop n) ↔ Fit (P.drop (p + 1)) (S.drop (n + 1)) := by
    rw [getD_drop hp, getD_drop hn, fit_one h42]
    constructor
    · rintro ⟨d, t, e, _, h⟩; rw [(List.cons.inj e).2]; exact h
    · intro h; exact ⟨_, _, rfl, hm, h⟩
  refine ⟨by omega, by omega, by omega, ?_⟩
  rcases g4 with ⟨h0, h⟩ | ⟨k, h0, hk, hl, h⟩
  · exact .inl ⟨h0, by rw [h, hf]⟩
  · refine .inr ⟨k, h0, by omega, fun j h1 h2 => ?_, by rw [h, hf]⟩
    rcases Nat.lt_or_ge j p with h3 | h3
    · exact hl j h1 h3
    · rw [show j = p by omega]; exact h42
theorem fit_miss {P S : List UInt8} {p n : Nat} (hn : n < S.length) (h : p < P.length → P.getD p 0 ≠ 42 ∧ P.getD p 0 ≠ 63 ∧ P.getD p 0 ≠ S.getD n 0) : ¬ Fit (P.drop p) (S.drop n) := by
  intro hf
  rcases Nat.lt_or_ge p P.length with hp | hp
  · obtain ⟨h1, h2, h3⟩ := h hp
    rw [getD_drop hp, getD_drop hn, fit_one h1] at hf
    obtain ⟨d, t, e, h4, _⟩ := hf
    rw [(List.cons.inj e).1] at h3
    rcases h4 with h4 | h4
    · exact h2 h4
    · exact h3 h4
  · rw [List.drop_of_length_le hp, fit_nil, getD_drop hn] at hf
    cases hf
theorem gi_back {P S : List UInt8} {p n bk k : Nat} (g : GI P S p n k bk) (hn : n < S.length) (h : ¬ Fit (P.drop p) (S.drop n)) : GI P S (k + 1) (bk + 1) k (bk + 1) ∧ bk < S.length := by
  obtain ⟨g1, g2, g3, g4⟩ := g
  rcases g4 with ⟨h0, _⟩ | ⟨k', h0, hk, hl, h'⟩
  · omega
  · have : k' = k := by omega
    subst this
    refine ⟨⟨by omega, by omega, Nat.le_refl _, .inr ⟨k', rfl, by omega, fun j h1 h2 => by omega, ?_⟩⟩, by omega⟩
    rw [h']
    constructor
    · rintro (h1 | ⟨b, h1, h2, h3⟩)
      · exact absurd h1 h
      · rcases Nat.lt_or_ge (bk + 1) b with h4 | h4
        · exact .inr ⟨b, h4, h2, h3⟩
        · rw [show b = bk + 1 by omega] at h3; exact .inl h3
    · rintro (h1 | ⟨b, h1, h2, h3⟩)
      · exact .inr ⟨bk + 1, by omega, by omega, h1⟩
      · exact .inr ⟨b, by omega, h2, h3⟩
theorem gi_fail {P S : List UInt8} {p n bk : Nat} {st : Int} (g : GI P S p n st bk) (hs : st < 0) (h : ¬ Fit (P.drop p) (S.drop n)) : ¬ Fit P S := by
  obtain ⟨g1, g2, g3, g4⟩ := g
  rcases g4 with ⟨h0, h'⟩ | ⟨k', h0, _⟩
  · rw [h']; exact h
  · omega
theorem gi_end {P S : List UInt8} {p n bk : Nat} {st : Int} (g : GI P S p n st bk) (hn : n = S.length) : Fit P S ↔ Fit (P.drop p) [] := by
  obtain ⟨g1, g2, g3, g4⟩ := g
  have hd : S.drop n = [] := List.drop_of_length_le (by omega)
  rcases g4 with ⟨h0, h'⟩ | ⟨k, h0, hk, hl, h'⟩
  · rw [h', hd]
  · rw [h', hd]
    refine ⟨fun h => ?_, .inl⟩
    rcases h with h | ⟨b, h1, h2, h3⟩
    · exact h
    · obtain ⟨lit, q1, q2, q3⟩ := gi_lit g1 hk hl
      rw [q3] at h3
      have := fit_short q1 h3
      rw [List.length_drop] at this
      omega
theorem fit_star_nil {r : List UInt8} : Fit (42 :: r) [] ↔ Fit r [] := by
  rw [fit_star]
  constructor
  · rintro ⟨w, t, e, h⟩
    obtain ⟨rfl, rfl⟩ := List.append_eq_nil_iff.1 e.symm
    exact h
  · intro h; exact ⟨[], [], rfl, h⟩
theorem u8_eq {x y : UInt8} : ((x.toNat : Nat) : Int) = ((y.toNat : Nat) : Int) ↔ x = y := by
  rw [Int.ofNat_inj, UInt8.toNat_inj]
theorem u8_42 {x : UInt8} : ((x.toNat : Nat) : Int) = 42 ↔ x = 42 := u8_eq (y := 42)
theorem u8_63 {x : UInt8} : ((x.toNat : Nat) : Int) = 63 ↔ x = 63 := u8_eq (y := 63)
/-- A pattern fits a name, as strings. -/
def fitsS (p s : ByteArray) : Bool := fits p.data.toList s.data.toList
theorem fitsS_iff {p s : ByteArray} : fitsS p s = true ↔ Fit p.data.toList s.data.toList := fits_iff _ _
theorem dl_len (b : ByteArray) : b.data.toList.length = b.size := by rw [Array.length_toList]; rfl
theorem fitsS_of {p s : ByteArray} {b : Bool} (h : b = true ↔ Fit p.data.toList s.data.toList) : b = fitsS p s := by
  rw [Bool.eq_iff_iff, h, fitsS_iff]

def dpR (P S : List UInt8) (i m : Nat) : List Bool := (List.range (m + 1)).map fun k => fits (P.take i) (S.take k)
theorem dpR_len (P S : List UInt8) (i m : Nat) : (dpR P S i m).length = m + 1 := by simp [dpR]
theorem dpR_get (P S : List UInt8) (i m : Nat) {k : Nat} (hk : k ≤ m) : (dpR P S i m).getD k default = fits (P.take i) (S.take k) := by
  simp [dpR, show k < m + 1 by omega]
theorem take_snocU {l : List UInt8} {i : Nat} (h : i < l.length) : l.take (i + 1) = l.take i ++ [l.getD i 0] := by
  rw [List.take_succ_eq_append_getElem h]; simp [h]
theorem fits_b {p s p' s' : List UInt8} (h : Fit p s ↔ Fit p' s') : fits p s = fits p' s' := by
  rw [Bool.eq_iff_iff, fits_iff, fits_iff]; exact h
/-- A round of the table: the row so far, and the rest. -/
def dpN (P S : List UInt8) (i k : Nat) : List Bool := ((List.range k).map fun j => fits (P.take (i + 1)) (S.take j)) ++ List.replicate (S.length + 1 - k) false
theorem dpN_len {P S : List UInt8} {i k : Nat} (h : k ≤ S.length + 1) : (dpN P S i k).length = S.length + 1 := by simp [dpN]; omega
theorem dpN_get {P S : List UInt8} {i k j : Nat} (h : j < k) : (dpN P S i k).getD j default = fits (P.take (i + 1)) (S.take j) := by
  simp [dpN, List.getElem?_append_left, h]
theorem dpN_set {P S : List UInt8} {i k : Nat} (hk : k ≤ S.length) {b : Bool} (hb : b = fits (P.take (i + 1)) (S.take k)) : (dpN P S i k).set k b = dpN P S i (k + 1) := by
  unfold dpN
  rw [hb, show S.length + 1 - k = (S.length + 1 - (k + 1)) + 1 by omega, List.replicate_succ, List.set_append_right _ _ (by simp), List.length_map, List.length_range, Nat.sub_self, List.set_cons_zero, List.range_succ, List.map_append, List.append_assoc]
  rfl
theorem dpN_full {P S : List UInt8} {i : Nat} : dpN P S i (S.length + 1) = dpR P S (i + 1) S.length := by simp [dpN, dpR]
theorem dp_star {P S : List UInt8} {i k : Nat} (hi : i < P.length) (hk : k < S.length) (h : P.getD i 0 = 42) : fits (P.take (i + 1)) (S.take (k + 1)) = (fits (P.take i) (S.take (k + 1)) || fits (P.take (i + 1)) (S.take k)) := by
  rw [Bool.eq_iff_iff, Bool.or_eq_true, fits_iff, fits_iff, fits_iff, take_snocU hi, take_snocU hk, h]
  exact fit_snoc_star_snoc
theorem dp_one {P S : List UInt8} {i k : Nat} (hi : i < P.length) (hk : k < S.length) (h : P.getD i 0 ≠ 42) : fits (P.take (i + 1)) (S.take (k + 1)) = (fits (P.take i) (S.take k) && (P.getD i 0 == 63 || P.getD i 0 == S.getD k 0)) := by
  rw [Bool.eq_iff_iff, Bool.and_eq_true, Bool.or_eq_true, fits_iff, fits_iff, take_snocU hi, take_snocU hk, fit_snoc_one_snoc h]
  simp only [beq_iff_eq]
  exact And.comm
theorem dp_zero {P S : List UInt8} {i : Nat} (hi : i < P.length) : fits (P.take (i + 1)) (S.take 0) = (fits (P.take i) (S.take 0) && P.getD i 0 == 42) := by
  rw [Bool.eq_iff_iff, Bool.and_eq_true, fits_iff, fits_iff, take_snocU hi, List.take_zero]
  simp only [beq_iff_eq]
  by_cases h : P.getD i 0 = 42
  · rw [h, fit_snoc_star_nil]; simp
  · exact ⟨fun hh => absurd hh (fit_snoc_one_nil h), fun hh => absurd hh.2 h⟩
theorem dec42 {x : UInt8} : decide (((x.toNat : Nat) : Int) = 42) = (x == 42) := by rw [Bool.eq_iff_iff, decide_eq_true_eq, u8_42, beq_iff_eq]
theorem dec63 {x : UInt8} : decide (((x.toNat : Nat) : Int) = 63) = (x == 63) := by rw [Bool.eq_iff_iff, decide_eq_true_eq, u8_63, beq_iff_eq]
theorem decUU {x y : UInt8} : decide (((x.toNat : Nat) : Int) = ((y.toNat : Nat) : Int)) = (x == y) := by rw [Bool.eq_iff_iff, decide_eq_true_eq, u8_eq, beq_iff_eq]

theorem glob_Fits (p s : ByteArray) (hp : p.size ≤ 1000000000) (hs : s.size ≤ 1000000000) : A0 Try.prog 36 [.v (.string p), .v (.string s)] (fun ret => ret = .v (.bool (fitsS p s))) := by
  have lp := dl_len p
  have ls := dl_len s
  refine A0.body 76 Try.func36 rfl rfl Try.ntmps36 fun base n0 => ?_
  refine AW.seq' ?_
  refine AW.region ?_
  refine AO.c ?_
  refine AO.nil ?_
  refine SQ.normal ?_
  refine AW.seq' ?_
  refine AW.region ?_
  refine AO.c ?_
  refine AO.c ?_
  refine AO.nil ?_
  refine SQ.normal ?_
  refine AW.seq' ?_
  refine AW.region ?_
  refine AO.c ?_
  refine AO.c ?_
  refine AO.nil ?_
  refine SQ.normal ?_
  refine AW.seq' ?_
  refine AW.block' ?_
  refine AW.loopU4 [.k, .k, .f, .f, .f, .k, .k, .k, .k, .F, .F, .F, .F, .F, .F, .F, .F, .f, .f, .f] (fun (k n bk : Nat) (st : Int) => [(5, .v (.int .i64 (k))), (6, .v (.int .i64 (n))), (7, .v (.int .i64 (st))), (8, .v (.int .i64 (bk)))]) (fun k n bk st => Hn n0 []) (fun m k n bk st => GI p.data.toList s.data.toList k n st bk ∧ m = (s.size - bk) * (p.size + 2) + (p.size - k)) (s.size * (p.size + 2) + p.size) (0) (0) (0) (-1) ⟨gi_init _ _, by simp⟩ (by first | rfl | (simp; done)) (by first | rfl | (simp; done)) ?_
  rintro m0 k n bk st ⟨hx1, hx2⟩
  have g1 := hx1.1
  have g2 := hx1.2.1
  have g3 := hx1.2.2.1
  refine AW.seq' ?_
  refine AW.seq' ?_
  refine AW.region ?_
  refine AO.c ?_
  refine AO.c ?_
  refine AO.c ?_
  refine AO.c ?_
  refine AO.nil ?_
  refine SQ.normal ?_
  refine AW.iteB (GL.ev _) (fun h0 => ?_) (fun h0 => ?_)
  · skip
    rw [decide_eq_true_eq] at h0
    refine AW.skip ?_
    refine SQ.normal ?_
    refine AW.block' ?_
    refine AW.block' ?_
    refine AW.seq' ?_
    refine AW.region ?_
    refine AO.c ?_
    refine AO.c ?_
    refine AO.c ?_
    refine AO.c ?_
    refine AO.c ?_
    refine AO.gx ?_
    refine AO.gx ?_
    refine AO.gxoo ?_
    refine AO.gx ?_
    refine AO.c ?_
    refine AO.c ?_
    refine AO.nil ?_
    refine SQ.normal ?_
    refine AW.iteB (GL.ev _) (fun h1 => ?_) (fun h1 => ?_)
    · skip
      simp only [Bool.and_eq_true, decide_eq_true_eq, Int.toNat_natCast] at h1
      refine AW.seq' ?_
      refine AW.region ?_
      refine AO.c ?_
      refine AO.c ?_
      refine AO.c ?_
      refine AO.c ?_
      refine AO.nil ?_
      refine SQ.normal ?_
      refine AW.region ?_
      refine AO.c ?_
      refine AO.oo ?_
      refine AO.c ?_
      refine AO.nil ?_
      refine BQ.normal ?_
      refine BQ.normal ?_
      exact AW.backU [.k, .k, .f, .f, .f, .k, .k, .k, .k, .F, .F, .F, .F, .F, .F, .F, .F, .f, .f, .f] ((s.size - n) * (p.size + 2) + (p.size - (k + 1))) (k + 1, n, n, (k : Int)) (by have := Nat.mul_le_mul_right (p.size + 2) (show s.size - n ≤ s.size - bk by omega); omega) (by (try dsimp only); exact ⟨gi_star hx1 (by omega) (u8_42.1 h1.2), rfl⟩) (by first | rfl | (simp; done)) (by first | rfl | (simp; done))
    · skip
      simp only [Bool.and_eq_false_iff, decide_eq_false_iff_not, Int.toNat_natCast, u8_42] at h1
      refine AW.seq' ?_
      refine AW.drawsZ [] (.one 0 false (.one 1 false (.one 2 false (.one 3 false (.one 4 false (.one 5 false (.one 6 false (.one 7 false (.one 8 false (.one 9 false (.one 10 false (.one 11 false (.one 12 false (.one 13 false (.one 14 false (.one 15 false (.one 16 false (.one 17 false (.one 18 false (.one 19 false .nil)))))))))))))))))))) (by kernel_rfl) rfl (by kernel_rfl) ?_
      refine AZ.c rfl ?_
      refine AZ.c rfl ?_
      refine AZ.c rfl ?_
      refine AZ.c rfl ?_
      refine AZ.c rfl ?_
      refine AZ.gx rfl ?_
      refine AZ.gx rfl ?_
      refine AZ.gxoo rfl ?_
      refine AZ.gx rfl ?_
      refine AZ.gx rfl ?_
      refine AZ.gx rfl ?_
      refine AZ.gx rfl ?_
      refine AZ.gxoo rfl ?_
      refine AZ.gx rfl ?_
      refine AZ.gx rfl ?_
      refine AZ.gxoo rfl ?_
      refine AZ.gx rfl ?_
      refine AZ.gx rfl ?_
      refine AZ.c rfl ?_
      refine AZ.c rfl ?_
      refine AZ.done ?_
      refine SQ.normal ?_
      refine AW.iteB (GL.ev _) (fun h2 => ?_) (fun h2 => ?_)
      · skip
        simp only [Bool.and_eq_true, Bool.or_eq_true, decide_eq_true_eq, Int.toNat_natCast, u8_63, u8_eq] at h2
        have hmt := gi_match hx1 (by omega) (by omega) (h1.resolve_left (by omega)) h2.2
        refine AW.seq' ?_
        refine AW.region ?_
        refine AO.c ?_
        refine AO.oo ?_
        refine AO.c ?_
        refine AO.nil ?_
        refine SQ.normal ?_
        refine AW.region ?_
        refine AO.c ?_
        refine AO.oo ?_
        refine AO.c ?_
        refine AO.nil ?_
        refine BQ.normal ?_
        refine BQ.normal ?_
        exact AW.backU [.k, .k, .f, .f, .f, .k, .k, .k, .k, .F, .F, .F, .F, .F, .F, .F, .F, .f, .f, .f] ((s.size - bk) * (p.size + 2) + (p.size - (k + 1))) (k + 1, n + 1, bk, st) (by omega) (by (try dsimp only); exact ⟨hmt, rfl⟩) (by first | rfl | (simp; done)) (by first | rfl | (simp; done))
      · skip
        simp only [Bool.and_eq_false_iff, Bool.or_eq_false_iff, decide_eq_false_iff_not, Int.toNat_natCast, u8_63, u8_eq] at h2
        have hno : ¬ Fit (p.data.toList.drop k) (s.data.toList.drop n) := fit_miss (by omega) fun hk => ⟨h1.resolve_left (by omega), (h2.resolve_left (by omega)).1, (h2.resolve_left (by omega)).2⟩
        refine AW.seq' ?_
        refine AW.region ?_
        refine AO.c ?_
        refine AO.c ?_
        refine AO.c ?_
        refine AO.nil ?_
        refine SQ.normal ?_
        refine AW.iteB (GL.ev _) (fun h3 => ?_) (fun h3 => ?_)
        · skip
          rw [decide_eq_true_eq] at h3
          obtain ⟨sk, hst⟩ : ∃ sk : Nat, (sk : Int) = st := ⟨st.toNat, by omega⟩
          subst hst
          have hbk := gi_back hx1 (by omega) hno
          have g4 := hbk.1.1
          have hmul : (s.size - bk) * (p.size + 2) = (s.size - (bk + 1)) * (p.size + 2) + (p.size + 2) := by
            rw [show s.size - bk = (s.size - (bk + 1)) + 1 by omega, Nat.succ_mul]
          refine AW.seq' ?_
          refine AW.region ?_
          refine AO.c ?_
          refine AO.oo ?_
          refine AO.c ?_
          refine AO.nil ?_
          refine SQ.normal ?_
          refine AW.region ?_
          refine AO.c ?_
          refine AO.oo ?_
          refine AO.c ?_
          refine AO.c ?_
          refine AO.c ?_
          refine AO.nil ?_
          refine BQ.normal ?_
          refine BQ.normal ?_
          exact AW.backU [.k, .k, .f, .f, .f, .k, .k, .k, .k, .F, .F, .F, .F, .F, .F, .F, .F, .f, .f, .f] ((s.size - (bk + 1)) * (p.size + 2) + (p.size - (sk + 1))) (sk + 1, bk + 1, bk + 1, (sk : Int)) (by omega) (by (try dsimp only); exact ⟨hbk.1, rfl⟩) (by first | rfl | (simp; done)) (by first | rfl | (simp; done))
        · skip
          rw [decide_eq_false_iff_not] at h3
          refine AW.seq' ?_
          refine AW.region ?_
          refine AO.c ?_
          refine AO.nil ?_
          refine SQ.normal ?_
          refine AW.ret ?_
          refine BQ.ret <| BQ.ret <| AW.out <| LU.ret <| BQ.ret <| SQ.ret ?_
          refine Fin.ret (Gh.refl) noid1 ?_
          show AV.v (.bool _) = AV.v (.bool _)
          congr 2
          exact fitsS_of ⟨(fun h => by cases h), fun h => absurd h (gi_fail hx1 (by omega) hno)⟩
  · skip
    rw [decide_eq_false_iff_not] at h0
    refine AW.exit ?_
    refine SQ.exit <| AW.out <| LU.exit <| BQ.exit ?_
    refine SQ.normal ?_
    refine AW.seq' ?_
    refine AW.block' ?_
    refine AW.loopU [.k, .f, .f, .f, .f, .k, .F, .F, .F, .F, .F, .F, .F, .F, .f, .f, .f, .f, .f, .f] (fun (k2 : Nat) => [(5, .v (.int .i64 (k2)))]) (fun k2 => Hn n0 []) (fun m k2 => k2 ≤ p.size ∧ m = p.size - k2 ∧ (Fit p.data.toList s.data.toList ↔ Fit (p.data.toList.drop k2) [])) (p.size - k) (k) ⟨by omega, rfl, gi_end hx1 (by omega)⟩ (by first | rfl | (simp; done)) (by first | rfl | (simp; done)) ?_
    rintro m1 k2 ⟨hy1, hy2, hy3⟩
    refine AW.seq' ?_
    refine AW.seq' ?_
    refine AW.region ?_
    refine AO.c ?_
    refine AO.c ?_
    refine AO.c ?_
    refine AO.c ?_
    refine AO.c ?_
    refine AO.gx ?_
    refine AO.gx ?_
    refine AO.gxoo ?_
    refine AO.gx ?_
    refine AO.c ?_
    refine AO.nil ?_
    refine SQ.normal ?_
    refine AW.iteB (GL.ev _) (fun h4 => ?_) (fun h4 => ?_)
    · skip
      simp only [Bool.and_eq_true, decide_eq_true_eq, Int.toNat_natCast] at h4
      refine AW.skip ?_
      refine SQ.normal ?_
      refine AW.block' ?_
      refine AW.region ?_
      refine AO.c ?_
      refine AO.oo ?_
      refine AO.c ?_
      refine AO.nil ?_
      refine BQ.normal ?_
      exact AW.backU [.k, .f, .f, .f, .f, .k, .F, .F, .F, .F, .F, .F, .F, .F, .f, .f, .f, .f, .f, .f] (m1 - 1) (k2 + 1) (by omega) (by (try dsimp only); exact ⟨by omega, by omega, by rw [hy3, getD_drop (show k2 < p.data.toList.length by omega), u8_42.1 h4.2, fit_star_nil]⟩) (by first | rfl | (simp; done)) (by first | rfl | (simp; done))
    · skip
      simp only [Bool.and_eq_false_iff, decide_eq_false_iff_not, Int.toNat_natCast, u8_42] at h4
      refine AW.exit ?_
      refine SQ.exit <| AW.out <| LU.exit <| BQ.exit ?_
      refine SQ.normal ?_
      refine AW.seq' ?_
      refine AW.region ?_
      refine AO.c ?_
      refine AO.c ?_
      refine AO.c ?_
      refine AO.c ?_
      refine AO.c ?_
      refine AO.nil ?_
      refine SQ.normal ?_
      refine AW.ret ?_
      refine Fin.ret (Gh.refl) noid1 ?_
      show AV.v (.bool _) = AV.v (.bool _)
      congr 2
      refine fitsS_of ?_
      rw [decide_eq_true_eq, hy3]
      constructor
      · intro h; rw [List.drop_of_length_le (by omega)]; exact .nil
      · intro h
        rcases h4 with h4 | h4
        · omega
        · rcases Nat.lt_or_ge k2 p.size with h5 | h5
          · rw [getD_drop (show k2 < p.data.toList.length by omega), fit_one h4] at h
            obtain ⟨_, _, e, _⟩ := h
            cases e
          · omega

theorem dp0 {P S : List UInt8} {m : Nat} (hm : m = S.length) : (List.replicate (m + 1) false).set 0 true = dpR P S 0 m := by
  apply List.ext_getElem (by simp [dpR])
  intro k h1 h2
  have hk : k < m + 1 := by simpa using h1
  simp only [dpR, List.getElem_map, List.getElem_range, List.take_zero]
  rw [List.getElem_set]
  by_cases h : 0 = k
  · rw [if_pos h]; subst h; rfl
  · rw [if_neg h, List.getElem_replicate]
    cases S with
    | nil => simp at hm; omega
    | cons d t =>
      cases k with
      | zero => exact absurd rfl h
      | succ k => rfl
theorem dpN0 {P S : List UInt8} {i : Nat} : dpN P S i 0 = List.replicate (S.length + 1) false := by simp [dpN]

set_option maxHeartbeats 1000000 in
theorem ref_Fits (p s : ByteArray) (hp : p.size ≤ 1000000000) (hs : s.size ≤ 1000000000) : A0 Try.prog 37 [.v (.string p), .v (.string s)] (fun ret => ret = .v (.bool (fitsS p s))) := by
  have lp := dl_len p
  have ls := dl_len s
  have hnat : ((s.size : Int) + 1).toNat = s.size + 1 := by omega
  have hget := fun i {k : Nat} (hk : k ≤ s.size) => dpR_get p.data.toList s.data.toList i s.size hk
  have hlen := fun i => dpR_len p.data.toList s.data.toList i s.size
  refine A0.body 90 Try.func37 rfl rfl Try.ntmps37 fun base n0 => ?_
  refine AW.seq' ?_
  refine AW.region ?_
  refine AO.c ?_
  refine AO.nil ?_
  refine SQ.normal ?_
  refine AW.seq' ?_
  refine AW.region ?_
  refine AO.c ?_
  refine AO.c ?_
  refine AO.oo ?_
  refine AO.ww ?_
  refine AO.c ?_
  refine AO.nil ?_
  refine SQ.normal ?_
  refine AW.seq' ?_
  refine AW.region ?_
  refine AO.c ?_
  refine AO.oo ?_
  refine AO.sst ?_
  refine AO.nil ?_
  refine SQ.normal ?_
  refine AW.seq' ?_
  refine AW.seq' ?_
  refine AW.region ?_
  refine AO.c ?_
  refine AO.nil ?_
  refine SQ.normal ?_
  refine AW.block' ?_
  refine AW.ghost (Gh.freezeM 5 bA (dpR p.data.toList s.data.toList 0 s.size) (by rw [hnat, ← dp0 ls.symm]; rfl) (by rw [hlen]; omega) (by rw [hlen]; omega)) ?_
  refine AW.loopU2 [.k, .k, .f, .f, .f, .k, .k, .F, .F, .F, .F, .F, .F, .F, .F, .F, .F, .f, .f, .f] (fun (i j : Nat) => [(5, .rd 1 ((dpR p.data.toList s.data.toList i s.size).map bA)), (6, .v (.int .i64 (i)))]) (fun i j => Hn n0 (([] ++ List.replicate j none) ++ [])) (fun m i j => i ≤ p.size ∧ m = p.size - i) (p.size) (0) (1) ⟨by omega, rfl⟩ (by first | rfl | (simp; done)) (by first | rfl | (simp; done)) ?_
  rintro m0 i j ⟨hx1, hx2⟩
  refine AW.seq' ?_
  refine AW.seq' ?_
  refine AW.region ?_
  refine AO.c ?_
  refine AO.c ?_
  refine AO.c ?_
  refine AO.c ?_
  refine AO.nil ?_
  refine SQ.normal ?_
  refine AW.iteB (GL.ev _) (fun h0 => ?_) (fun h0 => ?_)
  · skip
    rw [decide_eq_true_eq] at h0
    have hz : (fits (p.data.toList.take i) (s.data.toList.take 0) && p.data.toList.getD i 0 == 42) = fits (p.data.toList.take (i + 1)) (s.data.toList.take 0) := (dp_zero (by omega)).symm
    have hli := hlen i
    have hl0 : (dpN p.data.toList s.data.toList i 0).length = s.size + 1 := by rw [dpN_len (by omega), ls]
    refine AW.skip ?_
    refine SQ.normal ?_
    refine AW.seq' ?_
    refine AW.block' ?_
    refine AW.seq' ?_
    refine AW.region ?_
    refine AO.c ?_
    refine AO.c ?_
    refine AO.oo ?_
    refine AO.ww ?_
    refine AO.c ?_
    refine AO.nil ?_
    refine SQ.normal ?_
    refine AW.seq' ?_
    refine AW.region ?_
    refine AO.c ?_
    refine AO.c ?_
    refine AO.o (by have := hlen i; simp only [List.length_map]; omega) ?_
    refine AO.c ?_
    refine AO.c ?_
    refine AO.gx ?_
    refine AO.gx ?_
    refine AO.gxoo ?_
    refine AO.gx ?_
    refine AO.c ?_
    refine AO.oo ?_
    refine AO.sst ?_
    refine AO.nil ?_
    refine SQ.normal ?_
    refine AW.seq' ?_
    refine AW.seq' ?_
    refine AW.region ?_
    refine AO.c ?_
    refine AO.nil ?_
    refine SQ.normal ?_
    refine AW.block' ?_
    refine AW.loopU [.k, .k, .f, .f, .f, .k, .k, .k, .k, .F, .F, .F, .F, .F, .F, .F, .F, .F, .F, .f] (fun (k : Nat) => [(8, .v (.int .i64 (k)))]) (fun k => Hn n0 (([] ++ List.replicate j none) ++ [some (.row 4 1 0 ((dpN p.data.toList s.data.toList i k).map bA))])) (fun m k => 1 ≤ k ∧ k ≤ s.size + 1 ∧ m = s.size + 1 - k) (s.size) (1) ⟨by omega, by omega, by omega⟩ (by first | rfl | (simp; done)) (by rw [hnat, ← ls, ← dpN0 (P := p.data.toList) (S := s.data.toList) (i := i), ls, hget i (Nat.zero_le _), Int.toNat_natCast, dec42]; show Hn n0 (_ ++ [some (.row _ 1 0 ((List.set _ 0 _).map bA))]) = _; rw [dpN_set (Nat.zero_le _) hz]) ?_
    rintro m1 k ⟨hy0, hy1, hy2⟩
    refine AW.seq' ?_
    refine AW.seq' ?_
    refine AW.region ?_
    refine AO.c ?_
    refine AO.c ?_
    refine AO.c ?_
    refine AO.c ?_
    refine AO.nil ?_
    refine SQ.normal ?_
    refine AW.iteB (GL.ev _) (fun h1 => ?_) (fun h1 => ?_)
    · skip
      rw [decide_eq_true_eq] at h1
      obtain ⟨q, rfl⟩ : ∃ q, k = q + 1 := ⟨k - 1, by omega⟩
      have e2 : (((q + 1 : Nat) : Int) - 1).toNat = q := by omega
      have hnl : (dpN p.data.toList s.data.toList i (q + 1)).length = s.size + 1 := by rw [dpN_len (by omega), ls]
      refine AW.skip ?_
      refine SQ.normal ?_
      refine AW.seq' ?_
      refine AW.block' ?_
      refine AW.seq' ?_
      refine AW.region ?_
      refine AO.c ?_
      refine AO.c ?_
      refine AO.oo ?_
      refine AO.c ?_
      refine AO.nil ?_
      refine SQ.normal ?_
      refine AW.iteB (GL.ev _) (fun h2 => ?_) (fun h2 => ?_)
      · skip
        rw [decide_eq_true_eq, Int.toNat_natCast, u8_42] at h2
        have hst := dp_star (P := p.data.toList) (S := s.data.toList) (i := i) (k := q) (by omega) (by omega) h2
        refine AW.region ?_
        refine AO.c ?_
        refine AO.c ?_
        refine AO.c ?_
        refine AO.c ?_
        refine AO.o (by omega) ?_
        refine AO.c ?_
        refine AO.c ?_
        refine AO.gx ?_
        refine AO.gx ?_
        refine AO.gxoo ?_
        refine AO.gxoo ?_
        refine AO.gxo (fun _ => by omega) ?_
        refine AO.c ?_
        refine AO.oo ?_
        refine AO.sst ?_
        refine AO.nil ?_
        refine BQ.normal ?_
        refine SQ.normal ?_
        refine AW.region ?_
        refine AO.c ?_
        refine AO.oo ?_
        refine AO.c ?_
        refine AO.nil ?_
        exact AW.backU [.k, .k, .f, .f, .f, .k, .k, .k, .k, .F, .F, .F, .F, .F, .F, .F, .F, .F, .F, .f] (m1 - 1) (q + 1 + 1) (by omega) (by first | omega | (simp; done) | (simp; omega)) (by first | rfl | (simp; done)) (by rw [hget i (by omega), Nat.zero_add, Int.toNat_natCast, e2, Nat.zero_add, dpN_get (by omega), dpN_set (by omega) hst.symm])
      · skip
        rw [decide_eq_false_iff_not, Int.toNat_natCast, u8_42] at h2
        have hst := dp_one (P := p.data.toList) (S := s.data.toList) (i := i) (k := q) (by omega) (by omega) h2
        refine AW.drawsZ [24] (.one 0 false (.one 1 false (.one 2 false (.one 3 false (.one 4 false (.one 5 false (.one 6 false (.one 7 false (.one 8 false (.one 9 false (.one 10 false (.one 11 false (.one 12 false (.one 13 false (.one 14 false (.one 15 false (.one 16 false (.one 17 false (.one 18 false (.one 19 false (.one 20 false (.one 21 false (.one 22 false (.one 23 false (.one 24 true .nil))))))))))))))))))))))))) (by kernel_rfl) rfl (by kernel_rfl) ?_
        refine AZ.c rfl ?_
        refine AZ.c rfl ?_
        refine AZ.c rfl ?_
        refine AZ.c rfl ?_
        refine AZ.oo rfl ?_
        refine AZ.oo rfl ?_
        refine AZ.c rfl ?_
        refine AZ.c rfl ?_
        refine AZ.gx rfl ?_
        refine AZ.gx rfl ?_
        refine AZ.gxoo rfl ?_
        refine AZ.gx rfl ?_
        refine AZ.gx rfl ?_
        refine AZ.gx rfl ?_
        refine AZ.gx rfl ?_
        refine AZ.gxoo rfl ?_
        refine AZ.gx rfl ?_
        refine AZ.gx rfl ?_
        refine AZ.gxoo rfl ?_
        refine AZ.gxoo rfl ?_
        refine AZ.gx rfl ?_
        refine AZ.gx rfl ?_
        refine AZ.c rfl ?_
        refine AZ.oo rfl ?_
        refine AZ.sst rfl rfl ?_
        refine AZ.done ?_
        refine BQ.normal ?_
        refine SQ.normal ?_
        refine AW.region ?_
        refine AO.c ?_
        refine AO.oo ?_
        refine AO.c ?_
        refine AO.nil ?_
        exact AW.backU [.k, .k, .f, .f, .f, .k, .k, .k, .k, .F, .F, .F, .F, .F, .F, .F, .F, .F, .F, .f] (m1 - 1) (q + 1 + 1) (by omega) (by first | omega | (simp; done) | (simp; omega)) (by first | rfl | (simp; done)) (by rw [e2, hget i (by omega), Nat.zero_add, Int.toNat_natCast, Int.toNat_natCast, dec63, decUU, dpN_set (by omega) hst.symm])
    · skip
      rw [decide_eq_false_iff_not] at h1
      refine AW.exit ?_
      refine SQ.exit <| AW.out <| LU.exit <| BQ.exit ?_
      refine SQ.normal ?_
      refine AW.region ?_
      refine AO.c ?_
      refine AO.c ?_
      refine AO.ghost (Gh.freezeM 5 bA (dpR p.data.toList s.data.toList (i + 1) s.size) (by rw [← ls, ← dpN_full, show k = s.data.toList.length + 1 by omega]) (by rw [hlen]; omega) (by rw [hlen]; omega)) ?_
      refine AO.nil ?_
      refine BQ.normal ?_
      refine SQ.normal ?_
      refine AW.region ?_
      refine AO.c ?_
      refine AO.oo ?_
      refine AO.c ?_
      refine AO.nil ?_
      exact AW.backD [.k, .k, .f, .f, .f, .k, .k, .F, .F, .F, .F, .F, .F, .F, .F, .F, .F, .f, .f, .f] ([]) (j) (m0 - 1) (i + 1, j + 1) (by omega) (by first | omega | (simp; done) | (simp; omega)) (by first | rfl | (simp; done)) (by first | rfl | (simp; done))
  · skip
    rw [decide_eq_false_iff_not] at h0
    have hli := hlen i
    refine AW.exit ?_
    refine SQ.exit <| AW.out <| LU.exit <| BQ.exit ?_
    refine SQ.normal ?_
    refine AW.seq' ?_
    refine AW.region ?_
    refine AO.c ?_
    refine AO.c ?_
    refine AO.c ?_
    refine AO.oo ?_
    refine AO.c ?_
    refine AO.c ?_
    refine AO.nil ?_
    refine SQ.normal ?_
    refine AW.ret ?_
    refine Fin.ret (Gh.refl) noid1 ?_
    show AV.v (.bool _) = AV.v (.bool _)
    congr 2
    rw [hget i (by omega)]
    unfold fitsS
    rw [List.take_of_length_le (by omega), List.take_of_length_le (by omega)]

end Go.Proofs.Ytbaibjhkmajplaa.AL
