/- What functions of the program compute, each by its own contract; the conditions stand with each. -/
import Derived.Test.YtlapfdfbgckfcaaFInsn2
namespace Go.Proofs.Ytlapfdfbgckfcaa.AL
open Go Go.RowKit Go.Proofs.Ytlapfdfbgckfcaa.Base
set_option linter.unusedVariables false
set_option linter.unusedSimpArgs false
set_option maxRecDepth 4000
set_option synthInstance.maxSize 1000
set_option synthInstance.maxHeartbeats 200000
structure SegD where
  addr : Int
  size : Int
  flags : Int
  data : List Int
  deriving Inhabited
@[reducible] def segA (s : SegD) : List AV := [.v (.int .i64 s.addr), .v (.int .i64 s.size), .v (.int .i64 s.flags), .rd 1 (bys s.data)]
def magicL : List Int := [127, 69, 76, 70, 2, 1, 1, 0, 0, 0, 0, 0, 0, 0, 0, 0]
def fixL : List (Int × Int × Int) := [(16, 2, 2), (18, 2, 62), (20, 4, 1), (32, 8, 64), (40, 8, 0), (48, 4, 0), (52, 2, 64), (54, 2, 56), (58, 2, 0), (60, 2, 0), (62, 2, 0)]
def fixedB (b : List Int) : Bool := decide (b.take 16 = magicL) && fixL.all fun t => decide (numAt b t.1 t.2.1 = t.2.2)
/-- Six numbers of a segment's header. -/
def segN (b : List Int) (a : Int) (i : Nat) : Int := numAt b (a + 8 + 8 * i) 8
def segOk (b : List Int) (a last : Int) : Prop :=
  a + 56 ≤ b.length ∧ (∀ i, i < 6 → segN b a i ≤ 2147483648) ∧ numAt b a 4 = 1 ∧ 4 ≤ numAt b (a + 4) 4 ∧ numAt b (a + 4) 4 ≤ 6 ∧
  segN b a 2 = segN b a 1 ∧ segN b a 3 ≤ segN b a 4 ∧ segN b a 0 + segN b a 3 ≤ b.length ∧ segN b a 1 + segN b a 4 ≤ 2147483648 ∧ last ≤ segN b a 1 ∧
  segN b a 5 ≠ 0 ∧ Go.bits .and .i64 (segN b a 5) (segN b a 5 - 1) = 0 ∧ segN b a 0 % segN b a 5 = segN b a 1 % segN b a 5
instance (b : List Int) (a last : Int) : Decidable (segOk b a last) := by unfold segOk; infer_instance
def segOf (b : List Int) (a : Int) : SegD := ⟨segN b a 1, segN b a 4, numAt b (a + 4) 4, (b.take (segN b a 0 + segN b a 3).toNat).drop (segN b a 0).toNat⟩
/-- The segments from number i on. -/
def segsF (b : List Int) : Nat → Int → Int → Option (List SegD)
  | 0, _, _ => some []
  | n + 1, i, last => if segOk b (64 + 56 * i) last then (segsF b n (i + 1) (segN b (64 + 56 * i) 1 + segN b (64 + 56 * i) 4)).map (segOf b (64 + 56 * i) :: ·) else none
def loadF (b : List Int) : Option (Int × List SegD) :=
  if 64 ≤ b.length ∧ fixedB b = true ∧ numAt b 24 8 ≤ 2147483648 ∧ numAt b 56 2 ≤ 16 then (segsF b (numAt b 56 2).toNat 0 0).map fun l => (numAt b 24 8, l) else none
theorem segN_nn {b : List Int} (hB : Bytes b) (a : Int) (i : Nat) : 0 ≤ segN b a i := (numAt_range hB _ _).1
/-- What segments are like. -/
def SegGood (b : List Int) (last : Int) : List SegD → Prop
  | [] => True
  | s :: l => (4 ≤ s.flags ∧ s.flags ≤ 6 ∧ (s.data.length : Int) ≤ s.size ∧ 0 ≤ s.addr ∧ s.addr + s.size ≤ 2147483648 ∧ s.data.length ≤ b.length ∧ last ≤ s.addr ∧ 0 ≤ s.size) ∧ SegGood b (s.addr + s.size) l
theorem segs_good {b : List Int} (hB : Bytes b) : ∀ (n : Nat) (i last : Int) (l : List SegD), segsF b n i last = some l → SegGood b last l ∧ l.length = n ∧ (0 < n → 64 + 56 * (i + n) ≤ b.length) := by
  intro n
  induction n with
  | zero => intro i last l h; obtain rfl := Option.some.inj h; exact ⟨trivial, rfl, fun h => by omega⟩
  | succ n ih =>
    intro i last l h
    unfold segsF at h
    split at h
    · rename_i hok
      obtain ⟨k1, k2, k3, k4, k5, k6, k7, k8, k9, k10, k11, k12, k13⟩ := hok
      cases hs : segsF b n (i + 1) (segN b (64 + 56 * i) 1 + segN b (64 + 56 * i) 4) with
      | none => rw [hs] at h; cases h
      | some l' =>
        rw [hs] at h
        obtain rfl := Option.some.inj h
        obtain ⟨g1, g2, g3⟩ := ih _ _ _ hs
        have n0 := segN_nn hB (64 + 56 * i) 0
        have n1 := segN_nn hB (64 + 56 * i) 1
        have n3 := segN_nn hB (64 + 56 * i) 3
        have n4 := segN_nn hB (64 + 56 * i) 4
        refine ⟨⟨⟨k4, k5, ?_, n1, k9, ?_, k10, n4⟩, g1⟩, by simp [g2], fun _ => ?_⟩
        · show ((List.drop _ (List.take _ b)).length : Int) ≤ segN b (64 + 56 * i) 4
          rw [List.length_drop, List.length_take]; omega
        · show (List.drop _ (List.take _ b)).length ≤ b.length
          rw [List.length_drop, List.length_take]; omega
        · rcases Nat.eq_zero_or_pos n with h0 | h0
          · subst h0; simp only [Int.natCast_add]; omega
          · have := g3 h0; omega
    · cases h
theorem numAt_cut {b : List Int} {n : Nat} (hn : n ≤ b.length) (a w : Int) (h0 : 0 ≤ a) (h1 : 0 ≤ w) (h : a + w ≤ n) : numAt (b.take n) a w = numAt b a w := by
  unfold numAt
  congr 1
  apply List.ext_getElem?
  intro i
  rw [List.getElem?_take, List.getElem?_take]
  split
  · rw [List.getElem?_drop, List.getElem?_drop, List.getElem?_take, if_pos (by omega)]
  · rfl
theorem segs_short {b : List Int} : ∀ (n : Nat) (i last : Int), 0 < n → (b.length : Int) < 64 + 56 * (i + n) → segsF b n i last = none := by
  intro n
  induction n with
  | zero => intro i last h; omega
  | succ n ih =>
    intro i last _ h
    unfold segsF
    split
    · rename_i hok
      rcases Nat.eq_zero_or_pos n with h0 | h0
      · subst h0
        have := hok.1
        simp only [Int.natCast_add] at h
        omega
      · rw [ih (i + 1) _ h0 (by omega)]; rfl
    · rfl
/-- Cut off within the headers it is none. -/
theorem load_cut {b : List Int} {e : Int} {l : List SegD} (hB : Bytes b) (h : loadF b = some (e, l)) {c : Nat} (hc : (c : Int) < 64 + 56 * l.length) (hcb : c ≤ b.length) : loadF (b.take c) = none := by
  unfold loadF at h ⊢
  split at h
  · rename_i hh
    cases hs : segsF b (numAt b 56 2).toNat 0 0 with
    | none => rw [hs] at h; cases h
    | some l' =>
      rw [hs] at h
      obtain ⟨rfl, rfl⟩ := Prod.mk.inj (Option.some.inj h)
      obtain ⟨g1, g2, g3⟩ := segs_good hB _ _ _ _ hs
      by_cases h64 : 64 ≤ c
      · have hm : numAt (b.take c) 56 2 = numAt b 56 2 := numAt_cut hcb _ _ (by decide) (by decide) (by omega)
        split
        · rw [hm]
          have hm0 := (numAt_range hB 56 2).1
          rw [segs_short _ _ _ (by omega) (by rw [List.length_take]; omega)]; rfl
        · rfl
      · rw [if_neg (by rw [List.length_take]; omega)]
  · cases h
/-- A byte of the first sixteen turned: it is none. -/
theorem load_turn {b : List Int} {i : Nat} {x : Int} (h : fixedB b = true) (hi : i < 16) (hx : x ≠ b.getD i 0) (hl : 16 ≤ b.length) : loadF (b.set i x) = none := by
  unfold loadF
  rw [if_neg]
  rintro ⟨_, h2, _⟩
  unfold fixedB at h h2
  rw [Bool.and_eq_true, decide_eq_true_eq] at h h2
  have e1 := congrArg (fun l => l.getD i 0) h.1
  have e2 := congrArg (fun l => l.getD i 0) h2.1
  have g1 : (b.take 16).getD i 0 = b.getD i 0 := by rw [List.getD_eq_getElem?_getD, List.getD_eq_getElem?_getD, List.getElem?_take, if_pos hi]
  have g2 : ((b.set i x).take 16).getD i 0 = x := by
    rw [List.getD_eq_getElem?_getD, List.getElem?_take, if_pos hi, List.getElem?_set_self (by omega)]; rfl
  rw [g1] at e1
  rw [g2] at e2
  exact hx (e2.trans e1.symm)
theorem segGood_at {b : List Int} : ∀ (l : List SegD) (last : Int) (i : Nat), SegGood b last l → i < l.length →
    (4 ≤ (l.getD i default).flags ∧ (l.getD i default).flags ≤ 6 ∧ ((l.getD i default).data.length : Int) ≤ (l.getD i default).size ∧ 0 ≤ (l.getD i default).addr ∧ (l.getD i default).addr + (l.getD i default).size ≤ 2147483648 ∧ (l.getD i default).data.length ≤ b.length) := by
  intro l
  induction l with
  | nil => intro last i _ h; simp at h
  | cons s l ih =>
    intro last i h hi
    cases i with
    | zero => obtain ⟨⟨a1, a2, a3, a4, a5, a6, _, _⟩, _⟩ := h; exact ⟨a1, a2, a3, a4, a5, a6⟩
    | succ i => exact ih _ i h.2 (by simpa using hi)
/-- In how many segments of the first ones an address is. -/
def inN (x : Int) (l : List SegD) : Nat := (l.filter fun s => decide (s.addr ≤ x) && decide (x < s.addr + s.size)).length
theorem inN_none {b : List Int} {x : Int} : ∀ (l : List SegD) (last : Int), SegGood b last l → x < last → inN x l = 0 := by
  intro l
  induction l with
  | nil => intro _ _ _; rfl
  | cons s l ih =>
    intro last h hx
    obtain ⟨⟨a1, a2, a3, a4, a5, a6, a7, a8⟩, h2⟩ := h
    unfold inN
    rw [List.filter_cons, if_neg (by simp; omega)]
    exact ih _ h2 (by omega)
theorem inN_one {b : List Int} {x : Int} : ∀ (l : List SegD) (last : Int), SegGood b last l → inN x l ≤ 1 := by
  intro l
  induction l with
  | nil => intro _ _; exact Nat.zero_le _
  | cons s l ih =>
    intro last h
    unfold inN
    rw [List.filter_cons]
    split
    · rename_i hc
      simp only [Bool.and_eq_true, decide_eq_true_eq] at hc
      have := inN_none l _ h.2 hc.2
      unfold inN at this
      rw [List.length_cons, this]; decide
    · exact ih _ h.2

end Go.Proofs.Ytlapfdfbgckfcaa.AL
