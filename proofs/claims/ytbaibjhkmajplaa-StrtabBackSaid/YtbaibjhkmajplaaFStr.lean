/- What functions of the program compute, each by its own contract; the conditions stand with each. -/
import Derived.Test.YtbaibjhkmajplaaFLe2
import Derived.Test.YtbaibjhkmajplaaAlM
namespace Go.Proofs.Ytbaibjhkmajplaa.AL
open Go Go.RowKit Go.Proofs.Ytbaibjhkmajplaa.Base
set_option linter.unusedVariables false
set_option linter.unusedSimpArgs false
set_option maxRecDepth 4000
set_option synthInstance.maxSize 1000

theorem ba_ext {a b : ByteArray} (h : a.data.toList = b.data.toList) : a = b := by
  cases a; cases b; simp at h; simp [h]
theorem ba_eq {a b : ByteArray} : a.toList = b.toList ↔ a = b := ⟨fun h => ba_ext (by rwa [ByteArray.toList_eq, ByteArray.toList_eq] at h), fun h => by rw [h]⟩
@[reducible] def noS : ByteArray := ⟨#[]⟩
abbrev TabS := List Int × List Int × List (ByteArray × Int)
def tabStep (st : TabS) (s : ByteArray) : TabS :=
  if s = noS then (st.1, st.2.1 ++ [0], st.2.2)
  else match aget st.2.2 s with
    | some a => (st.1, st.2.1 ++ [a], st.2.2)
    | none => (st.1 ++ strB s ++ [0], st.2.1 ++ [(st.1.length : Int)], aput st.2.2 s (st.1.length : Int))
def tabOf (l : List ByteArray) : TabS := l.foldl tabStep ([0], [], [])
theorem tabOf_succ {l : List ByteArray} {i : Nat} (h : i < l.length) : tabOf (l.take (i + 1)) = tabStep (tabOf (l.take i)) (l.getD i default) := by
  unfold tabOf
  rw [List.take_succ_eq_append_getElem h, List.foldl_append]
  simp [h]
structure TabInv (l : List ByteArray) (st : TabS) : Prop where
  pl : st.2.1.length = l.length
  nil : ∀ k, k < l.length → l.getD k default = noS → st.2.1.getD k 0 = 0
  get : ∀ k, k < l.length → l.getD k default ≠ noS → aget st.2.2 (l.getD k default) = some (st.2.1.getD k 0)
  old : ∀ s a, aget st.2.2 s = some a → 0 ≤ a ∧ s ≠ noS ∧ ∃ k, k < l.length ∧ l.getD k default = s
  at_ : ∀ k, k < l.length → 0 ≤ st.2.1.getD k 0 ∧ ∃ r, st.1.drop (st.2.1.getD k 0).toNat = strB (l.getD k default) ++ 0 :: r
  t0 : ∃ r, st.1 = 0 :: r
theorem tab_start : TabInv [] ([0], [], []) := ⟨rfl, fun k h => by simp at h, fun k h => by simp at h, fun s a h => by simp [aget] at h, fun k h => by simp at h, ⟨[], rfl⟩⟩
theorem getD_snoc_lt {α : Type} {l : List α} {x d : α} {k : Nat} (h : k < l.length) : (l ++ [x]).getD k d = l.getD k d := by
  simp [List.getElem?_append_left h]
theorem getD_snoc_eq {α : Type} {l : List α} {x d : α} : (l ++ [x]).getD l.length d = x := by simp
theorem drop_app_of {T r u : List Int} {p : Nat} {h : List Int} (hp : T.drop p = h ++ 0 :: r) : (T ++ u).drop p = h ++ 0 :: (r ++ u) := by
  have hlt : p ≤ T.length := by
    rcases Nat.lt_or_ge T.length p with h1 | h1
    · rw [List.drop_of_length_le (by omega)] at hp
      have := congrArg List.length hp
      simp at this
    · exact h1
  rw [List.drop_append_of_le_length hlt, hp]
  simp
theorem tab_step {l : List ByteArray} {st : TabS} (h : TabInv l st) (s : ByteArray) : TabInv (l ++ [s]) (tabStep st s) := by
  obtain ⟨T, P, S⟩ := st
  obtain ⟨h1, h2, h3, h4, h5, h6⟩ := h
  simp only at h1 h2 h3 h4 h5 h6
  have hl : (l ++ [s]).length = l.length + 1 := by simp
  have split : ∀ {k : Nat}, k < (l ++ [s]).length → k < l.length ∨ k = l.length := fun h => by omega
  unfold tabStep
  by_cases hs : s = noS
  · rw [if_pos hs]
    refine ⟨by simp [h1], fun k hk he => ?_, fun k hk he => ?_, fun s' a ha => ?_, fun k hk => ?_, h6⟩
    · rcases split hk with hk | rfl
      · rw [getD_snoc_lt hk] at he
        show (P ++ [0]).getD k 0 = 0
        rw [getD_snoc_lt (by omega)]; exact h2 k hk he
      · show (P ++ [0]).getD l.length 0 = 0
        rw [← h1, getD_snoc_eq]
    · rcases split hk with hk | rfl
      · rw [getD_snoc_lt hk] at he ⊢
        show _ = some ((P ++ [0]).getD k 0)
        rw [getD_snoc_lt (by omega)]; exact h3 k hk he
      · rw [getD_snoc_eq] at he; exact absurd hs he
    · obtain ⟨g1, g2, k, g3, g4⟩ := h4 s' a ha
      exact ⟨g1, g2, k, by omega, by rw [getD_snoc_lt g3]; exact g4⟩
    · rcases split hk with hk | rfl
      · show 0 ≤ (P ++ [0]).getD k 0 ∧ ∃ r, T.drop ((P ++ [0]).getD k 0).toNat = _
        rw [getD_snoc_lt (by omega), getD_snoc_lt hk]; exact h5 k hk
      · show 0 ≤ (P ++ [0]).getD l.length 0 ∧ ∃ r, T.drop ((P ++ [0]).getD l.length 0).toNat = _
        rw [getD_snoc_eq, ← h1, getD_snoc_eq, hs]
        obtain ⟨r, rfl⟩ := h6
        exact ⟨by decide, r, rfl⟩
  · rw [if_neg hs]
    cases hg : aget S s with
    | some a =>
      simp only
      obtain ⟨g1, g2, k0, g3, g4⟩ := h4 s a hg
      have g5 := h3 k0 g3 (by rw [g4]; exact hs)
      rw [g4, hg] at g5
      obtain rfl := Option.some.inj g5
      refine ⟨by simp [h1], fun k hk he => ?_, fun k hk he => ?_, fun s' a ha => ?_, fun k hk => ?_, h6⟩
      · rcases split hk with hk | rfl
        · rw [getD_snoc_lt hk] at he
          show (P ++ [_]).getD k 0 = 0
          rw [getD_snoc_lt (by omega)]; exact h2 k hk he
        · rw [getD_snoc_eq] at he; exact absurd he hs
      · rcases split hk with hk | rfl
        · rw [getD_snoc_lt hk] at he ⊢
          show _ = some ((P ++ [_]).getD k 0)
          rw [getD_snoc_lt (by omega)]; exact h3 k hk he
        · show _ = some ((P ++ [_]).getD l.length 0)
          rw [getD_snoc_eq, ← h1, getD_snoc_eq]; exact hg
      · obtain ⟨g1, g2, k, g3, g4⟩ := h4 s' a ha
        exact ⟨g1, g2, k, by omega, by rw [getD_snoc_lt g3]; exact g4⟩
      · rcases split hk with hk | rfl
        · dsimp only
          rw [getD_snoc_lt (by omega), getD_snoc_lt hk]; exact h5 k hk
        · dsimp only
          rw [getD_snoc_eq, ← h1, getD_snoc_eq]
          have := h5 k0 g3
          rw [g4] at this; exact this
    | none =>
      simp only
      refine ⟨by simp [h1], fun k hk he => ?_, fun k hk he => ?_, fun s' a ha => ?_, fun k hk => ?_, ?_⟩
      · rcases split hk with hk | rfl
        · rw [getD_snoc_lt hk] at he
          show (P ++ [_]).getD k 0 = 0
          rw [getD_snoc_lt (by omega)]; exact h2 k hk he
        · rw [getD_snoc_eq] at he; exact absurd he hs
      · rcases split hk with hk | rfl
        · rw [getD_snoc_lt hk] at he ⊢
          show aget (aput S s _) _ = some ((P ++ [_]).getD k 0)
          rw [getD_snoc_lt (by omega), aget_aput]
          have := h3 k hk he
          rw [if_neg, this]
          intro e
          rw [← e, hg] at this; cases this
        · show aget (aput S s _) _ = some ((P ++ [_]).getD l.length 0)
          rw [getD_snoc_eq, ← h1, getD_snoc_eq, aget_aput, if_pos rfl]
      · have ha : aget (aput S s (T.length : Int)) s' = some a := ha
        rw [aget_aput] at ha
        by_cases e : s = s'
        · rw [if_pos e] at ha
          obtain rfl := Option.some.inj ha
          subst e
          exact ⟨by omega, hs, l.length, by omega, getD_snoc_eq⟩
        · rw [if_neg e] at ha
          obtain ⟨g1, g2, k, g3, g4⟩ := h4 s' a ha
          exact ⟨g1, g2, k, by omega, by rw [getD_snoc_lt g3]; exact g4⟩
      · rcases split hk with hk | rfl
        · dsimp only
          rw [getD_snoc_lt (by omega), getD_snoc_lt hk]
          obtain ⟨g1, r, g2⟩ := h5 k hk
          rw [List.append_assoc]
          exact ⟨g1, _, drop_app_of g2⟩
        · dsimp only
          rw [getD_snoc_eq, ← h1, getD_snoc_eq]
          refine ⟨by omega, [], ?_⟩
          rw [Int.toNat_natCast, List.append_assoc, List.drop_left]
      · obtain ⟨r, rfl⟩ := h6
        exact ⟨r ++ strB s ++ [0], by simp⟩
theorem tab_invG : ∀ (l2 l1 : List ByteArray) (st : TabS), TabInv l1 st → TabInv (l1 ++ l2) (l2.foldl tabStep st) := by
  intro l2
  induction l2 with
  | nil => intro l1 st h; rwa [List.append_nil]
  | cons s l2 ih =>
    intro l1 st h
    have := ih (l1 ++ [s]) (tabStep st s) (tab_step h s)
    rwa [List.append_assoc] at this
theorem tab_inv (l : List ByteArray) : TabInv l (tabOf l) := tab_invG l [] _ tab_start
theorem getD_lt {l : List Int} {j : Nat} {d : Int} (h : j < l.length) : l.getD j d = l[j] := by simp [h]
/-- What begins at a place of a table. -/
def atF (b : List Int) (a : Int) : Option ByteArray :=
  if 0 ≤ a ∧ a < b.length then
    if firstB (b.drop a.toNat) 0 < 0 ∨ firstB (b.drop a.toNat) 0 > 32 then none else some (strOfNums ((b.take (a + firstB (b.drop a.toNat) 0).toNat).drop a.toNat))
  else none
theorem atF_at {b : List Int} {a : Int} {i : Nat} (h0 : 0 ≤ a) (hi : a.toNat ≤ i) (hl : i < b.length) (h : ∀ j, a.toNat ≤ j → j < i → b.getD j 0 ≠ 0) (hz : b.getD i 0 = 0) : firstB (b.drop a.toNat) 0 = (i : Int) - a := by
  have hg : ∀ j, (b.drop a.toNat).getD j default = b.getD (a.toNat + j) 0 := fun j => by simp [List.getElem?_drop]
  have := idxF_at (q := fun x : Int => x == 0) (l := b.drop a.toNat) (i := i - a.toNat) (by rw [List.length_drop]; omega) (fun j hj => by
    rw [hg]; simpa using h (a.toNat + j) (by omega) (by omega)) (by
    rw [hg, show a.toNat + (i - a.toNat) = i by omega, hz]; rfl)
  unfold firstB
  rw [this]; omega
theorem strB_getD (s : ByteArray) (j : Nat) : (strB s).getD j 0 = ((s.data.toList.getD j 0).toNat : Int) := by
  unfold strB
  rw [List.getD_eq_getElem?_getD, List.getD_eq_getElem?_getD, List.getElem?_map]
  cases s.data.toList[j]? <;> rfl
theorem firstB_gt {l : List Int} {m : Nat} (h : ∀ j, j < m → l.getD j 0 ≠ 0) : firstB l 0 = -1 ∨ (m : Int) ≤ firstB l 0 := by
  unfold firstB idxF
  cases hf : l.findIdx? (fun x => x == 0) with
  | none => exact .inl rfl
  | some i =>
    right
    have h1 := List.findIdx?_eq_some_iff_getElem.1 hf
    obtain ⟨h2, h3, _⟩ := h1
    rcases Nat.lt_or_ge i m with h4 | h4
    · have := h i h4
      simp [h2] at this h3
      exact absurd h3 this
    · show (m : Int) ≤ (i : Int); omega
theorem firstB_none {l : List Int} (h : ∀ j, j < l.length → l.getD j 0 ≠ 0) : firstB l 0 = -1 := by
  unfold firstB
  exact idxF_none fun j hj => by simpa using h j hj
theorem drop_get {b : List Int} {a j : Nat} : (b.drop a).getD j 0 = b.getD (a + j) 0 := by simp [List.getElem?_drop]
/-- May a text be a name? -/
def mayS (s : ByteArray) : Bool := decide (s.size ≤ 32 ∧ firstB (strB s) 0 < 0)
theorem mayS_of {s : ByteArray} (h : s.size ≤ 32) (h0 : ∀ j, j < s.size → (s.data.toList.getD j 0).toNat ≠ 0) : mayS s = true := by
  unfold mayS
  rw [decide_eq_true_eq]
  refine ⟨h, ?_⟩
  rw [firstB_none]
  · decide
  · intro j hj
    rw [strB_len] at hj
    have := h0 j hj
    rw [strB_getD]; omega
theorem mayS_no {s : ByteArray} {j : Nat} (hj : j < s.size) (h : (s.data.toList.getD j 0).toNat = 0) : mayS s = false := by
  unfold mayS
  rw [decide_eq_false_iff_not]
  intro ⟨_, h2⟩
  have e : (strB s).getD j 0 = 0 := by rw [strB_getD, h]; rfl
  unfold firstB idxF at h2
  cases hf : (strB s).findIdx? (fun x => x == 0) with
  | none =>
    rw [List.findIdx?_eq_none_iff] at hf
    have hm : (strB s).getD j 0 ∈ strB s := by
      have h1 : j < (strB s).length := by rw [strB_len]; exact hj
      rw [getD_lt h1]; exact List.getElem_mem h1
    have := hf _ hm
    rw [e] at this
    cases this
  | some i =>
    rw [hf] at h2
    have h2 : (i : Int) < 0 := h2
    omega
theorem strOf_strB (s : ByteArray) : strOfNums (strB s) = s := by
  apply ba_ext
  have : ((fun n : Int => UInt8.ofNat n.toNat) ∘ fun c : UInt8 => (c.toNat : Int)) = id := by funext c; simp
  simp only [strOfNums, strB, List.map_map, this, List.map_id]
/-- A name that may be is found where it stands. -/
theorem atF_name {b r : List Int} {a : Int} {s : ByteArray} (h0 : 0 ≤ a) (hm : mayS s = true) (hd : b.drop a.toNat = strB s ++ 0 :: r) : atF b a = some s := by
  unfold mayS at hm
  rw [decide_eq_true_eq] at hm
  have hl := congrArg List.length hd
  rw [List.length_drop, List.length_append, strB_len, List.length_cons] at hl
  have hf : firstB (b.drop a.toNat) 0 = s.size := by
    rw [hd]
    unfold firstB
    have hno : ∀ x ∈ strB s, x ≠ 0 := by
      intro x hx h
      have h2 := hm.2
      unfold firstB idxF at h2
      cases hf : (strB s).findIdx? (fun x => x == 0) with
      | none =>
        rw [List.findIdx?_eq_none_iff] at hf
        have := hf x hx
        rw [h] at this; cases this
      | some i => rw [hf] at h2; have h2 : (i : Int) < 0 := h2; omega
    refine idxF_at (by rw [List.length_append, strB_len, List.length_cons]; omega) (fun j hj => ?_) ?_
    · have h1 : j < (strB s).length := by rw [strB_len]; exact hj
      have : (strB s ++ 0 :: r).getD j default = (strB s)[j] := by
        rw [getD_lt (by rw [List.length_append]; omega), List.getElem_append_left h1]
      rw [this]
      simpa using hno _ (List.getElem_mem h1)
    · have : (strB s ++ 0 :: r).getD s.size default = 0 := by
        rw [← strB_len s]; simp
      rw [this]; rfl
  unfold atF
  rw [if_pos (by omega), hf, if_neg (by omega)]
  have : (b.take (a + (s.size : Int)).toNat).drop a.toNat = strB s := by
    rw [show (a + (s.size : Int)).toNat = a.toNat + s.size by omega, List.drop_take, Nat.add_sub_cancel_left, hd, ← strB_len s, List.take_left]
  rw [this, strOf_strB]

theorem tab_len : ∀ (l2 : List ByteArray) (st : TabS) (c : Nat), (∀ s ∈ l2, s.size ≤ 1000000) → st.1.length ≤ c → (l2.foldl tabStep st).1.length ≤ c + 1000001 * l2.length := by
  intro l2
  induction l2 with
  | nil => intro st c _ h; simpa using h
  | cons s l2 ih =>
    intro st c h hc
    have := ih (tabStep st s) (c + 1000001) (fun x hx => h x (by simp [hx])) (by
      have hs := h s (by simp)
      unfold tabStep
      split
      · dsimp only; omega
      · split
        · dsimp only; omega
        · simp only [List.length_append, strB_len, List.length_cons, List.length_nil]; omega)
    simp only [List.foldl_cons, List.length_cons]
    omega
theorem tabOf_len {l : List ByteArray} (h : ∀ s ∈ l, s.size ≤ 1000000) : (tabOf l).1.length ≤ 1 + 1000001 * l.length := tab_len l _ 1 h (by simp)
theorem tabOf_pl (l : List ByteArray) : (tabOf l).2.1.length = l.length := (tab_inv l).pl
theorem szI {l : List ByteArray} (h : ∀ s ∈ l, s.size ≤ 1000000) (i : Nat) : (l.getD i default).size ≤ 1000000 := by
  rcases Nat.lt_or_ge i l.length with hi | hi
  · exact h _ (getD_in hi)
  · rw [List.getD_eq_getElem?_getD, List.getElem?_eq_none hi]; decide
theorem takeI {l : List ByteArray} (h : ∀ s ∈ l, s.size ≤ 1000000) (i : Nat) : ∀ s ∈ l.take i, s.size ≤ 1000000 := fun s hs => h s (List.mem_of_mem_take hs)
theorem step_no {st : TabS} {s : ByteArray} (h : s = noS) : tabStep st s = (st.1, st.2.1 ++ [0], st.2.2) := by unfold tabStep; rw [if_pos h]
theorem step_old {st : TabS} {s : ByteArray} {a : Int} (h : s ≠ noS) (h1 : aget st.2.2 s = some a) : tabStep st s = (st.1, st.2.1 ++ [a], st.2.2) := by unfold tabStep; rw [if_neg h, h1]
theorem step_new {st : TabS} {s : ByteArray} (h : s ≠ noS) (h1 : aget st.2.2 s = none) : tabStep st s = (st.1 ++ strB s ++ [0], st.2.1 ++ [(st.1.length : Int)], aput st.2.2 s (st.1.length : Int)) := by unfold tabStep; rw [if_neg h, h1]
theorem take_getD {α : Type} {l : List α} {i k : Nat} {d : α} (h : k < i) : (l.take i).getD k d = l.getD k d := by
  rw [List.getD_eq_getElem?_getD, List.getD_eq_getElem?_getD, List.getElem?_take, if_pos h]

theorem bytes_IndexByte (li : List Int) (c : Int) (hB : ∀ x ∈ li, 0 ≤ x ∧ x < 256) (hc : 0 ≤ c ∧ c < 256) : A0 Try.prog 86 [.rd 1 (bys li), .v (.int .u8 c)] (fun ret => ret = .v (.int .i64 (firstB li c))) := by
  refine A0.body 8 Try.func86 rfl rfl Try.ntmps86 fun base n0 => ?_
  refine AW.seq' ?_
  refine AW.region ?_
  refine AO.c ?_
  refine AO.nil ?_
  refine SQ.normal ?_
  refine AW.seq' ?_
  refine AW.region ?_
  refine AO.c ?_
  refine AO.c ?_
  refine AO.indexRd Try.func104 rfl rfl (by kernel_rfl) (by kernel_rfl) hB hc ?_
  refine AO.c ?_
  refine AO.nil ?_
  refine SQ.normal ?_
  refine AW.ret ?_
  refine Fin.ret (Gh.refl) noid1 ?_
  rfl
theorem slite_IndexByte (s : ByteArray) (c : Int) (hc : 0 ≤ c ∧ c < 256) : A0 Try.prog 105 [.v (.string s), .v (.int .u8 c)] (fun ret => ret = .v (.int .i64 (firstB (strB s) c))) := by
  refine A0.body 8 Try.func105 rfl rfl Try.ntmps105 fun base n0 => ?_
  refine AW.seq' ?_
  refine AW.region ?_
  refine AO.c ?_
  refine AO.nil ?_
  refine SQ.normal ?_
  refine AW.seq' ?_
  refine AW.region ?_
  refine AO.c ?_
  refine AO.c ?_
  refine AO.indexStr Try.func110 rfl rfl (by kernel_rfl) (by kernel_rfl) hc ?_
  refine AO.c ?_
  refine AO.nil ?_
  refine SQ.normal ?_
  refine AW.ret ?_
  refine Fin.ret (Gh.refl) noid1 ?_
  rfl
theorem strings_IndexByte (s : ByteArray) (c : Int) (hc : 0 ≤ c ∧ c < 256) : A0 Try.prog 87 [.v (.string s), .v (.int .u8 c)] (fun ret => ret = .v (.int .i64 (firstB (strB s) c))) := by
  refine A0.body 8 Try.func87 rfl rfl Try.ntmps87 fun base n0 => ?_
  refine AW.seq' ?_
  refine AW.region ?_
  refine AO.c ?_
  refine AO.nil ?_
  refine SQ.normal ?_
  refine AW.seq' ?_
  refine AW.region ?_
  refine AO.c ?_
  refine AO.c ?_
  refine AO.call1 Try.func105 rfl rfl (slite_IndexByte _ _ (by omega)) ?_
  refine AO.c ?_
  refine AO.nil ?_
  refine SQ.normal ?_
  refine AW.ret ?_
  refine Fin.ret (Gh.refl) noid1 ?_
  rfl
theorem strtab_May (s : ByteArray) : A0 Try.prog 43 [.v (.string s)] (fun ret => ret = .v (.bool (mayS s))) := by
  refine A0.body 11 Try.func43 rfl rfl Try.ntmps43 fun base n0 => ?_
  refine AW.seq' ?_
  refine AW.region ?_
  refine AO.c ?_
  refine AO.nil ?_
  refine SQ.normal ?_
  refine AW.seq' ?_
  refine AW.region ?_
  refine AO.c ?_
  refine AO.c ?_
  refine AO.c ?_
  refine AO.c ?_
  refine AO.gx ?_
  refine AO.gxcall1 Try.func87 rfl rfl (fun hgd => strings_IndexByte _ _ (by omega)) ?_
  refine AO.gx ?_
  refine AO.c ?_
  refine AO.c ?_
  refine AO.nil ?_
  refine SQ.normal ?_
  refine AW.ret ?_
  refine Fin.ret (Gh.refl) noid1 ?_
  show AV.v (.bool _) = AV.v (.bool _)
  congr 2
  unfold mayS
  rw [Bool.eq_iff_iff]
  simp only [Bool.and_eq_true, decide_eq_true_eq]
  omega
theorem ref_Name (s : ByteArray) (hs : s.size ≤ 9223372036854775807) : A0 Try.prog 44 [.v (.string s)] (fun ret => ret = .v (.bool (mayS s))) := by
  refine A0.body 18 Try.func44 rfl rfl Try.ntmps44 fun base n0 => ?_
  refine AW.seq' ?_
  refine AW.region ?_
  refine AO.c ?_
  refine AO.nil ?_
  refine SQ.normal ?_
  refine AW.seq' ?_
  refine AW.seq' ?_
  refine AW.region ?_
  refine AO.c ?_
  refine AO.nil ?_
  refine SQ.normal ?_
  refine AW.block' ?_
  refine AW.loopU [.k, .f, .f, .k, .F, .f, .f, .f, .f, .f, .f] (fun (i : Nat) => [(3, .v (.int .i64 (i)))]) (fun i => Hn n0 []) (fun m i => i ≤ s.size ∧ i ≤ 32 ∧ m = s.size - i ∧ ∀ j, j < i → (s.data.toList.getD j 0).toNat ≠ 0) (s.size) (0) ⟨by omega, by omega, rfl, fun j h => by omega⟩ (by first | rfl | (simp; done)) (by first | rfl | (simp; done)) ?_
  rintro m0 i ⟨hx1, hx4, hx2, hx3⟩
  refine AW.seq' ?_
  refine AW.seq' ?_
  refine AW.region ?_
  refine AO.c ?_
  refine AO.c ?_
  refine AO.c ?_
  refine AO.c ?_
  refine AO.nil ?_
  refine SQ.normal ?_
  refine AW.iteB (GL.ev _) (fun h0 => ?_) (fun h0 => ?_)
  · skip
    rw [decide_eq_true_eq] at h0
    refine AW.skip ?_
    refine SQ.normal ?_
    refine AW.seq' ?_
    refine AW.block' ?_
    refine AW.seq' ?_
    refine AW.region ?_
    refine AO.c ?_
    refine AO.c ?_
    refine AO.c ?_
    refine AO.gx ?_
    refine AO.gx ?_
    refine AO.gxoo ?_
    refine AO.gx ?_
    refine AO.c ?_
    refine AO.nil ?_
    refine SQ.normal ?_
    refine AW.iteB (GL.ev _) (fun h1 => ?_) (fun h1 => ?_)
    · skip
      simp only [Bool.or_eq_true, decide_eq_true_eq, Int.toNat_natCast] at h1
      have hres : mayS s = false := by
        rcases h1 with h1 | h1
        · unfold mayS; rw [decide_eq_false_iff_not]; omega
        · exact mayS_no (j := i) (by omega) (by omega)
      refine AW.seq' ?_
      refine AW.region ?_
      refine AO.c ?_
      refine AO.nil ?_
      refine SQ.normal ?_
      refine AW.ret ?_
      refine BQ.ret <| SQ.ret <| AW.out <| LU.ret <| BQ.ret <| SQ.ret ?_
      refine Fin.ret (Gh.refl) noid1 ?_
      rw [hres]; rfl
    · skip
      simp only [Bool.or_eq_false_iff, decide_eq_false_iff_not, Int.toNat_natCast] at h1
      refine AW.skip ?_
      refine BQ.normal ?_
      refine SQ.normal ?_
      refine AW.region ?_
      refine AO.c ?_
      refine AO.oo ?_
      refine AO.c ?_
      refine AO.nil ?_
      exact AW.backU [.k, .f, .f, .k, .F, .f, .f, .f, .f, .f, .f] (m0 - 1) (i + 1) (by omega) (by (try dsimp only); exact ⟨by omega, by omega, by omega, fun j hj => (Nat.lt_or_eq_of_le (Nat.le_of_lt_succ hj)).elim (hx3 j) (fun h => by rw [h]; omega)⟩) (by first | rfl | (simp; done)) (by first | rfl | (simp; done))
  · skip
    rw [decide_eq_false_iff_not] at h0
    have hres : mayS s = true := mayS_of (by omega) fun j hj => hx3 j (by omega)
    refine AW.exit ?_
    refine SQ.exit <| AW.out <| LU.exit <| BQ.exit ?_
    refine SQ.normal ?_
    refine AW.seq' ?_
    refine AW.region ?_
    refine AO.c ?_
    refine AO.nil ?_
    refine SQ.normal ?_
    refine AW.ret ?_
    refine Fin.ret (Gh.refl) noid1 ?_
    rw [hres]; rfl
theorem strtab_At (b : List Int) (a : Int) (hB : Bytes b) (hb : b.length ≤ 1000000000000) (ha : I64 a) : A0 Try.prog 41 [.rd 1 (bys b), .v (.int .i64 (a))] (fun ret => ret = .tup [.v (.string ((atF b a).getD noS)), .v (.bool (atF b a).isSome)]) := by
  unfold I64 at ha
  refine A0.body 32 Try.func41 rfl rfl Try.ntmps41 fun base n0 => ?_
  refine AW.seq' ?_
  refine AW.region ?_
  refine AO.c ?_
  refine AO.c ?_
  refine AO.nil ?_
  refine SQ.normal ?_
  refine AW.seq' ?_
  refine AW.seq' ?_
  refine AW.region ?_
  refine AO.c ?_
  refine AO.c ?_
  refine AO.c ?_
  refine AO.gx ?_
  refine AO.gx ?_
  refine AO.gx ?_
  refine AO.gx ?_
  refine AO.c ?_
  refine AO.nil ?_
  refine SQ.normal ?_
  refine AW.iteB (GL.ev _) (fun h0 => ?_) (fun h0 => ?_)
  · skip
    simp only [Bool.or_eq_true, decide_eq_true_eq] at h0
    have hres : atF b a = none := by unfold atF; rw [if_neg (by omega)]
    refine AW.seq' ?_
    refine AW.region ?_
    refine AO.c ?_
    refine AO.c ?_
    refine AO.nil ?_
    refine SQ.normal ?_
    refine AW.ret ?_
    refine SQ.ret ?_
    refine Fin.ret (Gh.refl) noid2 ?_
    rw [hres]; rfl
  · skip
    simp only [Bool.or_eq_false_iff, decide_eq_false_iff_not] at h0
    have hfl : firstB (b.drop a.toNat) 0 < (b.drop a.toNat).length := idxF_lt
    rw [List.length_drop] at hfl
    refine AW.skip ?_
    refine SQ.normal ?_
    refine AW.seq' ?_
    refine AW.region ?_
    refine AO.c ?_
    refine AO.c ?_
    refine AO.oo ?_
    refine AO.eq 17 (av' := .rd 1 (bys (b.drop a.toNat))) (by simp) ?_
    refine AO.call1 Try.func86 rfl rfl (bytes_IndexByte (b.drop a.toNat) 0 (hB.drop _) (by omega)) ?_
    refine AO.c ?_
    refine AO.nil ?_
    refine SQ.normal ?_
    refine AW.seq' ?_
    refine AW.seq' ?_
    refine AW.region ?_
    refine AO.c ?_
    refine AO.c ?_
    refine AO.c ?_
    refine AO.gx ?_
    refine AO.gx ?_
    refine AO.c ?_
    refine AO.nil ?_
    refine SQ.normal ?_
    refine AW.iteB (GL.ev _) (fun h1 => ?_) (fun h1 => ?_)
    · skip
      simp only [Bool.or_eq_true, decide_eq_true_eq] at h1
      have hres : atF b a = none := by unfold atF; rw [if_pos (by omega), if_pos h1]
      refine AW.seq' ?_
      refine AW.region ?_
      refine AO.c ?_
      refine AO.c ?_
      refine AO.nil ?_
      refine SQ.normal ?_
      refine AW.ret ?_
      refine SQ.ret ?_
      refine Fin.ret (Gh.refl) noid2 ?_
      rw [hres]; rfl
    · skip
      simp only [Bool.or_eq_false_iff, decide_eq_false_iff_not] at h1
      have hres : atF b a = some (strOfNums ((b.take (a + firstB (b.drop a.toNat) 0).toNat).drop a.toNat)) := by unfold atF; rw [if_pos (by omega), if_neg (by omega)]
      refine AW.skip ?_
      refine SQ.normal ?_
      refine AW.seq' ?_
      refine AW.region ?_
      refine AO.c ?_
      refine AO.c ?_
      refine AO.c ?_
      refine AO.c ?_
      refine AO.oo ?_
      refine AO.o (by simp only [Option.getD_some]; omega) ?_
      refine AO.c ?_
      refine AO.c ?_
      refine AO.c ?_
      refine AO.nil ?_
      refine SQ.normal ?_
      refine AW.ret ?_
      refine Fin.ret (Gh.refl) noid2 ?_
      rw [hres]; rfl
theorem ref_At (b : List Int) (a : Int) (hB : Bytes b) (hb : b.length ≤ 1000000000000) (ha : I64 a) : A0 Try.prog 42 [.rd 1 (bys b), .v (.int .i64 (a))] (fun ret => ret = .tup [.v (.string ((atF b a).getD noS)), .v (.bool (atF b a).isSome)]) := by
  unfold I64 at ha
  refine A0.body 38 Try.func42 rfl rfl Try.ntmps42 fun base n0 => ?_
  refine AW.seq' ?_
  refine AW.region ?_
  refine AO.c ?_
  refine AO.c ?_
  refine AO.nil ?_
  refine SQ.normal ?_
  refine AW.seq' ?_
  refine AW.seq' ?_
  refine AW.region ?_
  refine AO.c ?_
  refine AO.c ?_
  refine AO.c ?_
  refine AO.gx ?_
  refine AO.gx ?_
  refine AO.gx ?_
  refine AO.gx ?_
  refine AO.c ?_
  refine AO.nil ?_
  refine SQ.normal ?_
  refine AW.iteB (GL.ev _) (fun h0 => ?_) (fun h0 => ?_)
  · skip
    simp only [Bool.or_eq_true, decide_eq_true_eq] at h0
    have hres : atF b a = none := by unfold atF; rw [if_neg (by omega)]
    refine AW.seq' ?_
    refine AW.region ?_
    refine AO.c ?_
    refine AO.c ?_
    refine AO.nil ?_
    refine SQ.normal ?_
    refine AW.ret ?_
    refine SQ.ret ?_
    refine Fin.ret (Gh.refl) noid2 ?_
    rw [hres]; rfl
  · skip
    simp only [Bool.or_eq_false_iff, decide_eq_false_iff_not] at h0
    refine AW.skip ?_
    refine SQ.normal ?_
    refine AW.seq' ?_
    refine AW.seq' ?_
    refine AW.region ?_
    refine AO.c ?_
    refine AO.c ?_
    refine AO.nil ?_
    refine SQ.normal ?_
    refine AW.block' ?_
    refine AW.loopU [.k, .k, .f, .f, .f, .f, .k, .F, .F, .F, .f, .f, .f, .f, .f, .f, .f] (fun (i : Int) => [(6, .v (.int .i64 (i)))]) (fun i => Hn n0 []) (fun m i => a ≤ i ∧ i ≤ b.length ∧ m = (b.length - i).toNat ∧ ∀ j, a.toNat ≤ j → j < i.toNat → b.getD j 0 ≠ 0) ((b.length - a).toNat) (a) ⟨by omega, by omega, rfl, fun j h h2 => by omega⟩ (by first | rfl | (simp; done)) (by first | rfl | (simp; done)) ?_
    rintro m0 i ⟨hx1, hx2, hx3, hx4⟩
    refine AW.seq' ?_
    refine AW.seq' ?_
    refine AW.region ?_
    refine AO.c ?_
    refine AO.c ?_
    refine AO.c ?_
    refine AO.c ?_
    refine AO.c ?_
    refine AO.gx ?_
    refine AO.gx ?_
    refine AO.gxoo ?_
    refine AO.gx ?_
    refine AO.c ?_
    refine AO.nil ?_
    refine SQ.normal ?_
    refine AW.iteB (GL.ev _) (fun h1 => ?_) (fun h1 => ?_)
    · skip
      simp only [Bool.and_eq_true, decide_eq_true_eq] at h1
      refine AW.skip ?_
      refine SQ.normal ?_
      refine AW.seq' ?_
      refine AW.block' ?_
      refine AW.seq' ?_
      refine AW.region ?_
      refine AO.c ?_
      refine AO.c ?_
      refine AO.oo ?_
      refine AO.c ?_
      refine AO.c ?_
      refine AO.nil ?_
      refine SQ.normal ?_
      refine AW.iteB (GL.ev _) (fun h2 => ?_) (fun h2 => ?_)
      · skip
        rw [decide_eq_true_eq] at h2
        have hf := atF_at (b := b) (a := a) (i := i.toNat) (by omega) (by omega) (by omega) hx4 h2
        have hres : atF b a = some (strOfNums ((b.take i.toNat).drop a.toNat)) := by
          unfold atF
          rw [if_pos (by omega), hf, if_neg (by omega)]
          congr 4
          omega
        refine AW.seq' ?_
        refine AW.region ?_
        refine AO.c ?_
        refine AO.c ?_
        refine AO.c ?_
        refine AO.oo ?_
        refine AO.c ?_
        refine AO.c ?_
        refine AO.c ?_
        refine AO.nil ?_
        refine SQ.normal ?_
        refine AW.ret ?_
        refine BQ.ret <| SQ.ret <| AW.out <| LU.ret <| BQ.ret <| SQ.ret ?_
        refine Fin.ret (Gh.refl) noid2 ?_
        rw [hres]; rfl
      · skip
        rw [decide_eq_false_iff_not] at h2
        refine AW.skip ?_
        refine BQ.normal ?_
        refine SQ.normal ?_
        refine AW.region ?_
        refine AO.c ?_
        refine AO.oo ?_
        refine AO.c ?_
        refine AO.nil ?_
        exact AW.backU [.k, .k, .f, .f, .f, .f, .k, .F, .F, .F, .f, .f, .f, .f, .f, .f, .f] (m0 - 1) (i + 1) (by omega) (by (try dsimp only); exact ⟨by omega, by omega, by omega, fun j hj hj2 => (Nat.lt_or_eq_of_le (show j ≤ i.toNat by omega)).elim (hx4 j hj) (fun h => by rw [h]; omega)⟩) (by first | rfl | (simp; done)) (by first | rfl | (simp; done))
    · skip
      simp only [Bool.and_eq_false_iff, decide_eq_false_iff_not] at h1
      have hres : atF b a = none := by
        unfold atF
        rw [if_pos (by omega), if_pos]
        rcases h1 with h1 | h1
        · left
          rw [firstB_none]
          · decide
          · intro j hj
            rw [List.length_drop] at hj
            rw [drop_get]; exact hx4 _ (by omega) (by omega)
        · have := firstB_gt (l := b.drop a.toNat) (m := 33) fun j hj => by rw [drop_get]; exact hx4 _ (by omega) (by omega)
          omega
      refine AW.exit ?_
      refine SQ.exit <| AW.out <| LU.exit <| BQ.exit ?_
      refine SQ.normal ?_
      refine AW.seq' ?_
      refine AW.region ?_
      refine AO.c ?_
      refine AO.c ?_
      refine AO.nil ?_
      refine SQ.normal ?_
      refine AW.ret ?_
      refine Fin.ret (Gh.refl) noid2 ?_
      rw [hres]; rfl
set_option maxHeartbeats 1000000 in
theorem strtab_Make (l : List ByteArray) (hl : l.length ≤ 1000000) (hsz : ∀ s ∈ l, s.size ≤ 1000000) : A0 Try.prog 46 [.rd 1 (l.map sA)] (fun ret => ret = .tup [.rd 1 (bys (tabOf l).1), .rd 1 ((tabOf l).2.1.map iA)]) := by
  refine A0.body 49 Try.func46 rfl rfl Try.ntmps46 fun base n0 => ?_
  refine AW.seq' ?_
  refine AW.region ?_
  refine AO.c ?_
  refine AO.c ?_
  refine AO.nil ?_
  refine SQ.normal ?_
  refine AW.seq' ?_
  refine AW.region ?_
  refine AO.ww ?_
  refine AO.c ?_
  refine AO.nil ?_
  refine SQ.normal ?_
  refine AW.seq' ?_
  refine AW.region ?_
  refine AO.ww ?_
  refine AO.c ?_
  refine AO.nil ?_
  refine SQ.normal ?_
  refine AW.seq' ?_
  refine AW.region ?_
  refine AO.ww ?_
  refine AO.c ?_
  refine AO.nil ?_
  refine SQ.normal ?_
  refine AW.seq' ?_
  refine AW.seq' ?_
  refine AW.region ?_
  refine AO.c ?_
  refine AO.c ?_
  refine AO.c ?_
  refine AO.nil ?_
  refine SQ.normal ?_
  refine AW.block' ?_
  refine AW.loopU3 [.f, .f, .f, .f, .k, .k, .k, .F, .k, .k, .k, .F, .F, .F, .f, .f, .f, .f, .f, .f, .f] (fun (i ep : Nat) (st : TabS) => [(4, .own (n0 + 0) ep 0 st.1.length), (5, .own (n0 + 1) i 0 st.2.1.length), (17, .v (.int .i64 (i)))]) (fun i ep st => Hn n0 [some (.row 5 1 (ep) (bys st.1)), some (.row 3 1 (i) (st.2.1.map iA)), some (.map (st.2.2.map (mE kS vI)))]) (fun m i ep st => i ≤ l.length ∧ m = l.length - i ∧ st = tabOf (l.take i)) (l.length) (0) (0) (([0], [], [])) ⟨by omega, rfl, by simp [tabOf]⟩ (by first | rfl | (simp; done)) (by first | rfl | (simp; done)) ?_
  rintro m0 i ep st ⟨hx1, hx2, hx3⟩
  have hlen : st.1.length ≤ 1 + 1000001 * i := by
    have := tabOf_len (takeI hsz i)
    rw [← hx3, List.length_take] at this
    omega
  have hpl : st.2.1.length = i := by
    have := tabOf_pl (l.take i)
    rw [← hx3, List.length_take] at this
    omega
  have hsi := szI hsz i
  refine AW.seq' ?_
  refine AW.region ?_
  refine AO.c ?_
  refine AO.nil ?_
  refine SQ.normal ?_
  refine AW.seq' ?_
  refine AW.iteB (GL.ev _) (fun h0 => ?_) (fun h0 => ?_)
  · skip
    rw [decide_eq_true_eq] at h0
    have hi : i < l.length := by omega
    refine AW.skip ?_
    refine SQ.normal ?_
    refine AW.seq' ?_
    refine AW.block' ?_
    refine AW.seq' ?_
    refine AW.region ?_
    refine AO.oo ?_
    refine AO.c ?_
    refine AO.c ?_
    refine AO.nil ?_
    refine SQ.normal ?_
    refine AW.seq' ?_
    refine AW.region ?_
    refine AO.c ?_
    refine AO.nil ?_
    refine SQ.normal ?_
    refine AW.seq' ?_
    refine AW.seq' ?_
    refine AW.region ?_
    refine AO.c ?_
    refine AO.c ?_
    refine AO.nil ?_
    refine SQ.normal ?_
    refine AW.iteB (GL.ev _) (fun h1 => ?_) (fun h1 => ?_)
    · skip
      rw [decide_eq_true_eq, Ne, ba_eq] at h1
      have hne : l.getD i default ≠ noS := h1
      refine AW.seq' ?_
      refine AW.region ?_
      refine AO.c ?_
      refine AO.c ?_
      refine AO.c ?_
      refine AO.c ?_
      refine AO.c ?_
      refine AO.c ?_
      refine AO.c ?_
      refine AO.c ?_
      refine AO.nil ?_
      refine SQ.normal ?_
      refine AW.seq' ?_
      refine AW.region ?_
      refine AO.c ?_
      refine AO.c ?_
      refine AO.nil ?_
      refine SQ.normal ?_
      refine AW.seq' ?_
      refine AW.region ?_
      refine AO.c ?_
      refine AO.c ?_
      refine AO.nil ?_
      refine SQ.normal ?_
      refine AW.iteB (GL.ev _) (fun h2 => ?_) (fun h2 => ?_)
      · skip
        rw [Bool.not_eq_true', Option.isSome_eq_false_iff, Option.isNone_iff_eq_none] at h2
        have hag := h2
        refine AW.seq' ?_
        refine AW.region ?_
        refine AO.c ?_
        refine AO.c ?_
        refine AO.c ?_
        refine AO.nil ?_
        refine SQ.normal ?_
        refine AW.seq' ?_
        refine AW.region ?_
        refine AO.c ?_
        refine AO.c ?_
        refine AO.c ?_
        refine AO.sst ?_
        refine AO.nil ?_
        refine SQ.normal ?_
        refine AW.region ?_
        refine AO.c ?_
        refine AO.c ?_
        refine AO.w ⟨rfl, by omega⟩ ?_
        refine AO.rr ?_
        refine AO.w ⟨by rw [List.length_append, strB_len], by show _ + 1 ≤ _; omega⟩ ?_
        refine AO.c ?_
        refine AO.nil ?_
        refine SQ.normal ?_
        refine AW.region ?_
        refine AO.c ?_
        refine AO.c ?_
        refine AO.rr ?_
        refine AO.ww ?_
        refine AO.c ?_
        refine AO.nil ?_
        refine BQ.normal ?_
        refine SQ.normal ?_
        refine AW.region ?_
        refine AO.oo ?_
        refine AO.c ?_
        refine AO.nil ?_
        exact AW.backU [.f, .f, .f, .f, .k, .k, .k, .F, .k, .k, .k, .F, .F, .F, .f, .f, .f, .f, .f, .f, .f] (m0 - 1) (i + 1, ep + 2, (st.1 ++ strB (l.getD i default) ++ [0], st.2.1 ++ [(st.1.length : Int)], aput st.2.2 (l.getD i default) (st.1.length : Int))) (by omega) (by (try dsimp only); exact ⟨by omega, by omega, by rw [tabOf_succ hi, ← hx3, step_new hne hag]⟩) (by simp [strB_len, Nat.add_assoc]) (by first | rfl | (simp; done))
      · skip
        rw [Bool.not_eq_false'] at h2
        obtain ⟨pa, hag⟩ := Option.isSome_iff_exists.1 h2
        refine AW.skip ?_
        refine SQ.normal ?_
        refine AW.region ?_
        refine AO.c ?_
        refine AO.c ?_
        refine AO.rr ?_
        refine AO.ww ?_
        refine AO.c ?_
        refine AO.nil ?_
        refine BQ.normal ?_
        refine SQ.normal ?_
        refine AW.region ?_
        refine AO.oo ?_
        refine AO.c ?_
        refine AO.nil ?_
        exact AW.backU [.f, .f, .f, .f, .k, .k, .k, .F, .k, .k, .k, .F, .F, .F, .f, .f, .f, .f, .f, .f, .f] (m0 - 1) (i + 1, ep, (st.1, st.2.1 ++ [(aget st.2.2 (l.getD i default)).getD 0], st.2.2)) (by omega) (by (try dsimp only); exact ⟨by omega, by omega, by rw [tabOf_succ hi, ← hx3, step_old hne hag, hag]; rfl⟩) (by simp) (by first | rfl | (simp; done))
    · skip
      rw [decide_eq_false_iff_not, Ne, Decidable.not_not, ba_eq] at h1
      have hne : l.getD i default = noS := h1
      refine AW.skip ?_
      refine SQ.normal ?_
      refine AW.region ?_
      refine AO.c ?_
      refine AO.c ?_
      refine AO.rr ?_
      refine AO.ww ?_
      refine AO.c ?_
      refine AO.nil ?_
      refine BQ.normal ?_
      refine SQ.normal ?_
      refine AW.region ?_
      refine AO.oo ?_
      refine AO.c ?_
      refine AO.nil ?_
      exact AW.backU [.f, .f, .f, .f, .k, .k, .k, .F, .k, .k, .k, .F, .F, .F, .f, .f, .f, .f, .f, .f, .f] (m0 - 1) (i + 1, ep, (st.1, st.2.1 ++ [0], st.2.2)) (by omega) (by (try dsimp only); exact ⟨by omega, by omega, by rw [tabOf_succ hi, ← hx3, step_no hne]⟩) (by simp) (by first | rfl | (simp; done))
  · skip
    rw [decide_eq_false_iff_not] at h0
    refine AW.exit ?_
    refine SQ.exit <| AW.out <| LU.exit <| BQ.exit ?_
    refine SQ.normal ?_
    refine AW.seq' ?_
    refine AW.region ?_
    refine AO.c ?_
    refine AO.c ?_
    refine AO.c ?_
    refine AO.c ?_
    refine AO.nil ?_
    refine SQ.normal ?_
    refine AW.ret ?_
    have hfin : st = tabOf l := by rw [hx3, List.take_of_length_le (by omega)]
    refine Fin.ret ((Gh.freezeE 2 (li' := st.1) rfl rfl (by omega)).trans (Gh.freezeM 3 iA st.2.1 rfl rfl (by omega))) noid2 ?_
    rw [← hfin]; rfl
set_option maxHeartbeats 1000000 in
theorem ref_Make (l : List ByteArray) (hl : l.length ≤ 1000000) (hsz : ∀ s ∈ l, s.size ≤ 1000000) : A0 Try.prog 47 [.rd 1 (l.map sA)] (fun ret => ret = .tup [.rd 1 (bys (tabOf l).1), .rd 1 ((tabOf l).2.1.map iA)]) := by
  refine A0.body 62 Try.func47 rfl rfl Try.ntmps47 fun base n0 => ?_
  refine AW.seq' ?_
  refine AW.region ?_
  refine AO.c ?_
  refine AO.c ?_
  refine AO.nil ?_
  refine SQ.normal ?_
  refine AW.seq' ?_
  refine AW.region ?_
  refine AO.ww ?_
  refine AO.c ?_
  refine AO.nil ?_
  refine SQ.normal ?_
  refine AW.seq' ?_
  refine AW.region ?_
  refine AO.c ?_
  refine AO.nil ?_
  refine SQ.normal ?_
  refine AW.seq' ?_
  refine AW.seq' ?_
  refine AW.region ?_
  refine AO.c ?_
  refine AO.nil ?_
  refine SQ.normal ?_
  refine AW.block' ?_
  refine AW.ghost (Gh.adoptM 5 3 1) ?_
  refine AW.loopU3 [.k, .f, .f, .f, .k, .k, .k, .F, .F, .F, .F, .F, .F, .f, .f, .f, .f, .f, .f, .f] (fun (i ep : Nat) (st : TabS) => [(4, .own (n0 + 0) ep 0 st.1.length), (5, .own (n0 + 1) i 0 st.2.1.length), (6, .v (.int .i64 (i)))]) (fun i ep st => Hn n0 [some (.row 5 1 ep (bys st.1)), some (.row 3 1 i (st.2.1.map iA))]) (fun m i ep st => i ≤ l.length ∧ m = l.length - i ∧ st = tabOf (l.take i)) (l.length) (0) (0) (([0], [], [])) ⟨by omega, rfl, by simp [tabOf]⟩ (by first | rfl | (simp; done)) (by first | rfl | (simp; done)) ?_
  rintro m0 i ep st ⟨hx1, hx2, hx3⟩
  have hlen : st.1.length ≤ 1 + 1000001 * i := by
    have := tabOf_len (takeI hsz i)
    rw [← hx3, List.length_take] at this
    omega
  have hpl : st.2.1.length = i := by
    have := tabOf_pl (l.take i)
    rw [← hx3, List.length_take] at this
    omega
  have hsi := szI hsz i
  have hinv := tab_inv (l.take i)
  rw [← hx3] at hinv
  have htl : ∀ hi : i ≤ l.length, (l.take i).length = i := fun hi => by rw [List.length_take]; omega
  refine AW.seq' ?_
  refine AW.seq' ?_
  refine AW.region ?_
  refine AO.c ?_
  refine AO.c ?_
  refine AO.c ?_
  refine AO.c ?_
  refine AO.nil ?_
  refine SQ.normal ?_
  refine AW.iteB (GL.ev _) (fun h0 => ?_) (fun h0 => ?_)
  · skip
    rw [decide_eq_true_eq] at h0
    have hi : i < l.length := by omega
    refine AW.skip ?_
    refine SQ.normal ?_
    refine AW.seq' ?_
    refine AW.block' ?_
    refine AW.seq' ?_
    refine AW.region ?_
    refine AO.c ?_
    refine AO.nil ?_
    refine SQ.normal ?_
    refine AW.joinM [.k, .f, .f, .f, .k, .k, .k, .k, .F, .F, .F, .F, .F, .F, .f, .f, .f, .f, .f, .f] (fun (a0 : Int) => [(7, .v (.int .i64 (a0)))]) (fun (a0 : Int) => Hn n0 [some (.row 5 1 ep (bys st.1)), some (.row 3 1 i (st.2.1.map iA))]) (fun (a0 : Int) => (a0 = -1 ∧ l.getD i default ≠ noS ∧ ∀ j, j < 0 → l.getD j default ≠ l.getD i default) ∨ (0 ≤ a0 ∧ tabStep st (l.getD i default) = (st.1, st.2.1 ++ [a0], st.2.2))) ?_ (fun (a0 : Int) ha0 => ?_)
    · skip
      refine AW.seq' ?_
      refine AW.region ?_
      refine AO.c ?_
      refine AO.c ?_
      refine AO.oo ?_
      refine AO.c ?_
      refine AO.c ?_
      refine AO.nil ?_
      refine SQ.normal ?_
      refine AW.iteB (GL.ev _) (fun h1 => ?_) (fun h1 => ?_)
      · skip
        rw [decide_eq_true_eq, ba_eq] at h1
        refine AW.region ?_
        refine AO.c ?_
        refine AO.nil ?_
        exact AW.backJ [.k, .f, .f, .f, .k, .k, .k, .k, .F, .F, .F, .F, .F, .F, .f, .f, .f, .f, .f, .f] (0) (.inr ⟨by decide, step_no h1⟩) (by first | rfl | (simp; done)) (by first | rfl | (simp; done))
      · skip
        rw [decide_eq_false_iff_not, ba_eq] at h1
        refine AW.skip ?_
        exact AW.backJ [.k, .f, .f, .f, .k, .k, .k, .k, .F, .F, .F, .F, .F, .F, .f, .f, .f, .f, .f, .f] (-1) (.inl ⟨rfl, h1, fun j h => by omega⟩) (by first | rfl | (simp; done)) (by first | rfl | (simp; done))
    refine AW.seq' ?_
    refine AW.seq' ?_
    refine AW.region ?_
    refine AO.c ?_
    refine AO.nil ?_
    refine SQ.normal ?_
    refine AW.block' ?_
    refine AW.loopU2 [.k, .f, .f, .f, .k, .k, .k, .k, .k, .F, .F, .F, .F, .F, .F, .f, .f, .f, .f, .f] (fun (k : Nat) (at_ : Int) => [(7, .v (.int .i64 (at_))), (8, .v (.int .i64 (k)))]) (fun k at_ => Hn n0 [some (.row 5 1 ep (bys st.1)), some (.row 3 1 i (st.2.1.map iA))]) (fun m k at_ => k ≤ i ∧ m = i - k ∧ ((at_ = -1 ∧ l.getD i default ≠ noS ∧ ∀ j, j < k → l.getD j default ≠ l.getD i default) ∨ (0 ≤ at_ ∧ tabStep st (l.getD i default) = (st.1, st.2.1 ++ [at_], st.2.2)))) (i) (0) (a0) ⟨by omega, rfl, ha0⟩ (by first | rfl | (simp; done)) (by first | rfl | (simp; done)) ?_
    rintro m1 k at_ ⟨hy1, hy2, hy3⟩
    refine AW.seq' ?_
    refine AW.seq' ?_
    refine AW.region ?_
    refine AO.c ?_
    refine AO.c ?_
    refine AO.c ?_
    refine AO.c ?_
    refine AO.gx ?_
    refine AO.gx ?_
    refine AO.c ?_
    refine AO.nil ?_
    refine SQ.normal ?_
    refine AW.iteB (GL.ev _) (fun h2 => ?_) (fun h2 => ?_)
    · skip
      simp only [Bool.and_eq_true, decide_eq_true_eq] at h2
      have hk : k < i := by omega
      have hno := hy3.resolve_right (fun h => by omega)
      refine AW.skip ?_
      refine SQ.normal ?_
      refine AW.seq' ?_
      refine AW.block' ?_
      refine AW.seq' ?_
      refine AW.drawsZ [] (.one 0 false (.one 1 false (.one 2 false (.one 3 false (.one 4 false (.one 5 false (.one 6 false (.one 7 false (.one 8 false .nil))))))))) (by kernel_rfl) rfl (by kernel_rfl) ?_
      refine AZ.c rfl ?_
      refine AZ.c rfl ?_
      refine AZ.oo rfl ?_
      refine AZ.c rfl ?_
      refine AZ.c rfl ?_
      refine AZ.c rfl ?_
      refine AZ.oo rfl ?_
      refine AZ.c rfl ?_
      refine AZ.c rfl ?_
      refine AZ.done ?_
      refine SQ.normal ?_
      refine AW.iteB (GL.ev _) (fun h3 => ?_) (fun h3 => ?_)
      · skip
        rw [decide_eq_true_eq, ba_eq] at h3
        have hgk : (l.take i).getD k default = l.getD i default := by rw [take_getD hk]; exact h3
        have hat : 0 ≤ st.2.1.getD k 0 ∧ tabStep st (l.getD i default) = (st.1, st.2.1 ++ [st.2.1.getD k 0], st.2.2) := by
          refine ⟨(hinv.at_ k (by rw [htl hx1]; exact hk)).1, step_old hno.2.1 ?_⟩
          have := hinv.get k (by rw [htl hx1]; exact hk) (by rw [hgk]; exact hno.2.1)
          rw [hgk] at this; exact this
        refine AW.region ?_
        refine AO.c ?_
        refine AO.c ?_
        refine AO.oo ?_
        refine AO.o (by omega) ?_
        refine AO.c ?_
        refine AO.nil ?_
        refine BQ.normal ?_
        refine SQ.normal ?_
        refine AW.region ?_
        refine AO.c ?_
        refine AO.oo ?_
        refine AO.c ?_
        refine AO.nil ?_
        exact AW.backU [.k, .f, .f, .f, .k, .k, .k, .k, .k, .F, .F, .F, .F, .F, .F, .f, .f, .f, .f, .f] (m1 - 1) (k + 1, st.2.1.getD k 0) (by omega) (by (try dsimp only); exact ⟨by omega, by omega, .inr ⟨hat.1, hat.2⟩⟩) (by rw [Nat.zero_add, Int.toNat_natCast]; rfl) (by first | rfl | (simp; done))
      · skip
        rw [decide_eq_false_iff_not, ba_eq] at h3
        refine AW.skip ?_
        refine BQ.normal ?_
        refine SQ.normal ?_
        refine AW.region ?_
        refine AO.c ?_
        refine AO.oo ?_
        refine AO.c ?_
        refine AO.nil ?_
        exact AW.backU [.k, .f, .f, .f, .k, .k, .k, .k, .k, .F, .F, .F, .F, .F, .F, .f, .f, .f, .f, .f] (m1 - 1) (k + 1, at_) (by omega) (by (try dsimp only); exact ⟨by omega, by omega, .inl ⟨hno.1, hno.2.1, fun j hj => (Nat.lt_or_eq_of_le (Nat.le_of_lt_succ hj)).elim (hno.2.2 j) (fun h => by rw [h]; exact h3)⟩⟩) (by first | rfl | (simp; done)) (by first | rfl | (simp; done))
    · skip
      simp only [Bool.and_eq_false_iff, decide_eq_false_iff_not] at h2
      refine AW.exit ?_
      refine SQ.exit <| AW.out <| LU.exit <| BQ.exit ?_
      refine SQ.normal ?_
      refine AW.seq' ?_
      refine AW.seq' ?_
      refine AW.region ?_
      refine AO.c ?_
      refine AO.c ?_
      refine AO.nil ?_
      refine SQ.normal ?_
      refine AW.iteB (GL.ev _) (fun h4 => ?_) (fun h4 => ?_)
      · skip
        rw [decide_eq_true_eq] at h4
        have hno := hy3.resolve_right (fun h => by omega)
        have hne := hno.2.1
        have hag : aget st.2.2 (l.getD i default) = none := by
          cases hc : aget st.2.2 (l.getD i default) with
          | none => rfl
          | some a =>
            obtain ⟨_, _, j, g1, g2⟩ := hinv.old _ _ hc
            rw [htl hx1] at g1
            rw [take_getD g1] at g2
            exact absurd g2 (hno.2.2 j (by omega))
        refine AW.seq' ?_
        refine AW.region ?_
        refine AO.c ?_
        refine AO.c ?_
        refine AO.c ?_
        refine AO.nil ?_
        refine SQ.normal ?_
        refine AW.seq' ?_
        refine AW.region ?_
        refine AO.c ?_
        refine AO.c ?_
        refine AO.c ?_
        refine AO.oo ?_
        refine AO.c ?_
        refine AO.w ⟨rfl, by omega⟩ ?_
        refine AO.c ?_
        refine AO.nil ?_
        refine SQ.normal ?_
        refine AW.region ?_
        refine AO.c ?_
        refine AO.rr ?_
        refine AO.w ⟨by rw [List.length_append, strB_len], by show _ + 1 ≤ _; omega⟩ ?_
        refine AO.c ?_
        refine AO.nil ?_
        refine SQ.normal ?_
        refine AW.region ?_
        refine AO.c ?_
        refine AO.c ?_
        refine AO.rr ?_
        refine AO.ww ?_
        refine AO.c ?_
        refine AO.nil ?_
        refine BQ.normal ?_
        refine SQ.normal ?_
        refine AW.region ?_
        refine AO.c ?_
        refine AO.oo ?_
        refine AO.c ?_
        refine AO.nil ?_
        exact AW.backU [.k, .f, .f, .f, .k, .k, .k, .F, .F, .F, .F, .F, .F, .f, .f, .f, .f, .f, .f, .f] (m0 - 1) (i + 1, ep + 2, (st.1 ++ strB (l.getD i default) ++ [0], st.2.1 ++ [(st.1.length : Int)], aput st.2.2 (l.getD i default) (st.1.length : Int))) (by omega) (by (try dsimp only); exact ⟨by omega, by omega, by rw [tabOf_succ hi, ← hx3, step_new hne hag]⟩) (by simp [strB_len, Nat.add_assoc]) (by first | rfl | (simp; done))
      · skip
        rw [decide_eq_false_iff_not] at h4
        have hstep := (hy3.resolve_left (fun h => by omega)).2
        refine AW.skip ?_
        refine SQ.normal ?_
        refine AW.region ?_
        refine AO.c ?_
        refine AO.c ?_
        refine AO.rr ?_
        refine AO.ww ?_
        refine AO.c ?_
        refine AO.nil ?_
        refine BQ.normal ?_
        refine SQ.normal ?_
        refine AW.region ?_
        refine AO.c ?_
        refine AO.oo ?_
        refine AO.c ?_
        refine AO.nil ?_
        exact AW.backU [.k, .f, .f, .f, .k, .k, .k, .F, .F, .F, .F, .F, .F, .f, .f, .f, .f, .f, .f, .f] (m0 - 1) (i + 1, ep, (st.1, st.2.1 ++ [at_], st.2.2)) (by omega) (by (try dsimp only); exact ⟨by omega, by omega, by rw [tabOf_succ hi, ← hx3]; exact hstep.symm⟩) (by simp) (by first | rfl | (simp; done))
  · skip
    rw [decide_eq_false_iff_not] at h0
    refine AW.exit ?_
    refine SQ.exit <| AW.out <| LU.exit <| BQ.exit ?_
    refine SQ.normal ?_
    refine AW.seq' ?_
    refine AW.region ?_
    refine AO.c ?_
    refine AO.c ?_
    refine AO.c ?_
    refine AO.c ?_
    refine AO.nil ?_
    refine SQ.normal ?_
    refine AW.ret ?_
    have hfin : st = tabOf l := by rw [hx3, List.take_of_length_le (by omega)]
    refine Fin.ret ((Gh.freezeE 2 (li' := st.1) rfl rfl (by omega)).trans (Gh.freezeM 3 iA st.2.1 rfl rfl (by omega))) noid2 ?_
    rw [← hfin]; rfl

end Go.Proofs.Ytbaibjhkmajplaa.AL
