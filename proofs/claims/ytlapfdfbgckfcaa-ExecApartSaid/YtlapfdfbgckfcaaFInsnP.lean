/- What functions of the program compute, each by its own contract; the conditions stand with each. -/
import Derived.Test.YtlapfdfbgckfcaaFLe2
import Derived.Test.YtlapfdfbgckfcaaAlP
namespace Go.Proofs.Ytlapfdfbgckfcaa.AL
open Go Go.RowKit Go.Proofs.Ytlapfdfbgckfcaa.Base
set_option linter.unusedVariables false
set_option linter.unusedSimpArgs false
set_option maxRecDepth 4000
set_option synthInstance.maxSize 1000
set_option synthInstance.maxHeartbeats 200000
set_option linter.unusedVariables false
set_option linter.unusedSimpArgs false
structure InsD where
  op : Int
  r : Int
  m : Int
  len : Int
  field : Int
  width : Int
  imm : Int
  deriving Inhabited, DecidableEq
@[reducible] def insA (x : InsD) : List AV := [.v (.int .i64 x.op), .v (.int .i64 x.r), .v (.int .i64 x.m), .v (.int .i64 x.len), .v (.int .i64 x.field), .v (.int .i64 x.width), .v (.int .i64 x.imm)]
def InsD.ok (x : InsD) : Prop := I64 x.op ∧ I64 x.r ∧ I64 x.m ∧ I64 x.len ∧ I64 x.field ∧ I64 x.width ∧ I64 x.imm
@[reducible] def noIns : InsD := ⟨0, 0, 0, 0, 0, 0, 0⟩
structure FormD where
  op : Int
  head : List Int
  low : Int
  r : Bool
  m : Bool
  width : Int
  deriving Inhabited, DecidableEq
def formsL : List FormD := [⟨1, [72, 199], 192, false, true, 4⟩, ⟨2, [72], 184, false, true, 8⟩, ⟨3, [72, 141], 5, true, false, 4⟩, ⟨4, [72, 139], 128, true, true, 4⟩, ⟨5, [72, 137], 128, true, true, 4⟩,
  ⟨6, [72, 15, 182], 128, true, true, 4⟩, ⟨7, [72, 136], 128, true, true, 4⟩, ⟨8, [72, 137], 192, true, true, 0⟩, ⟨9, [72, 1], 192, true, true, 0⟩, ⟨10, [72, 41], 192, true, true, 0⟩,
  ⟨11, [72, 129], 192, false, true, 4⟩, ⟨12, [72, 57], 192, true, true, 0⟩, ⟨13, [233], -1, false, false, 4⟩, ⟨14, [15, 132], -1, false, false, 4⟩, ⟨15, [15, 133], -1, false, false, 4⟩,
  ⟨16, [15, 130], -1, false, false, 4⟩, ⟨17, [232], -1, false, false, 4⟩, ⟨18, [255], 208, false, true, 0⟩, ⟨19, [195], -1, false, false, 0⟩, ⟨20, [15, 5], -1, false, false, 0⟩]
def regsF (f : FormD) (x : Int) : Option (Int × Int) :=
  if x - f.low < 0 ∨ x - f.low > 63 ∨ (f.r = false ∧ (x - f.low) / 8 ≠ 0) ∨ (f.m = false ∧ (x - f.low) % 8 ≠ 0) then none
  else if (f.low = 5 ∧ x % 8 ≠ 5) ∨ (4 ≤ f.op ∧ f.op ≤ 7 ∧ (x - f.low) % 8 = 4) then none
  else some ((x - f.low) / 8, (x - f.low) % 8)
/-- The number of a field, with its sign. -/
def sgnF (v w : Int) : Int := if w = 4 ∧ v ≥ 2147483648 then v - 4294967296 else wrap64 v
def fldF (x : InsD) (b : List Int) (w : Int) : Option InsD :=
  if (b.length : Int) < x.len + w then none else if w = 0 then some x
  else some ⟨x.op, x.r, x.m, x.len + w, x.len, w, sgnF (numAt b x.len w) w⟩
def oneF (f : FormD) (b : List Int) : Option InsD :=
  if b.take f.head.length = f.head then
    if 0 ≤ f.low then
      if b.length = f.head.length then none
      else match regsF f (b.getD f.head.length 0) with
        | none => none
        | some (r, m) => fldF ⟨f.op, r, m, f.head.length + 1, 0, 0, 0⟩ b f.width
    else fldF ⟨f.op, 0, 0, f.head.length, 0, 0, 0⟩ b f.width
  else none
def decP (b : List Int) : Option InsD := formsL.findSome? (oneF · b)
def opOf (x : Int) : Int := if x = 137 then 8 else if x = 1 then 9 else if x = 41 then 10 else if x = 57 then 12 else 0
def longR (b : List Int) : Option InsD :=
  if 2 ≤ b.length ∧ 184 ≤ b.getD 1 0 ∧ b.getD 1 0 ≤ 191 then fldF ⟨2, 0, b.getD 1 0 - 184, 2, 0, 0, 0⟩ b 8
  else if 2 ≤ b.length ∧ b.getD 1 0 = 15 then
    if b.length ≤ 3 then none
    else if b.getD 2 0 = 182 ∧ b.getD 3 0 / 64 = 2 ∧ b.getD 3 0 % 8 ≠ 4 then fldF ⟨6, b.getD 3 0 / 8 % 8, b.getD 3 0 % 8, 4, 0, 0, 0⟩ b 4 else none
  else if b.length ≤ 2 then none
  else if b.getD 1 0 = 141 ∧ b.getD 2 0 / 64 = 0 ∧ b.getD 2 0 % 8 = 5 then fldF ⟨3, b.getD 2 0 / 8 % 8, 0, 3, 0, 0, 0⟩ b 4
  else if b.getD 2 0 / 64 = 2 ∧ b.getD 2 0 % 8 ≠ 4 ∧ (b.getD 1 0 = 139 ∨ b.getD 1 0 = 137 ∨ b.getD 1 0 = 136) then fldF ⟨if b.getD 1 0 = 136 then 7 else if b.getD 1 0 = 137 then 5 else 4, b.getD 2 0 / 8 % 8, b.getD 2 0 % 8, 3, 0, 0, 0⟩ b 4
  else if b.getD 2 0 / 64 ≠ 3 then none
  else if (b.getD 1 0 = 199 ∨ b.getD 1 0 = 129) ∧ b.getD 2 0 / 8 % 8 = 0 then fldF ⟨if b.getD 1 0 = 129 then 11 else 1, b.getD 2 0 / 8 % 8, b.getD 2 0 % 8, 3, 0, 0, 0⟩ b 4
  else if opOf (b.getD 1 0) ≠ 0 then some ⟨opOf (b.getD 1 0), b.getD 2 0 / 8 % 8, b.getD 2 0 % 8, 3, 0, 0, 0⟩
  else none
def decR (b : List Int) : Option InsD :=
  if b.length = 0 then none
  else if b.getD 0 0 = 72 then longR b
  else if b.getD 0 0 = 233 then fldF ⟨13, 0, 0, 1, 0, 0, 0⟩ b 4
  else if b.getD 0 0 = 232 then fldF ⟨17, 0, 0, 1, 0, 0, 0⟩ b 4
  else if b.getD 0 0 = 195 then some ⟨19, 0, 0, 1, 0, 0, 0⟩
  else if b.getD 0 0 = 255 then (if 1 < b.length ∧ 208 ≤ b.getD 1 0 ∧ b.getD 1 0 ≤ 215 then some ⟨18, 0, b.getD 1 0 - 208, 2, 0, 0, 0⟩ else none)
  else if b.getD 0 0 = 15 then
    if 1 < b.length ∧ b.getD 1 0 = 5 then some ⟨20, 0, 0, 2, 0, 0, 0⟩
    else if 1 < b.length ∧ b.getD 1 0 = 132 then fldF ⟨14, 0, 0, 2, 0, 0, 0⟩ b 4
    else if 1 < b.length ∧ b.getD 1 0 = 133 then fldF ⟨15, 0, 0, 2, 0, 0, 0⟩ b 4
    else if 1 < b.length ∧ b.getD 1 0 = 130 then fldF ⟨16, 0, 0, 2, 0, 0, 0⟩ b 4
    else none
  else none
/-- With which bytes a form begins. -/
theorem pre_get {h b : List Int} (e : b.take h.length = h) : h.length ≤ b.length ∧ ∀ i, i < h.length → b.getD i 0 = h.getD i 0 := by
  have hl : h.length ≤ b.length := by have := congrArg List.length e; rw [List.length_take] at this; omega
  refine ⟨hl, fun i hi => ?_⟩
  have h1 : (b.take h.length).getD i 0 = b.getD i 0 := by
    rw [List.getD_eq_getElem?_getD, List.getD_eq_getElem?_getD, List.getElem?_take, if_pos hi]
  rw [← h1, e]
theorem getD_b {b : List Int} (hB : Bytes b) (i : Nat) : 0 ≤ b.getD i 0 ∧ b.getD i 0 < 256 := by
  rcases Nat.lt_or_ge i b.length with h | h
  · have := hB b[i] (List.getElem_mem h); simpa [h] using this
  · simp [h]
theorem fld0 {x : InsD} {b : List Int} {w : Int} (hw : w = 0) (h : x.len ≤ b.length) : fldF x b w = some x := by
  unfold fldF; subst hw; rw [if_neg (by omega), if_pos rfl]
theorem fldF_len {x z : InsD} {b : List Int} {w : Int} (h : fldF x b w = some z) : x.len + w ≤ b.length ∧ z.len = x.len + w := by
  unfold fldF at h
  split at h
  · cases h
  · split at h
    · obtain rfl := Option.some.inj h; omega
    · obtain rfl := Option.some.inj h; exact ⟨by omega, rfl⟩
theorem one_cases {f : FormD} {b : List Int} {z : InsD} (h : oneF f b = some z) : b.take f.head.length = f.head ∧
    ((0 ≤ f.low ∧ f.head.length < b.length ∧ ¬ (b.getD f.head.length 0 - f.low < 0 ∨ b.getD f.head.length 0 - f.low > 63 ∨ (f.r = false ∧ (b.getD f.head.length 0 - f.low) / 8 ≠ 0) ∨ (f.m = false ∧ (b.getD f.head.length 0 - f.low) % 8 ≠ 0)) ∧ ¬ ((f.low = 5 ∧ b.getD f.head.length 0 % 8 ≠ 5) ∨ (4 ≤ f.op ∧ f.op ≤ 7 ∧ (b.getD f.head.length 0 - f.low) % 8 = 4)) ∧
      fldF ⟨f.op, (b.getD f.head.length 0 - f.low) / 8, (b.getD f.head.length 0 - f.low) % 8, f.head.length + 1, 0, 0, 0⟩ b f.width = some z) ∨
     (f.low < 0 ∧ fldF ⟨f.op, 0, 0, f.head.length, 0, 0, 0⟩ b f.width = some z)) := by
  unfold oneF at h
  split at h
  · rename_i hp
    refine ⟨hp, ?_⟩
    split at h
    · rename_i hl
      split at h
      · cases h
      · rename_i hne
        unfold regsF at h
        split at h
        · cases h
        · rename_i r m hr
          split at hr
          · cases hr
          · split at hr
            · cases hr
            · rename_i h1 h2
              obtain ⟨rfl, rfl⟩ := Prod.mk.inj (Option.some.inj hr)
              have := (pre_get hp).1
              exact .inl ⟨hl, by omega, h1, h2, h⟩
    · exact .inr ⟨by omega, h⟩
  · cases h
theorem fld_eq {x x' : InsD} {b : List Int} {w w' : Int} {z : InsD} (h : fldF x b w = some z) (hx : x' = x) (hw : w' = w) : fldF x' b w' = some z := by rw [hx, hw]; exact h
theorem fld_eq0 {x x' : InsD} {b : List Int} {w : Int} {z : InsD} (h : fldF x b w = some z) (hw : w = 0) (hx : x' = x) : some x' = some z := by
  have := fldF_len h
  rw [fld0 hw (by omega)] at h
  rw [hx]; exact h
theorem dec_f1 {b : List Int} (hB : Bytes b) {z : InsD} (h : oneF ⟨1, [72, 199], 192, false, true, 4⟩ b = some z) : decR b = some z := by
  obtain ⟨hp, hc⟩ := one_cases h
  obtain ⟨hl, hg⟩ := pre_get hp
  dsimp only at hc
  have g0 : b.getD 0 0 = 72 := hg 0 (by decide)
  have g1 : b.getD 1 0 = 199 := hg 1 (by decide)
  have hl : 2 ≤ b.length := hl
  rcases hc with ⟨_, hlen, k1, k2, hf⟩ | ⟨hlow, _⟩
  case inr => exact absurd hlow (by decide)
  have hlen : 2 < b.length := hlen
  have hy := getD_b hB 2
  simp only [List.length_cons, List.length_nil, Nat.zero_add, Nat.reduceAdd, Bool.true_eq_false, false_and, true_and, or_false, ne_eq] at k1 k2 hf
  unfold decR
  unfold longR opOf
  repeat (first | refine (if_neg (by omega)).trans ?_ | refine (if_pos (by omega)).trans ?_)
  refine fld_eq hf ?_ rfl
  simp only [InsD.mk.injEq]
  (repeat' apply And.intro) <;> first | rfl | trivial | omega
theorem dec_f2 {b : List Int} (hB : Bytes b) {z : InsD} (h : oneF ⟨2, [72], 184, false, true, 8⟩ b = some z) : decR b = some z := by
  obtain ⟨hp, hc⟩ := one_cases h
  obtain ⟨hl, hg⟩ := pre_get hp
  dsimp only at hc
  have g0 : b.getD 0 0 = 72 := hg 0 (by decide)
  have hl : 1 ≤ b.length := hl
  rcases hc with ⟨_, hlen, k1, k2, hf⟩ | ⟨hlow, _⟩
  case inr => exact absurd hlow (by decide)
  have hlen : 1 < b.length := hlen
  have hy := getD_b hB 1
  simp only [List.length_cons, List.length_nil, Nat.zero_add, Nat.reduceAdd, Bool.true_eq_false, false_and, true_and, or_false, ne_eq] at k1 k2 hf
  unfold decR
  unfold longR opOf
  repeat (first | refine (if_neg (by omega)).trans ?_ | refine (if_pos (by omega)).trans ?_)
  refine fld_eq hf ?_ rfl
  simp only [InsD.mk.injEq]
  (repeat' apply And.intro) <;> first | rfl | trivial | omega
theorem dec_f3 {b : List Int} (hB : Bytes b) {z : InsD} (h : oneF ⟨3, [72, 141], 5, true, false, 4⟩ b = some z) : decR b = some z := by
  obtain ⟨hp, hc⟩ := one_cases h
  obtain ⟨hl, hg⟩ := pre_get hp
  dsimp only at hc
  have g0 : b.getD 0 0 = 72 := hg 0 (by decide)
  have g1 : b.getD 1 0 = 141 := hg 1 (by decide)
  have hl : 2 ≤ b.length := hl
  rcases hc with ⟨_, hlen, k1, k2, hf⟩ | ⟨hlow, _⟩
  case inr => exact absurd hlow (by decide)
  have hlen : 2 < b.length := hlen
  have hy := getD_b hB 2
  simp only [List.length_cons, List.length_nil, Nat.zero_add, Nat.reduceAdd, Bool.true_eq_false, false_and, true_and, or_false, ne_eq] at k1 k2 hf
  unfold decR
  unfold longR opOf
  repeat (first | refine (if_neg (by omega)).trans ?_ | refine (if_pos (by omega)).trans ?_)
  refine fld_eq hf ?_ rfl
  simp only [InsD.mk.injEq]
  (repeat' apply And.intro) <;> first | rfl | trivial | omega
theorem dec_f4 {b : List Int} (hB : Bytes b) {z : InsD} (h : oneF ⟨4, [72, 139], 128, true, true, 4⟩ b = some z) : decR b = some z := by
  obtain ⟨hp, hc⟩ := one_cases h
  obtain ⟨hl, hg⟩ := pre_get hp
  dsimp only at hc
  have g0 : b.getD 0 0 = 72 := hg 0 (by decide)
  have g1 : b.getD 1 0 = 139 := hg 1 (by decide)
  have hl : 2 ≤ b.length := hl
  rcases hc with ⟨_, hlen, k1, k2, hf⟩ | ⟨hlow, _⟩
  case inr => exact absurd hlow (by decide)
  have hlen : 2 < b.length := hlen
  have hy := getD_b hB 2
  simp only [List.length_cons, List.length_nil, Nat.zero_add, Nat.reduceAdd, Bool.true_eq_false, false_and, true_and, or_false, ne_eq] at k1 k2 hf
  unfold decR
  unfold longR opOf
  repeat (first | refine (if_neg (by omega)).trans ?_ | refine (if_pos (by omega)).trans ?_)
  refine fld_eq hf ?_ rfl
  simp only [InsD.mk.injEq]
  (repeat' apply And.intro) <;> first | rfl | trivial | omega
theorem dec_f5 {b : List Int} (hB : Bytes b) {z : InsD} (h : oneF ⟨5, [72, 137], 128, true, true, 4⟩ b = some z) : decR b = some z := by
  obtain ⟨hp, hc⟩ := one_cases h
  obtain ⟨hl, hg⟩ := pre_get hp
  dsimp only at hc
  have g0 : b.getD 0 0 = 72 := hg 0 (by decide)
  have g1 : b.getD 1 0 = 137 := hg 1 (by decide)
  have hl : 2 ≤ b.length := hl
  rcases hc with ⟨_, hlen, k1, k2, hf⟩ | ⟨hlow, _⟩
  case inr => exact absurd hlow (by decide)
  have hlen : 2 < b.length := hlen
  have hy := getD_b hB 2
  simp only [List.length_cons, List.length_nil, Nat.zero_add, Nat.reduceAdd, Bool.true_eq_false, false_and, true_and, or_false, ne_eq] at k1 k2 hf
  unfold decR
  unfold longR opOf
  repeat (first | refine (if_neg (by omega)).trans ?_ | refine (if_pos (by omega)).trans ?_)
  refine fld_eq hf ?_ rfl
  simp only [InsD.mk.injEq]
  (repeat' apply And.intro) <;> first | rfl | trivial | omega
theorem dec_f6 {b : List Int} (hB : Bytes b) {z : InsD} (h : oneF ⟨6, [72, 15, 182], 128, true, true, 4⟩ b = some z) : decR b = some z := by
  obtain ⟨hp, hc⟩ := one_cases h
  obtain ⟨hl, hg⟩ := pre_get hp
  dsimp only at hc
  have g0 : b.getD 0 0 = 72 := hg 0 (by decide)
  have g1 : b.getD 1 0 = 15 := hg 1 (by decide)
  have g2 : b.getD 2 0 = 182 := hg 2 (by decide)
  have hl : 3 ≤ b.length := hl
  rcases hc with ⟨_, hlen, k1, k2, hf⟩ | ⟨hlow, _⟩
  case inr => exact absurd hlow (by decide)
  have hlen : 3 < b.length := hlen
  have hy := getD_b hB 3
  simp only [List.length_cons, List.length_nil, Nat.zero_add, Nat.reduceAdd, Bool.true_eq_false, false_and, true_and, or_false, ne_eq] at k1 k2 hf
  unfold decR
  unfold longR opOf
  repeat (first | refine (if_neg (by omega)).trans ?_ | refine (if_pos (by omega)).trans ?_)
  refine fld_eq hf ?_ rfl
  simp only [InsD.mk.injEq]
  (repeat' apply And.intro) <;> first | rfl | trivial | omega
theorem dec_f7 {b : List Int} (hB : Bytes b) {z : InsD} (h : oneF ⟨7, [72, 136], 128, true, true, 4⟩ b = some z) : decR b = some z := by
  obtain ⟨hp, hc⟩ := one_cases h
  obtain ⟨hl, hg⟩ := pre_get hp
  dsimp only at hc
  have g0 : b.getD 0 0 = 72 := hg 0 (by decide)
  have g1 : b.getD 1 0 = 136 := hg 1 (by decide)
  have hl : 2 ≤ b.length := hl
  rcases hc with ⟨_, hlen, k1, k2, hf⟩ | ⟨hlow, _⟩
  case inr => exact absurd hlow (by decide)
  have hlen : 2 < b.length := hlen
  have hy := getD_b hB 2
  simp only [List.length_cons, List.length_nil, Nat.zero_add, Nat.reduceAdd, Bool.true_eq_false, false_and, true_and, or_false, ne_eq] at k1 k2 hf
  unfold decR
  unfold longR opOf
  repeat (first | refine (if_neg (by omega)).trans ?_ | refine (if_pos (by omega)).trans ?_)
  refine fld_eq hf ?_ rfl
  simp only [InsD.mk.injEq]
  (repeat' apply And.intro) <;> first | rfl | trivial | omega
theorem dec_f8 {b : List Int} (hB : Bytes b) {z : InsD} (h : oneF ⟨8, [72, 137], 192, true, true, 0⟩ b = some z) : decR b = some z := by
  obtain ⟨hp, hc⟩ := one_cases h
  obtain ⟨hl, hg⟩ := pre_get hp
  dsimp only at hc
  have g0 : b.getD 0 0 = 72 := hg 0 (by decide)
  have g1 : b.getD 1 0 = 137 := hg 1 (by decide)
  have hl : 2 ≤ b.length := hl
  rcases hc with ⟨_, hlen, k1, k2, hf⟩ | ⟨hlow, _⟩
  case inr => exact absurd hlow (by decide)
  have hlen : 2 < b.length := hlen
  have hy := getD_b hB 2
  simp only [List.length_cons, List.length_nil, Nat.zero_add, Nat.reduceAdd, Bool.true_eq_false, false_and, true_and, or_false, ne_eq] at k1 k2 hf
  unfold decR
  unfold longR opOf
  repeat (first | refine (if_neg (by omega)).trans ?_ | refine (if_pos (by omega)).trans ?_)
  refine fld_eq0 hf rfl ?_
  simp only [InsD.mk.injEq]
  (repeat' apply And.intro) <;> first | rfl | trivial | omega
theorem dec_f9 {b : List Int} (hB : Bytes b) {z : InsD} (h : oneF ⟨9, [72, 1], 192, true, true, 0⟩ b = some z) : decR b = some z := by
  obtain ⟨hp, hc⟩ := one_cases h
  obtain ⟨hl, hg⟩ := pre_get hp
  dsimp only at hc
  have g0 : b.getD 0 0 = 72 := hg 0 (by decide)
  have g1 : b.getD 1 0 = 1 := hg 1 (by decide)
  have hl : 2 ≤ b.length := hl
  rcases hc with ⟨_, hlen, k1, k2, hf⟩ | ⟨hlow, _⟩
  case inr => exact absurd hlow (by decide)
  have hlen : 2 < b.length := hlen
  have hy := getD_b hB 2
  simp only [List.length_cons, List.length_nil, Nat.zero_add, Nat.reduceAdd, Bool.true_eq_false, false_and, true_and, or_false, ne_eq] at k1 k2 hf
  unfold decR
  unfold longR opOf
  repeat (first | refine (if_neg (by omega)).trans ?_ | refine (if_pos (by omega)).trans ?_)
  refine fld_eq0 hf rfl ?_
  simp only [InsD.mk.injEq]
  (repeat' apply And.intro) <;> first | rfl | trivial | omega
theorem dec_f10 {b : List Int} (hB : Bytes b) {z : InsD} (h : oneF ⟨10, [72, 41], 192, true, true, 0⟩ b = some z) : decR b = some z := by
  obtain ⟨hp, hc⟩ := one_cases h
  obtain ⟨hl, hg⟩ := pre_get hp
  dsimp only at hc
  have g0 : b.getD 0 0 = 72 := hg 0 (by decide)
  have g1 : b.getD 1 0 = 41 := hg 1 (by decide)
  have hl : 2 ≤ b.length := hl
  rcases hc with ⟨_, hlen, k1, k2, hf⟩ | ⟨hlow, _⟩
  case inr => exact absurd hlow (by decide)
  have hlen : 2 < b.length := hlen
  have hy := getD_b hB 2
  simp only [List.length_cons, List.length_nil, Nat.zero_add, Nat.reduceAdd, Bool.true_eq_false, false_and, true_and, or_false, ne_eq] at k1 k2 hf
  unfold decR
  unfold longR opOf
  repeat (first | refine (if_neg (by omega)).trans ?_ | refine (if_pos (by omega)).trans ?_)
  refine fld_eq0 hf rfl ?_
  simp only [InsD.mk.injEq]
  (repeat' apply And.intro) <;> first | rfl | trivial | omega
theorem dec_f11 {b : List Int} (hB : Bytes b) {z : InsD} (h : oneF ⟨11, [72, 129], 192, false, true, 4⟩ b = some z) : decR b = some z := by
  obtain ⟨hp, hc⟩ := one_cases h
  obtain ⟨hl, hg⟩ := pre_get hp
  dsimp only at hc
  have g0 : b.getD 0 0 = 72 := hg 0 (by decide)
  have g1 : b.getD 1 0 = 129 := hg 1 (by decide)
  have hl : 2 ≤ b.length := hl
  rcases hc with ⟨_, hlen, k1, k2, hf⟩ | ⟨hlow, _⟩
  case inr => exact absurd hlow (by decide)
  have hlen : 2 < b.length := hlen
  have hy := getD_b hB 2
  simp only [List.length_cons, List.length_nil, Nat.zero_add, Nat.reduceAdd, Bool.true_eq_false, false_and, true_and, or_false, ne_eq] at k1 k2 hf
  unfold decR
  unfold longR opOf
  repeat (first | refine (if_neg (by omega)).trans ?_ | refine (if_pos (by omega)).trans ?_)
  refine fld_eq hf ?_ rfl
  simp only [InsD.mk.injEq]
  (repeat' apply And.intro) <;> first | rfl | trivial | omega
theorem dec_f12 {b : List Int} (hB : Bytes b) {z : InsD} (h : oneF ⟨12, [72, 57], 192, true, true, 0⟩ b = some z) : decR b = some z := by
  obtain ⟨hp, hc⟩ := one_cases h
  obtain ⟨hl, hg⟩ := pre_get hp
  dsimp only at hc
  have g0 : b.getD 0 0 = 72 := hg 0 (by decide)
  have g1 : b.getD 1 0 = 57 := hg 1 (by decide)
  have hl : 2 ≤ b.length := hl
  rcases hc with ⟨_, hlen, k1, k2, hf⟩ | ⟨hlow, _⟩
  case inr => exact absurd hlow (by decide)
  have hlen : 2 < b.length := hlen
  have hy := getD_b hB 2
  simp only [List.length_cons, List.length_nil, Nat.zero_add, Nat.reduceAdd, Bool.true_eq_false, false_and, true_and, or_false, ne_eq] at k1 k2 hf
  unfold decR
  unfold longR opOf
  repeat (first | refine (if_neg (by omega)).trans ?_ | refine (if_pos (by omega)).trans ?_)
  refine fld_eq0 hf rfl ?_
  simp only [InsD.mk.injEq]
  (repeat' apply And.intro) <;> first | rfl | trivial | omega
theorem dec_f13 {b : List Int} (hB : Bytes b) {z : InsD} (h : oneF ⟨13, [233], -1, false, false, 4⟩ b = some z) : decR b = some z := by
  obtain ⟨hp, hc⟩ := one_cases h
  obtain ⟨hl, hg⟩ := pre_get hp
  dsimp only at hc
  have g0 : b.getD 0 0 = 233 := hg 0 (by decide)
  have hl : 1 ≤ b.length := hl
  rcases hc with ⟨hlow, _⟩ | ⟨_, hf⟩
  case inl => exact absurd hlow (by decide)
  simp only [List.length_cons, List.length_nil, Nat.zero_add, Nat.reduceAdd] at hf
  unfold decR
  repeat (first | refine (if_neg (by omega)).trans ?_ | refine (if_pos (by omega)).trans ?_)
  refine fld_eq hf ?_ rfl
  simp only [InsD.mk.injEq]
  (repeat' apply And.intro) <;> first | rfl | trivial | omega
theorem dec_f14 {b : List Int} (hB : Bytes b) {z : InsD} (h : oneF ⟨14, [15, 132], -1, false, false, 4⟩ b = some z) : decR b = some z := by
  obtain ⟨hp, hc⟩ := one_cases h
  obtain ⟨hl, hg⟩ := pre_get hp
  dsimp only at hc
  have g0 : b.getD 0 0 = 15 := hg 0 (by decide)
  have g1 : b.getD 1 0 = 132 := hg 1 (by decide)
  have hl : 2 ≤ b.length := hl
  rcases hc with ⟨hlow, _⟩ | ⟨_, hf⟩
  case inl => exact absurd hlow (by decide)
  simp only [List.length_cons, List.length_nil, Nat.zero_add, Nat.reduceAdd] at hf
  unfold decR
  repeat (first | refine (if_neg (by omega)).trans ?_ | refine (if_pos (by omega)).trans ?_)
  refine fld_eq hf ?_ rfl
  simp only [InsD.mk.injEq]
  (repeat' apply And.intro) <;> first | rfl | trivial | omega
theorem dec_f15 {b : List Int} (hB : Bytes b) {z : InsD} (h : oneF ⟨15, [15, 133], -1, false, false, 4⟩ b = some z) : decR b = some z := by
  obtain ⟨hp, hc⟩ := one_cases h
  obtain ⟨hl, hg⟩ := pre_get hp
  dsimp only at hc
  have g0 : b.getD 0 0 = 15 := hg 0 (by decide)
  have g1 : b.getD 1 0 = 133 := hg 1 (by decide)
  have hl : 2 ≤ b.length := hl
  rcases hc with ⟨hlow, _⟩ | ⟨_, hf⟩
  case inl => exact absurd hlow (by decide)
  simp only [List.length_cons, List.length_nil, Nat.zero_add, Nat.reduceAdd] at hf
  unfold decR
  repeat (first | refine (if_neg (by omega)).trans ?_ | refine (if_pos (by omega)).trans ?_)
  refine fld_eq hf ?_ rfl
  simp only [InsD.mk.injEq]
  (repeat' apply And.intro) <;> first | rfl | trivial | omega
theorem dec_f16 {b : List Int} (hB : Bytes b) {z : InsD} (h : oneF ⟨16, [15, 130], -1, false, false, 4⟩ b = some z) : decR b = some z := by
  obtain ⟨hp, hc⟩ := one_cases h
  obtain ⟨hl, hg⟩ := pre_get hp
  dsimp only at hc
  have g0 : b.getD 0 0 = 15 := hg 0 (by decide)
  have g1 : b.getD 1 0 = 130 := hg 1 (by decide)
  have hl : 2 ≤ b.length := hl
  rcases hc with ⟨hlow, _⟩ | ⟨_, hf⟩
  case inl => exact absurd hlow (by decide)
  simp only [List.length_cons, List.length_nil, Nat.zero_add, Nat.reduceAdd] at hf
  unfold decR
  repeat (first | refine (if_neg (by omega)).trans ?_ | refine (if_pos (by omega)).trans ?_)
  refine fld_eq hf ?_ rfl
  simp only [InsD.mk.injEq]
  (repeat' apply And.intro) <;> first | rfl | trivial | omega
theorem dec_f17 {b : List Int} (hB : Bytes b) {z : InsD} (h : oneF ⟨17, [232], -1, false, false, 4⟩ b = some z) : decR b = some z := by
  obtain ⟨hp, hc⟩ := one_cases h
  obtain ⟨hl, hg⟩ := pre_get hp
  dsimp only at hc
  have g0 : b.getD 0 0 = 232 := hg 0 (by decide)
  have hl : 1 ≤ b.length := hl
  rcases hc with ⟨hlow, _⟩ | ⟨_, hf⟩
  case inl => exact absurd hlow (by decide)
  simp only [List.length_cons, List.length_nil, Nat.zero_add, Nat.reduceAdd] at hf
  unfold decR
  repeat (first | refine (if_neg (by omega)).trans ?_ | refine (if_pos (by omega)).trans ?_)
  refine fld_eq hf ?_ rfl
  simp only [InsD.mk.injEq]
  (repeat' apply And.intro) <;> first | rfl | trivial | omega
theorem dec_f18 {b : List Int} (hB : Bytes b) {z : InsD} (h : oneF ⟨18, [255], 208, false, true, 0⟩ b = some z) : decR b = some z := by
  obtain ⟨hp, hc⟩ := one_cases h
  obtain ⟨hl, hg⟩ := pre_get hp
  dsimp only at hc
  have g0 : b.getD 0 0 = 255 := hg 0 (by decide)
  have hl : 1 ≤ b.length := hl
  rcases hc with ⟨_, hlen, k1, k2, hf⟩ | ⟨hlow, _⟩
  case inr => exact absurd hlow (by decide)
  have hlen : 1 < b.length := hlen
  have hy := getD_b hB 1
  simp only [List.length_cons, List.length_nil, Nat.zero_add, Nat.reduceAdd, Bool.true_eq_false, false_and, true_and, or_false, ne_eq] at k1 k2 hf
  unfold decR
  repeat (first | refine (if_neg (by omega)).trans ?_ | refine (if_pos (by omega)).trans ?_)
  refine fld_eq0 hf rfl ?_
  simp only [InsD.mk.injEq]
  (repeat' apply And.intro) <;> first | rfl | trivial | omega
theorem dec_f19 {b : List Int} (hB : Bytes b) {z : InsD} (h : oneF ⟨19, [195], -1, false, false, 0⟩ b = some z) : decR b = some z := by
  obtain ⟨hp, hc⟩ := one_cases h
  obtain ⟨hl, hg⟩ := pre_get hp
  dsimp only at hc
  have g0 : b.getD 0 0 = 195 := hg 0 (by decide)
  have hl : 1 ≤ b.length := hl
  rcases hc with ⟨hlow, _⟩ | ⟨_, hf⟩
  case inl => exact absurd hlow (by decide)
  simp only [List.length_cons, List.length_nil, Nat.zero_add, Nat.reduceAdd] at hf
  unfold decR
  repeat (first | refine (if_neg (by omega)).trans ?_ | refine (if_pos (by omega)).trans ?_)
  refine fld_eq0 hf rfl ?_
  simp only [InsD.mk.injEq]
  (repeat' apply And.intro) <;> first | rfl | trivial | omega
theorem dec_f20 {b : List Int} (hB : Bytes b) {z : InsD} (h : oneF ⟨20, [15, 5], -1, false, false, 0⟩ b = some z) : decR b = some z := by
  obtain ⟨hp, hc⟩ := one_cases h
  obtain ⟨hl, hg⟩ := pre_get hp
  dsimp only at hc
  have g0 : b.getD 0 0 = 15 := hg 0 (by decide)
  have g1 : b.getD 1 0 = 5 := hg 1 (by decide)
  have hl : 2 ≤ b.length := hl
  rcases hc with ⟨hlow, _⟩ | ⟨_, hf⟩
  case inl => exact absurd hlow (by decide)
  simp only [List.length_cons, List.length_nil, Nat.zero_add, Nat.reduceAdd] at hf
  unfold decR
  repeat (first | refine (if_neg (by omega)).trans ?_ | refine (if_pos (by omega)).trans ?_)
  refine fld_eq0 hf rfl ?_
  simp only [InsD.mk.injEq]
  (repeat' apply And.intro) <;> first | rfl | trivial | omega
theorem one_dec {b : List Int} (hB : Bytes b) : ∀ f ∈ formsL, ∀ z, oneF f b = some z → decR b = some z := by
  intro f hf z h
  simp only [formsL, List.mem_cons, List.not_mem_nil, or_false] at hf
  rcases hf with rfl | rfl | rfl | rfl | rfl | rfl | rfl | rfl | rfl | rfl | rfl | rfl | rfl | rfl | rfl | rfl | rfl | rfl | rfl | rfl
  · exact dec_f1 hB h
  · exact dec_f2 hB h
  · exact dec_f3 hB h
  · exact dec_f4 hB h
  · exact dec_f5 hB h
  · exact dec_f6 hB h
  · exact dec_f7 hB h
  · exact dec_f8 hB h
  · exact dec_f9 hB h
  · exact dec_f10 hB h
  · exact dec_f11 hB h
  · exact dec_f12 hB h
  · exact dec_f13 hB h
  · exact dec_f14 hB h
  · exact dec_f15 hB h
  · exact dec_f16 hB h
  · exact dec_f17 hB h
  · exact dec_f18 hB h
  · exact dec_f19 hB h
  · exact dec_f20 hB h
theorem ite_or {α : Type} {c : Prop} [Decidable c] {a b : Option α} {z : α} (h : (if c then a else b) = some z) : c ∧ a = some z ∨ ¬ c ∧ b = some z := by
  by_cases hc : c
  · rw [if_pos hc] at h; exact .inl ⟨hc, h⟩
  · rw [if_neg hc] at h; exact .inr ⟨hc, h⟩
theorem take_of {h b : List Int} (hl : h.length ≤ b.length) (hg : ∀ i, i < h.length → b.getD i 0 = h.getD i 0) : b.take h.length = h := by
  apply List.ext_getElem (by rw [List.length_take]; omega)
  intro i h1 h2
  have := hg i h2
  rw [List.getElem_take]
  simpa [h2, show i < b.length by omega] using this
theorem one_reg {f : FormD} {b : List Int} {z : InsD} (hp : b.take f.head.length = f.head) (h0 : 0 ≤ f.low) (hl : f.head.length < b.length)
    (k1 : ¬ (b.getD f.head.length 0 - f.low < 0 ∨ b.getD f.head.length 0 - f.low > 63 ∨ (f.r = false ∧ (b.getD f.head.length 0 - f.low) / 8 ≠ 0) ∨ (f.m = false ∧ (b.getD f.head.length 0 - f.low) % 8 ≠ 0)))
    (k2 : ¬ ((f.low = 5 ∧ b.getD f.head.length 0 % 8 ≠ 5) ∨ (4 ≤ f.op ∧ f.op ≤ 7 ∧ (b.getD f.head.length 0 - f.low) % 8 = 4)))
    (hf : fldF ⟨f.op, (b.getD f.head.length 0 - f.low) / 8, (b.getD f.head.length 0 - f.low) % 8, f.head.length + 1, 0, 0, 0⟩ b f.width = some z) : oneF f b = some z := by
  unfold oneF regsF
  rw [if_pos hp, if_pos h0, if_neg (by omega), if_neg k1, if_neg k2]
  exact hf
theorem one_no {f : FormD} {b : List Int} {z : InsD} (hp : b.take f.head.length = f.head) (h0 : f.low < 0) (hf : fldF ⟨f.op, 0, 0, f.head.length, 0, 0, 0⟩ b f.width = some z) : oneF f b = some z := by
  unfold oneF
  rw [if_pos hp, if_neg (by omega)]
  exact hf
theorem fld_one {x : InsD} {b : List Int} {w : Int} {z : InsD} (h : some x = some z) (hl : x.len ≤ b.length) (hw : w = 0) : fldF x b w = some z := by
  rw [fld0 hw hl]; exact h
theorem take_1 {b : List Int} {x : Int} (hl : 1 ≤ b.length) (g : b.getD 0 0 = x) : b.take [x].length = [x] := take_of hl fun i hi => by
  have hi : i < 1 := hi
  obtain rfl : i = 0 := by omega
  exact g
theorem take_2 {b : List Int} {x y : Int} (hl : 2 ≤ b.length) (g : b.getD 0 0 = x) (g1 : b.getD 1 0 = y) : b.take [x, y].length = [x, y] := take_of hl fun i hi => by
  have hi : i < 2 := hi
  rcases (show i = 0 ∨ i = 1 by omega) with rfl | rfl
  · exact g
  · exact g1
theorem take_3 {b : List Int} {x y w : Int} (hl : 3 ≤ b.length) (g : b.getD 0 0 = x) (g1 : b.getD 1 0 = y) (g2 : b.getD 2 0 = w) : b.take [x, y, w].length = [x, y, w] := take_of hl fun i hi => by
  have hi : i < 3 := hi
  rcases (show i = 0 ∨ i = 1 ∨ i = 2 by omega) with rfl | rfl | rfl
  · exact g
  · exact g1
  · exact g2
theorem dec_long_one {b : List Int} (hB : Bytes b) (hl0 : 1 ≤ b.length) (g0 : b.getD 0 0 = 72) {z : InsD} (h : longR b = some z) : ∃ f ∈ formsL, oneF f b = some z := by
  have b1 := getD_b hB 1
  have b2 := getD_b hB 2
  have b3 := getD_b hB 3
  unfold longR at h
  rcases ite_or h with ⟨c, h⟩ | ⟨c1, h⟩
  · skip
    obtain ⟨d1, d2, d3⟩ := c
    refine ⟨⟨2, [72], 184, false, true, 8⟩, by decide, ?_⟩
    refine one_reg (take_1 (by omega) (by omega)) (by dsimp only; omega) (by show 1 < _; omega) (by simp only [List.length_cons, List.length_nil, Nat.reduceAdd, Nat.zero_add, Bool.true_eq_false, eq_self, false_and, true_and, or_false, false_or, ne_eq]; omega) (by dsimp only [List.length_cons, List.length_nil, Nat.reduceAdd]; omega) ?_
    refine fld_eq h ?_ rfl
    simp only [InsD.mk.injEq]
    (repeat' apply And.intro) <;> first | rfl | trivial | (dsimp only [List.length_cons, List.length_nil, Nat.reduceAdd]; omega) | omega
  rcases ite_or h with ⟨c, h⟩ | ⟨c2, h⟩
  · obtain ⟨d1, d2⟩ := c
    rcases ite_or h with ⟨_, h⟩ | ⟨c3, h⟩
    · cases h
    rcases ite_or h with ⟨c, h⟩ | ⟨_, h⟩
    · obtain ⟨d3, d4, d5⟩ := c
      refine ⟨⟨6, [72, 15, 182], 128, true, true, 4⟩, by decide, ?_⟩
      refine one_reg (take_3 (by omega) (by omega) (by omega) (by omega)) (by dsimp only; omega) (by show 3 < _; omega) (by simp only [List.length_cons, List.length_nil, Nat.reduceAdd, Nat.zero_add, Bool.true_eq_false, eq_self, false_and, true_and, or_false, false_or, ne_eq]; omega) (by dsimp only [List.length_cons, List.length_nil, Nat.reduceAdd]; omega) ?_
      refine fld_eq h ?_ rfl
      simp only [InsD.mk.injEq]
      (repeat' apply And.intro) <;> first | rfl | trivial | (dsimp only [List.length_cons, List.length_nil, Nat.reduceAdd]; omega) | omega
    · cases h
  rcases ite_or h with ⟨_, h⟩ | ⟨c3, h⟩
  · cases h
  rcases ite_or h with ⟨c, h⟩ | ⟨c4, h⟩
  · obtain ⟨d1, d2, d3⟩ := c
    refine ⟨⟨3, [72, 141], 5, true, false, 4⟩, by decide, ?_⟩
    refine one_reg (take_2 (by omega) (by omega) (by omega)) (by dsimp only; omega) (by show 2 < _; omega) (by simp only [List.length_cons, List.length_nil, Nat.reduceAdd, Nat.zero_add, Bool.true_eq_false, eq_self, false_and, true_and, or_false, false_or, ne_eq]; omega) (by dsimp only [List.length_cons, List.length_nil, Nat.reduceAdd]; omega) ?_
    refine fld_eq h ?_ rfl
    simp only [InsD.mk.injEq]
    (repeat' apply And.intro) <;> first | rfl | trivial | (dsimp only [List.length_cons, List.length_nil, Nat.reduceAdd]; omega) | omega
  rcases ite_or h with ⟨c, h⟩ | ⟨c5, h⟩
  · obtain ⟨d1, d2, d3⟩ := c
    rcases d3 with d3 | d3 | d3
    · rw [d3] at h
      simp only [Int.reduceEq, if_true, if_false] at h
      refine ⟨⟨4, [72, 139], 128, true, true, 4⟩, by decide, ?_⟩
      refine one_reg (take_2 (by omega) (by omega) (by omega)) (by dsimp only; omega) (by show 2 < _; omega) (by simp only [List.length_cons, List.length_nil, Nat.reduceAdd, Nat.zero_add, Bool.true_eq_false, eq_self, false_and, true_and, or_false, false_or, ne_eq]; omega) (by dsimp only [List.length_cons, List.length_nil, Nat.reduceAdd]; omega) ?_
      refine fld_eq h ?_ rfl
      simp only [InsD.mk.injEq]
      (repeat' apply And.intro) <;> first | rfl | trivial | (dsimp only [List.length_cons, List.length_nil, Nat.reduceAdd]; omega) | omega
    · rw [d3] at h
      simp only [Int.reduceEq, if_true, if_false] at h
      refine ⟨⟨5, [72, 137], 128, true, true, 4⟩, by decide, ?_⟩
      refine one_reg (take_2 (by omega) (by omega) (by omega)) (by dsimp only; omega) (by show 2 < _; omega) (by simp only [List.length_cons, List.length_nil, Nat.reduceAdd, Nat.zero_add, Bool.true_eq_false, eq_self, false_and, true_and, or_false, false_or, ne_eq]; omega) (by dsimp only [List.length_cons, List.length_nil, Nat.reduceAdd]; omega) ?_
      refine fld_eq h ?_ rfl
      simp only [InsD.mk.injEq]
      (repeat' apply And.intro) <;> first | rfl | trivial | (dsimp only [List.length_cons, List.length_nil, Nat.reduceAdd]; omega) | omega
    · rw [d3] at h
      simp only [Int.reduceEq, if_true, if_false] at h
      refine ⟨⟨7, [72, 136], 128, true, true, 4⟩, by decide, ?_⟩
      refine one_reg (take_2 (by omega) (by omega) (by omega)) (by dsimp only; omega) (by show 2 < _; omega) (by simp only [List.length_cons, List.length_nil, Nat.reduceAdd, Nat.zero_add, Bool.true_eq_false, eq_self, false_and, true_and, or_false, false_or, ne_eq]; omega) (by dsimp only [List.length_cons, List.length_nil, Nat.reduceAdd]; omega) ?_
      refine fld_eq h ?_ rfl
      simp only [InsD.mk.injEq]
      (repeat' apply And.intro) <;> first | rfl | trivial | (dsimp only [List.length_cons, List.length_nil, Nat.reduceAdd]; omega) | omega
  rcases ite_or h with ⟨_, h⟩ | ⟨c6, h⟩
  · cases h
  rcases ite_or h with ⟨c, h⟩ | ⟨c7, h⟩
  · obtain ⟨d1, d2⟩ := c
    rcases d1 with d1 | d1
    · rw [d1] at h
      simp only [Int.reduceEq, if_true, if_false] at h
      refine ⟨⟨1, [72, 199], 192, false, true, 4⟩, by decide, ?_⟩
      refine one_reg (take_2 (by omega) (by omega) (by omega)) (by dsimp only; omega) (by show 2 < _; omega) (by simp only [List.length_cons, List.length_nil, Nat.reduceAdd, Nat.zero_add, Bool.true_eq_false, eq_self, false_and, true_and, or_false, false_or, ne_eq]; omega) (by dsimp only [List.length_cons, List.length_nil, Nat.reduceAdd]; omega) ?_
      refine fld_eq h ?_ rfl
      simp only [InsD.mk.injEq]
      (repeat' apply And.intro) <;> first | rfl | trivial | (dsimp only [List.length_cons, List.length_nil, Nat.reduceAdd]; omega) | omega
    · rw [d1] at h
      simp only [Int.reduceEq, if_true, if_false] at h
      refine ⟨⟨11, [72, 129], 192, false, true, 4⟩, by decide, ?_⟩
      refine one_reg (take_2 (by omega) (by omega) (by omega)) (by dsimp only; omega) (by show 2 < _; omega) (by simp only [List.length_cons, List.length_nil, Nat.reduceAdd, Nat.zero_add, Bool.true_eq_false, eq_self, false_and, true_and, or_false, false_or, ne_eq]; omega) (by dsimp only [List.length_cons, List.length_nil, Nat.reduceAdd]; omega) ?_
      refine fld_eq h ?_ rfl
      simp only [InsD.mk.injEq]
      (repeat' apply And.intro) <;> first | rfl | trivial | (dsimp only [List.length_cons, List.length_nil, Nat.reduceAdd]; omega) | omega
  rcases ite_or h with ⟨c, h⟩ | ⟨_, h⟩
  case inr => cases h
  unfold opOf at c h
  by_cases e0 : b.getD 1 0 = 137
  · simp only [e0, Int.reduceEq, if_true, if_false] at h
    refine ⟨⟨8, [72, 137], 192, true, true, 0⟩, by decide, ?_⟩
    refine one_reg (take_2 (by omega) (by omega) (by omega)) (by dsimp only; omega) (by show 2 < _; omega) (by simp only [List.length_cons, List.length_nil, Nat.reduceAdd, Nat.zero_add, Bool.true_eq_false, eq_self, false_and, true_and, or_false, false_or, ne_eq]; omega) (by dsimp only [List.length_cons, List.length_nil, Nat.reduceAdd]; omega) ?_
    obtain rfl := Option.some.inj h
    refine fld_one (congrArg some ?_) (by dsimp only [List.length_cons, List.length_nil, Nat.reduceAdd]; omega) rfl
    simp only [InsD.mk.injEq]
    (repeat' apply And.intro) <;> first | rfl | trivial | (dsimp only [List.length_cons, List.length_nil, Nat.reduceAdd]; omega) | omega
  by_cases e1 : b.getD 1 0 = 1
  · simp only [e1, Int.reduceEq, if_true, if_false] at h
    refine ⟨⟨9, [72, 1], 192, true, true, 0⟩, by decide, ?_⟩
    refine one_reg (take_2 (by omega) (by omega) (by omega)) (by dsimp only; omega) (by show 2 < _; omega) (by simp only [List.length_cons, List.length_nil, Nat.reduceAdd, Nat.zero_add, Bool.true_eq_false, eq_self, false_and, true_and, or_false, false_or, ne_eq]; omega) (by dsimp only [List.length_cons, List.length_nil, Nat.reduceAdd]; omega) ?_
    obtain rfl := Option.some.inj h
    refine fld_one (congrArg some ?_) (by dsimp only [List.length_cons, List.length_nil, Nat.reduceAdd]; omega) rfl
    simp only [InsD.mk.injEq]
    (repeat' apply And.intro) <;> first | rfl | trivial | (dsimp only [List.length_cons, List.length_nil, Nat.reduceAdd]; omega) | omega
  by_cases e2 : b.getD 1 0 = 41
  · simp only [e2, Int.reduceEq, if_true, if_false] at h
    refine ⟨⟨10, [72, 41], 192, true, true, 0⟩, by decide, ?_⟩
    refine one_reg (take_2 (by omega) (by omega) (by omega)) (by dsimp only; omega) (by show 2 < _; omega) (by simp only [List.length_cons, List.length_nil, Nat.reduceAdd, Nat.zero_add, Bool.true_eq_false, eq_self, false_and, true_and, or_false, false_or, ne_eq]; omega) (by dsimp only [List.length_cons, List.length_nil, Nat.reduceAdd]; omega) ?_
    obtain rfl := Option.some.inj h
    refine fld_one (congrArg some ?_) (by dsimp only [List.length_cons, List.length_nil, Nat.reduceAdd]; omega) rfl
    simp only [InsD.mk.injEq]
    (repeat' apply And.intro) <;> first | rfl | trivial | (dsimp only [List.length_cons, List.length_nil, Nat.reduceAdd]; omega) | omega
  by_cases e3 : b.getD 1 0 = 57
  · simp only [e3, Int.reduceEq, if_true, if_false] at h
    refine ⟨⟨12, [72, 57], 192, true, true, 0⟩, by decide, ?_⟩
    refine one_reg (take_2 (by omega) (by omega) (by omega)) (by dsimp only; omega) (by show 2 < _; omega) (by simp only [List.length_cons, List.length_nil, Nat.reduceAdd, Nat.zero_add, Bool.true_eq_false, eq_self, false_and, true_and, or_false, false_or, ne_eq]; omega) (by dsimp only [List.length_cons, List.length_nil, Nat.reduceAdd]; omega) ?_
    obtain rfl := Option.some.inj h
    refine fld_one (congrArg some ?_) (by dsimp only [List.length_cons, List.length_nil, Nat.reduceAdd]; omega) rfl
    simp only [InsD.mk.injEq]
    (repeat' apply And.intro) <;> first | rfl | trivial | (dsimp only [List.length_cons, List.length_nil, Nat.reduceAdd]; omega) | omega
  rw [if_neg e0, if_neg e1, if_neg e2, if_neg e3] at c
  exact absurd rfl c
theorem dec_one {b : List Int} (hB : Bytes b) {z : InsD} (h : decR b = some z) : ∃ f ∈ formsL, oneF f b = some z := by
  have b0 := getD_b hB 0
  have b1 := getD_b hB 1
  unfold decR at h
  rcases ite_or h with ⟨_, h⟩ | ⟨c0, h⟩
  · cases h
  rcases ite_or h with ⟨c, h⟩ | ⟨c1, h⟩
  · exact dec_long_one hB (by omega) c h
  rcases ite_or h with ⟨c, h⟩ | ⟨e13, h⟩
  case inl =>
    refine ⟨⟨13, [233], -1, false, false, 4⟩, by decide, ?_⟩
    refine one_no (take_1 (by omega) (by omega)) (by decide) ?_
    refine fld_eq h ?_ rfl
    simp only [InsD.mk.injEq]
    (repeat' apply And.intro) <;> first | rfl | trivial | (dsimp only [List.length_cons, List.length_nil, Nat.reduceAdd]; omega) | omega
  rcases ite_or h with ⟨c, h⟩ | ⟨e17, h⟩
  case inl =>
    refine ⟨⟨17, [232], -1, false, false, 4⟩, by decide, ?_⟩
    refine one_no (take_1 (by omega) (by omega)) (by decide) ?_
    refine fld_eq h ?_ rfl
    simp only [InsD.mk.injEq]
    (repeat' apply And.intro) <;> first | rfl | trivial | (dsimp only [List.length_cons, List.length_nil, Nat.reduceAdd]; omega) | omega
  rcases ite_or h with ⟨c, h⟩ | ⟨e19, h⟩
  case inl =>
    refine ⟨⟨19, [195], -1, false, false, 0⟩, by decide, ?_⟩
    refine one_no (take_1 (by omega) (by omega)) (by decide) ?_
    obtain rfl := Option.some.inj h
    refine fld_one (congrArg some ?_) (by dsimp only [List.length_cons, List.length_nil, Nat.reduceAdd]; omega) rfl
    simp only [InsD.mk.injEq]
    (repeat' apply And.intro) <;> first | rfl | trivial | (dsimp only [List.length_cons, List.length_nil, Nat.reduceAdd]; omega) | omega
  rcases ite_or h with ⟨c, h⟩ | ⟨e18, h⟩
  · rcases ite_or h with ⟨d, h⟩ | ⟨_, h⟩
    · obtain ⟨d1, d2, d3⟩ := d
      refine ⟨⟨18, [255], 208, false, true, 0⟩, by decide, ?_⟩
      refine one_reg (take_1 (by omega) (by omega)) (by dsimp only; omega) (by show 1 < _; omega) (by simp only [List.length_cons, List.length_nil, Nat.reduceAdd, Nat.zero_add, Bool.true_eq_false, eq_self, false_and, true_and, or_false, false_or, ne_eq]; omega) (by dsimp only [List.length_cons, List.length_nil, Nat.reduceAdd]; omega) ?_
      obtain rfl := Option.some.inj h
      refine fld_one (congrArg some ?_) (by dsimp only [List.length_cons, List.length_nil, Nat.reduceAdd]; omega) rfl
      simp only [InsD.mk.injEq]
      (repeat' apply And.intro) <;> first | rfl | trivial | (dsimp only [List.length_cons, List.length_nil, Nat.reduceAdd]; omega) | omega
    · cases h
  rcases ite_or h with ⟨c, h⟩ | ⟨_, h⟩
  case inr => cases h
  rcases ite_or h with ⟨d, h⟩ | ⟨f20, h⟩
  · obtain ⟨d1, d2⟩ := d
    refine ⟨⟨20, [15, 5], -1, false, false, 0⟩, by decide, ?_⟩
    refine one_no (take_2 (by omega) (by omega) (by omega)) (by decide) ?_
    obtain rfl := Option.some.inj h
    refine fld_one (congrArg some ?_) (by dsimp only [List.length_cons, List.length_nil, Nat.reduceAdd]; omega) rfl
    simp only [InsD.mk.injEq]
    (repeat' apply And.intro) <;> first | rfl | trivial | (dsimp only [List.length_cons, List.length_nil, Nat.reduceAdd]; omega) | omega
  rcases ite_or h with ⟨d, h⟩ | ⟨f14, h⟩
  · obtain ⟨d1, d2⟩ := d
    refine ⟨⟨14, [15, 132], -1, false, false, 4⟩, by decide, ?_⟩
    refine one_no (take_2 (by omega) (by omega) (by omega)) (by decide) ?_
    refine fld_eq h ?_ rfl
    simp only [InsD.mk.injEq]
    (repeat' apply And.intro) <;> first | rfl | trivial | (dsimp only [List.length_cons, List.length_nil, Nat.reduceAdd]; omega) | omega
  rcases ite_or h with ⟨d, h⟩ | ⟨f15, h⟩
  · obtain ⟨d1, d2⟩ := d
    refine ⟨⟨15, [15, 133], -1, false, false, 4⟩, by decide, ?_⟩
    refine one_no (take_2 (by omega) (by omega) (by omega)) (by decide) ?_
    refine fld_eq h ?_ rfl
    simp only [InsD.mk.injEq]
    (repeat' apply And.intro) <;> first | rfl | trivial | (dsimp only [List.length_cons, List.length_nil, Nat.reduceAdd]; omega) | omega
  rcases ite_or h with ⟨d, h⟩ | ⟨f16, h⟩
  · obtain ⟨d1, d2⟩ := d
    refine ⟨⟨16, [15, 130], -1, false, false, 4⟩, by decide, ?_⟩
    refine one_no (take_2 (by omega) (by omega) (by omega)) (by decide) ?_
    refine fld_eq h ?_ rfl
    simp only [InsD.mk.injEq]
    (repeat' apply And.intro) <;> first | rfl | trivial | (dsimp only [List.length_cons, List.length_nil, Nat.reduceAdd]; omega) | omega
  cases h
theorem decP_eq {b : List Int} (hB : Bytes b) : decP b = decR b := by
  cases hd : decR b with
  | none =>
    unfold decP
    rw [List.findSome?_eq_none_iff]
    intro f hf
    cases ho : oneF f b with
    | none => rfl
    | some z => rw [one_dec hB f hf z ho] at hd; cases hd
  | some z =>
    obtain ⟨f, hf, ho⟩ := dec_one hB hd
    unfold decP
    cases hs : formsL.findSome? (oneF · b) with
    | none =>
      rw [List.findSome?_eq_none_iff] at hs
      rw [hs f hf] at ho; cases ho
    | some z' =>
      obtain ⟨g, hg, ho'⟩ := List.exists_of_findSome?_eq_some hs
      rw [one_dec hB g hg z' ho'] at hd
      exact hd
/-- Facts on all forms. -/
theorem form_facts : ∀ f ∈ formsL, 1 ≤ f.head.length ∧ f.head.length ≤ 3 ∧ Bytes f.head ∧ (f.width = 0 ∨ f.width = 4 ∨ f.width = 8) ∧ (f.head.length : Int) + (if 0 ≤ f.low then 1 else 0) + f.width ≤ 10 ∧ f.low ≤ 208 ∧ 1 ≤ f.op ∧ f.op ≤ 20 := by
  intro f hf
  simp only [formsL, List.mem_cons, List.not_mem_nil, or_false] at hf
  rcases hf with rfl | rfl | rfl | rfl | rfl | rfl | rfl | rfl | rfl | rfl | rfl | rfl | rfl | rfl | rfl | rfl | rfl | rfl | rfl | rfl <;> exact ⟨by decide, by decide, by unfold Bytes; decide, by decide, by decide, by decide, by decide, by decide⟩
theorem form_op : ∀ f ∈ formsL, ∀ g ∈ formsL, f.op = g.op → f = g := by decide
/-- What an instruction of a form is of. -/
theorem one_parts {f : FormD} (hf : f ∈ formsL) {b : List Int} {z : InsD} (h : oneF f b = some z) :
    z.op = f.op ∧ z.width = f.width ∧ z.len ≤ b.length ∧ 1 ≤ z.len ∧ z.len ≤ 10 ∧ (0 < z.width → z.field + z.width = z.len) ∧ (z.width = 0 → z.field = 0 ∧ z.imm = 0) ∧
    z.len = f.head.length + (if 0 ≤ f.low then 1 else 0) + f.width := by
  obtain ⟨q1, q2, q3, q4, q5, _, _, _⟩ := form_facts f hf
  obtain ⟨hp, hc⟩ := one_cases h
  have hpl := (pre_get hp).1
  have fin : ∀ {x : InsD}, x.width = 0 → x.field = 0 → x.imm = 0 → x.op = f.op → x.len = f.head.length + (if 0 ≤ f.low then 1 else 0) → fldF x b f.width = some z →
      z.op = f.op ∧ z.width = f.width ∧ z.len ≤ b.length ∧ 1 ≤ z.len ∧ z.len ≤ 10 ∧ (0 < z.width → z.field + z.width = z.len) ∧ (z.width = 0 → z.field = 0 ∧ z.imm = 0) ∧ z.len = f.head.length + (if 0 ≤ f.low then 1 else 0) + f.width := by
    intro x x1 x2 x3 x4 x5 hx
    have hl := fldF_len hx
    unfold fldF at hx
    rw [if_neg (by omega)] at hx
    by_cases hw : f.width = 0
    · rw [if_pos hw] at hx
      obtain rfl := Option.some.inj hx
      have hif : 0 ≤ (if 0 ≤ f.low then 1 else 0 : Int) := by split <;> decide
      exact ⟨x4, by omega, by omega, by omega, by omega, fun h => by omega, fun _ => ⟨x2, x3⟩, by omega⟩
    · rw [if_neg hw] at hx
      obtain rfl := Option.some.inj hx
      have hif : 0 ≤ (if 0 ≤ f.low then 1 else 0 : Int) := by split <;> decide
      dsimp only at hl ⊢
      exact ⟨x4, rfl, by omega, by omega, by omega, fun _ => rfl, fun h => absurd h hw, by omega⟩
  rcases hc with ⟨hlow, hlen, k1, k2, hf'⟩ | ⟨hlow, hf'⟩
  · exact fin rfl rfl rfl rfl (by rw [if_pos hlow]) hf'
  · exact fin rfl rfl rfl rfl (by rw [if_neg (by omega)]; simp) hf'
theorem take_app_getD {b c : List Int} {n i : Nat} (hn : n ≤ b.length) (hi : i < n) : (b.take n ++ c).getD i 0 = b.getD i 0 := by
  rw [List.getD_eq_getElem?_getD, List.getD_eq_getElem?_getD, List.getElem?_append_left (by rw [List.length_take]; omega), List.getElem?_take, if_pos hi]
theorem numAt_take {b c : List Int} {n : Nat} (hn : n ≤ b.length) (a w : Int) (h0 : 0 ≤ a) (h1 : 0 ≤ w) (h : a + w ≤ n) : numAt (b.take n ++ c) a w = numAt b a w := by
  unfold numAt
  congr 1
  apply List.ext_getElem?
  intro i
  rw [List.getElem?_take, List.getElem?_take]
  split
  · rw [List.getElem?_drop, List.getElem?_drop, List.getElem?_append_left (by rw [List.length_take]; omega), List.getElem?_take, if_pos (by omega)]
  · rfl
/-- An instruction is told by its own bytes. -/
theorem one_local {f : FormD} (hf : f ∈ formsL) {b c : List Int} {z : InsD} {n : Nat} (h : oneF f b = some z) (hn : (n : Int) = z.len) : oneF f (b.take n ++ c) = some z := by
  obtain ⟨q1, q2, q3, q4, q5, _, _, _⟩ := form_facts f hf
  obtain ⟨p1, p2, p3, p4, p5, p6, p7, p8⟩ := one_parts hf h
  obtain ⟨hp, hc⟩ := one_cases h
  have hpl := (pre_get hp).1
  have hif : 0 ≤ (if 0 ≤ f.low then 1 else 0 : Int) := by split <;> decide
  have hnb : n ≤ b.length := by omega
  have hhn : f.head.length ≤ n := by omega
  have hp' : (b.take n ++ c).take f.head.length = f.head := by
    rw [List.take_append_of_le_length (by rw [List.length_take]; omega), List.take_take, Nat.min_eq_left hhn]; exact hp
  have hlen : (b.take n ++ c).length = n + c.length := by rw [List.length_append, List.length_take]; omega
  have fld : ∀ {x : InsD}, 0 ≤ x.len → x.len + f.width = z.len → fldF x b f.width = some z → fldF x (b.take n ++ c) f.width = some z := by
    intro x hx0 hxl hx
    unfold fldF at hx ⊢
    rw [if_neg (by omega)] at hx
    rw [if_neg (by rw [hlen]; omega)]
    split at hx
    · rename_i hw; rw [if_pos hw]; exact hx
    · rename_i hw
      rw [if_neg hw, numAt_take hnb _ _ hx0 (by omega) (by omega)]; exact hx
  rcases hc with ⟨hlow, hl, k1, k2, hf'⟩ | ⟨hlow, hf'⟩
  · rw [if_pos hlow] at p8
    have hg := take_app_getD (c := c) (n := n) hnb (show f.head.length < n by omega)
    rw [← hg] at k1 k2 hf'
    refine one_reg hp' hlow (by rw [hlen]; omega) k1 k2 ?_
    exact fld (by dsimp only; omega) (by dsimp only; omega) hf'
  · rw [if_neg (by omega)] at p8
    exact one_no hp' hlow (fld (by dsimp only; omega) (by dsimp only; omega) hf')
theorem dec_local {b c : List Int} (hB : Bytes b) (hC : Bytes c) {z : InsD} {n : Nat} (h : decR b = some z) (hn : (n : Int) = z.len) : decR (b.take n ++ c) = some z := by
  obtain ⟨f, hf, ho⟩ := dec_one hB h
  exact one_dec ((hB.take n).append hC) f hf z (one_local hf ho hn)
theorem dec_parts {b : List Int} (hB : Bytes b) {z : InsD} (h : decR b = some z) : z.len ≤ b.length ∧ 1 ≤ z.len ∧ z.len ≤ 10 ∧ (0 < z.width → z.field + z.width = z.len) ∧ (z.width = 0 → z.field = 0) ∧ (z.width = 0 ∨ z.width = 4 ∨ z.width = 8) := by
  obtain ⟨f, hf, ho⟩ := dec_one hB h
  obtain ⟨p1, p2, p3, p4, p5, p6, p7, p8⟩ := one_parts hf ho
  obtain ⟨_, _, _, q4, _⟩ := form_facts f hf
  exact ⟨p3, p4, p5, p6, fun h => (p7 h).1, by rw [p2]; exact q4⟩
/-- An instruction's bytes, by a form. -/
def bldF (f : FormD) (x : InsD) : List Int := f.head ++ (if 0 ≤ f.low then [(f.low + 8 * x.r + x.m) % 256] else []) ++ (if f.width = 4 ∨ f.width = 8 then dig (x.imm % 18446744073709551616) f.width.toNat else [])
theorem dig_sgn {v : Int} {w : Int} (h0 : 0 ≤ v) (h1 : v < 256 ^ w.toNat) (hw : w = 4 ∨ w = 8) : dig (sgnF v w % 18446744073709551616) w.toNat = dig v w.toNat := by
  rw [dig_wrap _ _ (by omega)]
  rw [← dig_mod (sgnF v w), ← dig_mod v]
  congr 1
  rcases hw with rfl | rfl
  · show sgnF v 4 % 256 ^ 4 = v % 256 ^ 4
    unfold sgnF wrap64
    split <;> omega
  · show sgnF v 8 % 256 ^ 8 = v % 256 ^ 8
    unfold sgnF wrap64
    rw [if_neg (by omega)]
    omega
/-- What is read, written, is those bytes. -/
theorem bld_one {f : FormD} (hf : f ∈ formsL) {b : List Int} (hB : Bytes b) {z : InsD} {n : Nat} (h : oneF f b = some z) (hn : (n : Int) = z.len) : bldF f z = b.take n := by
  obtain ⟨q1, q2, q3, q4, q5, _, _, _⟩ := form_facts f hf
  obtain ⟨p1, p2, p3, p4, p5, p6, p7, p8⟩ := one_parts hf h
  obtain ⟨hp, hc⟩ := one_cases h
  have hpl := (pre_get hp).1
  have hif : 0 ≤ (if 0 ≤ f.low then 1 else 0 : Int) := by split <;> decide
  have fld : ∀ {x : InsD} {k : Nat}, x.len = k → x.len + f.width = z.len → x.width = 0 → fldF x b f.width = some z → z.r = x.r ∧ z.m = x.m ∧ (if f.width = 4 ∨ f.width = 8 then dig (z.imm % 18446744073709551616) f.width.toNat else []) = (b.take n).drop k := by
    intro x k hk hxl hx0 hx
    unfold fldF at hx
    rw [if_neg (by omega)] at hx
    by_cases hw : f.width = 0
    · rw [if_pos hw] at hx
      obtain rfl := Option.some.inj hx
      refine ⟨rfl, rfl, ?_⟩
      rw [if_neg (by omega), List.drop_of_length_le (by rw [List.length_take]; omega)]
    · rw [if_neg hw] at hx
      obtain rfl := Option.some.inj hx
      refine ⟨rfl, rfl, ?_⟩
      dsimp only at hn ⊢
      have hw4 : f.width = 4 ∨ f.width = 8 := by omega
      have hr := numAt_range hB x.len f.width
      rw [if_pos hw4, dig_sgn hr.1 hr.2 hw4]
      unfold numAt
      rw [List.drop_take, show x.len.toNat = k by omega, show n - k = f.width.toNat by omega]
      have hl : ((b.drop k).take f.width.toNat).length = f.width.toNat := by rw [List.length_take, List.length_drop]; omega
      have := dig_num ((hB.drop k).take f.width.toNat)
      rw [hl] at this; exact this
  unfold bldF
  have hhead : f.head = b.take f.head.length := hp.symm
  rcases hc with ⟨hlow, hl, k1, k2, hf'⟩ | ⟨hlow, hf'⟩
  · rw [if_pos hlow] at p8
    obtain ⟨r1, r2, r3⟩ := fld (k := f.head.length + 1) (by simp) (by dsimp only; omega) rfl hf'
    rw [r3, if_pos hlow, r1, r2]
    dsimp only
    have hy := getD_b hB f.head.length
    have e : (f.low + 8 * ((b.getD f.head.length 0 - f.low) / 8) + (b.getD f.head.length 0 - f.low) % 8) % 256 = b.getD f.head.length 0 := by omega
    rw [e]
    have hnk : f.head.length + 1 ≤ n := by omega
    have hnb : n ≤ b.length := by omega
    have e2 : f.head ++ [b.getD f.head.length 0] = (b.take n).take (f.head.length + 1) := by
      rw [List.take_take, Nat.min_eq_left hnk, List.take_succ_eq_append_getElem hl, hp]
      simp [hl]
    rw [e2, List.take_append_drop]
  · rw [if_neg (by omega)] at p8
    obtain ⟨r1, r2, r3⟩ := fld (k := f.head.length) rfl (by dsimp only; omega) rfl hf'
    rw [r3, if_neg (by omega), List.append_nil]
    have hnk : f.head.length ≤ n := by omega
    have e2 : f.head = (b.take n).take f.head.length := by rw [List.take_take, Nat.min_eq_left hnk, hp]
    conv => lhs; lhs; rw [e2]
    rw [List.take_append_drop]
/-- An instruction's bytes: the program's, which tries all forms. -/
def encP (x : InsD) : List Int := (formsL.findSome? fun f => if f.op = x.op ∧ decR (bldF f x) = some x then some (bldF f x) else none).getD []
theorem bld_bytes {f : FormD} (hf : f ∈ formsL) (x : InsD) : Bytes (bldF f x) := by
  obtain ⟨q1, q2, q3, q4, q5, _, _, _⟩ := form_facts f hf
  unfold bldF
  refine (q3.append ?_).append ?_
  · split
    · exact Bytes.cons (by omega) (by omega) Bytes.nil
    · exact Bytes.nil
  · split
    · exact dig_bytes _ _
    · exact Bytes.nil
theorem bld_len {f : FormD} (hf : f ∈ formsL) (x : InsD) : ((bldF f x).length : Int) = f.head.length + (if 0 ≤ f.low then 1 else 0) + f.width := by
  obtain ⟨q1, q2, q3, q4, q5, _, _, _⟩ := form_facts f hf
  unfold bldF
  rw [List.length_append, List.length_append]
  have e1 : ((if 0 ≤ f.low then [(f.low + 8 * x.r + x.m) % 256] else []).length : Int) = if 0 ≤ f.low then 1 else 0 := by split <;> rfl
  have e2 : ((if f.width = 4 ∨ f.width = 8 then dig (x.imm % 18446744073709551616) f.width.toNat else []).length : Int) = f.width := by
    split
    · rw [dig_length]; omega
    · show (0 : Int) = _; omega
  rw [Int.natCast_add, Int.natCast_add, e1, e2]
/-- Bytes that are the whole of an instruction are its bytes. -/
theorem enc_unique {c : List Int} (hC : Bytes c) {x : InsD} (h : decR c = some x) (hl : (c.length : Int) = x.len) : encP x = c := by
  obtain ⟨f, hf, ho⟩ := dec_one hC h
  have hb := bld_one hf hC ho hl
  rw [List.take_of_length_le (Nat.le_refl _)] at hb
  have hop := (one_parts hf ho).1
  unfold encP
  cases hs : formsL.findSome? (fun f => if f.op = x.op ∧ decR (bldF f x) = some x then some (bldF f x) else none) with
  | none =>
    rw [List.findSome?_eq_none_iff] at hs
    have := hs f hf
    rw [if_pos ⟨hop.symm, by rw [hb]; exact h⟩] at this
    cases this
  | some d =>
    obtain ⟨g, hg, hd⟩ := List.exists_of_findSome?_eq_some hs
    split at hd
    · rename_i hc
      obtain rfl := Option.some.inj hd
      obtain rfl := form_op g hg f hf (by rw [hc.1, hop])
      exact hb
    · cases hd
/-- What an instruction is written as, if it is one. -/
theorem enc_spec {x : InsD} (h : encP x ≠ []) : Bytes (encP x) ∧ decR (encP x) = some x ∧ ((encP x).length : Int) = x.len := by
  unfold encP at h ⊢
  cases hs : formsL.findSome? (fun f => if f.op = x.op ∧ decR (bldF f x) = some x then some (bldF f x) else none) with
  | none => rw [hs] at h; exact absurd rfl h
  | some d =>
    obtain ⟨g, hg, hd⟩ := List.exists_of_findSome?_eq_some hs
    split at hd
    · rename_i hc
      obtain rfl := Option.some.inj hd
      refine ⟨bld_bytes hg x, hc.2, ?_⟩
      obtain ⟨f, hf, ho⟩ := dec_one (bld_bytes hg x) hc.2
      obtain ⟨p1, p2, p3, p4, p5, p6, p7, p8⟩ := one_parts hf ho
      obtain rfl := form_op f hf g hg (by rw [← p1, hc.1])
      show ((bldF f x).length : Int) = x.len
      rw [bld_len hf, p8]
    · cases hd
def headsR (op : Int) : List Int := if op = 1 then [72, 199] else if op = 3 then [72, 141] else if op = 4 then [72, 139] else if op = 5 ∨ op = 8 then [72, 137] else if op = 6 then [72, 15, 182] else if op = 7 then [72, 136] else if op = 9 then [72, 1] else if op = 10 then [72, 41] else if op = 11 then [72, 129] else if op = 12 then [72, 57] else []
def preR (x : InsD) : List Int × Int :=
  if x.op = 1 ∨ x.op = 11 then (headsR x.op ++ [192 + x.m], 4)
  else if x.op = 2 then ([72, 184 + x.m], 8)
  else if x.op = 3 then (headsR x.op ++ [5 + 8 * x.r], 4)
  else if x.op = 4 ∨ x.op = 5 ∨ x.op = 6 ∨ x.op = 7 then (headsR x.op ++ [128 + 8 * x.r + x.m], 4)
  else if x.op = 8 ∨ x.op = 9 ∨ x.op = 10 ∨ x.op = 12 then (headsR x.op ++ [192 + 8 * x.r + x.m], 0)
  else if x.op = 13 then ([233], 4)
  else if x.op = 14 then ([15, 132], 4)
  else if x.op = 15 then ([15, 133], 4)
  else if x.op = 16 then ([15, 130], 4)
  else if x.op = 17 then ([232], 4)
  else if x.op = 18 then ([255, 208 + x.m], 0)
  else if x.op = 19 then ([195], 0)
  else if x.op = 20 then ([15, 5], 0)
  else ([], 0)
def bldR (x : InsD) : List Int := (preR x).1 ++ (if (preR x).2 = 4 ∨ (preR x).2 = 8 then dig (x.imm % 18446744073709551616) (preR x).2.toNat else [])
def encR (x : InsD) : List Int := if x.r < 0 ∨ x.r > 7 ∨ x.m < 0 ∨ x.m > 7 then [] else if decR (bldR x) = some x then bldR x else []
theorem one_regs {f : FormD} {b : List Int} {z : InsD} (h : oneF f b = some z) : (0 ≤ z.r ∧ z.r ≤ 7 ∧ 0 ≤ z.m ∧ z.m ≤ 7) ∧ (f.r = false ∨ f.low < 0 → z.r = 0) ∧ (f.m = false ∨ f.low < 0 → z.m = 0) := by
  have rm : ∀ {x : InsD} {w : Int}, fldF x b w = some z → z.r = x.r ∧ z.m = x.m := by
    intro x w hx
    unfold fldF at hx
    rcases ite_or hx with ⟨_, hx⟩ | ⟨_, hx⟩
    · cases hx
    · rcases ite_or hx with ⟨_, hx⟩ | ⟨_, hx⟩ <;> obtain rfl := Option.some.inj hx <;> exact ⟨rfl, rfl⟩
  obtain ⟨hp, hc⟩ := one_cases h
  rcases hc with ⟨hlow, hl, k1, k2, hf'⟩ | ⟨hlow, hf'⟩
  · obtain ⟨e1, e2⟩ := rm hf'
    rw [e1, e2]
    dsimp only
    refine ⟨by omega, fun h => ?_, fun h => ?_⟩
    · rcases h with h | h
      · by_cases hq : (b.getD f.head.length 0 - f.low) / 8 = 0
        · exact hq
        · exact absurd (.inr (.inr (.inl ⟨h, hq⟩))) k1
      · omega
    · rcases h with h | h
      · by_cases hq : (b.getD f.head.length 0 - f.low) % 8 = 0
        · exact hq
        · exact absurd (.inr (.inr (.inr ⟨h, hq⟩))) k1
      · omega
  · obtain ⟨e1, e2⟩ := rm hf'
    rw [e1, e2]
    dsimp only
    exact ⟨by decide, fun _ => rfl, fun _ => rfl⟩
theorem bld_same {f : FormD} (hf : f ∈ formsL) {x : InsD} (hop : x.op = f.op) (hr : (0 ≤ x.r ∧ x.r ≤ 7 ∧ 0 ≤ x.m ∧ x.m ≤ 7) ∧ (f.r = false ∨ f.low < 0 → x.r = 0) ∧ (f.m = false ∨ f.low < 0 → x.m = 0)) : bldR x = bldF f x := by
  obtain ⟨r0, r1, r2⟩ := hr
  obtain ⟨op, r, m, len, fi, w, imm⟩ := x
  dsimp only at hop r0 r1 r2
  subst hop
  simp only [formsL, List.mem_cons, List.not_mem_nil, or_false] at hf
  rcases hf with rfl | rfl | rfl | rfl | rfl | rfl | rfl | rfl | rfl | rfl | rfl | rfl | rfl | rfl | rfl | rfl | rfl | rfl | rfl | rfl
  all_goals
    simp only [Bool.true_eq_false, false_or, true_or, forall_const] at r1 r2
    unfold bldR preR headsR bldF
    simp only [Int.reduceEq, false_or, or_false, if_true, if_false, or_self, Int.reduceLE, Int.reduceNeg, List.nil_append, List.cons_append, true_or, or_true]
    first | rfl | skip
  all_goals
    have r1' : 0 ≤ r ∧ r ≤ 7 := ⟨r0.1, r0.2.1⟩
    have m1' : 0 ≤ m ∧ m ≤ 7 := ⟨r0.2.2.1, r0.2.2.2⟩
    try (have hz := r1 (by decide); subst hz)
    try (have hz := r2 (by decide); subst hz)
    congr 1
    congr 1
    try congr 1
    try congr 1
    first | omega | (congr 1; omega) | (congr 2; omega)
theorem bytes_ite {c : Prop} [Decidable c] {a b : List Int × Int} (ha : c → Bytes a.1) (hb : ¬ c → Bytes b.1) : Bytes (if c then a else b).1 := by
  by_cases h : c
  · rw [if_pos h]; exact ha h
  · rw [if_neg h]; exact hb h
theorem encR_eq (x : InsD) : encR x = encP x := by
  unfold encR
  by_cases hd : decR (bldR x) = some x ∧ Bytes (bldR x)
  · obtain ⟨hd, hB⟩ := hd
    obtain ⟨f, hf, ho⟩ := dec_one hB hd
    have hr := one_regs ho
    obtain ⟨p1, _, _, _, _, _, _, p8⟩ := one_parts hf ho
    have hs := bld_same hf p1 hr
    rw [if_neg (by omega), if_pos hd]
    exact (enc_unique hB hd (by rw [hs, bld_len hf, p8])).symm
  · by_cases hc : encP x = []
    · rw [hc]
      split
      · rfl
      · rename_i hrm
        split
        · rename_i h2
          refine absurd ⟨h2, ?_⟩ hd
          -- bytes
          unfold bldR
          refine Bytes.append ?_ ?_
          · have hh : ∀ op : Int, Bytes (headsR op) := fun op => by
              unfold headsR
              repeat (split; · unfold Bytes; decide)
              exact Bytes.nil
            have one : ∀ {y : Int}, 0 ≤ y → y < 256 → Bytes [y] := fun h0 h1 => Bytes.cons h0 h1 Bytes.nil
            unfold preR
            refine bytes_ite (fun _ => ?_) (fun _ => ?_)
            · exact (hh _).append (one (by omega) (by omega))
            refine bytes_ite (fun _ => ?_) (fun _ => ?_)
            · exact Bytes.cons (by decide) (by decide) (one (by omega) (by omega))
            refine bytes_ite (fun _ => ?_) (fun _ => ?_)
            · exact (hh _).append (one (by omega) (by omega))
            refine bytes_ite (fun _ => ?_) (fun _ => ?_)
            · exact (hh _).append (one (by omega) (by omega))
            refine bytes_ite (fun _ => ?_) (fun _ => ?_)
            · exact (hh _).append (one (by omega) (by omega))
            refine bytes_ite (fun _ => ?_) (fun _ => ?_)
            · unfold Bytes; decide
            refine bytes_ite (fun _ => ?_) (fun _ => ?_)
            · unfold Bytes; decide
            refine bytes_ite (fun _ => ?_) (fun _ => ?_)
            · unfold Bytes; decide
            refine bytes_ite (fun _ => ?_) (fun _ => ?_)
            · unfold Bytes; decide
            refine bytes_ite (fun _ => ?_) (fun _ => ?_)
            · unfold Bytes; decide
            refine bytes_ite (fun _ => ?_) (fun _ => ?_)
            · exact Bytes.cons (by decide) (by decide) (one (by omega) (by omega))
            refine bytes_ite (fun _ => ?_) (fun _ => ?_)
            · unfold Bytes; decide
            refine bytes_ite (fun _ => ?_) (fun _ => ?_)
            · unfold Bytes; decide
            exact Bytes.nil
          · split
            · exact dig_bytes _ _
            · exact Bytes.nil
        · rfl
    · obtain ⟨q1, q2, q3⟩ := enc_spec hc
      obtain ⟨f, hf, ho⟩ := dec_one q1 q2
      have hr := one_regs ho
      have p1 := (one_parts hf ho).1
      have hs := bld_same hf p1 hr
      have hb := bld_one hf q1 ho q3
      rw [List.take_of_length_le (Nat.le_refl _)] at hb
      refine absurd ⟨?_, ?_⟩ hd
      · rw [hs, hb]; exact q2
      · rw [hs, hb]; exact q1


end Go.Proofs.Ytlapfdfbgckfcaa.AL
