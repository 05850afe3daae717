/- A part of the proof: rules of an own logic over blocks, and what functions of the program compute, each by its own contract; the conditions stand with each. -/
import Derived.Test.YtiomdnmicagdcaaGreatCi
namespace Go.Proofs.YtiomdnmicagdcaaGreat.AL
open Go Go.RowKit Go.Proofs.YtiomdnmicagdcaaGreat.Base
set_option linter.unusedVariables false
set_option linter.unusedSimpArgs false
set_option maxRecDepth 4000
set_option synthInstance.maxSize 1000
set_option synthInstance.maxHeartbeats 200000
theorem posInd {l : List ObjD} {P : Nat → Nat → Prop} (h0 : P 0 0) (hs : ∀ i k, i < l.length → k < (l.getD i default).syms.length → P i k → P i (k + 1)) (hn : ∀ i, i < l.length → P i (l.getD i default).syms.length → P (i + 1) 0) : (∀ i, i ≤ l.length → P i 0) ∧ ∀ i k, i < l.length → k ≤ (l.getD i default).syms.length → P i k := by
 have hk : ∀ i, i < l.length → P i 0 → ∀ k, k ≤ (l.getD i default).syms.length → P i k := by
  intro i hi h k
  induction k with
  | zero => intro _; exact h
  | succ k ih => intro hk; exact hs i k hi (by omega) (ih (by omega))
 have hi : ∀ i, i ≤ l.length → P i 0 := by
  intro i
  induction i with
  | zero => intro _; exact h0
  | succ i ih => intro hi; exact hn i (by omega) (hk i (by omega) (ih (by omega)) _ (Nat.le_refl _))
 exact ⟨hi, fun i k h1 h2 => hk i h1 (hi i (by omega)) k h2⟩
def nF (l : List ObjD) (nm : ByteArray) (bd : Int) (i k : Nat) : DefD × Int := fK l nm bd i (fI l nm bd i) k
def nD (l : List ObjD) (i k : Nat) : List DefD := dKf l i (dI l i) k
def nP (l : List ObjD) (i k : Nat) : List DefD × Bool := pK l i (pI l i) k
def nS (l : List ObjD) (i k : Nat) : SymD := (l.getD i default).syms.getD k default
def want (a b : DefD × Int) : Option DefD := if a.2 > 0 then some a.1 else if b.2 > 0 then some b.1 else none
theorem nF_yes {l : List ObjD} {nm : ByteArray} {bd : Int} {i k : Nat} (h : isFst l nm bd i k = true) : nF l nm bd i (k + 1) = (if (nF l nm bd i k).2 = 0 then ⟨nm, (i : Int), (k : Int)⟩ else (nF l nm bd i k).1, (nF l nm bd i k).2 + 1) := fK_yes h
theorem nF_no {l : List ObjD} {nm : ByteArray} {bd : Int} {i k : Nat} (h : isFst l nm bd i k = false) : nF l nm bd i (k + 1) = nF l nm bd i k := fK_no h
theorem isFst_iff {l : List ObjD} {nm : ByteArray} {bd : Int} {i k : Nat} : isFst l nm bd i k = true ↔ defB (nS l i k) (dropR l i) = true ∧ (nS l i k).name = nm ∧ (nS l i k).bind = bd := by
 unfold isFst nS
 simp only [Bool.and_eq_true, decide_eq_true_eq, and_assoc]
theorem isFst_ff {l : List ObjD} {nm : ByteArray} {bd : Int} {i k : Nat} (h : ¬ (defB (nS l i k) (dropR l i) = true ∧ (nS l i k).name = nm ∧ (nS l i k).bind = bd)) : isFst l nm bd i k = false := by
 cases hc : isFst l nm bd i k with
 | false => rfl
 | true => exact absurd (isFst_iff.1 hc) h
theorem defB_ne {s : SymD} {dr : List Bool} (h : defB s dr = true) : s.bind ≠ 0 := by
 unfold defB at h
 simp only [Bool.and_eq_true, decide_eq_true_eq] at h
 exact h.1
structure LkI (l : List ObjD) (i k : Nat) : Prop where
 lk : ∀ nm, look (nD l i k) nm = want (nF l nm 1 i k) (nF l nm 2 i k)
 nn : ∀ nm bd, 0 ≤ (nF l nm bd i k).2
 bd : ∀ nm bd, (nF l nm bd i k).2 > 0 → bindD l (nF l nm bd i k).1 = bd ∧ (nF l nm bd i k).1.name = nm
theorem nF_step {l : List ObjD} {i k : Nat} (h : LkI l i k) : (∀ nm bd, 0 ≤ (nF l nm bd i (k + 1)).2) ∧ ∀ nm bd, (nF l nm bd i (k + 1)).2 > 0 → bindD l (nF l nm bd i (k + 1)).1 = bd ∧ (nF l nm bd i (k + 1)).1.name = nm := by
 constructor
 · intro nm bd
   have := h.nn nm bd
   cases hc : isFst l nm bd i k with
   | false => rw [nF_no hc]; exact this
   | true => rw [nF_yes hc]; show (0 : Int) ≤ _ + 1; omega
 · intro nm bd
   have h1 := h.nn nm bd
   have h2 := h.bd nm bd
   cases hc : isFst l nm bd i k with
   | false => rw [nF_no hc]; exact h2
   | true =>
    obtain ⟨h3, h4, h5⟩ := isFst_iff.1 hc
    rw [nF_yes hc]
    intro _
    by_cases e : (nF l nm bd i k).2 = 0
    · show bindD l (if _ then _ else _) = bd ∧ (if _ then _ else _ : DefD).name = nm
      rw [if_pos e]
      refine ⟨?_, rfl⟩
      unfold bindD
      show ((l.getD ((i : Int)).toNat default).syms.getD ((k : Int)).toNat default).bind = bd
      rw [Int.toNat_natCast, Int.toNat_natCast]
      exact h5
    · show bindD l (if _ then _ else _) = bd ∧ (if _ then _ else _ : DefD).name = nm
      rw [if_neg e]
      exact h2 (by omega)
theorem bindD_at (l : List ObjD) (i k : Nat) (nm : ByteArray) : bindD l ⟨nm, (i : Int), (k : Int)⟩ = (nS l i k).bind := by
 unfold bindD nS
 show ((l.getD ((i : Int)).toNat default).syms.getD ((k : Int)).toNat default).bind = _
 rw [Int.toNat_natCast, Int.toNat_natCast]
theorem nD_srt (l : List ObjD) (i k : Nat) : Srt (nD l i k) := dKf_srt (dI_srt l i) k
theorem nD_step (l : List ObjD) (i k : Nat) : nD l i (k + 1) = if defB (nS l i k) (dropR l i) = true then addF l (nD l i k) ⟨(nS l i k).name, (i : Int), (k : Int)⟩ else nD l i k := rfl
theorem lkI_all {l : List ObjD} (hw : ResW l) : (∀ i, i ≤ l.length → LkI l i 0) ∧ ∀ i k, i < l.length → k ≤ (l.getD i default).syms.length → LkI l i k := by
 refine posInd (P := LkI l) ⟨fun nm => rfl, fun nm bd => Int.le_refl _, fun nm bd h => absurd h (by show ¬ (0 : Int) > 0; decide)⟩ (fun i k hi hk h => ?_) (fun i hi h => ⟨h.lk, h.nn, h.bd⟩)
 have hst := nF_step h
 refine ⟨fun nm => ?_, hst.1, hst.2⟩
 have hsy := (hw.sym i k hi hk).1
 have hl := h.lk nm
 have n1 := h.nn nm 1
 have n2 := h.nn nm 2
 have b1 := h.bd nm 1
 have b2 := h.bd nm 2
 rw [nD_step]
 by_cases hd : defB (nS l i k) (dropR l i) = true
 · rw [if_pos hd, look_add (nD_srt l i k), bindD_at]
   have hb0 := defB_ne hd
   by_cases hn : (nS l i k).name = nm
   · rw [if_pos hn]
     have hb : (nS l i k).bind = 1 ∨ (nS l i k).bind = 2 := by unfold nS at hb0 ⊢; omega
     rcases hb with hb | hb
     · rw [nF_yes (isFst_iff.2 ⟨hd, hn, hb⟩), nF_no (bd := 2) (isFst_ff fun c => by have := c.2.2; omega), hl, hb, hn]
       unfold want
       by_cases c1 : (nF l nm 1 i k).2 > 0
       · rw [if_pos c1]
         show (if _ then _ else _ : Option DefD) = if (nF l nm 1 i k).2 + 1 > 0 then some (if (nF l nm 1 i k).2 = 0 then _ else _) else _
         rw [if_neg (by rw [(b1 c1).1]; omega), if_pos (by omega), if_neg (by omega)]
       · rw [if_neg c1]
         show _ = if (nF l nm 1 i k).2 + 1 > 0 then some (if (nF l nm 1 i k).2 = 0 then _ else _) else _
         rw [if_pos (show (nF l nm 1 i k).2 + 1 > 0 by omega), if_pos (show (nF l nm 1 i k).2 = 0 by omega)]
         by_cases c2 : (nF l nm 2 i k).2 > 0
         · rw [if_pos c2]
           show (if _ then _ else _ : Option DefD) = _
           rw [if_pos ⟨(b2 c2).1, rfl⟩]
         · rw [if_neg c2]
     · rw [nF_yes (isFst_iff.2 ⟨hd, hn, hb⟩), nF_no (bd := 1) (isFst_ff fun c => by have := c.2.2; omega), hl, hb, hn]
       unfold want
       by_cases c1 : (nF l nm 1 i k).2 > 0
       · rw [if_pos c1, if_pos c1]
         show (if _ then _ else _ : Option DefD) = _
         rw [if_neg (fun c => by have := c.2; omega)]
       · rw [if_neg c1, if_neg c1]
         show _ = if (nF l nm 2 i k).2 + 1 > 0 then some (if (nF l nm 2 i k).2 = 0 then _ else _) else _
         rw [if_pos (show (nF l nm 2 i k).2 + 1 > 0 by omega)]
         by_cases c2 : (nF l nm 2 i k).2 > 0
         · rw [if_pos c2, if_neg (show ¬ (nF l nm 2 i k).2 = 0 by omega)]
           show (if _ then _ else _ : Option DefD) = _
           rw [if_neg (fun c => by have := c.2; omega)]
         · rw [if_neg c2, if_pos (show (nF l nm 2 i k).2 = 0 by omega)]
   · rw [if_neg hn, nF_no (isFst_ff fun c => hn c.2.1), nF_no (isFst_ff fun c => hn c.2.1)]
     exact hl
 · rw [if_neg hd, nF_no (isFst_ff fun c => hd c.1), nF_no (isFst_ff fun c => hd c.1)]
   exact hl
theorem fK_mono (l : List ObjD) (nm : ByteArray) (bd : Int) (i : Nat) (st : DefD × Int) (k : Nat) : ∀ j : Nat, (fK l nm bd i st k).2 ≤ (fK l nm bd i st (k + j)).2 := by
 intro j
 induction j with
 | zero => exact Int.le_refl _
 | succ j ih =>
  refine Int.le_trans ih ?_
  show _ ≤ (fK l nm bd i st ((k + j) + 1)).2
  rw [fK]
  split
  · show _ ≤ (fK l nm bd i st (k + j)).2 + 1
    omega
  · exact Int.le_refl _
theorem fI_mono (l : List ObjD) (nm : ByteArray) (bd : Int) (i : Nat) : ∀ j : Nat, (fI l nm bd i).2 ≤ (fI l nm bd (i + j)).2 := by
 intro j
 induction j with
 | zero => exact Int.le_refl _
 | succ j ih =>
  refine Int.le_trans ih ?_
  have := fK_mono l nm bd (i + j) (fI l nm bd (i + j)) 0 (l.getD (i + j) default).syms.length
  rw [Nat.zero_add] at this
  exact this
theorem nF_le {l : List ObjD} {nm : ByteArray} {bd : Int} {i k : Nat} (hi : i < l.length) (hk : k ≤ (l.getD i default).syms.length) : (nF l nm bd i k).2 ≤ (fI l nm bd l.length).2 := by
 have h1 := fK_mono l nm bd i (fI l nm bd i) k ((l.getD i default).syms.length - k)
 have h2 := fI_mono l nm bd (i + 1) (l.length - (i + 1))
 rw [show k + ((l.getD i default).syms.length - k) = (l.getD i default).syms.length by omega] at h1
 rw [show i + 1 + (l.length - (i + 1)) = l.length by omega] at h2
 exact Int.le_trans h1 h2
theorem findR_of {l : List ObjD} {nm : ByteArray} (h : (fI l nm 1 l.length).2 > 0 ∨ (fI l nm 2 l.length).2 > 0) : (findR l nm).2 = true := by
 unfold findR
 split
 · rfl
 · rename_i h1
   rcases h with h | h
   · exact absurd h h1
   · exact decide_eq_true h
theorem of_findR {l : List ObjD} {nm : ByteArray} (h : (findR l nm).2 = true) : (fI l nm 1 l.length).2 > 0 ∨ (fI l nm 2 l.length).2 > 0 := by
 unfold findR at h
 split at h
 · rename_i h1; exact .inl h1
 · exact .inr (of_decide_eq_true h)
theorem look_findR {l : List ObjD} (hw : ResW l) (nm : ByteArray) : look (dI l l.length) nm = if (findR l nm).2 = true then some (findR l nm).1 else none := by
 have h := ((lkI_all hw).1 l.length (Nat.le_refl _)).lk nm
 refine h.trans ?_
 show want (fI l nm 1 l.length) (fI l nm 2 l.length) = _
 unfold want findR
 by_cases h1 : (fI l nm 1 l.length).2 > 0
 · rw [if_pos h1, if_pos h1]; rfl
 · rw [if_neg h1, if_neg h1]
   by_cases h2 : (fI l nm 2 l.length).2 > 0
   · rw [if_pos h2, if_pos (decide_eq_true h2)]
   · rw [if_neg h2, if_neg (by rw [decide_eq_false h2]; exact Bool.false_ne_true)]
theorem findB_R {l : List ObjD} (hw : ResW l) (nm : ByteArray) : findB (dI l l.length) nm = (findR l nm).2 := by
 rw [← look_isSome (dI_srt l _), look_findR hw]
 cases (findR l nm).2 <;> rfl
theorem findD_R {l : List ObjD} (hw : ResW l) {nm : ByteArray} (h : (findR l nm).2 = true) : findD (dI l l.length) nm = (findR l nm).1 := by
 have hb : findB (dI l l.length) nm = true := by rw [findB_R hw]; exact h
 have h1 := look_yes (dI_srt l _) hb
 rw [look_findR hw, if_pos h] at h1
 unfold findD
 rw [if_pos hb]
 exact (Option.some.inj h1).symm
theorem findR_name {l : List ObjD} (hw : ResW l) {nm : ByteArray} (h : (findR l nm).2 = true) : (findR l nm).1.name = nm := by
 have h1 := look_findR hw nm
 rw [if_pos h] at h1
 exact (look_mem h1).2
theorem dupAt_iff {l : List ObjD} (hw : ResW l) {i k : Nat} (hi : i < l.length) (hk : k < (l.getD i default).syms.length) : dupAt l i k = true ↔ isFst l (nS l i k).name 1 i k = true ∧ (nF l (nS l i k).name 1 i k).2 > 0 := by
 have h := (lkI_all hw).2 i k hi (by omega)
 have hl := h.lk (nS l i k).name
 have hs := nD_srt l i k
 rw [isFst_iff]
 have e : dupAt l i k = (defB (nS l i k) (dropR l i) && addB l (nD l i k) ⟨(nS l i k).name, (i : Int), (k : Int)⟩) := rfl
 rw [e]
 unfold addB
 rw [bindD_at]
 show (defB (nS l i k) (dropR l i) && (findB (nD l i k) (nS l i k).name && decide (bindD l ((nD l i k).getD (lowF (nD l i k) (nS l i k).name) default) = 1) && decide ((nS l i k).bind = 1))) = true ↔ _
 simp only [Bool.and_eq_true, decide_eq_true_eq]
 unfold want at hl
 constructor
 · rintro ⟨h1, ⟨h2, h3⟩, h4⟩
   refine ⟨⟨h1, trivial, h4⟩, ?_⟩
   rw [look_yes hs h2] at hl
   by_cases c1 : (nF l (nS l i k).name 1 i k).2 > 0
   · exact c1
   · rw [if_neg c1] at hl
     by_cases c2 : (nF l (nS l i k).name 2 i k).2 > 0
     · rw [if_pos c2] at hl
       have := (h.bd _ _ c2).1
       rw [Option.some.inj hl] at h3
       omega
     · rw [if_neg c2] at hl; cases hl
 · rintro ⟨⟨h1, _, h4⟩, h5⟩
   rw [if_pos h5] at hl
   have hb : findB (nD l i k) (nS l i k).name = true := by rw [← look_isSome hs, hl]; rfl
   rw [look_yes hs hb] at hl
   refine ⟨h1, ⟨hb, ?_⟩, h4⟩
   rw [Option.some.inj hl]
   exact (h.bd _ _ h5).1
theorem dup_mny {l : List ObjD} (hw : ResW l) : dupE l ↔ mnyE l := by
 constructor
 · rintro ⟨i, k, hi, hk, hd⟩
   obtain ⟨h1, h2⟩ := (dupAt_iff hw hi hk).1 hd
   refine ⟨i, k, hi, hk, ?_⟩
   have h3 := nF_le (nm := (nS l i k).name) (bd := 1) hi (show k + 1 ≤ _ by omega)
   rw [nF_yes h1] at h3
   have h4 : (nF l (nS l i k).name 1 i k).2 + 1 ≤ (fI l (nS l i k).name 1 l.length).2 := h3
   have h5 := (isFst_iff.1 h1).2.2
   unfold mny
   simp only [Bool.and_eq_true, decide_eq_true_eq]
   exact ⟨by show (nS l i k).bind ≠ 0; omega, by show (fI l (nS l i k).name 1 l.length).2 > 1; omega⟩
 · rintro ⟨i, k, hi, hk, hm⟩
   refine Classical.byContradiction fun hno => ?_
   have hall := (posInd (l := l) (P := fun i k => ∀ nm, (nF l nm 1 i k).2 ≤ 1) (fun nm => by show (0 : Int) ≤ 1; decide) (fun a b ha hb h nm => ?_) (fun a ha h => h)).1 l.length (Nat.le_refl _)
   · unfold mny at hm
     simp only [Bool.and_eq_true, decide_eq_true_eq] at hm
     have h1 : (fI l ((l.getD i default).syms.getD k default).name 1 l.length).2 ≤ 1 := hall _
     omega
   · cases hc : isFst l nm 1 a b with
     | false => rw [nF_no hc]; exact h nm
     | true =>
      rw [nF_yes hc]
      show (nF l nm 1 a b).2 + 1 ≤ 1
      have hn := (isFst_iff.1 hc).2.1
      by_cases c : (nF l nm 1 a b).2 > 0
      · exfalso
        exact hno ⟨a, b, ha, hb, (dupAt_iff hw ha hb).2 ⟨by rw [hn]; exact hc, by rw [hn]; exact c⟩⟩
      · omega
theorem nP_step (l : List ObjD) (i k : Nat) : nP l i (k + 1) = if (nS l i k).bind = 0 then nP l i k else (if (findR l (nS l i k).name).2 = true then putF (nP l i k).1 (findR l (nS l i k).name).1 else (nP l i k).1, (nP l i k).2 || (!(findR l (nS l i k).name).2 && decide ((nS l i k).bind = 1))) := rfl
structure PtI (l : List ObjD) (i k : Nat) : Prop where
 srt : Srt (nP l i k).1
 no : ∀ nm x, look (nP l i k).1 nm = some x → (findR l nm).2 = true ∧ x = (findR l nm).1
 yes : ∀ nm, (nF l nm 1 i k).2 > 0 ∨ (nF l nm 2 i k).2 > 0 → look (nP l i k).1 nm = some (findR l nm).1
theorem ptI_all {l : List ObjD} (hw : ResW l) : (∀ i, i ≤ l.length → PtI l i 0) ∧ ∀ i k, i < l.length → k ≤ (l.getD i default).syms.length → PtI l i k := by
 refine posInd (P := PtI l) ⟨fun i j _ h => absurd h (by show ¬ j < 0; omega), fun nm x h => (by cases h), fun nm h => (by rcases h with h | h <;> exact absurd h (by show ¬ (0 : Int) > 0; decide))⟩ (fun i k hi hk h => ?_) (fun i hi h => ⟨h.srt, h.no, h.yes⟩)
 by_cases hb : (nS l i k).bind = 0
 · have e : nP l i (k + 1) = nP l i k := by rw [nP_step, if_pos hb]
   have hf : ∀ nm bd, nF l nm bd i (k + 1) = nF l nm bd i k := fun nm bd => nF_no (isFst_ff fun c => defB_ne c.1 hb)
   exact ⟨by rw [e]; exact h.srt, by rw [e]; exact h.no, fun nm hc => by rw [hf, hf] at hc; rw [e]; exact h.yes nm hc⟩
 · by_cases hr : (findR l (nS l i k).name).2 = true
   · have e : (nP l i (k + 1)).1 = putF (nP l i k).1 (findR l (nS l i k).name).1 := by rw [nP_step, if_neg hb, if_pos hr]
     have hn := findR_name hw hr
     have hlk : ∀ nm, look (nP l i (k + 1)).1 nm = if (nS l i k).name = nm then some (findR l nm).1 else look (nP l i k).1 nm := fun nm => by
      rw [e, look_put h.srt, hn]
      by_cases c : (nS l i k).name = nm
      · subst c
        rw [if_pos rfl, if_pos rfl]
        cases hq : look (nP l i k).1 (nS l i k).name with
        | none => rfl
        | some x => rw [(h.no _ _ hq).2]; rfl
      · rw [if_neg c, if_neg c]
     refine ⟨by rw [e]; exact put_srt h.srt, fun nm x hx => ?_, fun nm hc => ?_⟩
     · rw [hlk] at hx
       by_cases c : (nS l i k).name = nm
       · subst c
         rw [if_pos rfl] at hx
         exact ⟨hr, (Option.some.inj hx).symm⟩
       · rw [if_neg c] at hx; exact h.no nm x hx
     · rw [hlk]
       by_cases c : (nS l i k).name = nm
       · rw [if_pos c]
       · rw [if_neg c]
         rw [nF_no (isFst_ff fun q => c q.2.1), nF_no (isFst_ff fun q => c q.2.1)] at hc
         exact h.yes nm hc
   · have e : (nP l i (k + 1)).1 = (nP l i k).1 := by rw [nP_step, if_neg hb, if_neg hr]
     refine ⟨by rw [e]; exact h.srt, by rw [e]; exact h.no, fun nm hc => ?_⟩
     rw [e]
     by_cases c : (nS l i k).name = nm
     · exfalso
       apply hr
       subst c
       apply findR_of
       have g1 := nF_le (nm := (nS l i k).name) (bd := 1) hi (show k + 1 ≤ _ by omega)
       have g2 := nF_le (nm := (nS l i k).name) (bd := 2) hi (show k + 1 ≤ _ by omega)
       omega
     · rw [nF_no (isFst_ff fun q => c q.2.1), nF_no (isFst_ff fun q => c q.2.1)] at hc
       exact h.yes nm hc
theorem defs_eq {l : List ObjD} (hw : ResW l) : (pI l l.length).1 = dI l l.length := by
 have h := (ptI_all hw).1 l.length (Nat.le_refl _)
 refine srt_ext h.srt (dI_srt l _) fun nm => ?_
 rw [look_findR hw]
 by_cases hr : (findR l nm).2 = true
 · rw [if_pos hr]
   exact h.yes nm (of_findR hr)
 · rw [if_neg hr]
   show look (nP l l.length 0).1 nm = none
   cases hq : look (nP l l.length 0).1 nm with
   | none => rfl
   | some x => exact absurd (h.no nm x hq).1 hr
def undQ (l : List ObjD) (i k : Nat) : Prop := (nS l i k).bind = 1 ∧ (findR l (nS l i k).name).2 = false
theorem und_eq {l : List ObjD} (hw : ResW l) : undE l ↔ (pI l l.length).2 = true := by
 have h := (posInd (l := l) (P := fun i k => (nP l i k).2 = true ↔ ∃ a b, (a < i ∨ (a = i ∧ b < k)) ∧ a < l.length ∧ b < (l.getD a default).syms.length ∧ undQ l a b) ?_ (fun i k hi hk h => ?_) (fun i hi h => ?_)).1 l.length (Nat.le_refl _)
 · have h2 : (pI l l.length).2 = true ↔ _ := h
   rw [h2]
   constructor
   · rintro ⟨a, b, ha, hb, hu⟩
     refine ⟨a, b, .inl ha, ha, hb, ?_⟩
     unfold undAt at hu
     simp only [Bool.and_eq_true, decide_eq_true_eq, Bool.not_eq_true'] at hu
     rw [findB_R hw] at hu
     exact ⟨hu.1.1, hu.2⟩
   · rintro ⟨a, b, _, ha, hb, h1, h3⟩
     refine ⟨a, b, ha, hb, ?_⟩
     unfold undAt
     simp only [Bool.and_eq_true, decide_eq_true_eq, Bool.not_eq_true']
     rw [findB_R hw]
     refine ⟨⟨h1, ?_⟩, h3⟩
     cases hd : defB (nS l a b) (dropR l a) with
     | false => exact hd
     | true =>
      exfalso
      have g1 := nF_le (nm := (nS l a b).name) (bd := 1) ha (show b + 1 ≤ _ by omega)
      rw [nF_yes (isFst_iff.2 ⟨hd, rfl, h1⟩)] at g1
      have g2 : (nF l (nS l a b).name 1 a b).2 + 1 ≤ (fI l (nS l a b).name 1 l.length).2 := g1
      have g3 := ((lkI_all hw).2 a b ha (by omega)).nn (nS l a b).name 1
      rw [findR_of (.inl (by omega))] at h3
      cases h3
 · constructor
   · intro h; cases h
   · rintro ⟨a, b, h | h, _⟩ <;> omega
 · have hs : (nP l i (k + 1)).2 = true ↔ (nP l i k).2 = true ∨ undQ l i k := by
    rw [nP_step]
    unfold undQ
    by_cases hb : (nS l i k).bind = 0
    · rw [if_pos hb]
      exact ⟨.inl, fun q => by rcases q with q | q; exact q; exact absurd q.1 (by omega)⟩
    · rw [if_neg hb]
      show (_ || _) = true ↔ _
      simp only [Bool.or_eq_true, Bool.and_eq_true, Bool.not_eq_true', decide_eq_true_eq]
      constructor
      · rintro (q | ⟨q1, q2⟩)
        · exact .inl q
        · exact .inr ⟨q2, q1⟩
      · rintro (q | ⟨q1, q2⟩)
        · exact .inl q
        · exact .inr ⟨q2, q1⟩
   rw [hs, h]
   constructor
   · rintro (⟨a, b, h1, h2⟩ | h1)
     · exact ⟨a, b, by omega, h2⟩
     · exact ⟨i, k, by omega, hi, hk, h1⟩
   · rintro ⟨a, b, h1, h2⟩
     by_cases e : a = i ∧ b = k
     · obtain ⟨rfl, rfl⟩ := e
       exact .inr h2.2.2
     · exact .inl ⟨a, b, by omega, h2⟩
 · have e : (nP l (i + 1) 0).2 = (nP l i (l.getD i default).syms.length).2 := rfl
   rw [e, h]
   constructor
   · rintro ⟨a, b, h1, h2⟩
     exact ⟨a, b, by omega, h2⟩
   · rintro ⟨a, b, h1, h2, h3, h4⟩
     refine ⟨a, b, ?_, h2, h3, h4⟩
     by_cases e : a = i
     · subst e; exact .inr ⟨rfl, h3⟩
     · left; omega
theorem tab_w {l : List ObjD} (hk : LOk l) (hw : ResW l) : TabW l ⟨dropF l l.length, dI l l.length⟩ := by
 have h1 := dI_len hw l.length (Nat.le_refl _)
 have h2 := hw.len
 refine ⟨⟨by omega, by show (dI l l.length).length ≤ _; omega⟩, ?_, fun i hi => ?_, fun i k hi hk2 => (hw.sym i k hi hk2).2, fun i hi => ?_, fun k hk2 => ?_, dI_srt l _⟩
 · show (dropF l l.length).length = _
   rw [dropF_len]
 · show ((dropF l l.length).getD i default).length = _
   rw [dropF_get hi, dropR_len]
 · have := hw.sy i hi
   omega
 · exact dI_in l.length (Nat.le_refl _) _ (getD_in hk2)
theorem where_eq {l : List ObjD} (hw : ResW l) (o s : Int) : whereR l ⟨dropF l l.length, dI l l.length⟩ o s = whereF l ⟨dropF l l.length, dI l l.length⟩ o s := by
 unfold whereR whereF
 by_cases h1 : o < 0 ∨ o ≥ l.length ∨ s < 0 ∨ s ≥ (l.getD o.toNat default).syms.length
 · rw [if_pos h1, if_pos h1]
 · rw [if_neg h1, if_neg h1]
   by_cases h2 : ((l.getD o.toNat default).syms.getD s.toNat default).bind = 0
   · rw [if_pos h2, if_pos h2]
   · rw [if_neg h2, if_neg h2]
     show _ = if findB (dI l l.length) _ = true then _ else _
     rw [findB_R hw]
     by_cases h3 : (findR l ((l.getD o.toNat default).syms.getD s.toNat default).name).2 = true
     · rw [if_pos h3, if_pos h3]
       show _ = placeF l _ (findD (dI l l.length) _).obj (findD (dI l l.length) _).sym
       rw [findD_R hw h3]
     · rw [if_neg h3, if_neg h3]
def mayAll (l : List ObjD) : Bool := decide (l.length ≤ 8) && l.all mayP
def dupB (l : List ObjD) : Bool := (List.range l.length).any fun i => (List.range (l.getD i default).syms.length).any fun k => dupAt l i k
def undB (l : List ObjD) : Bool := (List.range l.length).any fun i => (List.range (l.getD i default).syms.length).any fun k => undAt l i k
theorem may_A {l : List ObjD} : AllMay l ↔ mayAll l = true := by
 unfold mayAll AllMay
 rw [Bool.and_eq_true, decide_eq_true_eq, List.all_eq_true]
theorem dup_B {l : List ObjD} : dupE l ↔ dupB l = true := by
 unfold dupB dupE
 simp only [List.any_eq_true, List.mem_range]
 exact ⟨fun ⟨i, k, h1, h2, h3⟩ => ⟨i, h1, k, h2, h3⟩, fun ⟨i, h1, k, h2, h3⟩ => ⟨i, k, h1, h2, h3⟩⟩
theorem und_B {l : List ObjD} : undE l ↔ undB l = true := by
 unfold undB undE
 simp only [List.any_eq_true, List.mem_range]
 exact ⟨fun ⟨i, k, h1, h2, h3⟩ => ⟨i, h1, k, h2, h3⟩, fun ⟨i, h1, k, h2, h3⟩ => ⟨i, k, h1, h2, h3⟩⟩
/-- The error's number, and the table. -/
def resE (l : List ObjD) : Int := if mayAll l = false then 1 else if dupB l = true then 3 else if undB l = true then 4 else 0
def resT (l : List ObjD) : TabD := if resE l = 0 then ⟨dropF l l.length, dI l l.length⟩ else ⟨[], []⟩
theorem resT_0 {l : List ObjD} (h : resE l = 0) : resT l = ⟨dropF l l.length, dI l l.length⟩ := by unfold resT; rw [if_pos h]
theorem resT_n {l : List ObjD} (h : resE l ≠ 0) : resT l = ⟨[], []⟩ := by unfold resT; rw [if_neg h]
theorem resE_0 {l : List ObjD} (h : resE l = 0) : AllMay l := by
 rw [may_A]
 cases c : mayAll l with
 | true => rfl
 | false =>
  unfold resE at h
  rw [if_pos c] at h; cases h
theorem resE_1 {l : List ObjD} (h1 : ¬ AllMay l) : resE l = 1 := by
 rw [may_A, Bool.not_eq_true] at h1
 unfold resE; rw [if_pos h1]
theorem resE_3 {l : List ObjD} (h1 : AllMay l) (h2 : dupE l) : resE l = 3 := by
 rw [may_A] at h1
 unfold resE; rw [if_neg (by rw [h1]; decide), if_pos (dup_B.1 h2)]
theorem resE_4 {l : List ObjD} (h1 : AllMay l) (h2 : ¬ dupE l) (h3 : undE l) : resE l = 4 := by
 rw [may_A] at h1
 unfold resE; rw [if_neg (by rw [h1]; decide), if_neg (fun c => h2 (dup_B.2 c)), if_pos (und_B.1 h3)]
theorem resE_ok {l : List ObjD} (h1 : AllMay l) (h2 : ¬ dupE l) (h3 : ¬ undE l) : resE l = 0 := by
 rw [may_A] at h1
 unfold resE; rw [if_neg (by rw [h1]; decide), if_neg (fun c => h2 (dup_B.2 c)), if_neg (fun c => h3 (und_B.2 c))]
end Go.Proofs.YtiomdnmicagdcaaGreat.AL
namespace Go.Proofs.YtiomdnmicagdcaaGreat.AL
open Go Go.RowKit Go.Proofs.YtiomdnmicagdcaaGreat.Base
set_option linter.unusedVariables false
set_option linter.unusedSimpArgs false
set_option maxRecDepth 4000
set_option synthInstance.maxSize 1000
set_option synthInstance.maxHeartbeats 200000
def dsum (l : List SecD) : Nat := (l.map fun s => s.data.length).sum
def smallB (o : ObjD) : Bool := !(decide ((o.secs.length : Int) > 40) || decide ((o.syms.length : Int) > 140) || decide ((o.groups.length : Int) > 40) || decide ((o.sig.length : Int) > 200)) && (o.secs.all fun s => !(decide ((s.data.length : Int) > 20000) || decide ((s.rels.length : Int) > 80))) && (o.groups.all fun g => !decide ((g.mem.length : Int) > 50)) && !decide ((dsum o.secs : Int) > 40000)
theorem dsum_succ {l : List SecD} {i : Nat} (h : i < l.length) : dsum (l.take (i + 1)) = dsum (l.take i) + (l.getD i default).data.length := by
 unfold dsum
 rw [map_take_succ _ h, List.sum_append]; simp
theorem dsum_le {l : List SecD} (h : ∀ s ∈ l, s.data.length ≤ 20000) : dsum l ≤ 20000 * l.length := by
 induction l with
 | nil => simp [dsum]
 | cons s l ih =>
  have h1 := ih fun x hx => h x (List.mem_cons_of_mem _ hx)
  have h2 := h s List.mem_cons_self
  unfold dsum at h1 ⊢
  rw [List.map_cons, List.sum_cons, List.length_cons]
  omega
structure SmallW (o : ObjD) : Prop where
 len : o.secs.length ≤ 40 ∧ o.syms.length ≤ 140 ∧ o.groups.length ≤ 40 ∧ o.sig.length ≤ 200
 sec : ∀ s ∈ o.secs, s.data.length ≤ 20000 ∧ s.rels.length ≤ 80
 grp : ∀ g ∈ o.groups, g.mem.length ≤ 50
theorem small_W {o : ObjD} (h : smallB o = true) : SmallW o := by
 unfold smallB at h
 simp only [Bool.and_eq_true, Bool.not_eq_true', Bool.or_eq_false_iff, decide_eq_false_iff_not] at h
 obtain ⟨⟨⟨h1, h2⟩, h3⟩, h4⟩ := h
 refine ⟨by omega, fun s hs => ?_, fun g hg => ?_⟩
 · have := List.all_eq_true.1 h2 s hs
   simp only [Bool.not_eq_true', Bool.or_eq_false_iff, decide_eq_false_iff_not] at this
   omega
 · have := List.all_eq_true.1 h3 g hg
   simp only [Bool.not_eq_true', decide_eq_false_iff_not] at this
   omega
theorem smallB_bound {o : ObjD} (h : smallB o = true) : dsum o.secs ≤ 800000 := by
 have W := small_W h
 have h1 := dsum_le (l := o.secs) fun s hs => (W.sec s hs).1
 have h2 := W.len
 omega
def dsumO (l : List ObjD) : Nat := (l.map fun o => dsum o.secs).sum
theorem dsumO_succ {l : List ObjD} {i : Nat} (h : i < l.length) : dsumO (l.take (i + 1)) = dsumO (l.take i) + dsum (l.getD i default).secs := by
 unfold dsumO
 rw [map_take_succ _ h, List.sum_append]; simp
def fewB (l : List ObjD) : Bool := !decide ((l.length : Int) > 10) && l.all smallB && !decide ((dsumO l : Int) > 12000)
theorem few_W {l : List ObjD} (h : fewB l = true) : l.length ≤ 10 ∧ (∀ o ∈ l, SmallW o) ∧ dsumO l ≤ 12000 := by
 unfold fewB at h
 simp only [Bool.and_eq_true, Bool.not_eq_true', decide_eq_false_iff_not, List.all_eq_true] at h
 exact ⟨by omega, fun o ho => small_W (h.1.2 o ho), by omega⟩
theorem few_lok {l : List ObjD} (hok : ∀ o ∈ l, o.ok) (h : fewB l = true) : LOk l := by
 obtain ⟨h1, h2, h3⟩ := few_W h
 refine ⟨by omega, fun o ho => ⟨hok o ho, ?_, ?_⟩, fun o ho => ⟨?_, fun g hg => ?_⟩⟩
 · have := (h2 o ho).len; omega
 · have := (h2 o ho).len; omega
 · have := (h2 o ho).len; omega
 · have := (h2 o ho).grp g hg; omega
theorem small_ff {b : Bool} (h : decide ((if b = true then (1 : Int) else 0) = 0) = true) : b = false := by cases b <;> simp at h ⊢
theorem small_tt {b : Bool} (h : decide ((if b = true then (1 : Int) else 0) = 0) = false) : b = true := by cases b <;> simp at h ⊢
set_option maxHeartbeats 1000000 in
theorem law_Small (o : ObjD) (ho : o.ok) : A0 Tryz.prog 24 [.agg (objA o)] (fun ret => ret = .v (.int .i64 (if smallB o = true then 1 else 0))) := by
 have ho0 := ho
 obtain ⟨q1, q2, q3, q4, q5, q6, q7, q8⟩ := ho
 rw [maxLen_eq] at q1 q3 q5 q7
 refine A0.body 79 Tryz.func24 rfl rfl Tryz.ntmps24 fun base n0 => ?_
 refine AW.seq' ?_
 refine AW.region ?_
 refine AO.ww ?_
 refine AO.c ?_
 refine AO.nil ?_
 refine SQ.normal ?_
 refine AW.seq' ?_
 refine AW.seq' ?_
 refine AW.region ?_
 iterate 5 refine AO.c ?_
 iterate 4 refine AO.gx ?_
 iterate 2 refine AO.c ?_
 iterate 4 refine AO.gx ?_
 iterate 2 refine AO.c ?_
 iterate 4 refine AO.gx ?_
 refine AO.c ?_
 refine AO.nil ?_
 refine SQ.normal ?_
 refine AW.iteB (GL.ev _) (fun h0 => ?_) (fun h0 => ?_)
 ·
  have hb : smallB o = false := by unfold smallB; rw [h0]; rfl
  refine AW.seq' ?_
  refine AW.region ?_
  refine AO.c ?_
  refine AO.nil ?_
  refine SQ.normal ?_
  refine AW.ret ?_
  refine SQ.ret ?_
  refine Fin.ret (Gh.refl) noid1 ?_
  rw [hb]; rfl
 ·
  have h0w := h0
  simp only [Bool.or_eq_false_iff, decide_eq_false_iff_not] at h0w
  refine AW.skip ?_
  refine SQ.normal ?_
  refine AW.seq' ?_
  refine AW.region ?_
  refine AO.c ?_
  refine AO.nil ?_
  refine SQ.normal ?_
  refine AW.seq' ?_
  refine AW.seq' ?_
  refine AW.region ?_
  refine AO.c ?_
  refine AO.nil ?_
  refine SQ.normal ?_
  refine AW.block' ?_
  refine AW.loopU [.f, .k, .f, .k, .k, .F, .F, .F, .F, .F, .F, .F, .F, .F, .f, .f] (fun (i : Nat) => [(3, .v (.int .i64 ((dsum (o.secs.take i) : Int)))), (4, .v (.int .i64 (i)))]) (fun i => Hn n0 [some (.box 61 (objA o))]) (fun m i => (i ≤ o.secs.length ∧ m = o.secs.length - i) ∧ dsum (o.secs.take i) ≤ 20000 * i ∧ ((o.secs.take i).all fun s => !(decide ((s.data.length : Int) > 20000) || decide ((s.rels.length : Int) > 80))) = true) (o.secs.length) (0) ⟨by omega, by simp [dsum], rfl⟩ (by simp [dsum]) (by first | rfl | (simp; done)) ?_
  rintro m0 i ⟨hx1, hx2, hx3⟩
  refine AW.seq' ?_
  refine AW.seq' ?_
  refine AW.region ?_
  iterate 5 refine AO.c ?_
  refine AO.nil ?_
  refine SQ.normal ?_
  refine AW.iteB (GL.ev _) (fun h1 => ?_) (fun h1 => ?_)
  ·
   rw [decide_eq_true_eq] at h1
   have hi : i < o.secs.length := by omega
   refine AW.skip ?_
   refine SQ.normal ?_
   refine AW.seq' ?_
   refine AW.block' ?_
   refine AW.seq' ?_
   refine AW.seq' ?_
   refine AW.region ?_
   iterate 3 refine AO.c ?_
   refine AO.oo ?_
   iterate 5 refine AO.c ?_
   iterate 3 refine AO.gx ?_
   refine AO.gxoo ?_
   iterate 4 refine AO.gx ?_
   refine AO.c ?_
   refine AO.nil ?_
   refine SQ.normal ?_
   refine AW.iteB (GL.ev _) (fun h2 => ?_) (fun h2 => ?_)
   ·
    have hb : smallB o = false := by
     unfold smallB
     rw [all_false_at hi (by (try dsimp only); rw [h2]; rfl)]; simp
    refine AW.seq' ?_
    refine AW.region ?_
    refine AO.c ?_
    refine AO.nil ?_
    refine SQ.normal ?_
    refine AW.ret ?_
    refine SQ.ret <| BQ.ret <| SQ.ret <| AW.out <| LU.ret <| BQ.ret <| SQ.ret ?_
    refine Fin.ret (Gh.refl) noid1 ?_
    rw [hb]; rfl
   ·
    have h2w := h2
    simp only [Bool.or_eq_false_iff, decide_eq_false_iff_not] at h2w
    have hal : ((o.secs.take (i + 1)).all fun s => !(decide ((s.data.length : Int) > 20000) || decide ((s.rels.length : Int) > 80))) = true := by
     rw [all_take_succ hi, hx3]; (try dsimp only); rw [h2]; rfl
    have hd := dsum_succ hi
    refine AW.skip ?_
    refine SQ.normal ?_
    refine AW.region ?_
    iterate 4 refine AO.c ?_
    refine AO.oo ?_
    iterate 3 refine AO.c ?_
    refine AO.oo ?_
    refine AO.c ?_
    refine AO.nil ?_
    refine BQ.normal ?_
    refine SQ.normal ?_
    refine AW.region ?_
    refine AO.c ?_
    refine AO.oo ?_
    refine AO.c ?_
    refine AO.nil ?_
    exact AW.backU [.f, .k, .f, .k, .k, .F, .F, .F, .F, .F, .F, .F, .F, .F, .f, .f] (m0 - 1) (i + 1) (by omega) (by (try dsimp only); exact ⟨by omega, by omega, hal⟩) (by rw [hd]; simp) (by first | rfl | (simp; done))
  ·
   rw [decide_eq_false_iff_not] at h1
   have hi : i = o.secs.length := by omega
   subst hi
   rw [List.take_of_length_le (Nat.le_refl _)] at *
   refine AW.exit ?_
   refine SQ.exit <| AW.out <| LU.exit <| BQ.exit ?_
   refine SQ.normal ?_
   refine AW.seq' ?_
   refine AW.seq' ?_
   refine AW.region ?_
   refine AO.c ?_
   refine AO.nil ?_
   refine SQ.normal ?_
   refine AW.block' ?_
   refine AW.loopU [.f, .k, .f, .k, .f, .k, .F, .F, .F, .F, .F, .F, .F, .F, .F, .f] (fun (k : Nat) => [(5, .v (.int .i64 (k)))]) (fun k => Hn n0 [some (.box 61 (objA o))]) (fun m k => (k ≤ o.groups.length ∧ m = o.groups.length - k) ∧ ((o.groups.take k).all fun g => !decide ((g.mem.length : Int) > 50)) = true) (o.groups.length) (0) ⟨by omega, rfl⟩ (by first | rfl | (simp; done)) (by first | rfl | (simp; done)) ?_
   rintro m1 k ⟨hy1, hy3⟩
   refine AW.seq' ?_
   refine AW.seq' ?_
   refine AW.region ?_
   iterate 5 refine AO.c ?_
   refine AO.nil ?_
   refine SQ.normal ?_
   refine AW.iteB (GL.ev _) (fun h3 => ?_) (fun h3 => ?_)
   ·
    rw [decide_eq_true_eq] at h3
    have hk : k < o.groups.length := by omega
    refine AW.skip ?_
    refine SQ.normal ?_
    refine AW.seq' ?_
    refine AW.block' ?_
    refine AW.seq' ?_
    refine AW.region ?_
    iterate 3 refine AO.c ?_
    refine AO.oo ?_
    iterate 4 refine AO.c ?_
    refine AO.nil ?_
    refine SQ.normal ?_
    refine AW.iteB (GL.ev _) (fun h4 => ?_) (fun h4 => ?_)
    ·
     have hb : smallB o = false := by
      unfold smallB
      rw [all_false_at (l := o.groups) hk (by (try dsimp only); rw [h4]; rfl)]; simp
     refine AW.seq' ?_
     refine AW.region ?_
     refine AO.c ?_
     refine AO.nil ?_
     refine SQ.normal ?_
     refine AW.ret ?_
     refine BQ.ret <| SQ.ret <| AW.out <| LU.ret <| BQ.ret <| SQ.ret ?_
     refine Fin.ret (Gh.refl) noid1 ?_
     rw [hb]; rfl
    ·
     have hal2 : ((o.groups.take (k + 1)).all fun g => !decide ((g.mem.length : Int) > 50)) = true := by
      rw [all_take_succ hk, hy3]; (try dsimp only); rw [h4]; rfl
     refine AW.skip ?_
     refine BQ.normal ?_
     refine SQ.normal ?_
     refine AW.region ?_
     refine AO.c ?_
     refine AO.oo ?_
     refine AO.c ?_
     refine AO.nil ?_
     exact AW.backU [.f, .k, .f, .k, .f, .k, .F, .F, .F, .F, .F, .F, .F, .F, .F, .f] (m1 - 1) (k + 1) (by omega) (by (try dsimp only); exact ⟨by omega, hal2⟩) (by first | rfl | (simp; done)) (by first | rfl | (simp; done))
   ·
    rw [decide_eq_false_iff_not] at h3
    have hk : k = o.groups.length := by omega
    subst hk
    rw [List.take_of_length_le (Nat.le_refl _)] at hy3
    refine AW.exit ?_
    refine SQ.exit <| AW.out <| LU.exit <| BQ.exit ?_
    refine SQ.normal ?_
    refine AW.seq' ?_
    refine AW.seq' ?_
    refine AW.region ?_
    iterate 2 refine AO.c ?_
    refine AO.nil ?_
    refine SQ.normal ?_
    refine AW.iteB (GL.ev _) (fun h5 => ?_) (fun h5 => ?_)
    ·
     have hb : smallB o = false := by unfold smallB; rw [h5]; simp
     refine AW.seq' ?_
     refine AW.region ?_
     refine AO.c ?_
     refine AO.nil ?_
     refine SQ.normal ?_
     refine AW.ret ?_
     refine SQ.ret ?_
     refine Fin.ret (Gh.refl) noid1 ?_
     rw [hb]; rfl
    ·
     have hb : smallB o = true := by unfold smallB; rw [h0, hx3, hy3, h5]; rfl
     refine AW.skip ?_
     refine SQ.normal ?_
     refine AW.seq' ?_
     refine AW.region ?_
     refine AO.c ?_
     refine AO.nil ?_
     refine SQ.normal ?_
     refine AW.ret ?_
     refine Fin.ret (Gh.refl) noid1 ?_
     rw [hb]; rfl
theorem law_Bools (a : List Bool) (ha : a.length ≤ 1000000) : A0 Tryz.prog 35 [.rd 1 (a.map bA), .rd 1 (a.map bA)] (fun ret => ret = .v (.int .i64 (1))) := by
 refine A0.body 26 Tryz.func35 rfl rfl Tryz.ntmps35 fun base n0 => ?_
 refine AW.seq' ?_
 refine AW.region ?_
 refine AO.c ?_
 refine AO.nil ?_
 refine SQ.normal ?_
 refine AW.seq' ?_
 refine AW.seq' ?_
 refine AW.region ?_
 iterate 5 refine AO.c ?_
 refine AO.nil ?_
 refine SQ.normal ?_
 refine AW.iteB (GL.ev _) (fun h0 => ?_) (fun h0 => ?_)
 ·
  exfalso
  simp at h0
 ·
  skip
  refine AW.skip ?_
  refine SQ.normal ?_
  refine AW.seq' ?_
  refine AW.seq' ?_
  refine AW.region ?_
  refine AO.c ?_
  refine AO.nil ?_
  refine SQ.normal ?_
  refine AW.block' ?_
  refine AW.loopU [.k, .k, .f, .f, .f, .k, .F, .F, .f, .f, .f, .f] (fun (i : Nat) => [(5, .v (.int .i64 (i)))]) (fun i => Hn n0 []) (fun m i => i ≤ a.length ∧ m = a.length - i) (a.length) (0) ⟨by omega, by omega⟩ (by first | rfl | (simp; done)) (by first | rfl | (simp; done)) ?_
  rintro m0 i ⟨hx1, hx2⟩
  refine AW.seq' ?_
  refine AW.seq' ?_
  refine AW.region ?_
  iterate 4 refine AO.c ?_
  refine AO.nil ?_
  refine SQ.normal ?_
  refine AW.iteB (GL.ev _) (fun h1 => ?_) (fun h1 => ?_)
  ·
   try simp only [Bool.and_eq_true, Bool.or_eq_true, Bool.not_eq_true', Bool.and_eq_false_iff, Bool.or_eq_false_iff, decide_eq_true_eq, decide_eq_false_iff_not, bys_length] at h1
   refine AW.skip ?_
   refine SQ.normal ?_
   refine AW.seq' ?_
   refine AW.block' ?_
   refine AW.seq' ?_
   refine AW.drawsZ [] (.one 0 false (.one 1 false (.one 2 false (.one 3 false (.one 4 false (.one 5 false (.one 6 false (.one 7 false (.one 8 false .nil))))))))) (by kernel_rfl) rfl (by kernel_rfl) ?_
   iterate 2 refine AZ.c rfl ?_
   refine AZ.oo rfl ?_
   iterate 3 refine AZ.c rfl ?_
   refine AZ.oo rfl ?_
   iterate 2 refine AZ.c rfl ?_
   refine AZ.done ?_
   refine SQ.normal ?_
   refine AW.iteB (GL.ev _) (fun h2 => ?_) (fun h2 => ?_)
   ·
    exfalso
    simp at h2
   ·
    skip
    refine AW.skip ?_
    refine BQ.normal ?_
    refine SQ.normal ?_
    refine AW.region ?_
    refine AO.c ?_
    refine AO.oo ?_
    refine AO.c ?_
    refine AO.nil ?_
    exact AW.backU [.k, .k, .f, .f, .f, .k, .F, .F, .f, .f, .f, .f] (m0 - 1) (i + 1) (by omega) (by (try dsimp only); exact ⟨by omega, by omega⟩) (by first | rfl | (simp; done)) (by first | rfl | (simp; done))
  ·
   try simp only [Bool.and_eq_true, Bool.or_eq_true, Bool.not_eq_true', Bool.and_eq_false_iff, Bool.or_eq_false_iff, decide_eq_true_eq, decide_eq_false_iff_not, bys_length] at h1
   refine AW.exit ?_
   refine SQ.exit <| AW.out <| LU.exit <| BQ.exit ?_
   refine SQ.normal ?_
   refine AW.seq' ?_
   refine AW.region ?_
   refine AO.c ?_
   refine AO.nil ?_
   refine SQ.normal ?_
   refine AW.ret ?_
   refine Fin.ret (Gh.refl) noid1 ?_
   first | rfl | (simp [packA]; done)
theorem law_Code (k : Int) (hk : 0 ≤ k ∧ k ≤ 8) : A0 Tryz.prog 10 [.v (ifV 67 k)] (fun ret => ret = .v (.int .i64 (k))) := by
 refine A0.body 15 Tryz.func10 rfl rfl Tryz.ntmps10 fun base n0 => ?_
 refine AW.seq' ?_
 refine AW.region ?_
 refine AO.c ?_
 refine AO.nil ?_
 refine SQ.normal ?_
 refine AW.seq' ?_
 refine AW.seq' ?_
 refine AW.region ?_
 iterate 2 refine AO.c ?_
 refine AO.nil ?_
 refine SQ.normal ?_
 refine AW.iteB (GL.ev _) (fun h0 => ?_) (fun h0 => ?_)
 ·
  rw [decide_eq_true_eq] at h0
  refine AW.seq' ?_
  refine AW.region ?_
  refine AO.c ?_
  refine AO.nil ?_
  refine SQ.normal ?_
  refine AW.ret ?_
  refine SQ.ret ?_
  refine Fin.ret (Gh.refl) noid1 ?_
  rw [h0]; rfl
 ·
  rw [decide_eq_false_iff_not] at h0
  refine AW.skip ?_
  refine SQ.normal ?_
  refine AW.seq' ?_
  refine AW.seq' ?_
  refine AW.region ?_
  refine AO.c ?_
  refine AO.nil ?_
  refine SQ.normal ?_
  refine AW.block' ?_
  refine AW.loopU [.k, .f, .f, .k, .F, .f, .f, .f] (fun (c : Int) => [(3, .v (.int .i64 (c)))]) (fun c => Hn n0 []) (fun m c => (1 ≤ c ∧ c ≤ k) ∧ m = (k - c).toNat) ((k - 1).toNat) (1) ⟨by omega, by omega⟩ (by first | rfl | (simp; done)) (by first | rfl | (simp; done)) ?_
  rintro m0 c ⟨hx1, hx2⟩
  refine AW.seq' ?_
  refine AW.seq' ?_
  refine AW.region ?_
  iterate 2 refine AO.c ?_
  refine AO.nil ?_
  refine SQ.normal ?_
  refine AW.iteB (GL.ev _) (fun h1 => ?_) (fun h1 => ?_)
  ·
   skip
   refine AW.skip ?_
   refine SQ.normal ?_
   refine AW.seq' ?_
   refine AW.block' ?_
   refine AW.seq' ?_
   refine AW.region ?_
   iterate 3 refine AO.c ?_
   refine AO.oo ?_
   refine AO.nil ?_
   refine SQ.normal ?_
   refine AW.iteB (GL.ev _) (fun h2 => ?_) (fun h2 => ?_)
   ·
    rw [decide_eq_true_eq] at h2
    refine AW.seq' ?_
    refine AW.region ?_
    iterate 2 refine AO.c ?_
    refine AO.nil ?_
    refine SQ.normal ?_
    refine AW.ret ?_
    refine BQ.ret <| SQ.ret <| AW.out <| LU.ret <| BQ.ret <| SQ.ret ?_
    refine Fin.ret (Gh.refl) noid1 ?_
    rw [h2]; rfl
   ·
    rw [decide_eq_false_iff_not] at h2
    refine AW.skip ?_
    refine BQ.normal ?_
    refine SQ.normal ?_
    refine AW.region ?_
    refine AO.c ?_
    refine AO.oo ?_
    refine AO.c ?_
    refine AO.nil ?_
    exact AW.backU [.k, .f, .f, .k, .F, .f, .f, .f] (m0 - 1) (c + 1) (by omega) (by (try dsimp only); exact ⟨by omega, by omega⟩) (by first | rfl | (simp; done)) (by first | rfl | (simp; done))
  ·
   exfalso
   rw [decide_eq_false_iff_not] at h1
   omega
set_option maxHeartbeats 1000000 in
theorem law_Few (l : List ObjD) (hl : l.length ≤ 9223372036854775807) (hok : ∀ o ∈ l, o.ok) : A0 Tryz.prog 7 [.rd 5 (l.map objA)] (fun ret => ret = .v (.int .i64 (if fewB l = true then 1 else 0))) := by
 refine A0.body 45 Tryz.func7 rfl rfl Tryz.ntmps7 fun base n0 => ?_
 refine AW.seq' ?_
 refine AW.region ?_
 refine AO.c ?_
 refine AO.nil ?_
 refine SQ.normal ?_
 refine AW.seq' ?_
 refine AW.seq' ?_
 refine AW.region ?_
 iterate 3 refine AO.c ?_
 refine AO.nil ?_
 refine SQ.normal ?_
 refine AW.iteB (GL.ev _) (fun h0 => ?_) (fun h0 => ?_)
 ·
  have hb : fewB l = false := by unfold fewB; rw [h0]; rfl
  refine AW.seq' ?_
  refine AW.region ?_
  refine AO.c ?_
  refine AO.nil ?_
  refine SQ.normal ?_
  refine AW.ret ?_
  refine SQ.ret ?_
  refine Fin.ret (Gh.refl) noid1 ?_
  rw [hb]; rfl
 ·
  have h0w := h0
  rw [decide_eq_false_iff_not] at h0w
  refine AW.skip ?_
  refine SQ.normal ?_
  refine AW.seq' ?_
  refine AW.region ?_
  refine AO.c ?_
  refine AO.nil ?_
  refine SQ.normal ?_
  refine AW.seq' ?_
  refine AW.seq' ?_
  refine AW.region ?_
  refine AO.c ?_
  refine AO.nil ?_
  refine SQ.normal ?_
  refine AW.block' ?_
  refine AW.loopU [.k, .f, .f, .k, .k, .F, .F, .F, .F, .F] (fun (i : Nat) => [(3, .v (.int .i64 ((dsumO (l.take i) : Int)))), (4, .v (.int .i64 (i)))]) (fun i => Hn n0 []) (fun m i => (i ≤ l.length ∧ m = l.length - i) ∧ dsumO (l.take i) ≤ 800000 * i ∧ ((l.take i).all smallB) = true) (l.length) (0) ⟨by omega, by simp [dsumO], rfl⟩ (by simp [dsumO]) (by first | rfl | (simp; done)) ?_
  rintro m0 i ⟨hx1, hx2, hx3⟩
  refine AW.seq' ?_
  refine AW.seq' ?_
  refine AW.region ?_
  iterate 4 refine AO.c ?_
  refine AO.nil ?_
  refine SQ.normal ?_
  refine AW.iteB (GL.ev _) (fun h1 => ?_) (fun h1 => ?_)
  ·
   rw [decide_eq_true_eq] at h1
   have hi : i < l.length := by omega
   refine AW.skip ?_
   refine SQ.normal ?_
   refine AW.seq' ?_
   refine AW.block' ?_
   refine AW.seq' ?_
   refine AW.seq' ?_
   refine AW.region ?_
   iterate 2 refine AO.c ?_
   refine AO.oo ?_
   refine AO.c ?_
   refine AO.call1 Tryz.func24 rfl rfl (law_Small (l.getD i default) (hok _ (getD_in hi))) ?_
   refine AO.c ?_
   refine AO.nil ?_
   refine SQ.normal ?_
   refine AW.iteB (GL.ev _) (fun h2 => ?_) (fun h2 => ?_)
   ·
    have hs := small_ff h2
    have hb : fewB l = false := by unfold fewB; rw [all_false_at hi hs]; simp
    refine AW.seq' ?_
    refine AW.region ?_
    refine AO.c ?_
    refine AO.nil ?_
    refine SQ.normal ?_
    refine AW.ret ?_
    refine SQ.ret <| BQ.ret <| SQ.ret <| AW.out <| LU.ret <| BQ.ret <| SQ.ret ?_
    refine Fin.ret (Gh.refl) noid1 ?_
    rw [hb]; rfl
   ·
    have hs := small_tt h2
    have W := small_W hs
    have Wl := W.len
    have hbd := smallB_bound hs
    have hdO := dsumO_succ hi
    have hal : ((l.take (i + 1)).all smallB) = true := by rw [all_take_succ hi, hx3, hs]; rfl
    refine AW.skip ?_
    refine SQ.normal ?_
    refine AW.seq' ?_
    refine AW.region ?_
    refine AO.c ?_
    refine AO.nil ?_
    refine SQ.normal ?_
    refine AW.block' ?_
    refine AW.loopU [.k, .f, .f, .k, .k, .k, .F, .F, .F, .F, .f, .f, .f, .f, .f, .f, .f] (fun (k : Nat) => [(3, .v (.int .i64 ((dsumO (l.take i) : Int) + (dsum ((l.getD i default).secs.take k) : Int)))), (5, .v (.int .i64 (k)))]) (fun k => Hn n0 []) (fun m k => (k ≤ (l.getD i default).secs.length ∧ m = (l.getD i default).secs.length - k) ∧ dsum ((l.getD i default).secs.take k) ≤ 20000 * k) ((l.getD i default).secs.length) (0) ⟨by omega, by simp [dsum]⟩ (by simp [dsum]) (by first | rfl | (simp; done)) ?_
    rintro m1 k ⟨hy1, hy2⟩
    refine AW.seq' ?_
    refine AW.seq' ?_
    refine AW.region ?_
    iterate 3 refine AO.c ?_
    refine AO.oo ?_
    iterate 4 refine AO.c ?_
    refine AO.nil ?_
    refine SQ.normal ?_
    refine AW.iteB (GL.ev _) (fun h3 => ?_) (fun h3 => ?_)
    ·
     rw [decide_eq_true_eq] at h3
     have hk : k < (l.getD i default).secs.length := by omega
     have hd := dsum_succ hk
     have hd2 := (W.sec _ (getD_in hk)).1
     refine AW.skip ?_
     refine SQ.normal ?_
     refine AW.seq' ?_
     refine AW.block' ?_
     refine AW.region ?_
     iterate 3 refine AO.c ?_
     refine AO.oo ?_
     iterate 3 refine AO.c ?_
     refine AO.oo ?_
     iterate 3 refine AO.c ?_
     refine AO.oo ?_
     refine AO.c ?_
     refine AO.nil ?_
     refine BQ.normal ?_
     refine SQ.normal ?_
     refine AW.region ?_
     refine AO.c ?_
     refine AO.oo ?_
     refine AO.c ?_
     refine AO.nil ?_
     exact AW.backU [.k, .f, .f, .k, .k, .k, .F, .F, .F, .F, .f, .f, .f, .f, .f, .f, .f] (m1 - 1) (k + 1) (by omega) (by (try dsimp only); exact ⟨by omega, by omega⟩) (by rw [hd]; simp [Int.add_assoc]) (by first | rfl | (simp; done))
    ·
     rw [decide_eq_false_iff_not] at h3
     have hk : k = (l.getD i default).secs.length := by omega
     subst hk
     rw [List.take_of_length_le (Nat.le_refl _)] at *
     refine AW.exit ?_
     refine SQ.exit <| AW.out <| LU.exit <| BQ.exit ?_
     refine BQ.normal ?_
     refine SQ.normal ?_
     refine AW.region ?_
     refine AO.c ?_
     refine AO.oo ?_
     refine AO.c ?_
     refine AO.nil ?_
     exact AW.backU [.k, .f, .f, .k, .k, .F, .F, .F, .F, .F] (m0 - 1) (i + 1) (by omega) (by (try dsimp only); exact ⟨by omega, by omega, hal⟩) (by rw [hdO]; simp) (by first | rfl | (simp; done))
  ·
   rw [decide_eq_false_iff_not] at h1
   have hi : i = l.length := by omega
   subst hi
   rw [List.take_of_length_le (Nat.le_refl _)] at *
   refine AW.exit ?_
   refine SQ.exit <| AW.out <| LU.exit <| BQ.exit ?_
   refine SQ.normal ?_
   refine AW.seq' ?_
   refine AW.seq' ?_
   refine AW.region ?_
   iterate 2 refine AO.c ?_
   refine AO.nil ?_
   refine SQ.normal ?_
   refine AW.iteB (GL.ev _) (fun h4 => ?_) (fun h4 => ?_)
   ·
    have hb : fewB l = false := by unfold fewB; rw [h4]; simp
    refine AW.seq' ?_
    refine AW.region ?_
    refine AO.c ?_
    refine AO.nil ?_
    refine SQ.normal ?_
    refine AW.ret ?_
    refine SQ.ret ?_
    refine Fin.ret (Gh.refl) noid1 ?_
    rw [hb]; rfl
   ·
    have hb : fewB l = true := by unfold fewB; rw [h0, hx3, h4]; rfl
    refine AW.skip ?_
    refine SQ.normal ?_
    refine AW.seq' ?_
    refine AW.region ?_
    refine AO.c ?_
    refine AO.nil ?_
    refine SQ.normal ?_
    refine AW.ret ?_
    refine Fin.ret (Gh.refl) noid1 ?_
    rw [hb]; rfl
theorem ta_rel {avs : List AV} (h : TA Tryz.prog 131 avs) : ∃ r : RelD, avs = relA r ∧ r.ok := by
 have h1 := h.inv_struct
 obtain ⟨a1, b1, rfl, k1, h2⟩ := TAs.inv_cons h1
 obtain ⟨a2, b2, rfl, k2, h3⟩ := TAs.inv_cons h2
 obtain ⟨a3, b3, rfl, k3, h4⟩ := TAs.inv_cons h3
 obtain ⟨a4, b4, rfl, k4, h5⟩ := TAs.inv_cons h4
 obtain rfl := TAs.inv_nil h5
 obtain ⟨n1, rfl, w1⟩ := k1.inv_int (k := .i64)
 obtain ⟨n2, rfl, w2⟩ := k2.inv_int (k := .i64)
 obtain ⟨n3, rfl, w3⟩ := k3.inv_int (k := .i64)
 obtain ⟨n4, rfl, w4⟩ := k4.inv_int (k := .i64)
 exact ⟨⟨n1, n2, n3, n4⟩, rfl, wf_i64 w1, wf_i64 w2, wf_i64 w3, wf_i64 w4⟩
theorem ta_rels {avs : List AV} (h : TA Tryz.prog 79 avs) : ∃ l : List RelD, avs = [.rd 4 (l.map relA)] ∧ l.length ≤ maxLen ∧ ∀ r ∈ l, r.ok := by
 obtain ⟨rows, rfl, hl, hr⟩ := TA.inv_slice (e := 131) (g := true) (sz := 4) h
 obtain ⟨l, rfl, h2⟩ := rows_map relA RelD.ok fun row hm => ta_rel (hr row hm)
 exact ⟨l, rfl, by simpa using hl, h2⟩
theorem ta_sec {avs : List AV} (h : TA Tryz.prog 81 avs) : ∃ s : SecD, avs = secA s ∧ s.ok := by
 have h0 := h.inv_struct
 obtain ⟨a1, b1, rfl, k1, h1⟩ := TAs.inv_cons h0
 obtain ⟨a2, b2, rfl, k2, h2⟩ := TAs.inv_cons h1
 obtain ⟨a3, b3, rfl, k3, h3⟩ := TAs.inv_cons h2
 obtain ⟨a4, b4, rfl, k4, h4⟩ := TAs.inv_cons h3
 obtain ⟨a5, b5, rfl, k5, h5⟩ := TAs.inv_cons h4
 obtain ⟨a6, b6, rfl, k6, h6⟩ := TAs.inv_cons h5
 obtain ⟨a7, b7, rfl, k7, h7⟩ := TAs.inv_cons h6
 obtain ⟨a8, b8, rfl, k8, h8⟩ := TAs.inv_cons h7
 obtain ⟨a9, b9, rfl, k9, h9⟩ := TAs.inv_cons h8
 obtain rfl := TAs.inv_nil h9
 obtain ⟨n1, rfl, w1⟩ := k1.inv_str
 obtain ⟨n2, rfl, w2⟩ := k2.inv_int (k := .i64)
 obtain ⟨n3, rfl, w3⟩ := k3.inv_int (k := .i64)
 obtain ⟨n4, rfl, w4⟩ := k4.inv_int (k := .i64)
 obtain ⟨n5, rfl, w5⟩ := k5.inv_int (k := .i64)
 obtain ⟨n6, rfl, w6⟩ := k6.inv_int (k := .i64)
 obtain ⟨n7, rfl, w7⟩ := k7.inv_int (k := .i64)
 obtain ⟨n8, rfl, w8, q8⟩ := TA.inv_bytes (e := 5) k8
 obtain ⟨n9, rfl, w9, q9⟩ := ta_rels k9
 exact ⟨⟨n1, n2, n3, n4, n5, n6, n7, n8, n9⟩, rfl, w1, wf_i64 w2, wf_i64 w3, wf_i64 w4, wf_i64 w5, wf_i64 w6, wf_i64 w7, w8, q8, w9, q9⟩
theorem ta_sym {avs : List AV} (h : TA Tryz.prog 83 avs) : ∃ s : SymD, avs = symA s ∧ s.ok := by
 have h0 := h.inv_struct
 obtain ⟨a1, b1, rfl, k1, h1⟩ := TAs.inv_cons h0
 obtain ⟨a2, b2, rfl, k2, h2⟩ := TAs.inv_cons h1
 obtain ⟨a3, b3, rfl, k3, h3⟩ := TAs.inv_cons h2
 obtain ⟨a4, b4, rfl, k4, h4⟩ := TAs.inv_cons h3
 obtain ⟨a5, b5, rfl, k5, h5⟩ := TAs.inv_cons h4
 obtain ⟨a6, b6, rfl, k6, h6⟩ := TAs.inv_cons h5
 obtain rfl := TAs.inv_nil h6
 obtain ⟨n1, rfl, w1⟩ := k1.inv_str
 obtain ⟨n2, rfl, w2⟩ := k2.inv_int (k := .i64)
 obtain ⟨n3, rfl, w3⟩ := k3.inv_int (k := .i64)
 obtain ⟨n4, rfl, w4⟩ := k4.inv_int (k := .i64)
 obtain ⟨n5, rfl, w5⟩ := k5.inv_int (k := .i64)
 obtain ⟨n6, rfl, w6⟩ := k6.inv_int (k := .i64)
 exact ⟨⟨n1, n2, n3, n4, n5, n6⟩, rfl, w1, wf_i64 w2, wf_i64 w3, wf_i64 w4, wf_i64 w5, wf_i64 w6⟩
theorem ta_grp {avs : List AV} (h : TA Tryz.prog 121 avs) : ∃ g : GrpD, avs = grpA g ∧ g.ok := by
 have h0 := h.inv_struct
 obtain ⟨a1, b1, rfl, k1, h1⟩ := TAs.inv_cons h0
 obtain ⟨a2, b2, rfl, k2, h2⟩ := TAs.inv_cons h1
 obtain rfl := TAs.inv_nil h2
 obtain ⟨n1, rfl, w1⟩ := k1.inv_int (k := .i64)
 obtain ⟨n2, rfl, w2, q2⟩ := TA.inv_ints (e := 3) (k := .i64) k2
 exact ⟨⟨n1, n2⟩, rfl, wf_i64 w1, w2, fun x hx => wf_i64 (q2 x hx)⟩
theorem ta_obj {avs : List AV} (h : TA Tryz.prog 61 avs) : ∃ o : ObjD, avs = objA o ∧ o.ok := by
 have h0 := h.inv_struct
 obtain ⟨a1, b1, rfl, k1, h1⟩ := TAs.inv_cons h0
 obtain ⟨a2, b2, rfl, k2, h2⟩ := TAs.inv_cons h1
 obtain ⟨a3, b3, rfl, k3, h3⟩ := TAs.inv_cons h2
 obtain ⟨a4, b4, rfl, k4, h4⟩ := TAs.inv_cons h3
 obtain ⟨a5, b5, rfl, k5, h5⟩ := TAs.inv_cons h4
 obtain rfl := TAs.inv_nil h5
 obtain ⟨r1, e1, l1, q1⟩ := TA.inv_slice (e := 81) (g := true) (sz := 9) k1
 cases e1
 obtain ⟨s1, rfl, p1⟩ := rows_map secA SecD.ok fun row hm => ta_sec (q1 row hm)
 obtain ⟨r2, e2, l2, q2⟩ := TA.inv_slice (e := 83) (g := true) (sz := 6) k2
 cases e2
 obtain ⟨s2, rfl, p2⟩ := rows_map symA SymD.ok fun row hm => ta_sym (q2 row hm)
 obtain ⟨r3, e3, l3, q3⟩ := TA.inv_slice (e := 121) (g := true) (sz := 2) k3
 cases e3
 obtain ⟨s3, rfl, p3⟩ := rows_map grpA GrpD.ok fun row hm => ta_grp (q3 row hm)
 obtain ⟨b4, rfl⟩ := k4.inv_bool
 obtain ⟨n5, rfl, w5, q5⟩ := TA.inv_ints (e := 3) (k := .i64) k5
 exact ⟨⟨s1, s2, s3, b4, n5⟩, rfl, by simpa using l1, p1, by simpa using l2, p2, by simpa using l3, p3, w5, fun x hx => wf_i64 (q5 x hx)⟩
theorem ta_objs {av : AV} (h : TA Tryz.prog 22 [av]) : ∃ l : List ObjD, av = .rd 5 (l.map objA) ∧ l.length ≤ 9223372036854775807 ∧ ∀ o ∈ l, o.ok := by
 obtain ⟨rows, he, hl, hr⟩ := TA.inv_slice (e := 61) (g := true) (sz := 5) h
 cases he
 obtain ⟨l, rfl, h2⟩ := rows_map objA ObjD.ok fun row hm => ta_obj (hr row hm)
 rw [maxLen_eq] at hl
 exact ⟨l, rfl, by simpa using hl, h2⟩
end Go.Proofs.YtiomdnmicagdcaaGreat.AL
namespace Go.Proofs.YtiomdnmicagdcaaGreat.AL
open Go Go.RowKit Go.Proofs.YtiomdnmicagdcaaGreat.Base
set_option linter.unusedVariables false
set_option linter.unusedSimpArgs false
set_option maxRecDepth 4000
set_option synthInstance.maxSize 1000
set_option synthInstance.maxHeartbeats 200000
@[reducible] def zSy : SymD := ⟨noS, 0, 0, 0, 0, 0⟩
@[reducible] def nmX : ByteArray := ⟨#[120]⟩
@[reducible] def xS : SymD := ⟨nmX, 2, 0, 1, 0, 0⟩
@[reducible] def yS : SymD := ⟨nmX, 1, 0, 1, 1, 0⟩
@[reducible] def cU : SecD := ⟨noS, 1, 6, 1, 0, 0, 1, [195], []⟩
@[reducible] def xU : ObjD := ⟨[cU], [zSy, xS], [], false, []⟩
@[reducible] def yU : ObjD := ⟨[cU], [zSy, yS], [], false, []⟩
@[reducible] def lU : List ObjD := [xU, yU]
@[reducible] def dU : DefD := ⟨nmX, 1, 1⟩
@[reducible] def tU : TabD := ⟨[[false], [false]], [dU]⟩
theorem lU_ok : LOk lU := by
 have hs : cU.ok := ⟨by rw [maxLen_eq]; decide, by decide, by decide, by decide, by decide, by decide, by decide, by rw [maxLen_eq]; decide, by intro x hx; obtain rfl := List.mem_singleton.1 hx; omega, by rw [maxLen_eq]; decide, fun r h => (by cases h)⟩
 have hy : ∀ (a : SymD), a = zSy ∨ a = xS ∨ a = yS → a.ok := by
  intro a ha
  rcases ha with rfl | rfl | rfl <;> exact ⟨by rw [maxLen_eq]; decide, by decide, by decide, by decide, by decide, by decide⟩
 have ho : ∀ o ∈ lU, o.ok := by
  intro o h
  simp only [List.mem_cons, List.not_mem_nil, or_false] at h
  rcases h with rfl | rfl
  · refine ⟨by rw [maxLen_eq]; decide, fun s h => ?_, by rw [maxLen_eq]; decide, fun s h => ?_, by rw [maxLen_eq]; decide, fun s h => (by cases h), by rw [maxLen_eq]; decide, fun s h => (by cases h)⟩
    · obtain rfl := List.mem_singleton.1 h; exact hs
    · simp only [List.mem_cons, List.not_mem_nil, or_false] at h
      exact hy s (by rcases h with h | h; exact .inl h; exact .inr (.inl h))
  · refine ⟨by rw [maxLen_eq]; decide, fun s h => ?_, by rw [maxLen_eq]; decide, fun s h => ?_, by rw [maxLen_eq]; decide, fun s h => (by cases h), by rw [maxLen_eq]; decide, fun s h => (by cases h)⟩
    · obtain rfl := List.mem_singleton.1 h; exact hs
    · simp only [List.mem_cons, List.not_mem_nil, or_false] at h
      exact hy s (by rcases h with h | h; exact .inl h; exact .inr (.inr h))
 exact few_lok ho (by decide +kernel)
theorem lU_may : AllMay lU := ⟨by decide, by
 intro o h
 simp only [List.mem_cons, List.not_mem_nil, or_false] at h
 rcases h with rfl | rfl <;> decide +kernel⟩
theorem lU_E : resE lU = 0 := resE_ok lU_may (fun c => by have := dup_B.1 c; revert this; decide +kernel) (fun c => by have := und_B.1 c; revert this; decide +kernel)
theorem lU_drop : dropF lU lU.length = [[false], [false]] := by kernel_rfl
theorem lU_defs : dI lU lU.length = [dU] := by kernel_rfl
theorem lU_T : (⟨dropF lU lU.length, dI lU lU.length⟩ : TabD) = tU := by rw [lU_drop, lU_defs]
theorem names_ResolveV (l : List ObjD) (hk : LOk l) : A0 Tryz.prog 8 [.rd 5 (l.map objA)] (fun ret => ret = .tup [.agg (tabA (resT l)), .v (ifV 67 (resE l))]) := by
 refine A0.mono (names_Resolve l hk) fun r q => ?_
 rcases q with ⟨q1, q⟩ | ⟨q1, q2, q⟩ | ⟨q1, q2, q3, q⟩ | ⟨q1, q2, q3, q⟩
 · have e := resE_1 q1
   rw [q, resT_n (by rw [e]; decide), e]
 · have e := resE_3 q1 q2
   rw [q, resT_n (by rw [e]; decide), e]
 · have e := resE_4 q1 q2 q3
   rw [q, resT_n (by rw [e]; decide), e]
 · have e := resE_ok q1 q2 q3
   rw [q, resT_0 e, e]
theorem ref_ResolveV (l : List ObjD) (hk : LOk l) : A0 Tryz.prog 9 [.rd 5 (l.map objA)] (fun ret => ret = .tup [.agg (tabA (resT l)), .v (.int .i64 (resE l))]) := by
 refine A0.mono (ref_Resolve l hk) fun r q => ?_
 rcases q with ⟨q1, q⟩ | ⟨q1, q2, q⟩ | ⟨q1, q2, q3, q⟩ | ⟨q1, q2, q3, q⟩
 · have e := resE_1 q1
   rw [q, resT_n (by rw [e]; decide), e]
 · have e := resE_3 q1 ((dup_mny (may_res hk q1)).2 q2)
   rw [q, resT_n (by rw [e]; decide), e]
 · have e := resE_4 q1 (fun c => q2 ((dup_mny (may_res hk q1)).1 c)) ((und_eq (may_res hk q1)).2 q3)
   rw [q, resT_n (by rw [e]; decide), e]
 · have e := resE_ok q1 (fun c => q2 ((dup_mny (may_res hk q1)).1 c)) (fun c => by rw [(und_eq (may_res hk q1)).1 c] at q3; cases q3)
   rw [q, resT_0 e, e, defs_eq (may_res hk q1)]
theorem up_Res : A0 Tryz.prog 8 [.rd 5 (lU.map objA)] (fun ret => ret = .tup [.agg (tabA tU), .v (ifV 67 0)]) := by
 have h := names_ResolveV lU lU_ok
 rw [resT_0 lU_E, lU_E, lU_T] at h
 exact h
theorem tU_w : TabW lU tU := by
 have h := tab_w lU_ok (may_res lU_ok lU_may)
 rw [lU_T] at h
 exact h
theorem up_Find : A0 Tryz.prog 12 [.agg (tabA tU), .v (.string nmX)] (fun ret => ret = .tup [.agg (defA dU), .v (.bool true)]) := by
 have h := names_Find tU nmX (by decide) tU_w.srt
 rw [show findD tU.defs nmX = dU by kernel_rfl, show findB tU.defs nmX = true by kernel_rfl] at h
 exact h
theorem up_Where : A0 Tryz.prog 14 [.rd 5 (lU.map objA), .agg (tabA tU), .v (.int .i64 0), .v (.int .i64 1)] (fun ret => ret = .tup [.agg (plcA ⟨1, 1, 1⟩), .v (ifV 67 0)]) := by
 have h := names_Where lU tU 0 1 tU_w
 rw [show whereF lU tU 0 1 = (⟨1, 1, 1⟩, 0) by kernel_rfl] at h
 exact h
theorem resE_rng (l : List ObjD) : 0 ≤ resE l ∧ resE l ≤ 8 := by
 unfold resE
 split
 · omega
 · split
   · omega
   · split <;> omega
theorem placeF_rng (l : List ObjD) (t : TabD) (o s : Int) : 0 ≤ (placeF l t o s).2 ∧ (placeF l t o s).2 ≤ 8 := by
 have h0 : (0 : Int) ≤ 0 ∧ (0 : Int) ≤ 8 := by decide
 have h4 : (0 : Int) ≤ 4 ∧ (4 : Int) ≤ 8 := by decide
 unfold placeF
 split
 · exact h0
 · split
   · exact h4
   · exact h0
theorem whereF_rng (l : List ObjD) (t : TabD) (o s : Int) : 0 ≤ (whereF l t o s).2 ∧ (whereF l t o s).2 ≤ 8 := by
 unfold whereF
 split
 · exact ⟨by decide, by decide⟩
 · split
   · exact placeF_rng _ _ _ _
   · split
     · exact placeF_rng _ _ _ _
     · split <;> exact ⟨by decide, by decide⟩
theorem resT_len {l : List ObjD} (hk : LOk l) : (resT l).dropped.length ≤ 1000000 ∧ (resT l).defs.length ≤ 1000000 ∧ ∀ r ∈ (resT l).dropped, r.length ≤ 1000000 := by
 by_cases h : resE l = 0
 · have hw := may_res hk (resE_0 h)
   rw [resT_0 h]
   have h1 := dI_len hw l.length (Nat.le_refl _)
   have h2 := hw.len
   refine ⟨by show (dropF l l.length).length ≤ _; rw [dropF_len]; omega, by show (dI l l.length).length ≤ _; omega, fun r hr => ?_⟩
   unfold dropF at hr
   obtain ⟨i, hi, rfl⟩ := List.mem_map.1 hr
   rw [dropR_len]
   have := (hw.sy i (List.mem_range.1 hi)).2
   omega
 · rw [resT_n h]
   exact ⟨by decide, by decide, fun r hr => (by cases hr)⟩
theorem finds_cases {l : List ObjD} (hk : LOk l) (hw : ResW l) (nm : ByteArray) : (∃ d : DefD, A0 Tryz.prog 12 [.agg (tabA ⟨dropF l l.length, dI l l.length⟩), .v (.string nm)] (fun ret => ret = .tup [.agg (defA d), .v (.bool true)]) ∧ A0 Tryz.prog 13 [.rd 5 (l.map objA), .agg (tabA ⟨dropF l l.length, dI l l.length⟩), .v (.string nm)] (fun ret => ret = .tup [.agg (defA d), .v (.bool true)])) ∨ (∃ d : DefD, A0 Tryz.prog 12 [.agg (tabA ⟨dropF l l.length, dI l l.length⟩), .v (.string nm)] (fun ret => ret = .tup [.agg (defA zDef), .v (.bool false)]) ∧ A0 Tryz.prog 13 [.rd 5 (l.map objA), .agg (tabA ⟨dropF l l.length, dI l l.length⟩), .v (.string nm)] (fun ret => ret = .tup [.agg (defA d), .v (.bool false)])) := by
 have hT := tab_w hk hw
 have h1 := names_Find ⟨dropF l l.length, dI l l.length⟩ nm hT.many.2 hT.srt
 have h2 := ref_FindN l hw (dI l l.length) nm
 have hb := findB_R hw nm
 rw [show findB (TabD.mk (dropF l l.length) (dI l l.length)).defs nm = (findR l nm).2 from hb] at h1
 cases hc : (findR l nm).2 with
 | true =>
  rw [show findD (TabD.mk (dropF l l.length) (dI l l.length)).defs nm = (findR l nm).1 from findD_R hw hc, hc] at h1
  rw [hc] at h2
  exact .inl ⟨_, h1, h2⟩
 | false =>
  have e : findD (TabD.mk (dropF l l.length) (dI l l.length)).defs nm = zDef := by
   show findD (dI l l.length) nm = zDef
   unfold findD
   rw [hb, hc]; rfl
  rw [e, hc] at h1
  rw [hc] at h2
  exact .inr ⟨_, h1, h2⟩
theorem ref_WhereV {l : List ObjD} (hk : LOk l) (hw : ResW l) (o s : Int) : A0 Tryz.prog 15 [.rd 5 (l.map objA), .agg (tabA ⟨dropF l l.length, dI l l.length⟩), .v (.int .i64 o), .v (.int .i64 s)] (fun ret => ret = .tup [.agg (plcA (whereF l ⟨dropF l l.length, dI l l.length⟩ o s).1), .v (.int .i64 (whereF l ⟨dropF l l.length, dI l l.length⟩ o s).2)]) := by
 have h := ref_Where l hw (dI l l.length) o s (tab_w hk hw)
 rw [where_eq hw] at h
 exact h
set_option maxHeartbeats 4000000 in
theorem up10  : A0 Tryz.prog 6 [] (fun ret => ret = .v (.bool true)) := by
 refine A0.body 63 Tryz.func6 rfl rfl Tryz.ntmps6 fun base n0 => ?_
 refine AW.seq' ?_
 refine AW.region ?_
 refine AO.c ?_
 refine AO.nil ?_
 refine SQ.normal ?_
 refine AW.seq' ?_
 refine AW.region ?_
 refine AO.rr ?_
 refine AO.eq 11 (av' := .rd 1 (bys [195])) rfl ?_
 refine AO.c ?_
 refine AO.ww ?_
 refine AO.sst ?_
 refine AO.nil ?_
 refine SQ.normal ?_
 refine AW.seq' ?_
 refine AW.region ?_
 refine AO.c ?_
 refine AO.ghost (Gh.tell 13 (.agg (secA cU))) ?_
 refine AO.rr ?_
 refine AO.eq 14 (av' := .rd 9 (([cU] : List SecD).map secA)) rfl ?_
 iterate 2 refine AO.c ?_
 refine AO.rr ?_
 refine AO.eq 17 (av' := .rd 6 (([zSy, xS] : List SymD).map symA)) rfl ?_
 refine AO.c ?_
 refine AO.ww ?_
 refine AO.sst ?_
 refine AO.nil ?_
 refine SQ.normal ?_
 refine AW.seq' ?_
 refine AW.region ?_
 refine AO.c ?_
 refine AO.ghost (Gh.tell 19 (.agg (secA cU))) ?_
 refine AO.rr ?_
 refine AO.eq 20 (av' := .rd 9 (([cU] : List SecD).map secA)) rfl ?_
 iterate 2 refine AO.c ?_
 refine AO.rr ?_
 refine AO.eq 23 (av' := .rd 6 (([zSy, yS] : List SymD).map symA)) rfl ?_
 refine AO.c ?_
 refine AO.ww ?_
 refine AO.sst ?_
 refine AO.nil ?_
 refine SQ.normal ?_
 refine AW.seq' ?_
 refine AW.region ?_
 iterate 2 refine AO.c ?_
 refine AO.ghost (Gh.tell 25 (.agg (objA xU))) ?_
 refine AO.ghost (Gh.tell 26 (.agg (objA yU))) ?_
 refine AO.rr ?_
 refine AO.eq 27 (av' := .rd 5 ((lU : List ObjD).map objA)) rfl ?_
 refine AO.c ?_
 refine AO.nil ?_
 refine SQ.normal ?_
 refine AW.seq' ?_
 refine AW.region ?_
 refine AO.c ?_
 refine AO.call1 Tryz.func8 rfl rfl (up_Res) ?_
 iterate 3 refine AO.c ?_
 refine AO.ww ?_
 refine AO.sst ?_
 refine AO.c ?_
 refine AO.nil ?_
 refine SQ.normal ?_
 refine AW.seq' ?_
 refine AW.region ?_
 refine AO.c ?_
 refine AO.call1 Tryz.func12 rfl rfl (up_Find) ?_
 iterate 3 refine AO.c ?_
 refine AO.ww ?_
 refine AO.sst ?_
 refine AO.c ?_
 refine AO.nil ?_
 refine SQ.normal ?_
 refine AW.seq' ?_
 refine AW.region ?_
 iterate 2 refine AO.c ?_
 refine AO.call1 Tryz.func14 rfl rfl (up_Where) ?_
 iterate 3 refine AO.c ?_
 refine AO.ww ?_
 refine AO.sst ?_
 refine AO.c ?_
 refine AO.nil ?_
 refine SQ.normal ?_
 refine AW.seq' ?_
 refine AW.region ?_
 iterate 2 refine AO.c ?_
 refine AO.eq 45 (av' := .v (.bool true)) rfl ?_
 refine AO.c ?_
 refine AO.gk rfl ?_
 refine AO.c ?_
 refine AO.pt rfl ?_
 refine AO.c ?_
 refine AO.gk rfl ?_
 refine AO.c ?_
 refine AO.gk rfl ?_
 refine AO.c ?_
 refine AO.gk rfl ?_
 refine AO.c ?_
 refine AO.eq 52 (av' := .v (.bool true)) (by simp) ?_
 refine AO.pt rfl ?_
 refine AO.c ?_
 refine AO.gk rfl ?_
 refine AO.c ?_
 refine AO.gk rfl ?_
 refine AO.c ?_
 refine AO.eq 56 (av' := .v (.bool true)) rfl ?_
 refine AO.pt rfl ?_
 refine AO.c ?_
 refine AO.gk rfl ?_
 refine AO.c ?_
 refine AO.gk rfl ?_
 refine AO.c ?_
 refine AO.gk rfl ?_
 refine AO.c ?_
 refine AO.eq 61 (av' := .v (.bool true)) rfl ?_
 refine AO.pt rfl ?_
 refine AO.c ?_
 refine AO.nil ?_
 refine SQ.normal ?_
 refine AW.ret ?_
 refine Fin.ret (Gh.refl) noid1 ?_
 first | rfl | (simp [packA]; done)
theorem law_same (t : TabD) (hta : t.dropped.length ≤ 1000000) (htb : t.defs.length ≤ 1000000) (htc : ∀ r ∈ t.dropped, r.length ≤ 1000000) : A0 Tryz.prog 11 [.agg (tabA t), .agg (tabA t)] (fun ret => ret = .v (.int .i64 (1))) := by
 refine A0.body 92 Tryz.func11 rfl rfl Tryz.ntmps11 fun base n0 => ?_
 refine AW.seq' ?_
 refine AW.region ?_
 iterate 2 refine AO.ww ?_
 refine AO.c ?_
 refine AO.nil ?_
 refine SQ.normal ?_
 refine AW.seq' ?_
 refine AW.seq' ?_
 refine AW.region ?_
 iterate 8 refine AO.c ?_
 iterate 7 refine AO.gx ?_
 refine AO.c ?_
 refine AO.nil ?_
 refine SQ.normal ?_
 refine AW.iteB (GL.ev _) (fun h0 => ?_) (fun h0 => ?_)
 ·
  exfalso
  simp at h0
 ·
  skip
  refine AW.skip ?_
  refine SQ.normal ?_
  refine AW.seq' ?_
  refine AW.seq' ?_
  refine AW.region ?_
  refine AO.c ?_
  refine AO.nil ?_
  refine SQ.normal ?_
  refine AW.block' ?_
  refine AW.loopU [.f, .f, .k, .k, .f, .k, .F, .F, .F, .F, .F, .F, .F, .F, .F, .F, .f, .f, .f, .f, .f, .f] (fun (i : Nat) => [(5, .v (.int .i64 (i)))]) (fun i => Hn n0 [some (.box 28 (tabA t)), some (.box 35 (tabA t))]) (fun m i => i ≤ t.dropped.length ∧ m = t.dropped.length - i) (t.dropped.length) (0) ⟨by omega, by omega⟩ (by first | rfl | (simp; done)) (by first | rfl | (simp; done)) ?_
  rintro m0 i ⟨hx1, hx2⟩
  refine AW.seq' ?_
  refine AW.seq' ?_
  refine AW.region ?_
  iterate 5 refine AO.c ?_
  refine AO.nil ?_
  refine SQ.normal ?_
  refine AW.iteB (GL.ev _) (fun h1 => ?_) (fun h1 => ?_)
  ·
   rw [decide_eq_true_eq] at h1
   have hi : i < t.dropped.length := by omega
   refine AW.skip ?_
   refine SQ.normal ?_
   refine AW.seq' ?_
   refine AW.block' ?_
   refine AW.seq' ?_
   refine AW.drawsZ [] (.one 0 false (.one 1 false (.one 2 false (.one 3 false (.one 4 false (.one 5 false (.one 6 false (.one 7 false (.one 8 false (.one 9 false (.one 10 true (.one 11 false .nil)))))))))))) (by kernel_rfl) rfl (by kernel_rfl) ?_
   iterate 3 refine AZ.c rfl ?_
   refine AZ.oo rfl ?_
   iterate 4 refine AZ.c rfl ?_
   refine AZ.oo rfl ?_
   refine AZ.c rfl ?_
   refine AZ.call1 rfl Tryz.func35 rfl rfl (law_Bools (t.dropped.getD i default) (htc _ (getD_in hi))) ?_
   refine AZ.c rfl ?_
   refine AZ.done ?_
   refine SQ.normal ?_
   refine AW.iteB (GL.ev _) (fun h2 => ?_) (fun h2 => ?_)
   ·
    exfalso
    simp at h2
   ·
    skip
    refine AW.skip ?_
    refine BQ.normal ?_
    refine SQ.normal ?_
    refine AW.region ?_
    refine AO.c ?_
    refine AO.oo ?_
    refine AO.c ?_
    refine AO.nil ?_
    exact AW.backU [.f, .f, .k, .k, .f, .k, .F, .F, .F, .F, .F, .F, .F, .F, .F, .F, .f, .f, .f, .f, .f, .f] (m0 - 1) (i + 1) (by omega) (by (try dsimp only); exact ⟨by omega, by omega⟩) (by first | rfl | (simp; done)) (by first | rfl | (simp; done))
  ·
   skip
   refine AW.exit ?_
   refine SQ.exit <| AW.out <| LU.exit <| BQ.exit ?_
   refine SQ.normal ?_
   refine AW.seq' ?_
   refine AW.seq' ?_
   refine AW.region ?_
   refine AO.c ?_
   refine AO.nil ?_
   refine SQ.normal ?_
   refine AW.block' ?_
   refine AW.loopU [.f, .f, .k, .k, .f, .f, .k, .F, .F, .F, .F, .F, .F, .F, .F, .F, .F, .f, .f, .f, .f, .f] (fun (i : Nat) => [(6, .v (.int .i64 (i)))]) (fun i => Hn n0 [some (.box 28 (tabA t)), some (.box 35 (tabA t))]) (fun m i => i ≤ t.defs.length ∧ m = t.defs.length - i) (t.defs.length) (0) ⟨by omega, by omega⟩ (by first | rfl | (simp; done)) (by first | rfl | (simp; done)) ?_
   rintro m1 i ⟨hx1, hx2⟩
   refine AW.seq' ?_
   refine AW.seq' ?_
   refine AW.region ?_
   iterate 5 refine AO.c ?_
   refine AO.nil ?_
   refine SQ.normal ?_
   refine AW.iteB (GL.ev _) (fun h3 => ?_) (fun h3 => ?_)
   ·
    try simp only [Bool.and_eq_true, Bool.or_eq_true, Bool.not_eq_true', Bool.and_eq_false_iff, Bool.or_eq_false_iff, decide_eq_true_eq, decide_eq_false_iff_not, bys_length] at h3
    refine AW.skip ?_
    refine SQ.normal ?_
    refine AW.seq' ?_
    refine AW.block' ?_
    refine AW.seq' ?_
    refine AW.drawsZ [] (.one 0 false (.one 1 false (.one 2 false (.one 3 false (.one 4 false (.one 5 false (.one 6 false (.one 7 false (.one 8 false (.one 9 false (.one 10 false (.one 11 false (.one 12 false (.one 13 false (.one 14 false (.one 15 false (.one 16 false (.one 17 false (.one 18 false (.one 19 false (.one 20 false (.one 21 false (.one 22 false (.one 23 false (.one 24 false (.one 25 false (.one 26 false (.one 27 false (.one 28 false (.one 29 false (.one 30 false (.one 31 false (.one 32 false (.one 33 false (.one 34 false (.one 35 false (.one 36 false (.one 37 false (.one 38 false (.one 39 false (.one 40 false (.one 41 false (.one 42 false .nil))))))))))))))))))))))))))))))))))))))))))) (by kernel_rfl) rfl (by kernel_rfl) ?_
    iterate 3 refine AZ.c rfl ?_
    refine AZ.oo rfl ?_
    iterate 5 refine AZ.c rfl ?_
    refine AZ.oo rfl ?_
    iterate 4 refine AZ.c rfl ?_
    iterate 3 refine AZ.gx rfl ?_
    refine AZ.gxoo rfl ?_
    iterate 5 refine AZ.gx rfl ?_
    refine AZ.gxoo rfl ?_
    iterate 3 refine AZ.gx rfl ?_
    iterate 2 refine AZ.c rfl ?_
    iterate 3 refine AZ.gx rfl ?_
    refine AZ.gxoo rfl ?_
    iterate 5 refine AZ.gx rfl ?_
    refine AZ.gxoo rfl ?_
    iterate 3 refine AZ.gx rfl ?_
    refine AZ.c rfl ?_
    refine AZ.done ?_
    refine SQ.normal ?_
    refine AW.iteB (GL.ev _) (fun h4 => ?_) (fun h4 => ?_)
    ·
     exfalso
     simp at h4
    ·
     skip
     refine AW.skip ?_
     refine BQ.normal ?_
     refine SQ.normal ?_
     refine AW.region ?_
     refine AO.c ?_
     refine AO.oo ?_
     refine AO.c ?_
     refine AO.nil ?_
     exact AW.backU [.f, .f, .k, .k, .f, .f, .k, .F, .F, .F, .F, .F, .F, .F, .F, .F, .F, .f, .f, .f, .f, .f] (m1 - 1) (i + 1) (by omega) (by (try dsimp only); exact ⟨by omega, by omega⟩) (by first | rfl | (simp; done)) (by first | rfl | (simp; done))
   ·
    try simp only [Bool.and_eq_true, Bool.or_eq_true, Bool.not_eq_true', Bool.and_eq_false_iff, Bool.or_eq_false_iff, decide_eq_true_eq, decide_eq_false_iff_not, bys_length] at h3
    refine AW.exit ?_
    refine SQ.exit <| AW.out <| LU.exit <| BQ.exit ?_
    refine SQ.normal ?_
    refine AW.seq' ?_
    refine AW.region ?_
    refine AO.c ?_
    refine AO.nil ?_
    refine SQ.normal ?_
    refine AW.ret ?_
    refine Fin.ret (Gh.refl) noid1 ?_
    first | rfl | (simp [packA]; done)
set_option maxHeartbeats 4000000 in
theorem names_Resolves (l : List ObjD) (hl : l.length ≤ 9223372036854775807) (hok : ∀ o ∈ l, o.ok) (nm : ByteArray) (o s : Int) : A0 Tryz.prog 3 [.rd 5 (l.map objA), .v (.string nm), .v (.int .i64 (o)), .v (.int .i64 (s))] (fun ret => ret = .v (.bool true)) := by
 refine A0.body 143 Tryz.func3 rfl rfl Tryz.ntmps3 fun base n0 => ?_
 refine AW.seq' ?_
 refine AW.region ?_
 refine AO.c ?_
 refine AO.nil ?_
 refine SQ.normal ?_
 refine AW.seq' ?_
 refine AW.region ?_
 refine AO.call1 Tryz.func6 rfl rfl (up10) ?_
 refine AO.c ?_
 refine AO.nil ?_
 refine SQ.normal ?_
 refine AW.seq' ?_
 refine AW.seq' ?_
 refine AW.region ?_
 refine AO.c ?_
 refine AO.call1 Tryz.func7 rfl rfl (law_Few l hl hok) ?_
 refine AO.c ?_
 refine AO.nil ?_
 refine SQ.normal ?_
 refine AW.iteB (GL.ev _) (fun h0 => ?_) (fun h0 => ?_)
 ·
  skip
  refine AW.seq' ?_
  refine AW.region ?_
  iterate 2 refine AO.c ?_
  refine AO.nil ?_
  refine SQ.normal ?_
  refine AW.ret ?_
  refine SQ.ret ?_
  refine Fin.ret (Gh.refl) noid1 ?_
  first | rfl | (simp [packA]; done)
 ·
  have hf := small_tt h0
  have hlk := few_lok hok hf
  have hTl := resT_len hlk
  refine AW.skip ?_
  refine SQ.normal ?_
  refine AW.seq' ?_
  refine AW.region ?_
  refine AO.c ?_
  refine AO.call1 Tryz.func8 rfl rfl (names_ResolveV l hlk) ?_
  iterate 3 refine AO.c ?_
  refine AO.ww ?_
  refine AO.sst ?_
  refine AO.c ?_
  refine AO.nil ?_
  refine SQ.normal ?_
  refine AW.seq' ?_
  refine AW.region ?_
  refine AO.c ?_
  refine AO.call1 Tryz.func9 rfl rfl (ref_ResolveV l hlk) ?_
  iterate 3 refine AO.c ?_
  refine AO.ww ?_
  refine AO.sst ?_
  refine AO.c ?_
  refine AO.nil ?_
  refine SQ.normal ?_
  refine AW.seq' ?_
  refine AW.seq' ?_
  refine AW.region ?_
  refine AO.c ?_
  refine AO.call1 Tryz.func10 rfl rfl (law_Code (resE l) (resE_rng l)) ?_
  iterate 3 refine AO.c ?_
  iterate 2 refine AO.gx ?_
  refine AO.gxcall1 Tryz.func11 rfl rfl (fun hgd => law_same (resT l) hTl.1 hTl.2.1 hTl.2.2) ?_
  refine AO.gx ?_
  refine AO.c ?_
  refine AO.nil ?_
  refine SQ.normal ?_
  refine AW.iteB (GL.ev _) (fun h1 => ?_) (fun h1 => ?_)
  ·
   exfalso
   simp at h1
  ·
   skip
   refine AW.skip ?_
   refine SQ.normal ?_
   refine AW.seq' ?_
   refine AW.seq' ?_
   refine AW.region ?_
   iterate 2 refine AO.c ?_
   refine AO.nil ?_
   refine SQ.normal ?_
   refine AW.iteB (GL.ev _) (fun h2 => ?_) (fun h2 => ?_)
   ·
    skip
    refine AW.seq' ?_
    refine AW.region ?_
    iterate 2 refine AO.c ?_
    refine AO.nil ?_
    refine SQ.normal ?_
    refine AW.ret ?_
    refine SQ.ret ?_
    refine Fin.ret (Gh.refl) noid1 ?_
    first | rfl | (simp [packA]; done)
   ·
    rw [decide_eq_false_iff_not, ne_eq, Decidable.not_not] at h2
    have hw := may_res hlk (resE_0 h2)
    rw [resT_0 h2]
    refine AW.skip ?_
    refine SQ.normal ?_
    refine AW.seq' ?_
    rcases finds_cases hlk hw nm with ⟨d, hg1, hg2⟩ | ⟨d, hg1, hg2⟩
    ·
     refine AW.region ?_
     iterate 2 refine AO.c ?_
     refine AO.call1 Tryz.func12 rfl rfl (hg1) ?_
     iterate 3 refine AO.c ?_
     refine AO.ww ?_
     refine AO.sst ?_
     refine AO.c ?_
     refine AO.nil ?_
     refine SQ.normal ?_
     refine AW.seq' ?_
     refine AW.region ?_
     iterate 3 refine AO.c ?_
     refine AO.call1 Tryz.func13 rfl rfl (hg2) ?_
     iterate 3 refine AO.c ?_
     refine AO.ww ?_
     refine AO.sst ?_
     refine AO.c ?_
     refine AO.nil ?_
     refine SQ.normal ?_
     refine AW.seq' ?_
     refine AW.seq' ?_
     refine AW.region ?_
     iterate 4 refine AO.c ?_
     iterate 22 refine AO.gx ?_
     iterate 2 refine AO.c ?_
     iterate 7 refine AO.gx ?_
     refine AO.c ?_
     refine AO.nil ?_
     refine SQ.normal ?_
     refine AW.iteB (GL.ev _) (fun h3 => ?_) (fun h3 => ?_)
     ·
      exfalso
      simp at h3
     ·
      skip
      refine AW.skip ?_
      refine SQ.normal ?_
      refine AW.seq' ?_
      refine AW.region ?_
      iterate 4 refine AO.c ?_
      refine AO.call1 Tryz.func14 rfl rfl (names_Where l ⟨dropF l l.length, dI l l.length⟩ o s (tab_w hlk hw)) ?_
      iterate 3 refine AO.c ?_
      refine AO.ww ?_
      refine AO.sst ?_
      refine AO.c ?_
      refine AO.nil ?_
      refine SQ.normal ?_
      refine AW.seq' ?_
      refine AW.region ?_
      iterate 4 refine AO.c ?_
      refine AO.call1 Tryz.func15 rfl rfl (ref_WhereV hlk hw o s) ?_
      iterate 3 refine AO.c ?_
      refine AO.ww ?_
      refine AO.sst ?_
      refine AO.c ?_
      refine AO.nil ?_
      refine SQ.normal ?_
      refine AW.seq' ?_
      refine AW.region ?_
      iterate 2 refine AO.c ?_
      refine AO.gx ?_
      refine AO.gxcall1 Tryz.func10 rfl rfl (fun hgd => law_Code (whereF l ⟨dropF l l.length, dI l l.length⟩ o s).2 (whereF_rng _ _ _ _)) ?_
      iterate 2 refine AO.gx ?_
      iterate 2 refine AO.c ?_
      iterate 5 refine AO.gx ?_
      iterate 2 refine AO.c ?_
      iterate 5 refine AO.gx ?_
      iterate 2 refine AO.c ?_
      iterate 5 refine AO.gx ?_
      iterate 2 refine AO.c ?_
      refine AO.nil ?_
      refine SQ.normal ?_
      refine AW.ret ?_
      refine Fin.ret (Gh.refl) noid1 ?_
      first | rfl | (simp [packA]; done)
    ·
     refine AW.region ?_
     iterate 2 refine AO.c ?_
     refine AO.call1 Tryz.func12 rfl rfl (hg1) ?_
     iterate 3 refine AO.c ?_
     refine AO.ww ?_
     refine AO.sst ?_
     refine AO.c ?_
     refine AO.nil ?_
     refine SQ.normal ?_
     refine AW.seq' ?_
     refine AW.region ?_
     iterate 3 refine AO.c ?_
     refine AO.call1 Tryz.func13 rfl rfl (hg2) ?_
     iterate 3 refine AO.c ?_
     refine AO.ww ?_
     refine AO.sst ?_
     refine AO.c ?_
     refine AO.nil ?_
     refine SQ.normal ?_
     refine AW.seq' ?_
     refine AW.seq' ?_
     refine AW.region ?_
     iterate 4 refine AO.c ?_
     iterate 22 refine AO.gx ?_
     iterate 2 refine AO.c ?_
     iterate 7 refine AO.gx ?_
     refine AO.c ?_
     refine AO.nil ?_
     refine SQ.normal ?_
     refine AW.iteB (GL.ev _) (fun h3 => ?_) (fun h3 => ?_)
     ·
      exfalso
      simp [zDef, noS] at h3
     ·
      skip
      refine AW.skip ?_
      refine SQ.normal ?_
      refine AW.seq' ?_
      refine AW.region ?_
      iterate 4 refine AO.c ?_
      refine AO.call1 Tryz.func14 rfl rfl (names_Where l ⟨dropF l l.length, dI l l.length⟩ o s (tab_w hlk hw)) ?_
      iterate 3 refine AO.c ?_
      refine AO.ww ?_
      refine AO.sst ?_
      refine AO.c ?_
      refine AO.nil ?_
      refine SQ.normal ?_
      refine AW.seq' ?_
      refine AW.region ?_
      iterate 4 refine AO.c ?_
      refine AO.call1 Tryz.func15 rfl rfl (ref_WhereV hlk hw o s) ?_
      iterate 3 refine AO.c ?_
      refine AO.ww ?_
      refine AO.sst ?_
      refine AO.c ?_
      refine AO.nil ?_
      refine SQ.normal ?_
      refine AW.seq' ?_
      refine AW.region ?_
      iterate 2 refine AO.c ?_
      refine AO.gx ?_
      refine AO.gxcall1 Tryz.func10 rfl rfl (fun hgd => law_Code (whereF l ⟨dropF l l.length, dI l l.length⟩ o s).2 (whereF_rng _ _ _ _)) ?_
      iterate 2 refine AO.gx ?_
      iterate 2 refine AO.c ?_
      iterate 5 refine AO.gx ?_
      iterate 2 refine AO.c ?_
      iterate 5 refine AO.gx ?_
      iterate 2 refine AO.c ?_
      iterate 5 refine AO.gx ?_
      iterate 2 refine AO.c ?_
      refine AO.nil ?_
      refine SQ.normal ?_
      refine AW.ret ?_
      refine Fin.ret (Gh.refl) noid1 ?_
      first | rfl | (simp [packA]; done)
theorem args_NamesResolves {avs : List AV} (h : TArgs Tryz.prog [22, 9, 3, 3] avs) : A0 Tryz.prog 3 avs (fun ret => ret = .v (.bool true)) := by
 obtain ⟨av1, b1, rfl, k1, h1⟩ := TArgs.inv_one rfl h
 obtain ⟨av2, b2, rfl, k2, h2⟩ := TArgs.inv_one rfl h1
 obtain ⟨av3, b3, rfl, k3, h3⟩ := TArgs.inv_one rfl h2
 obtain ⟨av4, b4, rfl, k4, h4⟩ := TArgs.inv_one rfl h3
 obtain rfl := TArgs.inv_nil h4
 obtain ⟨l, rfl, hl, hok⟩ := ta_objs k1
 obtain ⟨n2, e2, _⟩ := k2.inv_str
 obtain ⟨n3, e3, _⟩ := k3.inv_int (k := .i64)
 obtain ⟨n4, e4, _⟩ := k4.inv_int (k := .i64)
 cases e2
 cases e3
 cases e4
 exact names_Resolves l hl hok n2 n3 n4
end Go.Proofs.YtiomdnmicagdcaaGreat.AL
