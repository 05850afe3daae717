/- A part of the proof: rules of an own logic over blocks, and what functions of the program compute, each by its own contract; the conditions stand with each. -/
import Derived.Test.YtlapfdfbgckfcaaCj
namespace Go.Proofs.Ytlapfdfbgckfcaa.AL
open Go Go.RowKit Go.Proofs.Ytlapfdfbgckfcaa.Base
set_option linter.unusedVariables false
set_option linter.unusedSimpArgs false
set_option maxRecDepth 4000
set_option synthInstance.maxSize 1000
set_option synthInstance.maxHeartbeats 200000
def R31 (x : Int) : Prop := 0 ≤ x ∧ x ≤ 2147483647
theorem may10 {a0 a1 a2 a3 a4 a5 a6 a7 a8 a9 : Int} (h0 : R31 a0) (h1 : R31 a1) (h2 : R31 a2) (h3 : R31 a3) (h4 : R31 a4) (h5 : R31 a5) (h6 : R31 a6) (h7 : R31 a7) (h8 : R31 a8) (h9 : R31 a9) : (ShD.mk a0 a1 a2 a3 a4 a5 a6 a7 a8 a9).may := by
 intro x hx
 simp only [ShD.list, List.mem_cons, List.not_mem_nil, or_false] at hx
 rcases hx with rfl | rfl | rfl | rfl | rfl | rfl | rfl | rfl | rfl | rfl <;> assumption
theorem bif_ff {c x : Bool} (h : (bif c then false else x) = true) : c = false ∧ x = true := by
 cases c
 · exact ⟨rfl, h⟩
 · cases h
theorem flagsB_rng {f : Int} (h : flagsB f = true) : 0 ≤ f ∧ f ≤ 2097847 := by
 by_cases h0 : f < 0
 · rw [flagsB_neg h0] at h; cases h
 · obtain ⟨m, rfl⟩ := Int.eq_ofNat_of_zero_le (show 0 ≤ f by omega)
   rw [flagsB_nat, decide_eq_true_eq] at h
   have := Nat.and_le_right (n := m) (m := 2097847)
   omega
theorem alignB_rng {f : Int} (h : alignB f = true) : 1 ≤ f ∧ f ≤ 4096 := by
 unfold alignB powL at h
 simp at h
 omega
/-- What is told of a section that may be. -/
structure SecW (o : ObjD) (s : SecD) : Prop where
 typ : s.typ = 1 ∨ s.typ = 8
 size : R31 s.size
 prog : s.typ = 1 → s.size = s.data.length
 nob : s.typ = 8 → s.data = []
 flags : 0 ≤ s.flags ∧ s.flags ≤ 2097847
 align : 1 ≤ s.align ∧ s.align ≤ 4096
 ent : R31 s.ent
 link : (hasF s.flags 128 = true ∧ 1 ≤ s.link ∧ s.link ≤ o.secs.length) ∨ (hasF s.flags 128 = false ∧ s.link = 0)
 name : mayS s.name = true
 rels : ∀ r ∈ s.rels, mayRelB r = true
 relT : s.rels ≠ [] → s.typ = 1
theorem sec_W {o : ObjD} (h : LayH o) {i : Nat} (hi : i < o.secs.length) : SecW o (o.secs.getD i default) := by
 have hs := h.sh
 unfold shapeB at hs
 simp only [Bool.and_eq_true] at hs
 have h1 := List.all_eq_true.1 hs.1.1.2 i (List.mem_range.2 hi)
 unfold sectionB at h1
 rw [show ((i : Int) + 1 - 1).toNat = i by omega] at h1
 have hsm := h.small.sec _ (sec_in hi)
 generalize o.secs.getD i default = s at h1 hsm ⊢
 obtain ⟨h2, h3⟩ := bif_ff h1
 obtain ⟨h4, h5⟩ := bif_ff h3
 simp only [Bool.or_eq_false_iff, Bool.not_eq_false'] at h2
 obtain ⟨⟨hn, hk⟩, hr⟩ := h2
 unfold kindB at hk
 obtain ⟨k1, hk⟩ := bif_ff hk
 obtain ⟨k2, hk⟩ := bif_ff hk
 obtain ⟨k3, hk⟩ := bif_ff hk
 obtain ⟨k4, hk⟩ := bif_ff hk
 simp only [Bool.or_eq_false_iff, Bool.not_eq_false'] at k1
 simp only [Bool.or_eq_false_iff, Bool.and_eq_false_iff, decide_eq_false_iff_not, Decidable.not_not] at k2 k3 k4
 have hfl := flagsB_rng k1.1.1
 have hal := alignB_rng k1.1.2
 have ht : s.typ = 1 ∨ s.typ = 8 := by omega
 have hnob : s.typ = 8 → s.data = [] := fun e => by
  have : s.data.length = 0 := by omega
  exact List.eq_nil_of_length_eq_zero this
 refine ⟨ht, ⟨by omega, by omega⟩, fun e => by omega, hnob, hfl, hal, ?_, ?_, by rw [mayS_nameB]; exact hn, hsm.2.2.2.1, fun hne => ?_⟩
 · unfold R31
   cases hm : hasF s.flags 16 with
   | false =>
    rw [hm] at hk
    simp only [Bool.not_false, cond_true, Bool.and_eq_true, decide_eq_true_eq] at hk
    omega
   | true =>
    rw [hm] at hk
    simp only [Bool.not_true, cond_false] at hk
    obtain ⟨_, hk⟩ := bif_ff hk
    cases hs2 : hasF s.flags 32 with
    | true =>
     rw [hs2] at hk
     simp only [cond_true, Bool.and_eq_true, decide_eq_true_eq] at hk
     omega
    | false =>
     rw [hs2] at hk
     simp only [cond_false, Bool.and_eq_true, Bool.or_eq_true, decide_eq_true_eq] at hk
     omega
 · cases ho : hasF s.flags 128 with
   | true =>
    rw [ho] at h4
    simp at h4
    exact .inl ⟨rfl, by omega, by omega⟩
   | false =>
    rw [ho] at h4
    simp at h4
    exact .inr ⟨rfl, h4⟩
 · rcases ht with ht | ht
   · exact ht
   · exfalso
     unfold relsB at hr
     rw [hnob ht] at hr
     cases hl : s.rels with
     | nil => exact hne hl
     | cons r l =>
      rw [hl, relsG_cons] at hr
      simp only [Bool.and_eq_true] at hr
      obtain ⟨g1, g2⟩ := bif_ff hr.2
      simp only [Bool.or_eq_false_iff, Bool.not_eq_false', decide_eq_false_iff_not, List.length_nil] at g1
      have := mayRel_off g1.1.1
      omega
/-- What is told of a symbol that may be. -/
structure SymW (o : ObjD) (s : SymD) : Prop where
 name : mayS s.name = true
 bind : 0 ≤ s.bind ∧ s.bind ≤ 2
 typ : 0 ≤ s.typ ∧ s.typ ≤ 3
 sec : -1 ≤ s.sec ∧ s.sec ≤ o.secs.length
 val : R31 s.val
 size : R31 s.size
theorem sym_W {o : ObjD} (h : LayH o) {i : Nat} (hi : i < o.syms.length) : SymW o (o.syms.getD i default) := by
 have hs := h.sh
 unfold shapeB at hs
 simp only [Bool.and_eq_true] at hs
 have h1 := List.all_eq_true.1 hs.1.2 i (List.mem_range.2 hi)
 unfold symbolB at h1
 rw [Int.toNat_natCast] at h1
 generalize o.syms.getD i default = s at h1 ⊢
 cases h0 : decide ((i : Int) = 0) with
 | true =>
  rw [h0, cond_true] at h1
  simp only [Bool.and_eq_true, decide_eq_true_eq] at h1
  obtain ⟨⟨⟨⟨⟨e1, e2⟩, e3⟩, e4⟩, e5⟩, e6⟩ := h1
  have : s.name = noS := ba_eq.1 e1
  exact ⟨by rw [this]; rfl, by omega, by omega, by omega, by unfold R31; omega, by unfold R31; omega⟩
 | false =>
  rw [h0, cond_false] at h1
  obtain ⟨k1, h1⟩ := bif_ff h1
  obtain ⟨k2, h1⟩ := bif_ff h1
  simp only [Bool.or_eq_false_iff, Bool.not_eq_false', decide_eq_false_iff_not] at k1 k2
  obtain ⟨⟨⟨⟨⟨⟨e1, e2⟩, e3⟩, e4⟩, e5⟩, e6⟩, e7⟩ := k1
  obtain ⟨⟨⟨f1, f2⟩, f3⟩, f4⟩ := k2
  exact ⟨by rw [mayS_nameB]; exact e1, by omega, by omega, by omega, by unfold R31; omega, by unfold R31; omega⟩
theorem sig_W {o : ObjD} (h : LayH o) : ∀ x ∈ o.sig, 0 ≤ x ∧ x < o.syms.length := fun x hx => by
 have hs := h.sh
 unfold shapeB at hs
 simp only [Bool.and_eq_true] at hs
 have := List.all_eq_true.1 hs.2 x hx
 simp only [Bool.and_eq_true, decide_eq_true_eq] at this
 exact this
/-- What is told of a part. -/
structure PartR (p : PartD) : Prop where
 a0 : p.h.a0 = 0
 a1 : R31 p.h.a1
 kn : p.h.a1 = 0 ∨ knownF p.h.a1 = true
 a2 : R31 p.h.a2
 a3 : p.h.a3 = 0
 a5 : R31 p.h.a5
 a6 : R31 p.h.a6
 a7 : R31 p.h.a7
 a8 : R31 p.h.a8
 a9 : R31 p.h.a9
 nob : p.h.a1 = 8 → p.b = []
 name : mayS p.name = true
theorem r31_lit {x : Int} (h : decide (0 ≤ x) && decide (x ≤ 2147483647) = true) : R31 x := by
 simp only [Bool.and_eq_true, decide_eq_true_eq] at h; exact h
theorem relPs_R {at_ : Int} (hat : R31 at_) : ∀ (l : List SecD) (n : Int) (p : PartD), 0 ≤ n → n + l.length ≤ 1000 → p ∈ relPs at_ n l → PartR p ∧ p.h.a1 = 4 := by
 intro l
 induction l with
 | nil => intro n p _ _ hp; cases hp
 | cons a l ih =>
  intro n p h0 h1 hp
  rw [List.length_cons] at h1
  rw [relPs] at hp
  rcases List.mem_append.1 hp with hp | hp
  · unfold relPart at hp
    split at hp
    · cases hp
    · obtain rfl := List.mem_singleton.1 hp
      exact ⟨⟨rfl, r31_lit rfl, .inr rfl, r31_lit rfl, rfl, r31_lit rfl, hat, ⟨by omega, by show n ≤ _; omega⟩, r31_lit rfl, r31_lit rfl, fun h => absurd h (by show ¬ (4 : Int) = 8; decide), by show mayS nRela = true; decide⟩, rfl⟩
  · exact ih _ _ (by omega) (by omega) hp
/-- No section, and no symbols. -/
def Typ3 (p : PartD) : Prop := p.h.a1 = 4 ∨ p.h.a1 = 17 ∨ p.h.a1 = 1879002115
theorem mid_R {o : ObjD} (h : LayH o) : ∀ p ∈ midF o (atF8 o), PartR p ∧ Typ3 p := by
 intro p hp
 have hq := h.small
 have s1 := hq.secs
 have s2 := hq.syms
 have har := at_range h
 have hat : R31 (atF8 o) := ⟨har.1, by omega⟩
 unfold midF at hp
 simp only [List.mem_append, List.mem_map] at hp
 rcases hp with (hp | ⟨g, hg, rfl⟩) | hp
 · have := relPs_R hat _ _ _ (by decide) (by omega) hp
   exact ⟨this.1, .inl this.2⟩
 · have hg2 := hq.grp g hg
   have q1 := hg2.1.1
   have q2 := hg2.1.2.1
   exact ⟨⟨rfl, r31_lit rfl, .inr rfl, r31_lit rfl, rfl, r31_lit rfl, hat, ⟨by show 0 ≤ g.sym; omega, by show g.sym ≤ _; omega⟩, r31_lit rfl, r31_lit rfl, fun h => absurd h (by show ¬ (17 : Int) = 8; decide), by show mayS nGroup = true; decide⟩, .inr (.inl rfl)⟩
 · unfold sigPart at hp
   split at hp
   · obtain rfl := List.mem_singleton.1 hp
     exact ⟨⟨rfl, r31_lit rfl, .inr rfl, r31_lit rfl, rfl, r31_lit rfl, hat, r31_lit rfl, r31_lit rfl, r31_lit rfl, fun h => absurd h (by show ¬ (1879002115 : Int) = 8; decide), by show mayS nSig = true; decide⟩, .inr (.inr rfl)⟩
   · cases hp
theorem pre_R {o : ObjD} (h : LayH o) : ∀ p ∈ preF o, PartR p := by
 intro p hp
 have hq := h.small
 have s1 := hq.secs
 have s2 := hq.syms
 have har := at_range h
 have hl := localF_le o.syms
 unfold preF at hp
 simp only [List.mem_append, List.mem_cons, List.mem_map, List.not_mem_nil, or_false] at hp
 rcases hp with ((((rfl | ⟨a, ha, rfl⟩) | hp) | rfl) | rfl) | rfl
 · exact ⟨rfl, r31_lit rfl, .inl rfl, r31_lit rfl, rfl, r31_lit rfl, r31_lit rfl, r31_lit rfl, r31_lit rfl, r31_lit rfl, fun _ => rfl, by decide⟩
 · obtain ⟨i, hi, rfl⟩ := List.getElem_of_mem ha
   have e : o.secs.getD i default = o.secs[i] := by simp [hi]
   have w := sec_W h hi
   rw [e] at w
   have w1 := w.link
   have w2 := w.typ
   have w3 := w.flags
   have w4 := w.align
   refine ⟨rfl, ⟨by show 0 ≤ o.secs[i].typ; omega, by show o.secs[i].typ ≤ _; omega⟩, .inr ?_, ⟨w3.1, by show o.secs[i].flags ≤ _; omega⟩, rfl, w.size, ⟨by show 0 ≤ o.secs[i].link; omega, by show o.secs[i].link ≤ _; omega⟩, r31_lit rfl, ⟨by show 0 ≤ o.secs[i].align; omega, by show o.secs[i].align ≤ _; omega⟩, w.ent, fun h => w.nob h, w.name⟩
   show knownF o.secs[i].typ = true
   rcases w2 with w2 | w2 <;> rw [w2] <;> rfl
 · exact (mid_R h p hp).1
 · exact ⟨rfl, r31_lit rfl, .inr rfl, r31_lit rfl, rfl, r31_lit rfl, ⟨by show 0 ≤ atF8 o + 1; omega, by show atF8 o + 1 ≤ _; omega⟩, ⟨by show 0 ≤ localF o.syms; omega, by show localF o.syms ≤ _; omega⟩, r31_lit rfl, r31_lit rfl, fun h => absurd h (by show ¬ (2 : Int) = 8; decide), by show mayS nSym = true; decide⟩
 · exact ⟨rfl, r31_lit rfl, .inr rfl, r31_lit rfl, rfl, r31_lit rfl, r31_lit rfl, r31_lit rfl, r31_lit rfl, r31_lit rfl, fun h => absurd h (by show ¬ (3 : Int) = 8; decide), by show mayS nStr = true; decide⟩
 · exact ⟨rfl, r31_lit rfl, .inr rfl, r31_lit rfl, rfl, r31_lit rfl, r31_lit rfl, r31_lit rfl, r31_lit rfl, r31_lit rfl, fun h => absurd h (by show ¬ (3 : Int) = 8; decide), by show mayS nShs = true; decide⟩
theorem layN_at (l : List PartD) : ∀ n i, i < n → ∃ r r2, (layN l n).1 = (layN l i).1 ++ (l.getD i default).b ++ r ∧ (layN l n).2 = (layN l i).2 ++ putH (headOf i (layN l i).1 (l.getD i default)) ++ r2 := by
 intro n
 induction n with
 | zero => intro i hi; omega
 | succ n ih =>
  intro i hi
  by_cases h : i = n
  · subst h
    exact ⟨[], [], by rw [layN, List.append_nil], by rw [layN, List.append_nil]⟩
  · obtain ⟨r, r2, h1, h2⟩ := ih i (by omega)
    refine ⟨r ++ (l.getD n default).b, r2 ++ putH (headOf n (layN l n).1 (l.getD n default)), ?_, ?_⟩
    · rw [layN]; dsimp only; rw [h1]; simp only [List.append_assoc]
    · rw [layN]; dsimp only; rw [h2]; simp only [List.append_assoc]
theorem slice_mid {A m R : List Int} : ((A ++ m ++ R).take (A.length + m.length)).drop A.length = m := by
 rw [List.take_left' (by simp), List.drop_left' rfl]
structure Laid (o : ObjD) : Prop where
 h : LayH o
 le : (bytesF o).length ≤ 16384
abbrev bodyF (o : ObjD) : List Int := (layN (finF o) (finF o).length).1
abbrev headsF (o : ObjD) : List Int := (layN (finF o) (finF o).length).2
abbrev pK (o : ObjD) (i : Nat) : PartD := (preF o).getD i default
abbrev tblN (o : ObjD) : List Int := (tabOf (pNames o)).1
abbrev plN (o : ObjD) (i : Nat) : Int := (tabOf (pNames o)).2.1.getD i 0
theorem bytesF_eq (o : ObjD) : bytesF o = putEh ⟨64 + (bodyF o).length, (preF o).length, (preF o).length - 1⟩ ++ bodyF o ++ headsF o := by
 show putEh ⟨64 + (bodyF o).length, (finF o).length, (finF o).length - 1⟩ ++ bodyF o ++ headsF o = _
 rw [show (finF o).length = (preF o).length from finF_len o]
theorem body_le {o : ObjD} (L : Laid o) : (bodyF o).length ≤ 16384 := by
 have := L.le
 rw [bytesF_eq, List.length_append, List.length_append] at this
 omega
theorem fin_b {o : ObjD} {i : Nat} (hi : i < (preF o).length) : ((finF o).getD i default).b = if i = (preF o).length - 1 then tblN o else (pK o i).b := by
 rw [finF_get hi, tblF_get hi]; split <;> rfl
theorem fin_h {o : ObjD} {i : Nat} (hi : i < (preF o).length) : ((finF o).getD i default).h = ⟨plN o i, (pK o i).h.a1, (pK o i).h.a2, (pK o i).h.a3, (pK o i).h.a4, (pK o i).h.a5, (pK o i).h.a6, (pK o i).h.a7, (pK o i).h.a8, (pK o i).h.a9⟩ := by
 rw [finF_get hi, tblF_get hi]
 split
 · rename_i e
   have : pK o i = shsPt := by rw [e]; exact preF_last o
   rw [this]; rfl
 · rfl
theorem part_le {o : ObjD} (L : Laid o) {i : Nat} (hi : i < (preF o).length) : (layN (finF o) i).1.length + ((finF o).getD i default).b.length ≤ 16384 := by
 have h1 := body_le L
 obtain ⟨r, r2, h2, _⟩ := layN_at (finF o) (finF o).length i (by rw [finF_len]; exact hi)
 rw [show bodyF o = _ from h2, List.length_append, List.length_append] at h1
 omega
theorem pre_len {o : ObjD} (L : Laid o) : 4 ≤ (preF o).length := (pre_small L.h).2
theorem pNames_len (o : ObjD) : (pNames o).length = (preF o).length := by unfold pNames; rw [List.length_map]
theorem tbl_le {o : ObjD} (L : Laid o) : (tblN o).length ≤ 16384 := by
 have h4 := pre_len L
 have h1 := part_le L (i := (preF o).length - 1) (by omega)
 rw [fin_b (by omega), if_pos rfl] at h1
 omega
theorem pl_R {o : ObjD} (L : Laid o) {i : Nat} (hi : i < (preF o).length) : 0 ≤ plN o i ∧ plN o i ≤ 16384 := by
 have h1 : 0 ≤ plN o i ∧ plN o i < (tblN o).length := pl_range (l := pNames o) (k := i) (by rw [pNames_len]; exact hi)
 have h2 := tbl_le L
 omega
/-- A header as it is laid. -/
theorem head_at {o : ObjD} (L : Laid o) {i : Nat} (hi : i < (preF o).length) (h0 : 0 < i) : headOf i (layN (finF o) i).1 ((finF o).getD i default) = ⟨plN o i, (pK o i).h.a1, (pK o i).h.a2, (pK o i).h.a3, 64 + (layN (finF o) i).1.length, if (pK o i).h.a1 = 8 then (pK o i).h.a5 else ((finF o).getD i default).b.length, (pK o i).h.a6, (pK o i).h.a7, (pK o i).h.a8, (pK o i).h.a9⟩ := by
 unfold headOf
 rw [if_neg (by omega), fin_h hi]
theorem pK_0 (o : ObjD) : pK o 0 = zPart := rfl
theorem pl_0 (o : ObjD) : plN o 0 = 0 := (tab_inv (pNames o)).nil 0 (by rw [pNames_len, preF_len]; omega) rfl
theorem head_0 {o : ObjD} (L : Laid o) : headOf 0 (layN (finF o) 0).1 ((finF o).getD 0 default) = zeroSh := by
 have h4 := pre_len L
 unfold headOf
 rw [if_pos rfl, fin_h (by omega), pl_0, pK_0]; rfl
theorem head_may {o : ObjD} (L : Laid o) {i : Nat} (hi : i < (preF o).length) : (headOf i (layN (finF o) i).1 ((finF o).getD i default)).may := by
 rcases Nat.eq_zero_or_pos i with h0 | h0
 · subst h0; rw [head_0 L]; decide
 · rw [head_at L hi h0]
   have w := pre_R L.h _ (mem_getD hi)
   have hp := pl_R L hi
   have hb := part_le L hi
   refine may10 ⟨hp.1, by omega⟩ w.a1 w.a2 (by rw [w.a3]; exact r31_lit rfl) ⟨by omega, by omega⟩ ?_ w.a6 w.a7 w.a8 w.a9
   split
   · exact w.a5
   · exact ⟨by omega, by omega⟩
theorem heads_len {o : ObjD} (L : Laid o) : ∀ i, i ≤ (preF o).length → (layN (finF o) i).2.length = 64 * i := by
 intro i
 induction i with
 | zero => intro _; rfl
 | succ i ih =>
  intro hi
  rw [layN]
  dsimp only
  rw [List.length_append, ih (by omega), putH, if_pos (head_may L (by omega)), bytes_len]; omega
theorem pre_len2 {o : ObjD} (L : Laid o) : (preF o).length ≤ 256 := by
 have h1 := L.le
 rw [bytesF_eq, List.length_append, List.length_append] at h1
 have h2 : (headsF o).length = 64 * (preF o).length := by rw [← finF_len]; exact heads_len L _ (by rw [finF_len]; exact Nat.le_refl _)
 omega
def hdL (o : ObjD) : HdD := ⟨64 + (bodyF o).length, (preF o).length, (preF o).length - 1⟩
theorem hdL_may {o : ObjD} (L : Laid o) : (hdL o).may := by
 have h1 := body_le L
 have h2 := pre_len L
 have h3 := pre_len2 L
 unfold HdD.may MayHd hdL
 dsimp only
 omega
theorem bytesF_eq2 {o : ObjD} (L : Laid o) : bytesF o = (hdL o).bytes ++ (bodyF o ++ headsF o) := by
 rw [bytesF_eq, show (⟨64 + (bodyF o).length, (preF o).length, (preF o).length - 1⟩ : HdD) = hdL o from rfl, putEh, if_pos (hdL_may L), List.append_assoc]
theorem hd_forth {h : HdD} (hm : h.may) (c : List Int) : HdOk (h.bytes ++ c) ∧ hdOf (h.bytes ++ c) = h := by
 have e : ∀ i j : Nat, i + j ≤ 64 → ((h.bytes ++ c).drop i).take j = (h.bytes.drop i).take j := by
  intro i j hij
  rw [List.drop_append_of_le_length (by rw [hdB_len]; omega), List.take_append_of_le_length (by rw [List.length_drop, hdB_len]; omega)]
 have hm2 := hm
 unfold HdD.may MayHd at hm2
 have e1 : numAt (h.bytes ++ c) 40 8 = h.at_ := by
  show num (((h.bytes ++ c).drop 40).take 8) = _
  rw [e _ _ (by omega)]
  show num (((Hd h.at_ h.many h.names).drop 40).take 8) = _
  rw [hd_at, num_dig]; omega
 have e2 : numAt (h.bytes ++ c) 60 2 = h.many := by
  show num (((h.bytes ++ c).drop 60).take 2) = _
  rw [e _ _ (by omega)]
  show num (((Hd h.at_ h.many h.names).drop 60).take 2) = _
  rw [hd_many, num_dig]; omega
 have e3 : numAt (h.bytes ++ c) 62 2 = h.names := by
  show num (((h.bytes ++ c).drop 62).take 2) = _
  rw [e _ _ (by omega)]
  show num (((Hd h.at_ h.many h.names).drop 62).take 2) = _
  rw [hd_names, num_dig]; omega
 have he : hdOf (h.bytes ++ c) = h := by unfold hdOf; rw [e1, e2, e3]
 refine ⟨⟨by rw [List.length_append, hdB_len]; omega, by rw [he]; exact hm, ?_⟩, he⟩
 rw [he, List.take_append_of_le_length (by rw [hdB_len]; omega), List.take_of_length_le (by rw [hdB_len]; omega)]
theorem sym_split {b : List Int} {a : Int} (h0 : 0 ≤ a) (h1 : a + 24 ≤ b.length) : splitW EntW (b.drop a.toNat) = [numAt b a 4, b.getD (a + 4).toNat 0, b.getD (a + 5).toNat 0, numAt b (a + 6) 2, numAt b (a + 8) 8, numAt b (a + 16) 8] := by
 have e4 : (a + 4).toNat = a.toNat + 4 := by omega
 have e5 : (a + 5).toNat = a.toNat + 4 + 1 := by omega
 have e6 : (a + 6).toNat = a.toNat + 4 + 1 + 1 := by omega
 have e8 : (a + 8).toNat = a.toNat + 4 + 1 + 1 + 2 := by omega
 have e16 : (a + 16).toNat = a.toNat + 4 + 1 + 1 + 2 + 8 := by omega
 have n1 : num ((b.drop (a.toNat + 4)).take 1) = b.getD (a.toNat + 4) 0 := by rw [num_one _ _ (by omega), List.getD_eq_getElem?_getD, List.getElem?_eq_getElem (by omega)]; rfl
 have n2 : num ((b.drop (a.toNat + 4 + 1)).take 1) = b.getD (a.toNat + 4 + 1) 0 := by rw [num_one _ _ (by omega), List.getD_eq_getElem?_getD, List.getElem?_eq_getElem (by omega)]; rfl
 simp only [EntW, splitW, List.drop_drop, numAt, e4, e5, e6, e8, e16, n1, n2]
 rfl
theorem entB_join (e : EntD) (h : MayE e) : entB e = joinW EntW [e.name, 16 * e.bind + e.typ, 0, e.idx, e.val, e.size] := by
 unfold MayE at h
 show _ = dig e.name 4 ++ (dig (16 * e.bind + e.typ) 1 ++ (dig 0 1 ++ (dig e.idx 2 ++ (dig e.val 8 ++ (dig e.size 8 ++ [])))))
 rw [dig_one _ (by omega) (by omega)]
 unfold entB
 simp [dig]
theorem entB_bytes (e : EntD) (h : MayE e) : Bytes (entB e) := by rw [entB_join e h]; exact joinW_bytes _ _
theorem sym_forth (b c : List Int) {e : EntD} (h : MayE e) : SymOk (b ++ entB e ++ c) (b.length : Int) ∧ entOf (b ++ entB e ++ c) (b.length : Int) = e := by
 have hl : (b.length : Int) + 24 ≤ ((b ++ entB e ++ c).length : Nat) := by rw [List.length_append, List.length_append, entB_len]; omega
 have hs := sym_split (b := b ++ entB e ++ c) (a := (b.length : Int)) (by omega) hl
 have hm := h
 unfold MayE at hm
 have hj := split_join EntW [e.name, 16 * e.bind + e.typ, 0, e.idx, e.val, e.size] c rfl (by
  intro p hp
  simp [EntW] at hp
  rcases hp with rfl | rfl | rfl | rfl | rfl | rfl <;> simp <;> omega)
 rw [← entB_join e h] at hj
 rw [List.append_assoc, Int.toNat_natCast, List.drop_left, hj] at hs
 rw [← List.append_assoc] at hs
 simp only [List.cons.injEq, and_true] at hs
 obtain ⟨a1, a2, a3, a4, a5, a6⟩ := hs
 have he : entOf (b ++ entB e ++ c) (b.length : Int) = e := by
  unfold entOf
  rw [← a1, ← a2, ← a4, ← a5, ← a6]
  cases e
  simp only [EntD.mk.injEq, true_and, and_true]
  simp only at hm
  omega
 exact ⟨⟨by omega, hl, a3.symm, by rw [he]; exact h⟩, he⟩
theorem bk_hd {o : ObjD} (L : Laid o) : HdOk (bytesF o) ∧ hdOf (bytesF o) = hdL o := by
 rw [bytesF_eq2 L]; exact hd_forth (hdL_may L) _
theorem bk_mn {o : ObjD} (L : Laid o) : mnH (bytesF o) = (preF o).length := by
 unfold mnH; rw [(bk_hd L).2]; unfold hdL; simp
theorem hdB_len2 (h : HdD) : h.bytes.length = 64 := hd_length _ _ _
theorem bk_sh {o : ObjD} (L : Laid o) {i : Nat} (hi : i < (preF o).length) : ShOk (bytesF o) ((hdOf (bytesF o)).at_ + 64 * i) ∧ shK (bytesF o) i = headOf i (layN (finF o) i).1 ((finF o).getD i default) := by
 obtain ⟨r, r2, h1, h2⟩ := layN_at (finF o) (finF o).length i (by rw [finF_len]; exact hi)
 have hm := head_may L hi
 have he : bytesF o = ((hdL o).bytes ++ bodyF o ++ (layN (finF o) i).2) ++ (headOf i (layN (finF o) i).1 ((finF o).getD i default)).bytes ++ r2 := by
  rw [bytesF_eq2 L, show headsF o = _ from h2, putH, if_pos hm]
  simp only [List.append_assoc]
 have hl : (((hdL o).bytes ++ bodyF o ++ (layN (finF o) i).2).length : Int) = (hdOf (bytesF o)).at_ + 64 * i := by
  rw [List.length_append, List.length_append, hdB_len2, heads_len L i (by omega), (bk_hd L).2]
  show _ = (64 + ((bodyF o).length : Int)) + 64 * i
  omega
 have h3 := sh_forth ((hdL o).bytes ++ bodyF o ++ (layN (finF o) i).2) r2 hm
 rw [← he, hl] at h3
 exact h3
theorem bk_slice {o : ObjD} (L : Laid o) {i : Nat} (hi : i < (preF o).length) : ((bytesF o).take (64 + (layN (finF o) i).1.length + ((finF o).getD i default).b.length)).drop (64 + (layN (finF o) i).1.length) = ((finF o).getD i default).b := by
 obtain ⟨r, r2, h1, h2⟩ := layN_at (finF o) (finF o).length i (by rw [finF_len]; exact hi)
 have he : bytesF o = ((hdL o).bytes ++ (layN (finF o) i).1) ++ ((finF o).getD i default).b ++ (r ++ headsF o) := by
  rw [bytesF_eq2 L, show bodyF o = _ from h1]
  simp only [List.append_assoc]
 have hl : ((hdL o).bytes ++ (layN (finF o) i).1).length = 64 + (layN (finF o) i).1.length := by rw [List.length_append, hdB_len2]
 have := slice_mid (A := (hdL o).bytes ++ (layN (finF o) i).1) (m := ((finF o).getD i default).b) (R := r ++ headsF o)
 rw [← he, hl] at this
 exact this
theorem fin_nob {o : ObjD} (L : Laid o) {i : Nat} (hi : i < (preF o).length) (h8 : (pK o i).h.a1 = 8) : ((finF o).getD i default).b = [] := by
 rw [fin_b hi]
 split
 · rename_i e
   have : pK o i = shsPt := by rw [e]; exact preF_last o
   rw [this] at h8
   exact absurd h8 (by show ¬ (3 : Int) = 8; decide)
 · exact (pre_R L.h _ (mem_getD hi)).nob h8
theorem bk_told {o : ObjD} (L : Laid o) {i : Nat} (hi : i < (preF o).length) (h0 : 0 < i) : toldF (bytesF o) (shK (bytesF o) i) = ((finF o).getD i default).b := by
 rw [(bk_sh L hi).2, head_at L hi h0]
 unfold toldF
 dsimp only
 split
 · rename_i h8
   exact (fin_nob L hi h8).symm
 · have := bk_slice L hi
   rw [show (64 + ((layN (finF o) i).1.length : Int) + (((finF o).getD i default).b.length : Int)).toNat = 64 + (layN (finF o) i).1.length + ((finF o).getD i default).b.length by omega, show (64 + ((layN (finF o) i).1.length : Int)).toNat = 64 + (layN (finF o) i).1.length by omega]
   exact this
theorem bk_a0 {o : ObjD} (L : Laid o) {i : Nat} (hi : i < (preF o).length) : (shK (bytesF o) i).a0 = plN o i := by
 rw [(bk_sh L hi).2]
 rcases Nat.eq_zero_or_pos i with h0 | h0
 · subst h0; rw [head_0 L, pl_0]; rfl
 · rw [head_at L hi h0]
theorem bk_a {o : ObjD} (L : Laid o) {i : Nat} (hi : i < (preF o).length) (h0 : 0 < i) : shK (bytesF o) i = ⟨plN o i, (pK o i).h.a1, (pK o i).h.a2, (pK o i).h.a3, 64 + (layN (finF o) i).1.length, if (pK o i).h.a1 = 8 then (pK o i).h.a5 else ((finF o).getD i default).b.length, (pK o i).h.a6, (pK o i).h.a7, (pK o i).h.a8, (pK o i).h.a9⟩ := by
 rw [(bk_sh L hi).2, head_at L hi h0]
theorem bk_a1 {o : ObjD} (L : Laid o) {i : Nat} (hi : i < (preF o).length) : (shK (bytesF o) i).a1 = (pK o i).h.a1 := by
 rcases Nat.eq_zero_or_pos i with h0 | h0
 · subst h0; rw [(bk_sh L hi).2, head_0 L, pK_0]; rfl
 · rw [bk_a L hi h0]
theorem bk_tbl {o : ObjD} (L : Laid o) : toldF (bytesF o) (shK (bytesF o) (hdOf (bytesF o)).names.toNat) = tblN o := by
 have h4 := pre_len L
 have e : (hdOf (bytesF o)).names.toNat = (preF o).length - 1 := by rw [(bk_hd L).2]; unfold hdL; dsimp only; omega
 rw [e, bk_told L (by omega) (by omega), fin_b (by omega), if_pos rfl]
theorem pn_get {o : ObjD} {i : Nat} (hi : i < (preF o).length) : (pNames o).getD i default = (pK o i).name := by
 unfold pNames
 rw [List.getD_eq_getElem?_getD, List.getElem?_map, List.getElem?_eq_getElem hi]
 simp [hi]
theorem bk_nm {o : ObjD} (L : Laid o) {i : Nat} (hi : i < (preF o).length) : nmK (bytesF o) i = some (pK o i).name := by
 unfold nmK
 rw [bk_tbl L, bk_a0 L hi]
 obtain ⟨h1, r, h2⟩ := (tab_inv (pNames o)).at_ i (by rw [pNames_len]; exact hi)
 rw [pn_get hi] at h2
 exact atF_name h1 (pre_R L.h _ (mem_getD hi)).name h2
theorem pre_pos {o : ObjD} (L : Laid o) {i : Nat} (hi : i < (preF o).length) (h0 : 0 < i) : knownF (pK o i).h.a1 = true := by
 have h4 := pre_len L
 rw [preF_len] at hi h4
 rcases (pre_R L.h _ (mem_getD (l := preF o) (i := i) (by rw [preF_len]; exact hi))).kn with h | h
 · exfalso
   change (pK o i).h.a1 = 0 at h
   have hp := mem_getD (l := preF o) (i := i) (by rw [preF_len]; exact hi)
   have e : (preF o).getD i default = ((o.secs.map secPart ++ midF o (atF8 o)) ++ [symPt o (atF8 o)] ++ [strPt o] ++ [shsPt]).getD (i - 1) default := by
    obtain ⟨k, rfl⟩ : ∃ k, i = k + 1 := ⟨i - 1, by omega⟩
    unfold preF
    simp [List.getD_eq_getElem?_getD]
   have hm : (preF o).getD i default ∈ ((o.secs.map secPart ++ midF o (atF8 o)) ++ [symPt o (atF8 o)] ++ [strPt o] ++ [shsPt]) := by
    rw [e]; exact mem_getD (by simp only [List.length_append, List.length_map, List.length_cons, List.length_nil]; omega)
   change (pK o i) ∈ _ at hm
   simp only [List.mem_append, List.mem_map, List.mem_cons, List.not_mem_nil, or_false] at hm
   rcases hm with (((⟨a, ha, hm⟩ | hm) | hm) | hm) | hm
   · obtain ⟨k, hk, rfl⟩ := List.getElem_of_mem ha
     have w := (sec_W L.h hk).typ
     have e2 : o.secs.getD k default = o.secs[k] := by simp [hk]
     rw [e2] at w
     rw [← hm] at h
     have h : o.secs[k].typ = 0 := h
     omega
   · have := (mid_R L.h _ hm).2
     unfold Typ3 at this
     omega
   · rw [hm] at h; exact absurd h (by show ¬ (2 : Int) = 0; decide)
   · rw [hm] at h; exact absurd h (by show ¬ (3 : Int) = 0; decide)
   · rw [hm] at h; exact absurd h (by show ¬ (3 : Int) = 0; decide)
 · exact h
theorem bytes_le {o : ObjD} (L : Laid o) : 64 + (bodyF o).length ≤ (bytesF o).length := by
 rw [bytesF_eq2 L, List.length_append, List.length_append, hdB_len2]; omega
theorem bk_frame {o : ObjD} (L : Laid o) : frOk (bytesF o) := by
 have h4 := pre_len L
 have hmn := bk_mn L
 refine ⟨(bk_hd L).1, L.le, fun k hk => ?_, ?_, fun k _ hk => by rw [bk_nm L (by omega)]; rfl⟩
 · rw [hmn] at hk
   refine ⟨(bk_sh L hk).1, fun e => ?_, fun h0 => ?_⟩
   · subst e; rw [(bk_sh L hk).2, head_0 L]
   · rw [bk_a1 L hk]
     refine ⟨pre_pos L hk h0, ?_, ?_⟩
     · rw [bk_a L hk h0]; exact (pre_R L.h _ (mem_getD hk)).a3
     · by_cases h8 : (pK o k).h.a1 = 8
       · exact .inl h8
       · right
         rw [bk_a L hk h0]
         dsimp only
         rw [if_neg h8]
         obtain ⟨r, r2, h1, _⟩ := layN_at (finF o) (finF o).length k (by rw [finF_len]; exact hk)
         have hb := bytes_le L
         rw [show bodyF o = _ from h1, List.length_append, List.length_append] at hb
         omega
 · have e : (hdOf (bytesF o)).names = ((preF o).length : Int) - 1 := by rw [(bk_hd L).2]; rfl
   unfold isF
   rw [hdsN_len, hmn, e, decide_eq_true (by omega), decide_eq_true (by omega)]
   rw [hdsN_get (by omega), show (((preF o).length : Int) - 1).toNat = (preF o).length - 1 by omega, bk_a1 L (by omega), show pK o ((preF o).length - 1) = shsPt from preF_last o]
   rfl
end Go.Proofs.Ytlapfdfbgckfcaa.AL
namespace Go.Proofs.Ytlapfdfbgckfcaa.AL
open Go Go.RowKit Go.Proofs.Ytlapfdfbgckfcaa.Base
set_option linter.unusedVariables false
set_option linter.unusedSimpArgs false
set_option maxRecDepth 4000
set_option synthInstance.maxSize 1000
set_option synthInstance.maxHeartbeats 200000
def SecD.bare (s : SecD) : SecD := { s with link := 0, rels := [] }
def SecD.lone (s : SecD) : SecD := { s with rels := [] }
theorem getD_app_l {α : Type} {l r : List α} {i : Nat} {d : α} (h : i < l.length) : (l ++ r).getD i d = l.getD i d := by
 rw [List.getD_eq_getElem?_getD, List.getElem?_append_left h, ← List.getD_eq_getElem?_getD]
theorem getD_app_r {α : Type} {l r : List α} {i : Nat} {d : α} : (l ++ r).getD (l.length + i) d = r.getD i d := by
 rw [List.getD_eq_getElem?_getD, List.getElem?_append_right (by omega), Nat.add_sub_cancel_left, ← List.getD_eq_getElem?_getD]
theorem getD_map {α β : Type} [Inhabited α] {f : α → β} {l : List α} {i : Nat} {d : β} (h : i < l.length) : (l.map f).getD i d = f (l.getD i default) := by
 rw [List.getD_eq_getElem?_getD, List.getElem?_map, List.getElem?_eq_getElem h, List.getD_eq_getElem?_getD, List.getElem?_eq_getElem h]; rfl
theorem getD_set {α : Type} {l : List α} {i j : Nat} {a d : α} (h : i < l.length) : (l.set i a).getD j d = if i = j then a else l.getD j d := by
 by_cases e : i = j
 · subst e; rw [if_pos rfl, List.getD_eq_getElem?_getD, List.getElem?_set_self h]; rfl
 · rw [if_neg e, List.getD_eq_getElem?_getD, List.getElem?_set_ne e, ← List.getD_eq_getElem?_getD]
theorem ext_getD {α : Type} [Inhabited α] {l r : List α} (hl : l.length = r.length) (h : ∀ k, k < r.length → l.getD k default = r.getD k default) : l = r := by
 apply List.ext_getElem hl
 intro i h1 h2
 have := h i h2
 simpa [List.getD_eq_getElem?_getD, h1, h2] using this
theorem preF_assoc (o : ObjD) : preF o = (zPart :: o.secs.map secPart) ++ (midF o (atF8 o) ++ ([symPt o (atF8 o)] ++ ([strPt o] ++ [shsPt]))) := by
 unfold preF; simp only [List.append_assoc]
theorem pK_sec {o : ObjD} {k : Nat} (hk : k < o.secs.length) : pK o (k + 1) = secPart (o.secs.getD k default) := by
 show (preF o).getD (k + 1) default = _
 rw [preF_assoc, getD_app_l (by simp; omega), List.getD_cons_succ, getD_map hk]
theorem pK_rest (o : ObjD) (j : Nat) : pK o (o.secs.length + 1 + j) = (midF o (atF8 o) ++ ([symPt o (atF8 o)] ++ ([strPt o] ++ [shsPt]))).getD j default := by
 show (preF o).getD _ default = _
 rw [preF_assoc, show o.secs.length + 1 + j = (zPart :: o.secs.map secPart).length + j by simp, getD_app_r]
theorem pK_mid {o : ObjD} {j : Nat} (hj : j < (midF o (atF8 o)).length) : pK o (o.secs.length + 1 + j) = (midF o (atF8 o)).getD j default := by
 rw [pK_rest, getD_app_l hj]
theorem pK_sym (o : ObjD) : pK o (o.secs.length + 1 + (midF o (atF8 o)).length) = symPt o (atF8 o) := by
 rw [pK_rest]; exact (getD_app_r (i := 0)).trans rfl
theorem pK_str (o : ObjD) : pK o (o.secs.length + 1 + (midF o (atF8 o)).length + 1) = strPt o := by
 rw [Nat.add_assoc (o.secs.length + 1), pK_rest]; exact (getD_app_r (i := 1)).trans rfl
theorem pK_shs (o : ObjD) : pK o (o.secs.length + 1 + (midF o (atF8 o)).length + 2) = shsPt := by
 rw [Nat.add_assoc (o.secs.length + 1), pK_rest]; exact (getD_app_r (i := 2)).trans rfl
theorem n_eq (o : ObjD) : (preF o).length = o.secs.length + 1 + (midF o (atF8 o)).length + 3 := by rw [preF_len]; omega
theorem relPs_len2 (a c : Int) : ∀ (l : List SecD) (n : Int), (relPs a n l).length = (relPs c n l).length := by
 intro l
 induction l with
 | nil => intro n; rfl
 | cons s l ih =>
  intro n
  rw [relPs, relPs, List.length_append, List.length_append, ih]
  unfold relPart
  split <;> rfl
theorem midF_len2 (o : ObjD) (a c : Int) : (midF o a).length = (midF o c).length := by
 unfold midF
 simp only [List.length_append, List.length_map, relPs_len2 a c]
 unfold sigPart
 split <;> rfl
theorem at_eq (o : ObjD) : atF8 o = ((o.secs.length + 1 + (midF o (atF8 o)).length : Nat) : Int) := by
 have e := midF_len2 o 0 (atF8 o)
 have h := atF8_eq o
 omega
/-- Of which type a header is. -/
theorem typ_at {o : ObjD} (L : Laid o) {k : Nat} (hk : k < (preF o).length) (h1 : o.secs.length < k) : (Typ3 (pK o k) ∧ k < o.secs.length + 1 + (midF o (atF8 o)).length) ∨ (k = o.secs.length + 1 + (midF o (atF8 o)).length ∧ (pK o k).h.a1 = 2) ∨ (k = o.secs.length + 1 + (midF o (atF8 o)).length + 1 ∧ (pK o k).h.a1 = 3) ∨ (k = o.secs.length + 1 + (midF o (atF8 o)).length + 2 ∧ (pK o k).h.a1 = 3) := by
 rw [n_eq] at hk
 obtain ⟨j, rfl⟩ : ∃ j, k = o.secs.length + 1 + j := ⟨k - (o.secs.length + 1), by omega⟩
 by_cases hj : j < (midF o (atF8 o)).length
 · exact .inl ⟨by rw [pK_mid hj]; exact (mid_R L.h _ (mem_getD hj)).2, by omega⟩
 · have : j = (midF o (atF8 o)).length ∨ j = (midF o (atF8 o)).length + 1 ∨ j = (midF o (atF8 o)).length + 2 := by omega
   rcases this with rfl | rfl | rfl
   · exact .inr (.inl ⟨rfl, by rw [pK_sym]; rfl⟩)
   · exact .inr (.inr (.inl ⟨rfl, by rw [← Nat.add_assoc, pK_str]; rfl⟩))
   · exact .inr (.inr (.inr ⟨rfl, by rw [← Nat.add_assoc, pK_shs]; rfl⟩))
theorem sec_typ {o : ObjD} (L : Laid o) {k : Nat} (h0 : 0 < k) (h1 : k ≤ o.secs.length) : (pK o k).h.a1 = 1 ∨ (pK o k).h.a1 = 8 := by
 obtain ⟨j, rfl⟩ : ∃ j, k = j + 1 := ⟨k - 1, by omega⟩
 rw [pK_sec (by omega)]
 exact (sec_W L.h (by omega)).typ
theorem bk_isS {o : ObjD} (L : Laid o) {k : Nat} (hk : k < (preF o).length) : isS (shK (bytesF o) k) ↔ 0 < k ∧ k ≤ o.secs.length := by
 unfold isS
 rw [bk_a1 L hk]
 constructor
 · intro h
   rcases Nat.eq_zero_or_pos k with h0 | h0
   · subst h0; rw [pK_0] at h; exact absurd h (by show ¬ ((0 : Int) = 1 ∨ (0 : Int) = 8); decide)
   · refine ⟨h0, ?_⟩
     by_cases h2 : k ≤ o.secs.length
     · exact h2
     · exfalso
       have := typ_at L hk (by omega)
       unfold Typ3 at this
       omega
 · intro h; exact sec_typ L h.1 h.2
theorem fin_bs {o : ObjD} {k : Nat} (hk : k < (preF o).length) (h1 : k < o.secs.length + 1 + (midF o (atF8 o)).length + 2) : ((finF o).getD k default).b = (pK o k).b := by
 rw [fin_b hk, if_neg (by rw [n_eq]; omega)]
theorem bk_secO {o : ObjD} (L : Laid o) {k : Nat} (hk : k < o.secs.length) : secO (bytesF o) (shK (bytesF o) (k + 1)) ((nmK (bytesF o) (k + 1)).getD noS) = (o.secs.getD k default).bare := by
 have hn := n_eq o
 have w := sec_W L.h hk
 unfold secO
 rw [bk_told L (by omega) (by omega), fin_bs (by omega) (by omega), bk_nm L (by omega), bk_a L (by omega) (by omega), fin_bs (by omega) (by omega), pK_sec hk]
 have hal := w.align
 have hsz : (if (secPart (o.secs.getD k default)).h.a1 = 8 then (secPart (o.secs.getD k default)).h.a5 else ((secPart (o.secs.getD k default)).b.length : Int)) = (o.secs.getD k default).size := by
  show (if (o.secs.getD k default).typ = 8 then (o.secs.getD k default).size else ((o.secs.getD k default).data.length : Int)) = _
  split
  · rfl
  · rename_i h8
    have := w.typ
    exact (w.prog (by omega)).symm
 rw [hsz]
 show SecD.mk _ _ _ (max (o.secs.getD k default).align 1) _ _ _ _ _ = _
 rw [show max (o.secs.getD k default).align 1 = (o.secs.getD k default).align by omega]
 rfl
theorem bk_secM {o : ObjD} (L : Laid o) : ∀ k, k < (preF o).length → (secM (bytesF o) k).1 = (o.secs.take k).map SecD.bare := by
 intro k
 induction k with
 | zero => intro _; rfl
 | succ k ih =>
  intro hk
  have h1 := bk_isS L hk
  unfold isS at h1
  rw [secM_S]
  by_cases hs : k < o.secs.length
  · rw [if_pos (h1.2 ⟨by omega, by omega⟩), ih (by omega), bk_secO L hs, map_take_succ _ hs]
  · rw [if_neg (fun h => by have := h1.1 h; omega), ih (by omega), List.take_of_length_le (by omega), List.take_of_length_le (by omega)]
theorem bk_num {o : ObjD} (L : Laid o) (q : Int) : aget (numM (bytesF o)) q = if 1 ≤ q ∧ q ≤ o.secs.length then some q else none := by
 have hn := n_eq o
 have hmn := bk_mn L
 rw [show numM (bytesF o) = (secM (bytesF o) (mnH (bytesF o) - 1)).2 from rfl, secM_get]
 by_cases h : 1 ≤ q ∧ q ≤ o.secs.length
 · rw [if_pos h, if_pos ⟨h.1, by omega, (bk_isS L (by omega)).2 ⟨by omega, by omega⟩⟩, bk_secM L _ (by omega), List.length_map, List.length_take, Nat.min_eq_left (by omega)]
   congr 1; omega
 · rw [if_neg h, if_neg]
   intro h2
   have := (bk_isS L (by omega)).1 h2.2.2
   omega
theorem bk_numF {o : ObjD} (L : Laid o) (q : Int) : numF (bytesF o) q = if 1 ≤ q ∧ q ≤ o.secs.length then q else 0 := by
 unfold numF; rw [bk_num L]; split <;> rfl
theorem bk_last {o : ObjD} (L : Laid o) : (secM (bytesF o) (mnH (bytesF o) - 1)).1 = o.secs.map SecD.bare := by
 have hn := n_eq o
 have hmn := bk_mn L
 rw [bk_secM L _ (by omega), List.take_of_length_le (by omega)]
theorem bk_lnkLen {o : ObjD} (L : Laid o) (i : Nat) : (lnkM (bytesF o) i).length = o.secs.length := by rw [lnkM_len, bk_last L, List.length_map]
theorem bk_a6 {o : ObjD} (L : Laid o) {i : Nat} (hi : i < (preF o).length) (h0 : 0 < i) : (shK (bytesF o) i).a6 = (pK o i).h.a6 ∧ (shK (bytesF o) i).a7 = (pK o i).h.a7 ∧ (shK (bytesF o) i).a2 = (pK o i).h.a2 ∧ (shK (bytesF o) i).a9 = (pK o i).h.a9 := by rw [bk_a L hi h0]; exact ⟨rfl, rfl, rfl, rfl⟩
theorem bk_lnk {o : ObjD} (L : Laid o) : ∀ i, i ≤ (preF o).length → ∀ k, k < o.secs.length → (lnkM (bytesF o) i).getD k default = if k + 1 < i then (o.secs.getD k default).lone else (o.secs.getD k default).bare := by
 intro i
 induction i with
 | zero =>
  intro _ k hk
  rw [if_neg (by omega), lnkM, bk_last L, getD_map hk]
 | succ i ih =>
  intro hi k hk
  have hn := n_eq o
  by_cases hv : 1 ≤ (i : Int) ∧ (i : Int) ≤ o.secs.length
  · have h1 : aget (numM (bytesF o)) (i : Int) = some (i : Int) := by rw [bk_num L, if_pos hv]
    rw [lnkM_some h1, getD_set (by rw [bk_lnkLen L]; omega)]
    by_cases e : ((i : Int) - 1).toNat = k
    · obtain rfl : i = k + 1 := by omega
      rw [if_pos e, e, ih (by omega) k hk, if_neg (by omega), if_pos (by omega), (bk_a6 L (by omega) (by omega)).1, pK_sec hk, bk_numF L]
      have w := (sec_W L.h hk).link
      have hl : (secPart (o.secs.getD k default)).h.a6 = (o.secs.getD k default).link := rfl
      rw [hl]
      have : (if 1 ≤ (o.secs.getD k default).link ∧ (o.secs.getD k default).link ≤ o.secs.length then (o.secs.getD k default).link else 0) = (o.secs.getD k default).link := by
       split
       · rfl
       · omega
      rw [this]; rfl
    · rw [if_neg e, ih (by omega) k hk]
      by_cases h2 : k + 1 < i
      · rw [if_pos h2, if_pos (by omega)]
      · rw [if_neg h2, if_neg (by omega)]
  · have h1 : aget (numM (bytesF o)) (i : Int) = none := by rw [bk_num L, if_neg hv]
    rw [lnkM_none h1, ih (by omega) k hk]
    by_cases h2 : k + 1 < i
    · rw [if_pos h2, if_pos (by omega)]
    · rw [if_neg h2, if_neg (by omega)]
theorem band_128 {f : Int} (h0 : 0 ≤ f) (h1 : f ≤ 9223372036854775807) : band f 128 = if hasF f 128 = true then 128 else 0 := by
 unfold band hasF
 have := and_pow 7 h0 h1 (by decide)
 rw [show (((2 ^ 7 : Nat) : Nat) : Int) = 128 by decide] at this
 rw [this]
 by_cases h : f / 128 % 2 = 1
 · rw [if_pos h, if_pos (by simp [h0, h])]; rfl
 · rw [if_neg h, if_neg (by simp [h])]; rfl
theorem bk_links {o : ObjD} (L : Laid o) : lnkOk (bytesF o) := by
 intro i hi hs
 rw [bk_mn L] at hi
 rw [bk_num L] at hs
 have hv : 1 ≤ (i : Int) ∧ (i : Int) ≤ o.secs.length := by
  by_cases h : 1 ≤ (i : Int) ∧ (i : Int) ≤ o.secs.length
  · exact h
  · rw [if_neg h] at hs; cases hs
 obtain ⟨k, rfl⟩ : ∃ k, i = k + 1 := ⟨i - 1, by omega⟩
 have hk : k < o.secs.length := by omega
 obtain ⟨e6, e7, e2, _⟩ := bk_a6 L hi (by omega)
 rw [e6, e7, e2, pK_sec hk]
 have w := sec_W L.h hk
 have wl := w.link
 have wf := w.flags
 refine ⟨rfl, fun hb => ?_, fun hb => ?_⟩
 · change band (o.secs.getD k default).flags 128 ≠ 0 at hb
   rw [band_128 wf.1 (by omega)] at hb
   show (aget (numM (bytesF o)) (o.secs.getD k default).link).isSome = true
   rcases wl with wl | wl
   · rw [bk_num L, if_pos ⟨wl.2.1, wl.2.2⟩]; rfl
   · rw [wl.1] at hb; exact absurd rfl hb
 · change band (o.secs.getD k default).flags 128 = 0 at hb
   rw [band_128 wf.1 (by omega)] at hb
   show (o.secs.getD k default).link = 0
   rcases wl with wl | wl
   · rw [if_pos wl.1] at hb; cases hb
   · exact wl.2
theorem bk_lone {o : ObjD} (L : Laid o) {k : Nat} (hk : k < o.secs.length) : (lnkM (bytesF o) (mnH (bytesF o))).getD k default = (o.secs.getD k default).lone := by
 rw [bk_mn L, bk_lnk L _ (Nat.le_refl _) k hk, if_pos (by rw [n_eq]; omega)]
end Go.Proofs.Ytlapfdfbgckfcaa.AL
namespace Go.Proofs.Ytlapfdfbgckfcaa.AL
open Go Go.RowKit Go.Proofs.Ytlapfdfbgckfcaa.Base
set_option linter.unusedVariables false
set_option linter.unusedSimpArgs false
set_option maxRecDepth 4000
set_option synthInstance.maxSize 1000
set_option synthInstance.maxHeartbeats 200000
abbrev sTab (o : ObjD) : List Int := (tabOf (namesOf o)).1
abbrev sPl (o : ObjD) (k : Nat) : Int := (tabOf (namesOf o)).2.1.getD k 0
abbrev sK (o : ObjD) (k : Nat) : SymD := o.syms.getD k default
theorem y_lt (o : ObjD) : (o.secs.length + 1 + (midF o (atF8 o)).length) < (preF o).length ∧ 0 < (o.secs.length + 1 + (midF o (atF8 o)).length) ∧ (o.secs.length + 1 + (midF o (atF8 o)).length) + 1 < (preF o).length := by rw [n_eq]; omega
theorem bk_ytold {o : ObjD} (L : Laid o) : toldF (bytesF o) (shK (bytesF o) ((o.secs.length + 1 + (midF o (atF8 o)).length))) = entsF o (tabOf (namesOf o)).2.1 o.syms.length := by
 have hy := y_lt o
 rw [bk_told L hy.1 hy.2.1, fin_bs hy.1 (by omega), pK_sym]; rfl
theorem bk_ystr {o : ObjD} (L : Laid o) : toldF (bytesF o) (shK (bytesF o) ((o.secs.length + 1 + (midF o (atF8 o)).length) + 1)) = sTab o := by
 have hy := y_lt o
 rw [bk_told L hy.2.2 (by omega), fin_bs hy.2.2 (by omega), pK_str]; rfl
theorem bk_ya {o : ObjD} (L : Laid o) : (shK (bytesF o) ((o.secs.length + 1 + (midF o (atF8 o)).length))).a1 = 2 ∧ (shK (bytesF o) ((o.secs.length + 1 + (midF o (atF8 o)).length))).a6 = ((o.secs.length + 1 + (midF o (atF8 o)).length) : Int) + 1 ∧ (shK (bytesF o) ((o.secs.length + 1 + (midF o (atF8 o)).length))).a7 = localF o.syms ∧ (shK (bytesF o) ((o.secs.length + 1 + (midF o (atF8 o)).length))).a9 = 24 ∧ (shK (bytesF o) ((o.secs.length + 1 + (midF o (atF8 o)).length))).a5 = ((entsF o (tabOf (namesOf o)).2.1 o.syms.length).length : Int) := by
 have hy := y_lt o
 rw [bk_a L hy.1 hy.2.1, fin_bs hy.1 (by omega), pK_sym]
 refine ⟨rfl, ?_, rfl, rfl, ?_⟩
 · have := at_eq o
   show atF8 o + 1 = _
   omega
 · show (if (symPt o (atF8 o)).h.a1 = 8 then (symPt o (atF8 o)).h.a5 else ((symPt o (atF8 o)).b.length : Int)) = _
   refine (if_neg ?_).trans rfl
   show ¬ (2 : Int) = 8
   decide
theorem namesLen (o : ObjD) : (namesOf o).length = o.syms.length := by unfold namesOf; rw [List.length_map]
theorem nm_get {o : ObjD} {k : Nat} (hk : k < o.syms.length) : (namesOf o).getD k default = (sK o k).name := by
 unfold namesOf; rw [getD_map hk]
theorem sTab_le {o : ObjD} (L : Laid o) : (sTab o).length ≤ 16384 := by
 have hy := y_lt o
 have h := part_le L hy.2.2
 rw [fin_bs hy.2.2 (by omega), pK_str] at h
 have : (strPt o).b = sTab o := rfl
 rw [this] at h
 omega
theorem sPl_R {o : ObjD} (L : Laid o) {k : Nat} (hk : k < o.syms.length) : 0 ≤ sPl o k ∧ sPl o k ≤ 16384 := by
 have h1 : 0 ≤ sPl o k ∧ sPl o k < (sTab o).length := pl_range (l := namesOf o) (k := k) (by rw [namesLen]; exact hk)
 have := sTab_le L
 omega
abbrev eK (o : ObjD) (k : Nat) : EntD := entY (sK o k) (sPl o k)
theorem eK_may {o : ObjD} (L : Laid o) {k : Nat} (hk : k < o.syms.length) : MayE (eK o k) := by
 have w := sym_W L.h hk
 have w1 := w.bind
 have w2 := w.typ
 have w3 : -1 ≤ (sK o k).sec ∧ (sK o k).sec ≤ o.secs.length := w.sec
 have w4 := w.val
 have w5 := w.size
 have hp := sPl_R L hk
 have hs := L.h.small.secs
 unfold R31 at w4 w5
 unfold MayE
 have hi : 0 ≤ idxY (sK o k) ∧ idxY (sK o k) ≤ 65535 := by
  unfold idxY; split <;> omega
 exact ⟨⟨hp.1, by show sPl o k ≤ _; omega⟩, w1, w2, hi, w4, w5⟩
theorem ents_split (o : ObjD) (pl : List Int) : ∀ n k, k < n → ∃ r, entsF o pl n = entsF o pl k ++ entB1 o pl k ++ r := by
 intro n
 induction n with
 | zero => intro k h; omega
 | succ n ih =>
  intro k hk
  rw [entsF_succ]
  by_cases h : k = n
  · subst h; exact ⟨[], by rw [List.append_nil]⟩
  · obtain ⟨r, hr⟩ := ih k (by omega)
    exact ⟨r ++ entB1 o pl n, by rw [hr]; simp only [List.append_assoc]⟩
theorem entB1_eq {o : ObjD} (L : Laid o) {k : Nat} (hk : k < o.syms.length) : entB1 o (tabOf (namesOf o)).2.1 k = entB (eK o k) := by
 unfold entB1 putE
 rw [if_pos (eK_may L hk)]
theorem ents_len {o : ObjD} (L : Laid o) : ∀ k, k ≤ o.syms.length → (entsF o (tabOf (namesOf o)).2.1 k).length = 24 * k := by
 intro k
 induction k with
 | zero => intro _; rfl
 | succ k ih =>
  intro hk
  rw [entsF_succ, List.length_append, ih (by omega), entB1_eq L (by omega), entB_len]; omega
theorem bk_ent {o : ObjD} (L : Laid o) {k : Nat} (hk : k < o.syms.length) : SymOk (toldF (bytesF o) (shK (bytesF o) ((o.secs.length + 1 + (midF o (atF8 o)).length)))) (24 * (k : Int)) ∧ entK (bytesF o) ((o.secs.length + 1 + (midF o (atF8 o)).length)) k = eK o k := by
 obtain ⟨r, hr⟩ := ents_split o (tabOf (namesOf o)).2.1 o.syms.length k hk
 unfold entK
 rw [bk_ytold L, hr, entB1_eq L hk]
 have h := sym_forth (entsF o (tabOf (namesOf o)).2.1 k) r (eK_may L hk)
 rw [ents_len L k (by omega), show (((24 * k : Nat) : Nat) : Int) = 24 * (k : Int) by omega] at h
 exact h
theorem bk_syN {o : ObjD} (L : Laid o) : syN (bytesF o) ((o.secs.length + 1 + (midF o (atF8 o)).length)) = sTab o := by
 unfold syN
 rw [(bk_ya L).2.1, show (((o.secs.length + 1 + (midF o (atF8 o)).length) : Int) + 1).toNat = (o.secs.length + 1 + (midF o (atF8 o)).length) + 1 by omega]
 exact bk_ystr L
theorem bk_sname {o : ObjD} (L : Laid o) {k : Nat} (hk : k < o.syms.length) : atF (sTab o) (sPl o k) = some (sK o k).name := by
 obtain ⟨h1, r, h2⟩ := (tab_inv (namesOf o)).at_ k (by rw [namesLen]; exact hk)
 rw [nm_get hk] at h2
 exact atF_name h1 (sym_W L.h hk).name h2
theorem symX_eq {o : ObjD} (L : Laid o) {k : Nat} (hk : k < o.syms.length) : symX (numM (bytesF o)) (eK o k) = (sK o k).sec := by
 have w : -1 ≤ (sK o k).sec ∧ (sK o k).sec ≤ o.secs.length := (sym_W L.h hk).sec
 have hs := L.h.small.secs
 show (if idxY (sK o k) = 65521 then (-1 : Int) else if idxY (sK o k) > 0 then (aget (numM (bytesF o)) (idxY (sK o k))).getD 0 else 0) = _
 unfold idxY
 by_cases h : (sK o k).sec < 0
 · rw [if_pos h, if_pos rfl]; omega
 · rw [if_neg h, if_neg (by omega)]
   by_cases h0 : (sK o k).sec > 0
   · rw [if_pos h0, bk_num L, if_pos ⟨by omega, w.2⟩]; rfl
   · rw [if_neg h0]; omega
theorem symG_eq {o : ObjD} (L : Laid o) {k : Nat} (hk : k < o.syms.length) : symG (numM (bytesF o)) (eK o k) (sTab o) = true := by
 have w : -1 ≤ (sK o k).sec ∧ (sK o k).sec ≤ o.secs.length := (sym_W L.h hk).sec
 unfold symG
 have e : (eK o k).name = sPl o k := rfl
 rw [e, bk_sname L hk]
 show (true && (decide (idxY (sK o k) = 65521) || !decide (idxY (sK o k) > 0) || decide ((aget (numM (bytesF o)) (idxY (sK o k))).getD 0 > 0))) = true
 rw [Bool.true_and]
 unfold idxY
 by_cases h : (sK o k).sec < 0
 · rw [if_pos h]; rfl
 · rw [if_neg h]
   by_cases h0 : (sK o k).sec > 0
   · rw [bk_num L, if_pos ⟨by omega, w.2⟩]
     simp only [Option.getD_some, decide_eq_true h0, Bool.or_true]
   · rw [decide_eq_false h0]; simp
theorem bk_symK {o : ObjD} (L : Laid o) {k : Nat} (hk : k < o.syms.length) : symK (bytesF o) ((o.secs.length + 1 + (midF o (atF8 o)).length)) k = sK o k := by
 unfold symK
 rw [(bk_ent L hk).2, bk_syN L]
 have e : (eK o k).name = sPl o k := rfl
 rw [e, bk_sname L hk]
 unfold symF
 rw [symX_eq L hk]
 rfl
theorem bk_many {o : ObjD} (L : Laid o) : syMany (bytesF o) ((o.secs.length + 1 + (midF o (atF8 o)).length)) = o.syms.length := by
 unfold syMany
 rw [(bk_ya L).2.2.2.2, ents_len L _ (Nat.le_refl _)]
 omega
theorem bk_symL {o : ObjD} (L : Laid o) : symL (bytesF o) ((o.secs.length + 1 + (midF o (atF8 o)).length)) (syMany (bytesF o) ((o.secs.length + 1 + (midF o (atF8 o)).length))) = o.syms := by
 rw [bk_many L]
 refine ext_getD (symL_len _ _ _) fun k hk => ?_
 unfold symL
 rw [List.getD_eq_getElem?_getD, List.getElem?_map, List.getElem?_range hk]
 exact bk_symK L hk
theorem bk_loc {o : ObjD} (L : Laid o) : locE (bytesF o) ((o.secs.length + 1 + (midF o (atF8 o)).length)) (syMany (bytesF o) ((o.secs.length + 1 + (midF o (atF8 o)).length))) = localF o.syms := by
 rw [bk_many L]
 have key : ∀ k, k ≤ o.syms.length → locE (bytesF o) ((o.secs.length + 1 + (midF o (atF8 o)).length)) k = localF (o.syms.take k) := by
  intro k
  induction k with
  | zero => intro _; rfl
  | succ k ih =>
   intro hk
   rw [locE_succ, ih (by omega), localF_succ (by omega), (bk_ent L (by omega)).2]
   rfl
 rw [key _ (Nat.le_refl _), List.take_of_length_le (Nat.le_refl _)]
theorem bk_syms {o : ObjD} (L : Laid o) : symsOk (bytesF o) ((o.secs.length + 1 + (midF o (atF8 o)).length)) := by
 have hy := y_lt o
 have hmn := bk_mn L
 have ya := bk_ya L
 refine ⟨hy.2.1, by omega, ya.1, fun q hq h2 => ?_, ?_, ?_, fun k hk => ?_, ya.2.2.2.1, ?_⟩
 · rw [hmn] at hq
   rw [bk_a1 L hq] at h2
   by_cases h : q ≤ o.secs.length
   · exfalso
     rcases Nat.eq_zero_or_pos q with h0 | h0
     · subst h0; rw [pK_0] at h2; exact absurd h2 (by show ¬ (0 : Int) = 2; decide)
     · have := sec_typ L h0 h; omega
   · have := typ_at L hq (by omega)
     unfold Typ3 at this
     omega
 · rw [ya.2.2.2.2, ents_len L _ (Nat.le_refl _)]; omega
 · unfold isF
   rw [hdsN_len, ya.2.1, hmn, decide_eq_true (by omega), decide_eq_true (by omega), show (((o.secs.length + 1 + (midF o (atF8 o)).length) : Int) + 1).toNat = (o.secs.length + 1 + (midF o (atF8 o)).length) + 1 by omega, hdsN_get hy.2.2, bk_a1 L hy.2.2, pK_str]
   rfl
 · rw [bk_many L] at hk
   exact ⟨(bk_ent L hk).1, by rw [(bk_ent L hk).2, bk_syN L]; exact symG_eq L hk⟩
 · rw [bk_loc L, ya.2.2.1]
end Go.Proofs.Ytlapfdfbgckfcaa.AL
namespace Go.Proofs.Ytlapfdfbgckfcaa.AL
open Go Go.RowKit Go.Proofs.Ytlapfdfbgckfcaa.Base
set_option linter.unusedVariables false
set_option linter.unusedSimpArgs false
set_option maxRecDepth 4000
set_option synthInstance.maxSize 1000
set_option synthInstance.maxHeartbeats 200000
abbrev rlF (o : ObjD) (k : Nat) : Nat := (relPs (atF8 o) 1 (o.secs.take k)).length
abbrev scK (o : ObjD) (k : Nat) : SecD := o.secs.getD k default
theorem rl_succ {o : ObjD} {k : Nat} (hk : k < o.secs.length) : rlF o (k + 1) = rlF o k + if (scK o k).rels.length = 0 then 0 else 1 := by
 show (relPs (atF8 o) 1 (o.secs.take (k + 1))).length = _
 rw [relPs_succ hk, List.length_append]
 congr 1
 unfold relPart
 split <;> rfl
theorem rl_mono {o : ObjD} : ∀ k j, j ≤ k → k ≤ o.secs.length → rlF o j ≤ rlF o k := by
 intro k
 induction k with
 | zero => intro j h _; rw [show j = 0 by omega]; exact Nat.le_refl _
 | succ k ih =>
  intro j h hk
  by_cases e : j = k + 1
  · rw [e]; exact Nat.le_refl _
  · have := ih j (by omega) (by omega)
    rw [rl_succ (by omega)]
    omega
theorem relPs_get (a : Int) : ∀ (l : List SecD) (n : Int) (j : Nat), j < (relPs a n l).length → ∃ v, v < l.length ∧ (l.getD v default).rels ≠ [] ∧ j = (relPs a n (l.take v)).length ∧ (relPs a n l).getD j default = ⟨⟨0, 4, 0, 0, 0, 0, a, n + v, 8, 24⟩, nRela, (l.getD v default).rels.flatMap putR⟩ := by
 intro l
 induction l with
 | nil => intro n j h; simp [relPs] at h
 | cons s l ih =>
  intro n j h
  by_cases h0 : s.rels.length = 0
  · have e : ∀ q, relPs a n (s :: q) = relPs a (n + 1) q := fun q => by rw [relPs]; unfold relPart; rw [if_pos h0]; rfl
    rw [e] at h ⊢
    obtain ⟨v, h1, h2, h3, h4⟩ := ih _ _ h
    refine ⟨v + 1, by simpa using h1, by simpa using h2, by rw [List.take_succ_cons, e]; exact h3, ?_⟩
    rw [h4, List.getD_cons_succ]
    congr 2
    omega
  · have e : ∀ q, relPs a n (s :: q) = ⟨⟨0, 4, 0, 0, 0, 0, a, n, 8, 24⟩, nRela, s.rels.flatMap putR⟩ :: relPs a (n + 1) q := fun q => by rw [relPs]; unfold relPart; rw [if_neg h0]; rfl
    cases j with
    | zero =>
     refine ⟨0, by simp, fun hn => h0 (by rw [show s.rels = [] from hn]; rfl), rfl, ?_⟩
     rw [e, List.getD_cons_zero, List.getD_cons_zero]
     congr 2
     omega
    | succ j =>
     rw [e, List.length_cons] at h
     obtain ⟨v, h1, h2, h3, h4⟩ := ih (n + 1) j (by omega)
     refine ⟨v + 1, by simpa using h1, by simpa using h2, by rw [List.take_succ_cons, e, List.length_cons, ← h3], ?_⟩
     rw [e, List.getD_cons_succ, h4, List.getD_cons_succ]
     congr 2
     omega
abbrev relQ (o : ObjD) (v : Nat) : PartD := ⟨⟨0, 4, 0, 0, 0, 0, atF8 o, (v : Int) + 1, 8, 24⟩, nRela, (scK o v).rels.flatMap putR⟩
abbrev sigQ (o : ObjD) : PartD := ⟨⟨0, 1879002115, 0, 0, 0, 0, atF8 o, 0, 1, 0⟩, nSig, o.sig.flatMap encB⟩
theorem rl_all (o : ObjD) : rlF o o.secs.length = (relPs (atF8 o) 1 o.secs).length := by
 show (relPs (atF8 o) 1 (o.secs.take o.secs.length)).length = _
 rw [List.take_of_length_le (Nat.le_refl _)]
theorem ml_eq (o : ObjD) : (midF o (atF8 o)).length = rlF o o.secs.length + o.groups.length + if o.hasSig = true then 1 else 0 := by
 show (midF o (atF8 o)).length = _
 unfold midF
 rw [List.length_append, List.length_append, List.length_map, rl_all]
 congr 1
 unfold sigPart
 split <;> rfl
theorem mid_at {o : ObjD} {j : Nat} (hj : j < (midF o (atF8 o)).length) : (∃ v, v < o.secs.length ∧ (scK o v).rels ≠ [] ∧ j = rlF o v ∧ pK o (o.secs.length + 1 + j) = relQ o v) ∨ (∃ g, g < o.groups.length ∧ j = rlF o o.secs.length + g ∧ pK o (o.secs.length + 1 + j) = grpPart (atF8 o) (o.groups.getD g default)) ∨ (o.hasSig = true ∧ j = rlF o o.secs.length + o.groups.length ∧ pK o (o.secs.length + 1 + j) = sigQ o) := by
 rw [pK_mid hj]
 rw [ml_eq] at hj
 unfold midF
 by_cases h1 : j < rlF o o.secs.length
 · left
   rw [rl_all] at h1
   obtain ⟨v, q1, q2, q3, q4⟩ := relPs_get (atF8 o) o.secs 1 j h1
   refine ⟨v, q1, q2, q3, ?_⟩
   rw [List.append_assoc, getD_app_l h1, q4]
   congr 2
   omega
 · by_cases h2 : j < rlF o o.secs.length + o.groups.length
   · right; left
     obtain ⟨g, rfl⟩ : ∃ g, j = rlF o o.secs.length + g := ⟨j - rlF o o.secs.length, by omega⟩
     refine ⟨g, by omega, rfl, ?_⟩
     rw [List.append_assoc, rl_all, getD_app_r, getD_app_l (by rw [List.length_map]; omega), getD_map (by omega)]
   · right; right
     have hs : o.hasSig = true := by
      by_cases h : o.hasSig = true
      · exact h
      · rw [if_neg h] at hj; omega
     rw [if_pos hs] at hj
     obtain rfl : j = rlF o o.secs.length + o.groups.length := by omega
     refine ⟨hs, rfl, ?_⟩
     have e : (relPs (atF8 o) 1 o.secs ++ o.groups.map (grpPart (atF8 o))).length = rlF o o.secs.length + o.groups.length := by rw [List.length_append, List.length_map, rl_all]
     have := getD_app_r (l := relPs (atF8 o) 1 o.secs ++ o.groups.map (grpPart (atF8 o))) (r := sigPart (atF8 o) o) (i := 0) (d := default)
     rw [e, Nat.add_zero] at this
     rw [this]
     unfold sigPart
     rw [if_pos hs]; rfl
/-- Which header has one of the types in the middle. -/
theorem hd_at {o : ObjD} (L : Laid o) {i : Nat} (hi : i < (preF o).length) (h : (shK (bytesF o) i).a1 = 4 ∨ (shK (bytesF o) i).a1 = 17 ∨ (shK (bytesF o) i).a1 = 1879002115) : ∃ j, j < (midF o (atF8 o)).length ∧ i = o.secs.length + 1 + j := by
 rw [bk_a1 L hi] at h
 by_cases h1 : o.secs.length < i
 · have := typ_at L hi h1
   refine ⟨i - (o.secs.length + 1), ?_, by omega⟩
   omega
 · exfalso
   rcases Nat.eq_zero_or_pos i with h0 | h0
   · subst h0; rw [pK_0] at h; exact absurd h (by show ¬ ((0 : Int) = 4 ∨ (0 : Int) = 17 ∨ (0 : Int) = 1879002115); decide)
   · have := sec_typ L h0 (by omega); omega
theorem bk_mid {o : ObjD} (L : Laid o) {i : Nat} (hi : i < (preF o).length) (h0 : 0 < i) (h1 : i < (o.secs.length + 1 + (midF o (atF8 o)).length)) (h8 : (pK o i).h.a1 ≠ 8) : toldF (bytesF o) (shK (bytesF o) i) = (pK o i).b ∧ (shK (bytesF o) i).a5 = ((pK o i).b.length : Int) := by
 refine ⟨by rw [bk_told L hi h0, fin_bs hi (by omega)], ?_⟩
 rw [bk_a L hi h0, fin_bs hi (by omega)]
 dsimp only
 rw [if_neg h8]
theorem bk_rel4 {o : ObjD} (L : Laid o) {i : Nat} (hi : i < (preF o).length) (h4 : (shK (bytesF o) i).a1 = 4) : ∃ v, v < o.secs.length ∧ (scK o v).rels ≠ [] ∧ i = (o.secs.length + 1 + rlF o v) ∧ toldF (bytesF o) (shK (bytesF o) i) = (scK o v).rels.flatMap putR ∧ (shK (bytesF o) i).a5 = (((scK o v).rels.flatMap putR).length : Int) ∧ (shK (bytesF o) i).a6 = ((o.secs.length + 1 + (midF o (atF8 o)).length) : Int) ∧ (shK (bytesF o) i).a7 = (v : Int) + 1 ∧ (shK (bytesF o) i).a9 = 24 := by
 obtain ⟨j, hj, rfl⟩ := hd_at L hi (.inl h4)
 rw [bk_a1 L hi] at h4
 rcases mid_at hj with ⟨v, q1, q2, q3, q4⟩ | ⟨g, q1, q2, q4⟩ | ⟨q1, q2, q4⟩
 · have hm := bk_mid L hi (by omega) (by omega) (by rw [q4]; show ¬ (4 : Int) = 8; decide)
   obtain ⟨e6, e7, _, e9⟩ := bk_a6 L hi (by omega)
   refine ⟨v, q1, q2, by rw [q3], by rw [hm.1, q4], by rw [hm.2, q4], ?_, by rw [e7, q4], by rw [e9, q4]⟩
   rw [e6, q4]
   have := at_eq o
   show atF8 o = _
   omega
 · rw [q4] at h4; exact absurd h4 (by show ¬ (17 : Int) = 4; decide)
 · rw [q4] at h4; exact absurd h4 (by show ¬ (1879002115 : Int) = 4; decide)
theorem split_at {α : Type} [Inhabited α] {l : List α} {k : Nat} (h : k < l.length) : l = l.take k ++ (l.getD k default :: l.drop (k + 1)) := by
 rw [← drop_getD h, List.take_append_drop]
theorem rels_split {s : SecD} (hall : ∀ r ∈ s.rels, mayRelB r = true) {k : Nat} (hk : k < s.rels.length) : s.rels.flatMap putR = (s.rels.take k).flatMap putR ++ relB (s.rels.getD k default) ++ (s.rels.drop (k + 1)).flatMap putR := by
 have h1 : putR (s.rels.getD k default) = relB (s.rels.getD k default) := by unfold putR; rw [if_pos (hall _ (mem_getD hk))]
 conv => lhs; rw [split_at hk]
 rw [List.flatMap_append, List.flatMap_cons, h1, List.append_assoc]
theorem rels_len : ∀ {l : List RelD}, (∀ r ∈ l, mayRelB r = true) → (l.flatMap putR).length = 24 * l.length := by
 intro l
 induction l with
 | nil => intro _; rfl
 | cons r l ih =>
  intro h
  rw [List.flatMap_cons, List.length_append, ih (fun r hr => h r (List.mem_cons_of_mem _ hr)), List.length_cons]
  unfold putR
  rw [if_pos (h r List.mem_cons_self), relB_len]; omega
theorem bk_relK {o : ObjD} (L : Laid o) {v k : Nat} (hv : v < o.secs.length) (hk : k < (scK o v).rels.length) : RelOk ((scK o v).rels.flatMap putR) (24 * (k : Int)) ∧ relOf ((scK o v).rels.flatMap putR) (24 * (k : Int)) = (scK o v).rels.getD k default := by
 have w := (sec_W L.h hv).rels
 have hok : ((scK o v).rels.getD k default).ok := (L.h.ok.2.1 _ (sec_in hv)).2.2.2.2.2.2.2.2.2.2 _ (mem_getD hk)
 have h := rel_forth (((scK o v).rels.take k).flatMap putR) (((scK o v).rels.drop (k + 1)).flatMap putR) hok (w _ (mem_getD hk))
 rw [← rels_split w hk] at h
 have hl : (((scK o v).rels.take k).flatMap putR).length = 24 * k := by
  rw [rels_len (fun r hr => w r (List.mem_of_mem_take hr)), List.length_take, Nat.min_eq_left (Nat.le_of_lt hk)]
 rw [hl, show (((24 * k : Nat) : Nat) : Int) = 24 * (k : Int) by omega] at h
 exact h
theorem bk_relL {o : ObjD} (L : Laid o) {i v : Nat} (hi : i < (preF o).length) (hv : v < o.secs.length) (h5 : (shK (bytesF o) i).a5 = (((scK o v).rels.flatMap putR).length : Int)) (ht : toldF (bytesF o) (shK (bytesF o) i) = (scK o v).rels.flatMap putR) : relMany (bytesF o) i = (scK o v).rels.length ∧ relL (bytesF o) i (relMany (bytesF o) i) = (scK o v).rels := by
 have hm : relMany (bytesF o) i = (scK o v).rels.length := by
  have hl : ((scK o v).rels.flatMap putR).length = 24 * (scK o v).rels.length := rels_len (sec_W L.h hv).rels
  unfold relMany
  rw [h5, hl]
  omega
 refine ⟨hm, ?_⟩
 rw [hm]
 refine ext_getD (relL_len _ _ _) fun k hk => ?_
 unfold relL
 rw [List.getD_eq_getElem?_getD, List.getElem?_map, List.getElem?_range hk]
 show relK (bytesF o) i k = _
 unfold relK
 rw [ht]
 exact (bk_relK L hv hk).2
theorem bk_rels {o : ObjD} (L : Laid o) {i : Nat} (hi : i < (preF o).length) (h4 : (shK (bytesF o) i).a1 = 4) : relsOk (bytesF o) ((o.secs.length + 1 + (midF o (atF8 o)).length)) i := by
 obtain ⟨v, q1, q2, q3, q4, q5, q6, q7, q9⟩ := bk_rel4 L hi h4
 have hl : ((scK o v).rels.flatMap putR).length = 24 * (scK o v).rels.length := rels_len (sec_W L.h q1).rels
 have hn := n_eq o
 refine ⟨q9, by rw [q5, hl]; omega, q6, ?_, fun p p0 pi hp => ?_, fun k hk => ?_⟩
 · unfold isF
   rw [hdsN_len, bk_mn L, q7, decide_eq_true (by omega), decide_eq_true (by omega), show ((v : Int) + 1).toNat = v + 1 by omega, hdsN_get (by omega), bk_a1 L (by omega), pK_sec q1]
   simp only [Bool.true_and, decide_eq_true_eq]
   exact (sec_W L.h q1).relT q2
 · obtain ⟨u, r1, r2, r3, _, _, _, r7, _⟩ := bk_rel4 L (by omega) hp.1
   rw [r7, q7] at hp
   obtain rfl : u = v := by omega
   omega
 · rw [(bk_relL L hi q1 q5 q4).1] at hk
   rw [q4]
   exact (bk_relK L q1 hk).1
theorem lone_rel (s : SecD) : s.lone.rel s.rels = s := by cases s; rfl
theorem lone_nil {s : SecD} (h : s.rels = []) : s.lone = s := by cases s; simp only at h; subst h; rfl
theorem bk_relS {o : ObjD} (L : Laid o) : ∀ i, i ≤ (preF o).length → ∀ k, k < o.secs.length → (relS (bytesF o) i).getD k default = if (o.secs.length + 1 + rlF o k) < i then scK o k else (scK o k).lone := by
 intro i
 induction i with
 | zero => intro _ k hk; rw [if_neg (by omega)]; exact bk_lone L hk
 | succ i ih =>
  intro hi k hk
  by_cases h4 : (shK (bytesF o) i).a1 = 4
  · obtain ⟨v, q1, q2, q3, q4, q5, q6, q7, q9⟩ := bk_rel4 L (by omega) h4
    have hv : secV (bytesF o) i = v := by
     unfold secV
     rw [q7, bk_numF L, if_pos (by omega)]; omega
    rw [relS_yes h4, hv, getD_set (by rw [relS_len, bk_lnkLen L]; exact q1)]
    by_cases e : v = k
    · subst e
      rw [if_pos rfl, if_pos (by omega), ih (by omega) _ q1, if_neg (by omega), (bk_relL L (by omega) q1 q5 q4).2]
      exact lone_rel _
    · rw [if_neg e, ih (by omega) k hk]
      by_cases hlt : (o.secs.length + 1 + rlF o k) < i
      · rw [if_pos hlt, if_pos (by omega)]
      · rw [if_neg hlt]
        by_cases he : (o.secs.length + 1 + rlF o k) < i + 1
        · rw [if_pos he]
          refine lone_nil ?_
          have hkv : rlF o k = rlF o v := by omega
          by_cases hc : k < v
          · have h1 := rl_mono (o := o) v (k + 1) (by omega) (by omega)
            rw [rl_succ hk] at h1
            split at h1
            · rename_i h0; exact List.eq_nil_of_length_eq_zero h0
            · omega
          · exfalso
            have h1 := rl_mono (o := o) k (v + 1) (by omega) (by omega)
            rw [rl_succ q1] at h1
            split at h1
            · rename_i h0; exact q2 (List.eq_nil_of_length_eq_zero h0)
            · omega
        · rw [if_neg he]
  · rw [relS_no h4, ih (by omega) k hk]
    by_cases hlt : (o.secs.length + 1 + rlF o k) < i
    · rw [if_pos hlt, if_pos (by omega)]
    · rw [if_neg hlt]
      by_cases he : (o.secs.length + 1 + rlF o k) < i + 1
      · rw [if_pos he]
        refine lone_nil ?_
        have hrx : i = o.secs.length + 1 + rlF o k := by omega
        by_cases hr : (scK o k).rels.length = 0
        · exact List.eq_nil_of_length_eq_zero hr
        · exfalso
          have h1 := rl_mono (o := o) (o.secs.length) (k + 1) (by omega) (by omega)
          rw [rl_succ hk, if_neg hr] at h1
          have hml := ml_eq o
          have hj : rlF o k < (midF o (atF8 o)).length := by omega
          apply h4
          rw [bk_a1 L (by omega), hrx]
          rcases mid_at hj with ⟨v, _, _, _, q4⟩ | ⟨g, _, q2, _⟩ | ⟨_, q2, _⟩
          · rw [q4]
          · omega
          · omega
      · rw [if_neg he]
theorem bk_secs {o : ObjD} (L : Laid o) : relS (bytesF o) (mnH (bytesF o)) = o.secs := by
 have hn := n_eq o
 have hml := ml_eq o
 refine ext_getD (by rw [relS_len, bk_lnkLen L]) fun k hk => ?_
 have := rl_mono (o := o) (o.secs.length) k (by omega) (Nat.le_refl _)
 rw [bk_mn L, bk_relS L _ (Nat.le_refl _) k hk, if_pos (by omega)]
theorem putN_eq {x : Int} (h0 : 0 ≤ x) (h1 : x ≤ 2147483647) : putN x = dig x 4 := by
 unfold putN
 rw [if_pos (by decide), wu64n h0 h1]; rfl
theorem num_at (A R : List Int) (x : Int) (n : Nat) (h0 : 0 ≤ x) (h1 : x < 256 ^ n) : numAt (A ++ dig x n ++ R) (A.length : Int) (n : Int) = x := by
 unfold numAt
 rw [Int.toNat_natCast, Int.toNat_natCast, List.append_assoc, List.drop_left' rfl, List.take_left' (dig_length _ _), num_dig, Int.emod_eq_of_lt h0 h1]
theorem bk_grp17 {o : ObjD} (L : Laid o) {i : Nat} (hi : i < (preF o).length) (h4 : (shK (bytesF o) i).a1 = 17) : ∃ g, g < o.groups.length ∧ i = (o.secs.length + 1 + rlF o o.secs.length + g) ∧ toldF (bytesF o) (shK (bytesF o) i) = [1, 0, 0, 0] ++ (o.groups.getD g default).mem.flatMap putN ∧ (shK (bytesF o) i).a6 = ((o.secs.length + 1 + (midF o (atF8 o)).length) : Int) ∧ (shK (bytesF o) i).a7 = (o.groups.getD g default).sym ∧ (shK (bytesF o) i).a9 = 4 := by
 obtain ⟨j, hj, rfl⟩ := hd_at L hi (.inr (.inl h4))
 rw [bk_a1 L hi] at h4
 rcases mid_at hj with ⟨v, q1, q2, q3, q4⟩ | ⟨g, q1, q2, q4⟩ | ⟨q1, q2, q4⟩
 · rw [q4] at h4; exact absurd h4 (by show ¬ (4 : Int) = 17; decide)
 · have hm := bk_mid L hi (by omega) (by omega) (by rw [q4]; show ¬ (17 : Int) = 8; decide)
   obtain ⟨e6, e7, _, e9⟩ := bk_a6 L hi (by omega)
   refine ⟨g, q1, by omega, by rw [hm.1, q4]; rfl, ?_, by rw [e7, q4]; rfl, by rw [e9, q4]; rfl⟩
   rw [e6, q4]
   have := at_eq o
   show atF8 o = _
   omega
 · rw [q4] at h4; exact absurd h4 (by show ¬ (1879002115 : Int) = 17; decide)
theorem mems_len : ∀ l : List Int, (l.flatMap putN).length = 4 * l.length := by
 intro l
 induction l with
 | nil => rfl
 | cons x l ih => rw [List.flatMap_cons, List.length_append, ih, putN_len, List.length_cons]; omega
theorem bk_mem {o : ObjD} (L : Laid o) {g k : Nat} (hg : g < o.groups.length) (hk : k < (o.groups.getD g default).mem.length) : 1 ≤ (o.groups.getD g default).mem.getD k default ∧ (o.groups.getD g default).mem.getD k default ≤ o.secs.length := by
 have w := (L.h.small.grp _ (grp_in hg)).1
 have hm := mem_getD hk
 have := inc_gt _ _ w.2.2.2.1 _ hm
 exact ⟨by omega, w.2.2.2.2 _ hm⟩
theorem bk_grp {o : ObjD} (L : Laid o) {i : Nat} (hi : i < (preF o).length) (h4 : (shK (bytesF o) i).a1 = 17) : grpOk (bytesF o) ((o.secs.length + 1 + (midF o (atF8 o)).length)) i ∧ ∃ g, g < o.groups.length ∧ i = (o.secs.length + 1 + rlF o o.secs.length + g) ∧ grpD (bytesF o) i = o.groups.getD g default := by
 obtain ⟨g, q1, q2, q4, q6, q7, q9⟩ := bk_grp17 L hi h4
 have hs := L.h.small.secs
 have hlen : (toldF (bytesF o) (shK (bytesF o) i)).length = 4 + 4 * (o.groups.getD g default).mem.length := by rw [q4, List.length_append, mems_len]; rfl
 have hN : grpN (bytesF o) i = (o.groups.getD g default).mem.length := by unfold grpN; rw [hlen]; omega
 have hw : ∀ k, k < (o.groups.getD g default).mem.length → wK (bytesF o) i k = (o.groups.getD g default).mem.getD k default := by
  intro k hk
  have hr := bk_mem L q1 hk
  unfold wK
  rw [q4]
  have e : [1, 0, 0, 0] ++ (o.groups.getD g default).mem.flatMap putN = ([1, 0, 0, 0] ++ ((o.groups.getD g default).mem.take k).flatMap putN) ++ dig ((o.groups.getD g default).mem.getD k default) 4 ++ ((o.groups.getD g default).mem.drop (k + 1)).flatMap putN := by
   conv => lhs; rw [split_at hk]
   rw [List.flatMap_append, List.flatMap_cons, putN_eq (by omega) (by omega)]
   simp only [List.append_assoc]
  rw [e]
  have hl : (([1, 0, 0, 0] ++ ((o.groups.getD g default).mem.take k).flatMap putN).length : Int) = 4 * (k : Int) + 4 := by
   rw [List.length_append, mems_len, List.length_take, Nat.min_eq_left (by omega)]
   show ((4 + 4 * k : Nat) : Int) = _
   omega
  have := num_at ([1, 0, 0, 0] ++ ((o.groups.getD g default).mem.take k).flatMap putN) (((o.groups.getD g default).mem.drop (k + 1)).flatMap putN) ((o.groups.getD g default).mem.getD k default) 4 (by omega) (by omega)
  rw [hl] at this
  exact this
 have hf : ∀ k, k < (o.groups.getD g default).mem.length → numF (bytesF o) (wK (bytesF o) i k) = (o.groups.getD g default).mem.getD k default := by
  intro k hk
  have hr := bk_mem L q1 hk
  rw [hw k hk, bk_numF L, if_pos hr]
 have hmem : ∀ k, k ≤ (o.groups.getD g default).mem.length → memN (bytesF o) i k = (o.groups.getD g default).mem.take k := by
  intro k
  induction k with
  | zero => intro _; rfl
  | succ k ih =>
   intro hk
   have hr := bk_mem L q1 (k := k) (by omega)
   rw [memN, hf k (by omega), if_pos (by omega), ih (by omega)]
   generalize (o.groups.getD g default).mem = ml at hk ⊢
   rw [List.take_add_one, List.getD_eq_getElem?_getD, List.getElem?_eq_getElem (by omega)]; rfl
 refine ⟨⟨?_, ?_, q9, by rw [hlen]; omega, q6, fun k hk => .inl ?_⟩, g, q1, q2, ?_⟩
 · exact ⟨by decide, by omega, by rw [hlen]; omega⟩
 · rw [q4]
   have := num_at [] ((o.groups.getD g default).mem.flatMap putN) 1 4 (by omega) (by omega)
   exact this
 · rw [hN] at hk
   rw [hf k hk]
   have := bk_mem L q1 hk
   omega
 · unfold grpD
   rw [hN, hmem _ (Nat.le_refl _), q7, List.take_of_length_le (Nat.le_refl _)]
theorem bk_grpS {o : ObjD} (L : Laid o) : ∀ i, i ≤ (preF o).length → grpS (bytesF o) i = o.groups.take (i - (o.secs.length + 1 + rlF o o.secs.length)) := by
 intro i
 induction i with
 | zero => intro _; rw [Nat.zero_sub]; rfl
 | succ i ih =>
  intro hi
  have hml := ml_eq o
  have hn := n_eq o
  by_cases h : (shK (bytesF o) i).a1 = 17
  · obtain ⟨_, g, q1, q2, q3⟩ := bk_grp L (by omega) h
    rw [grpS_yes h, ih (by omega), q3, show i + 1 - (o.secs.length + 1 + rlF o o.secs.length) = g + 1 by omega, show i - (o.secs.length + 1 + rlF o o.secs.length) = g by omega, List.take_add_one, List.getD_eq_getElem?_getD, List.getElem?_eq_getElem q1]; rfl
  · rw [grpS_no h, ih (by omega)]
    by_cases h1 : i < o.secs.length + 1 + rlF o o.secs.length
    · rw [show i - (o.secs.length + 1 + rlF o o.secs.length) = 0 by omega, show i + 1 - (o.secs.length + 1 + rlF o o.secs.length) = 0 by omega]
    · by_cases h2 : i < o.secs.length + 1 + rlF o o.secs.length + o.groups.length
      · exfalso
        apply h
        obtain ⟨j, rfl⟩ : ∃ j, i = o.secs.length + 1 + j := ⟨i - (o.secs.length + 1), by omega⟩
        rw [bk_a1 L (by omega)]
        rcases mid_at (o := o) (j := j) (by omega) with ⟨v, q1, q2, q3, q4⟩ | ⟨g, q1, q2, q4⟩ | ⟨q1, q2, q4⟩
        · exfalso
          have h3 := rl_mono (o := o) (o.secs.length) (v + 1) (by omega) (by omega)
          rw [rl_succ q1, if_neg (fun e => q2 (List.eq_nil_of_length_eq_zero e))] at h3
          omega
        · rw [q4]; rfl
        · omega
      · rw [List.take_of_length_le (by omega), List.take_of_length_le (by omega)]
theorem bk_grps {o : ObjD} (L : Laid o) : grpS (bytesF o) (mnH (bytesF o)) = o.groups := by
 have hml := ml_eq o
 have hn := n_eq o
 rw [bk_mn L, bk_grpS L _ (Nat.le_refl _), List.take_of_length_le (by omega)]
theorem flat_len : ∀ (l : List Int), (∀ x ∈ l, 0 ≤ x ∧ x ≤ 2147483647) → l.length ≤ (l.flatMap encB).length := by
 intro l
 induction l with
 | nil => intro _; simp
 | cons x l ih =>
  intro h
  have h1 := ih fun y hy => h y (by simp [hy])
  have h2 := (ulebH_enc [] (h x (by simp))).2
  simp only [List.flatMap_cons, List.length_append, List.length_cons]
  omega
theorem bk_sig1 {o : ObjD} (L : Laid o) {i : Nat} (hi : i < (preF o).length) (h4 : (shK (bytesF o) i).a1 = 1879002115) : o.hasSig = true ∧ i = (o.secs.length + 1 + rlF o o.secs.length + o.groups.length) ∧ sgL (bytesF o) i = some o.sig ∧ (shK (bytesF o) i).a6 = ((o.secs.length + 1 + (midF o (atF8 o)).length) : Int) := by
 obtain ⟨j, hj, rfl⟩ := hd_at L hi (.inr (.inr h4))
 rw [bk_a1 L hi] at h4
 rcases mid_at hj with ⟨v, q1, q2, q3, q4⟩ | ⟨g, q1, q2, q4⟩ | ⟨q1, q2, q4⟩
 · rw [q4] at h4; exact absurd h4 (by show ¬ (4 : Int) = 1879002115; decide)
 · rw [q4] at h4; exact absurd h4 (by show ¬ (17 : Int) = 1879002115; decide)
 · have hm := bk_mid L hi (by omega) (by omega) (by rw [q4]; show ¬ (1879002115 : Int) = 8; decide)
   obtain ⟨e6, e7, _, e9⟩ := bk_a6 L hi (by omega)
   have hs := L.h.small.syms
   have hsg : ∀ x ∈ o.sig, 0 ≤ x ∧ x ≤ 2147483647 := fun x hx => by have := sig_W L.h x hx; omega
   refine ⟨q1, by omega, ?_, ?_⟩
   · unfold sgL
     rw [hm.1, q4]
     exact ulebAll_enc _ _ hsg (flat_len _ hsg)
   · rw [e6, q4]
     have := at_eq o
     show atF8 o = _
     omega
theorem bk_sgS {o : ObjD} (L : Laid o) : ∀ i, i ≤ (preF o).length → sgS (bytesF o) i = if o.hasSig = true ∧ (o.secs.length + 1 + rlF o o.secs.length + o.groups.length) < i then (true, o.sig) else (false, []) := by
 intro i
 induction i with
 | zero => intro _; rw [if_neg (by omega)]; rfl
 | succ i ih =>
  intro hi
  by_cases h : (shK (bytesF o) i).a1 = 1879002115
  · obtain ⟨q1, q2, q3, _⟩ := bk_sig1 L (by omega) h
    rw [sgS_yes h, q3, if_pos ⟨q1, by omega⟩]; rfl
  · rw [sgS_no h, ih (by omega)]
    by_cases h1 : o.hasSig = true ∧ (o.secs.length + 1 + rlF o o.secs.length + o.groups.length) < i
    · rw [if_pos h1, if_pos ⟨h1.1, by omega⟩]
    · rw [if_neg h1]
      by_cases h2 : o.hasSig = true ∧ (o.secs.length + 1 + rlF o o.secs.length + o.groups.length) < i + 1
      · exfalso
        have hml := ml_eq o
        rw [if_pos h2.1] at hml
        apply h
        have e : i = o.secs.length + 1 + (rlF o o.secs.length + o.groups.length) := by
         have : ¬ (o.secs.length + 1 + rlF o o.secs.length + o.groups.length) < i := fun h3 => h1 ⟨h2.1, h3⟩
         omega
        rw [bk_a1 L (by omega), e]
        rcases mid_at (o := o) (j := rlF o o.secs.length + o.groups.length) (by omega) with ⟨v, q1, q2, q3, q4⟩ | ⟨g, q1, q2, q4⟩ | ⟨q1, q2, q4⟩
        · exfalso
          have h3 := rl_mono (o := o) (o.secs.length) (v + 1) (by omega) (by omega)
          rw [rl_succ q1, if_neg (fun e => q2 (List.eq_nil_of_length_eq_zero e))] at h3
          omega
        · omega
        · rw [q4]
      · rw [if_neg h2]
theorem bk_sigs {o : ObjD} (L : Laid o) : sgS (bytesF o) (mnH (bytesF o)) = (o.hasSig, o.sig) := by
 have hml := ml_eq o
 have hn := n_eq o
 rw [bk_mn L, bk_sgS L _ (Nat.le_refl _)]
 by_cases h : o.hasSig = true
 · rw [if_pos h] at hml
   rw [if_pos ⟨h, by omega⟩, h]
 · rw [if_neg (fun h2 => h h2.1)]
   have hs := L.h.sh
   unfold shapeB at hs
   simp only [Bool.and_eq_true, Bool.not_eq_true', Bool.or_eq_false_iff, Bool.and_eq_false_iff, decide_eq_false_iff_not] at hs
   have h1 := hs.1.1.1.1.2
   have hf : o.hasSig = false := by simpa using h
   rw [hf] at h1 ⊢
   have : o.sig.length = 0 := by
    rcases h1 with h1 | h1
    · cases h1
    · omega
   rw [List.eq_nil_of_length_eq_zero this]
theorem bk_others {o : ObjD} (L : Laid o) : othOk (bytesF o) ((o.secs.length + 1 + (midF o (atF8 o)).length)) := by
 intro i hi
 rw [bk_mn L] at hi
 refine ⟨fun h => bk_rels L hi h, fun h => (bk_grp L hi h).1, fun h => ?_⟩
 obtain ⟨q1, q2, q3, q6⟩ := bk_sig1 L hi h
 refine ⟨by rw [q3]; rfl, ?_, q6⟩
 rw [bk_sgS L _ (by omega), if_neg (by omega)]
/-- What was put is got. -/
theorem bk_get {o : ObjD} (L : Laid o) : getOk (bytesF o) ((o.secs.length + 1 + (midF o (atF8 o)).length)) ∧ objG (bytesF o) ((o.secs.length + 1 + (midF o (atF8 o)).length)) = o := by
 refine ⟨⟨bk_frame L, bk_links L, bk_syms L, bk_others L⟩, ?_⟩
 unfold objG
 rw [bk_secs L, bk_symL L, bk_grps L, bk_sigs L]
end Go.Proofs.Ytlapfdfbgckfcaa.AL
namespace Go.Proofs.Ytlapfdfbgckfcaa.AL
open Go Go.RowKit Go.Proofs.Ytlapfdfbgckfcaa.Base
set_option linter.unusedVariables false
set_option linter.unusedSimpArgs false
set_option maxRecDepth 4000
set_option synthInstance.maxSize 1000
set_option synthInstance.maxHeartbeats 200000
def dsum (l : List SecD) : Nat := (l.map fun s => s.data.length).sum
def smallB (o : ObjD) : Bool := !(decide ((o.secs.length : Int) > 40) || decide ((o.syms.length : Int) > 140) || decide ((o.groups.length : Int) > 40) || decide ((o.sig.length : Int) > 200)) && (o.secs.all fun s => !(decide ((s.data.length : Int) > 20000) || decide ((s.rels.length : Int) > 80))) && (o.groups.all fun g => !decide ((g.mem.length : Int) > 50)) && !decide ((dsum o.secs : Int) > 40000)
theorem dsum_succ {l : List SecD} {i : Nat} (h : i < l.length) : dsum (l.take (i + 1)) = dsum (l.take i) + (l.getD i default).data.length := by
 unfold dsum
 rw [map_take_succ _ h, List.sum_append]; simp
structure SmallW (o : ObjD) : Prop where
 len : o.secs.length ≤ 40 ∧ o.syms.length ≤ 140 ∧ o.groups.length ≤ 40 ∧ o.sig.length ≤ 200
 sec : ∀ s ∈ o.secs, s.data.length ≤ 20000 ∧ s.rels.length ≤ 80
 grp : ∀ g ∈ o.groups, g.mem.length ≤ 50
theorem small_W {o : ObjD} (h : smallB o = true) : SmallW o := by
 unfold smallB at h
 simp only [Bool.and_eq_true, Bool.not_eq_true', Bool.or_eq_false_iff, decide_eq_false_iff_not] at h
 obtain ⟨⟨⟨h1, h2⟩, h3⟩, h4⟩ := h
 refine ⟨by omega, fun s hs => ?_, fun g hg => ?_⟩
 · have := List.all_eq_true.1 h2 s hs
   simp only [Bool.not_eq_true', Bool.or_eq_false_iff, decide_eq_false_iff_not] at this
   omega
 · have := List.all_eq_true.1 h3 g hg
   simp only [Bool.not_eq_true', decide_eq_false_iff_not] at this
   omega
theorem ref_ints (l : List Int) (hl : l.length ≤ 9223372036854775807) : A0 Try.prog 55 [.rd 1 (l.map iA), .rd 1 (l.map iA)] (fun ret => ret = .v (.bool true)) := by
 refine A0.body 26 Try.func55 rfl rfl Try.ntmps55 fun base n0 => ?_
 refine AW.seq' ?_
 refine AW.region ?_
 refine AO.c ?_
 refine AO.nil ?_
 refine SQ.normal ?_
 refine AW.seq' ?_
 refine AW.seq' ?_
 refine AW.region ?_
 iterate 5 refine AO.c ?_
 refine AO.nil ?_
 refine SQ.normal ?_
 refine AW.iteB (GL.ev _) (fun h0 => ?_) (fun h0 => ?_)
 ·
  exfalso
  simp at h0
 ·
  skip
  refine AW.skip ?_
  refine SQ.normal ?_
  refine AW.seq' ?_
  refine AW.seq' ?_
  refine AW.region ?_
  refine AO.c ?_
  refine AO.nil ?_
  refine SQ.normal ?_
  refine AW.block' ?_
  refine AW.loopU [.k, .k, .f, .f, .f, .k, .F, .F, .f, .f, .f, .f] (fun (i : Nat) => [(5, .v (.int .i64 (i)))]) (fun i => Hn n0 []) (fun m i => i ≤ l.length ∧ m = l.length - i) (l.length) (0) ⟨by omega, by omega⟩ (by first | rfl | (simp; done)) (by first | rfl | (simp; done)) ?_
  rintro m0 i ⟨hx1, hx2⟩
  refine AW.seq' ?_
  refine AW.seq' ?_
  refine AW.region ?_
  iterate 4 refine AO.c ?_
  refine AO.nil ?_
  refine SQ.normal ?_
  refine AW.iteB (GL.ev _) (fun h1 => ?_) (fun h1 => ?_)
  ·
   try simp only [Bool.and_eq_true, Bool.or_eq_true, Bool.not_eq_true', Bool.and_eq_false_iff, Bool.or_eq_false_iff, decide_eq_true_eq, decide_eq_false_iff_not, bys_length] at h1
   refine AW.skip ?_
   refine SQ.normal ?_
   refine AW.seq' ?_
   refine AW.block' ?_
   refine AW.seq' ?_
   refine AW.drawsZ [] (.one 0 false (.one 1 false (.one 2 false (.one 3 false (.one 4 false (.one 5 false (.one 6 false (.one 7 false (.one 8 false .nil))))))))) (by kernel_rfl) rfl (by kernel_rfl) ?_
   iterate 2 refine AZ.c rfl ?_
   refine AZ.oo rfl ?_
   iterate 3 refine AZ.c rfl ?_
   refine AZ.oo rfl ?_
   iterate 2 refine AZ.c rfl ?_
   refine AZ.done ?_
   refine SQ.normal ?_
   refine AW.iteB (GL.ev _) (fun h2 => ?_) (fun h2 => ?_)
   ·
    exfalso
    simp at h2
   ·
    skip
    refine AW.skip ?_
    refine BQ.normal ?_
    refine SQ.normal ?_
    refine AW.region ?_
    refine AO.c ?_
    refine AO.oo ?_
    refine AO.c ?_
    refine AO.nil ?_
    exact AW.backU [.k, .k, .f, .f, .f, .k, .F, .F, .f, .f, .f, .f] (m0 - 1) (i + 1) (by omega) (by (try dsimp only); exact ⟨by omega, by omega⟩) (by first | rfl | (simp; done)) (by first | rfl | (simp; done))
  ·
   try simp only [Bool.and_eq_true, Bool.or_eq_true, Bool.not_eq_true', Bool.and_eq_false_iff, Bool.or_eq_false_iff, decide_eq_true_eq, decide_eq_false_iff_not, bys_length] at h1
   refine AW.exit ?_
   refine SQ.exit <| AW.out <| LU.exit <| BQ.exit ?_
   refine SQ.normal ?_
   refine AW.seq' ?_
   refine AW.region ?_
   refine AO.c ?_
   refine AO.nil ?_
   refine SQ.normal ?_
   refine AW.ret ?_
   refine Fin.ret (Gh.refl) noid1 ?_
   first | rfl | (simp [packA]; done)
theorem ref_sameSec (s : SecD) (hs : s.ok) : A0 Try.prog 56 [.agg (secA s), .agg (secA s)] (fun ret => ret = .v (.bool true)) := by
 have hr := hs.2.2.2.2.2.2.2.2.2.1
 rw [maxLen_eq] at hr
 refine A0.body 87 Try.func56 rfl rfl Try.ntmps56 fun base n0 => ?_
 refine AW.seq' ?_
 refine AW.region ?_
 iterate 2 refine AO.ww ?_
 refine AO.c ?_
 refine AO.nil ?_
 refine SQ.normal ?_
 refine AW.seq' ?_
 refine AW.seq' ?_
 refine AW.region ?_
 iterate 6 refine AO.c ?_
 iterate 5 refine AO.gx ?_
 iterate 2 refine AO.c ?_
 iterate 5 refine AO.gx ?_
 iterate 2 refine AO.c ?_
 iterate 5 refine AO.gx ?_
 iterate 2 refine AO.c ?_
 iterate 5 refine AO.gx ?_
 iterate 2 refine AO.c ?_
 iterate 5 refine AO.gx ?_
 iterate 2 refine AO.c ?_
 iterate 5 refine AO.gx ?_
 refine AO.c ?_
 refine AO.nil ?_
 refine SQ.normal ?_
 refine AW.iteB (GL.ev _) (fun h0 => ?_) (fun h0 => ?_)
 ·
  exfalso
  simp at h0
 ·
  skip
  refine AW.skip ?_
  refine SQ.normal ?_
  refine AW.seq' ?_
  refine AW.seq' ?_
  refine AW.region ?_
  iterate 8 refine AO.c ?_
  iterate 7 refine AO.gx ?_
  refine AO.c ?_
  refine AO.nil ?_
  refine SQ.normal ?_
  refine AW.iteB (GL.ev _) (fun h1 => ?_) (fun h1 => ?_)
  ·
   exfalso
   simp at h1
  ·
   skip
   refine AW.skip ?_
   refine SQ.normal ?_
   refine AW.seq' ?_
   refine AW.seq' ?_
   refine AW.region ?_
   refine AO.c ?_
   refine AO.nil ?_
   refine SQ.normal ?_
   refine AW.block' ?_
   refine AW.loopU [.f, .f, .k, .k, .f, .k, .F, .F, .F, .F, .F, .F, .F, .F, .F, .F, .f] (fun (i : Nat) => [(5, .v (.int .i64 (i)))]) (fun i => Hn n0 [some (.box 75 (secA s)), some (.box 75 (secA s))]) (fun m i => i ≤ s.rels.length ∧ m = s.rels.length - i) (s.rels.length) (0) ⟨by omega, by omega⟩ (by first | rfl | (simp; done)) (by first | rfl | (simp; done)) ?_
   rintro m0 i ⟨hx1, hx2⟩
   refine AW.seq' ?_
   refine AW.seq' ?_
   refine AW.region ?_
   iterate 5 refine AO.c ?_
   refine AO.nil ?_
   refine SQ.normal ?_
   refine AW.iteB (GL.ev _) (fun h2 => ?_) (fun h2 => ?_)
   ·
    try simp only [Bool.and_eq_true, Bool.or_eq_true, Bool.not_eq_true', Bool.and_eq_false_iff, Bool.or_eq_false_iff, decide_eq_true_eq, decide_eq_false_iff_not, bys_length] at h2
    refine AW.skip ?_
    refine SQ.normal ?_
    refine AW.seq' ?_
    refine AW.block' ?_
    refine AW.seq' ?_
    refine AW.drawsZ [] (.one 0 false (.one 1 false (.one 2 false (.one 3 false (.one 4 false (.one 5 false (.one 6 false (.one 7 false (.one 8 false (.one 9 false (.one 10 false .nil))))))))))) (by kernel_rfl) rfl (by kernel_rfl) ?_
    iterate 3 refine AZ.c rfl ?_
    refine AZ.oo rfl ?_
    iterate 4 refine AZ.c rfl ?_
    refine AZ.oo rfl ?_
    iterate 2 refine AZ.c rfl ?_
    refine AZ.done ?_
    refine SQ.normal ?_
    refine AW.iteB (GL.ev _) (fun h3 => ?_) (fun h3 => ?_)
    ·
     exfalso
     simp at h3
    ·
     skip
     refine AW.skip ?_
     refine BQ.normal ?_
     refine SQ.normal ?_
     refine AW.region ?_
     refine AO.c ?_
     refine AO.oo ?_
     refine AO.c ?_
     refine AO.nil ?_
     exact AW.backU [.f, .f, .k, .k, .f, .k, .F, .F, .F, .F, .F, .F, .F, .F, .F, .F, .f] (m0 - 1) (i + 1) (by omega) (by (try dsimp only); exact ⟨by omega, by omega⟩) (by first | rfl | (simp; done)) (by first | rfl | (simp; done))
   ·
    try simp only [Bool.and_eq_true, Bool.or_eq_true, Bool.not_eq_true', Bool.and_eq_false_iff, Bool.or_eq_false_iff, decide_eq_true_eq, decide_eq_false_iff_not, bys_length] at h2
    refine AW.exit ?_
    refine SQ.exit <| AW.out <| LU.exit <| BQ.exit ?_
    refine SQ.normal ?_
    refine AW.seq' ?_
    refine AW.region ?_
    refine AO.c ?_
    refine AO.nil ?_
    refine SQ.normal ?_
    refine AW.ret ?_
    refine Fin.ret (Gh.refl) noid1 ?_
    first | rfl | (simp [packA]; done)
set_option maxHeartbeats 4000000 in
theorem ref_Same (o : ObjD) (ho : o.ok) : A0 Try.prog 25 [.agg (objA o), .agg (objA o)] (fun ret => ret = .v (.bool true)) := by
 obtain ⟨q1, q2, q3, q4, q5, q6, q7, q8⟩ := ho
 rw [maxLen_eq] at q1 q3 q5 q7
 refine A0.body 127 Try.func25 rfl rfl Try.ntmps25 fun base n0 => ?_
 refine AW.seq' ?_
 refine AW.region ?_
 iterate 2 refine AO.ww ?_
 refine AO.c ?_
 refine AO.nil ?_
 refine SQ.normal ?_
 refine AW.seq' ?_
 refine AW.region ?_
 iterate 4 refine AO.c ?_
 refine AO.call1 Try.func55 rfl rfl (ref_ints o.sig (by omega)) ?_
 refine AO.c ?_
 refine AO.nil ?_
 refine SQ.normal ?_
 refine AW.seq' ?_
 refine AW.seq' ?_
 refine AW.region ?_
 iterate 8 refine AO.c ?_
 iterate 7 refine AO.gx ?_
 iterate 2 refine AO.c ?_
 iterate 7 refine AO.gx ?_
 iterate 2 refine AO.c ?_
 iterate 5 refine AO.gx ?_
 iterate 2 refine AO.c ?_
 iterate 2 refine AO.gx ?_
 refine AO.c ?_
 refine AO.nil ?_
 refine SQ.normal ?_
 refine AW.iteB (GL.ev _) (fun h0 => ?_) (fun h0 => ?_)
 ·
  exfalso
  simp at h0
 ·
  skip
  refine AW.skip ?_
  refine SQ.normal ?_
  refine AW.seq' ?_
  refine AW.seq' ?_
  refine AW.region ?_
  refine AO.c ?_
  refine AO.nil ?_
  refine SQ.normal ?_
  refine AW.block' ?_
  refine AW.loopU [.f, .f, .k, .k, .f, .f, .k, .F, .F, .F, .F, .F, .F, .F, .F, .F, .F, .F, .F, .F, .F, .F] (fun (i : Nat) => [(6, .v (.int .i64 (i)))]) (fun i => Hn n0 [some (.box 52 (objA o)), some (.box 52 (objA o))]) (fun m i => i ≤ o.secs.length ∧ m = o.secs.length - i) (o.secs.length) (0) ⟨by omega, by omega⟩ (by first | rfl | (simp; done)) (by first | rfl | (simp; done)) ?_
  rintro m0 i ⟨hx1, hx2⟩
  refine AW.seq' ?_
  refine AW.seq' ?_
  refine AW.region ?_
  iterate 5 refine AO.c ?_
  refine AO.nil ?_
  refine SQ.normal ?_
  refine AW.iteB (GL.ev _) (fun h1 => ?_) (fun h1 => ?_)
  ·
   rw [decide_eq_true_eq] at h1
   have hi : i < o.secs.length := by omega
   refine AW.skip ?_
   refine SQ.normal ?_
   refine AW.seq' ?_
   refine AW.block' ?_
   refine AW.seq' ?_
   refine AW.drawsZ [] (.one 0 false (.one 1 false (.one 2 false (.one 3 false (.one 4 false (.one 5 false (.one 6 false (.one 7 false (.one 8 false (.one 9 false (.one 10 true (.one 11 false .nil)))))))))))) (by kernel_rfl) rfl (by kernel_rfl) ?_
   iterate 3 refine AZ.c rfl ?_
   refine AZ.oo rfl ?_
   iterate 4 refine AZ.c rfl ?_
   refine AZ.oo rfl ?_
   refine AZ.c rfl ?_
   refine AZ.call1 rfl Try.func56 rfl rfl (ref_sameSec _ (secOk_at q2 hi)) ?_
   refine AZ.c rfl ?_
   refine AZ.done ?_
   refine SQ.normal ?_
   refine AW.seq' ?_
   refine AW.region ?_
   iterate 2 refine AO.c ?_
   refine AO.nil ?_
   refine SQ.normal ?_
   refine AW.iteB (GL.ev _) (fun h2 => ?_) (fun h2 => ?_)
   ·
    exfalso
    simp at h2
   ·
    skip
    refine AW.skip ?_
    refine BQ.normal ?_
    refine SQ.normal ?_
    refine AW.region ?_
    refine AO.c ?_
    refine AO.oo ?_
    refine AO.c ?_
    refine AO.nil ?_
    exact AW.backU [.f, .f, .k, .k, .f, .f, .k, .F, .F, .F, .F, .F, .F, .F, .F, .F, .F, .F, .F, .F, .F, .F] (m0 - 1) (i + 1) (by omega) (by (try dsimp only); exact ⟨by omega, by omega⟩) (by first | rfl | (simp; done)) (by first | rfl | (simp; done))
  ·
   skip
   refine AW.exit ?_
   refine SQ.exit <| AW.out <| LU.exit <| BQ.exit ?_
   refine SQ.normal ?_
   refine AW.seq' ?_
   refine AW.seq' ?_
   refine AW.region ?_
   refine AO.c ?_
   refine AO.nil ?_
   refine SQ.normal ?_
   refine AW.block' ?_
   refine AW.loopU [.f, .f, .k, .k, .f, .f, .f, .f, .k, .F, .F, .F, .F, .F, .F, .F, .F, .F, .F, .F, .F, .F, .F, .f, .f, .f, .f, .f, .f] (fun (i : Nat) => [(8, .v (.int .i64 (i)))]) (fun i => Hn n0 [some (.box 52 (objA o)), some (.box 52 (objA o))]) (fun m i => i ≤ o.syms.length ∧ m = o.syms.length - i) (o.syms.length) (0) ⟨by omega, by omega⟩ (by first | rfl | (simp; done)) (by first | rfl | (simp; done)) ?_
   rintro m1 i ⟨hx1, hx2⟩
   refine AW.seq' ?_
   refine AW.seq' ?_
   refine AW.region ?_
   iterate 5 refine AO.c ?_
   refine AO.nil ?_
   refine SQ.normal ?_
   refine AW.iteB (GL.ev _) (fun h3 => ?_) (fun h3 => ?_)
   ·
    try simp only [Bool.and_eq_true, Bool.or_eq_true, Bool.not_eq_true', Bool.and_eq_false_iff, Bool.or_eq_false_iff, decide_eq_true_eq, decide_eq_false_iff_not, bys_length] at h3
    refine AW.skip ?_
    refine SQ.normal ?_
    refine AW.seq' ?_
    refine AW.block' ?_
    refine AW.seq' ?_
    refine AW.drawsZ [] (.one 0 false (.one 1 false (.one 2 false (.one 3 false (.one 4 false (.one 5 false (.one 6 false (.one 7 false (.one 8 false (.one 9 false (.one 10 false .nil))))))))))) (by kernel_rfl) rfl (by kernel_rfl) ?_
    iterate 3 refine AZ.c rfl ?_
    refine AZ.oo rfl ?_
    iterate 4 refine AZ.c rfl ?_
    refine AZ.oo rfl ?_
    iterate 2 refine AZ.c rfl ?_
    refine AZ.done ?_
    refine SQ.normal ?_
    refine AW.iteB (GL.ev _) (fun h4 => ?_) (fun h4 => ?_)
    ·
     exfalso
     simp at h4
    ·
     skip
     refine AW.skip ?_
     refine BQ.normal ?_
     refine SQ.normal ?_
     refine AW.region ?_
     refine AO.c ?_
     refine AO.oo ?_
     refine AO.c ?_
     refine AO.nil ?_
     exact AW.backU [.f, .f, .k, .k, .f, .f, .f, .f, .k, .F, .F, .F, .F, .F, .F, .F, .F, .F, .F, .F, .F, .F, .F, .f, .f, .f, .f, .f, .f] (m1 - 1) (i + 1) (by omega) (by (try dsimp only); exact ⟨by omega, by omega⟩) (by first | rfl | (simp; done)) (by first | rfl | (simp; done))
   ·
    try simp only [Bool.and_eq_true, Bool.or_eq_true, Bool.not_eq_true', Bool.and_eq_false_iff, Bool.or_eq_false_iff, decide_eq_true_eq, decide_eq_false_iff_not, bys_length] at h3
    refine AW.exit ?_
    refine SQ.exit <| AW.out <| LU.exit <| BQ.exit ?_
    refine SQ.normal ?_
    refine AW.seq' ?_
    refine AW.seq' ?_
    refine AW.region ?_
    refine AO.c ?_
    refine AO.nil ?_
    refine SQ.normal ?_
    refine AW.block' ?_
    refine AW.loopU [.f, .f, .k, .k, .f, .f, .f, .f, .f, .k, .F, .F, .F, .F, .F, .F, .F, .F, .F, .F, .F, .F, .F, .F, .f, .f, .f, .f, .f] (fun (i : Nat) => [(9, .v (.int .i64 (i)))]) (fun i => Hn n0 [some (.box 52 (objA o)), some (.box 52 (objA o))]) (fun m i => i ≤ o.groups.length ∧ m = o.groups.length - i) (o.groups.length) (0) ⟨by omega, by omega⟩ (by first | rfl | (simp; done)) (by first | rfl | (simp; done)) ?_
    rintro m2 i ⟨hx1, hx2⟩
    refine AW.seq' ?_
    refine AW.seq' ?_
    refine AW.region ?_
    iterate 5 refine AO.c ?_
    refine AO.nil ?_
    refine SQ.normal ?_
    refine AW.iteB (GL.ev _) (fun h5 => ?_) (fun h5 => ?_)
    ·
     rw [decide_eq_true_eq] at h5
     have hi : i < o.groups.length := by omega
     refine AW.skip ?_
     refine SQ.normal ?_
     refine AW.seq' ?_
     refine AW.block' ?_
     refine AW.seq' ?_
     refine AW.drawsZ [] (.one 0 false (.one 1 false (.one 2 false (.one 3 false (.one 4 false (.one 5 false (.one 6 false (.one 7 false (.one 8 false (.one 9 false (.one 10 false (.one 11 false (.one 12 true (.one 13 false .nil)))))))))))))) (by kernel_rfl) rfl (by kernel_rfl) ?_
     iterate 3 refine AZ.c rfl ?_
     refine AZ.oo rfl ?_
     iterate 5 refine AZ.c rfl ?_
     refine AZ.oo rfl ?_
     iterate 2 refine AZ.c rfl ?_
     refine AZ.call1 rfl Try.func55 rfl rfl (ref_ints _ (by have := (grpOk_at q6 hi).2.1; rw [maxLen_eq] at this; omega)) ?_
     refine AZ.c rfl ?_
     refine AZ.done ?_
     refine SQ.normal ?_
     refine AW.seq' ?_
     refine AW.drawsZ [] (.one 0 false (.one 1 false (.one 2 false (.one 3 false (.one 4 false (.one 5 false (.one 6 false (.one 7 false (.one 8 false (.one 9 false (.one 10 false (.one 11 false (.one 12 false (.one 13 false (.one 14 false (.one 15 false (.one 16 false .nil))))))))))))))))) (by kernel_rfl) rfl (by kernel_rfl) ?_
     iterate 3 refine AZ.c rfl ?_
     iterate 3 refine AZ.gx rfl ?_
     refine AZ.gxoo rfl ?_
     iterate 5 refine AZ.gx rfl ?_
     refine AZ.gxoo rfl ?_
     iterate 3 refine AZ.gx rfl ?_
     refine AZ.c rfl ?_
     refine AZ.done ?_
     refine SQ.normal ?_
     refine AW.iteB (GL.ev _) (fun h6 => ?_) (fun h6 => ?_)
     ·
      exfalso
      simp at h6
     ·
      skip
      refine AW.skip ?_
      refine BQ.normal ?_
      refine SQ.normal ?_
      refine AW.region ?_
      refine AO.c ?_
      refine AO.oo ?_
      refine AO.c ?_
      refine AO.nil ?_
      exact AW.backU [.f, .f, .k, .k, .f, .f, .f, .f, .f, .k, .F, .F, .F, .F, .F, .F, .F, .F, .F, .F, .F, .F, .F, .F, .f, .f, .f, .f, .f] (m2 - 1) (i + 1) (by omega) (by (try dsimp only); exact ⟨by omega, by omega⟩) (by first | rfl | (simp; done)) (by first | rfl | (simp; done))
    ·
     skip
     refine AW.exit ?_
     refine SQ.exit <| AW.out <| LU.exit <| BQ.exit ?_
     refine SQ.normal ?_
     refine AW.seq' ?_
     refine AW.region ?_
     refine AO.c ?_
     refine AO.nil ?_
     refine SQ.normal ?_
     refine AW.ret ?_
     refine Fin.ret (Gh.refl) noid1 ?_
     first | rfl | (simp [packA]; done)
set_option maxHeartbeats 1000000 in
theorem law_Small (o : ObjD) (ho : o.ok) : A0 Try.prog 19 [.agg (objA o)] (fun ret => ret = .v (.int .i64 (if smallB o = true then 1 else 0))) := by
 have ho0 := ho
 obtain ⟨q1, q2, q3, q4, q5, q6, q7, q8⟩ := ho
 rw [maxLen_eq] at q1 q3 q5 q7
 refine A0.body 79 Try.func19 rfl rfl Try.ntmps19 fun base n0 => ?_
 refine AW.seq' ?_
 refine AW.region ?_
 refine AO.ww ?_
 refine AO.c ?_
 refine AO.nil ?_
 refine SQ.normal ?_
 refine AW.seq' ?_
 refine AW.seq' ?_
 refine AW.region ?_
 iterate 5 refine AO.c ?_
 iterate 4 refine AO.gx ?_
 iterate 2 refine AO.c ?_
 iterate 4 refine AO.gx ?_
 iterate 2 refine AO.c ?_
 iterate 4 refine AO.gx ?_
 refine AO.c ?_
 refine AO.nil ?_
 refine SQ.normal ?_
 refine AW.iteB (GL.ev _) (fun h0 => ?_) (fun h0 => ?_)
 ·
  have hb : smallB o = false := by unfold smallB; rw [h0]; rfl
  refine AW.seq' ?_
  refine AW.region ?_
  refine AO.c ?_
  refine AO.nil ?_
  refine SQ.normal ?_
  refine AW.ret ?_
  refine SQ.ret ?_
  refine Fin.ret (Gh.refl) noid1 ?_
  rw [hb]; rfl
 ·
  have h0w := h0
  simp only [Bool.or_eq_false_iff, decide_eq_false_iff_not] at h0w
  refine AW.skip ?_
  refine SQ.normal ?_
  refine AW.seq' ?_
  refine AW.region ?_
  refine AO.c ?_
  refine AO.nil ?_
  refine SQ.normal ?_
  refine AW.seq' ?_
  refine AW.seq' ?_
  refine AW.region ?_
  refine AO.c ?_
  refine AO.nil ?_
  refine SQ.normal ?_
  refine AW.block' ?_
  refine AW.loopU [.f, .k, .f, .k, .k, .F, .F, .F, .F, .F, .F, .F, .F, .F, .f, .f] (fun (i : Nat) => [(3, .v (.int .i64 ((dsum (o.secs.take i) : Int)))), (4, .v (.int .i64 (i)))]) (fun i => Hn n0 [some (.box 52 (objA o))]) (fun m i => (i ≤ o.secs.length ∧ m = o.secs.length - i) ∧ dsum (o.secs.take i) ≤ 20000 * i ∧ ((o.secs.take i).all fun s => !(decide ((s.data.length : Int) > 20000) || decide ((s.rels.length : Int) > 80))) = true) (o.secs.length) (0) ⟨by omega, by simp [dsum], rfl⟩ (by simp [dsum]) (by first | rfl | (simp; done)) ?_
  rintro m0 i ⟨hx1, hx2, hx3⟩
  refine AW.seq' ?_
  refine AW.seq' ?_
  refine AW.region ?_
  iterate 5 refine AO.c ?_
  refine AO.nil ?_
  refine SQ.normal ?_
  refine AW.iteB (GL.ev _) (fun h1 => ?_) (fun h1 => ?_)
  ·
   rw [decide_eq_true_eq] at h1
   have hi : i < o.secs.length := by omega
   refine AW.skip ?_
   refine SQ.normal ?_
   refine AW.seq' ?_
   refine AW.block' ?_
   refine AW.seq' ?_
   refine AW.seq' ?_
   refine AW.region ?_
   iterate 3 refine AO.c ?_
   refine AO.oo ?_
   iterate 5 refine AO.c ?_
   iterate 3 refine AO.gx ?_
   refine AO.gxoo ?_
   iterate 4 refine AO.gx ?_
   refine AO.c ?_
   refine AO.nil ?_
   refine SQ.normal ?_
   refine AW.iteB (GL.ev _) (fun h2 => ?_) (fun h2 => ?_)
   ·
    have hb : smallB o = false := by
     unfold smallB
     rw [all_false_at hi (by (try dsimp only); rw [h2]; rfl)]; simp
    refine AW.seq' ?_
    refine AW.region ?_
    refine AO.c ?_
    refine AO.nil ?_
    refine SQ.normal ?_
    refine AW.ret ?_
    refine SQ.ret <| BQ.ret <| SQ.ret <| AW.out <| LU.ret <| BQ.ret <| SQ.ret ?_
    refine Fin.ret (Gh.refl) noid1 ?_
    rw [hb]; rfl
   ·
    have h2w := h2
    simp only [Bool.or_eq_false_iff, decide_eq_false_iff_not] at h2w
    have hal : ((o.secs.take (i + 1)).all fun s => !(decide ((s.data.length : Int) > 20000) || decide ((s.rels.length : Int) > 80))) = true := by
     rw [all_take_succ hi, hx3]; (try dsimp only); rw [h2]; rfl
    have hd := dsum_succ hi
    refine AW.skip ?_
    refine SQ.normal ?_
    refine AW.region ?_
    iterate 4 refine AO.c ?_
    refine AO.oo ?_
    iterate 3 refine AO.c ?_
    refine AO.oo ?_
    refine AO.c ?_
    refine AO.nil ?_
    refine BQ.normal ?_
    refine SQ.normal ?_
    refine AW.region ?_
    refine AO.c ?_
    refine AO.oo ?_
    refine AO.c ?_
    refine AO.nil ?_
    exact AW.backU [.f, .k, .f, .k, .k, .F, .F, .F, .F, .F, .F, .F, .F, .F, .f, .f] (m0 - 1) (i + 1) (by omega) (by (try dsimp only); exact ⟨by omega, by omega, hal⟩) (by rw [hd]; simp) (by first | rfl | (simp; done))
  ·
   rw [decide_eq_false_iff_not] at h1
   have hi : i = o.secs.length := by omega
   subst hi
   rw [List.take_of_length_le (Nat.le_refl _)] at *
   refine AW.exit ?_
   refine SQ.exit <| AW.out <| LU.exit <| BQ.exit ?_
   refine SQ.normal ?_
   refine AW.seq' ?_
   refine AW.seq' ?_
   refine AW.region ?_
   refine AO.c ?_
   refine AO.nil ?_
   refine SQ.normal ?_
   refine AW.block' ?_
   refine AW.loopU [.f, .k, .f, .k, .f, .k, .F, .F, .F, .F, .F, .F, .F, .F, .F, .f] (fun (k : Nat) => [(5, .v (.int .i64 (k)))]) (fun k => Hn n0 [some (.box 52 (objA o))]) (fun m k => (k ≤ o.groups.length ∧ m = o.groups.length - k) ∧ ((o.groups.take k).all fun g => !decide ((g.mem.length : Int) > 50)) = true) (o.groups.length) (0) ⟨by omega, rfl⟩ (by first | rfl | (simp; done)) (by first | rfl | (simp; done)) ?_
   rintro m1 k ⟨hy1, hy3⟩
   refine AW.seq' ?_
   refine AW.seq' ?_
   refine AW.region ?_
   iterate 5 refine AO.c ?_
   refine AO.nil ?_
   refine SQ.normal ?_
   refine AW.iteB (GL.ev _) (fun h3 => ?_) (fun h3 => ?_)
   ·
    rw [decide_eq_true_eq] at h3
    have hk : k < o.groups.length := by omega
    refine AW.skip ?_
    refine SQ.normal ?_
    refine AW.seq' ?_
    refine AW.block' ?_
    refine AW.seq' ?_
    refine AW.region ?_
    iterate 3 refine AO.c ?_
    refine AO.oo ?_
    iterate 4 refine AO.c ?_
    refine AO.nil ?_
    refine SQ.normal ?_
    refine AW.iteB (GL.ev _) (fun h4 => ?_) (fun h4 => ?_)
    ·
     have hb : smallB o = false := by
      unfold smallB
      rw [all_false_at (l := o.groups) hk (by (try dsimp only); rw [h4]; rfl)]; simp
     refine AW.seq' ?_
     refine AW.region ?_
     refine AO.c ?_
     refine AO.nil ?_
     refine SQ.normal ?_
     refine AW.ret ?_
     refine BQ.ret <| SQ.ret <| AW.out <| LU.ret <| BQ.ret <| SQ.ret ?_
     refine Fin.ret (Gh.refl) noid1 ?_
     rw [hb]; rfl
    ·
     have hal2 : ((o.groups.take (k + 1)).all fun g => !decide ((g.mem.length : Int) > 50)) = true := by
      rw [all_take_succ hk, hy3]; (try dsimp only); rw [h4]; rfl
     refine AW.skip ?_
     refine BQ.normal ?_
     refine SQ.normal ?_
     refine AW.region ?_
     refine AO.c ?_
     refine AO.oo ?_
     refine AO.c ?_
     refine AO.nil ?_
     exact AW.backU [.f, .k, .f, .k, .f, .k, .F, .F, .F, .F, .F, .F, .F, .F, .F, .f] (m1 - 1) (k + 1) (by omega) (by (try dsimp only); exact ⟨by omega, hal2⟩) (by first | rfl | (simp; done)) (by first | rfl | (simp; done))
   ·
    rw [decide_eq_false_iff_not] at h3
    have hk : k = o.groups.length := by omega
    subst hk
    rw [List.take_of_length_le (Nat.le_refl _)] at hy3
    refine AW.exit ?_
    refine SQ.exit <| AW.out <| LU.exit <| BQ.exit ?_
    refine SQ.normal ?_
    refine AW.seq' ?_
    refine AW.seq' ?_
    refine AW.region ?_
    iterate 2 refine AO.c ?_
    refine AO.nil ?_
    refine SQ.normal ?_
    refine AW.iteB (GL.ev _) (fun h5 => ?_) (fun h5 => ?_)
    ·
     have hb : smallB o = false := by unfold smallB; rw [h5]; simp
     refine AW.seq' ?_
     refine AW.region ?_
     refine AO.c ?_
     refine AO.nil ?_
     refine SQ.normal ?_
     refine AW.ret ?_
     refine SQ.ret ?_
     refine Fin.ret (Gh.refl) noid1 ?_
     rw [hb]; rfl
    ·
     have hb : smallB o = true := by unfold smallB; rw [h0, hx3, hy3, h5]; rfl
     refine AW.skip ?_
     refine SQ.normal ?_
     refine AW.seq' ?_
     refine AW.region ?_
     refine AO.c ?_
     refine AO.nil ?_
     refine SQ.normal ?_
     refine AW.ret ?_
     refine Fin.ret (Gh.refl) noid1 ?_
     rw [hb]; rfl
end Go.Proofs.Ytlapfdfbgckfcaa.AL
namespace Go.Proofs.Ytlapfdfbgckfcaa.AL
open Go Go.RowKit Go.Proofs.Ytlapfdfbgckfcaa.Base
set_option linter.unusedVariables false
set_option linter.unusedSimpArgs false
set_option maxRecDepth 4000
set_option synthInstance.maxSize 1000
set_option synthInstance.maxHeartbeats 200000
instance tuErr : TU Try.prog 28 (.interface #[("Error", 260)]) := ⟨by kernel_rfl⟩
instance tcCode : TCMP Try.prog 33 := ⟨by kernel_rfl⟩
theorem tabOf_bytes (l : List ByteArray) : Bytes (tabOf l).1 := by
 have key : ∀ (l : List ByteArray) (st : TabS), Bytes st.1 → Bytes (l.foldl tabStep st).1 := by
  intro l
  induction l with
  | nil => intro st h; exact h
  | cons s l ih =>
   intro st h
   refine ih _ ?_
   unfold tabStep
   split
   · exact h
   · split
     · exact h
     · refine (h.append (strB_bytes s)).append ?_
       intro x hx
       obtain rfl := List.mem_singleton.1 hx
       omega
 exact key l _ (by intro x hx; obtain rfl := List.mem_singleton.1 hx; omega)
theorem flatMap_bytes {α : Type} {f : α → List Int} (h : ∀ x, Bytes (f x)) (l : List α) : Bytes (l.flatMap f) := fun x hx => by
 obtain ⟨a, _, ha⟩ := List.mem_flatMap.1 hx
 exact h a x ha
theorem putR_bytes (r : RelD) : Bytes (putR r) := by unfold putR; split; exact relB_bytes r; exact Bytes.nil
theorem putN_bytes (x : Int) : Bytes (putN x) := by unfold putN; split; exact dig_bytes _ _; exact Bytes.nil
theorem putE_bytes (e : EntD) : Bytes (putE e) := by unfold putE; split; exact entB_bytes _ (by assumption); exact Bytes.nil
theorem putH_bytes (e : ShD) : Bytes (putH e) := by unfold putH; split; exact joinW_bytes _ _; exact Bytes.nil
theorem relPs_bytes (a : Int) : ∀ (l : List SecD) (n : Int), ∀ p ∈ relPs a n l, Bytes p.b := by
 intro l
 induction l with
 | nil => intro n p hp; cases hp
 | cons s l ih =>
  intro n p hp
  rw [relPs] at hp
  rcases List.mem_append.1 hp with hp | hp
  · unfold relPart at hp
    split at hp
    · cases hp
    · obtain rfl := List.mem_singleton.1 hp
      exact flatMap_bytes putR_bytes _
  · exact ih _ p hp
theorem pre_bytes {o : ObjD} (h : LayH o) : ∀ p ∈ preF o, Bytes p.b := by
 intro p hp
 unfold preF midF at hp
 simp only [List.mem_append, List.mem_cons, List.mem_map, List.not_mem_nil, or_false] at hp
 rcases hp with (((((rfl | ⟨a, ha, rfl⟩) | ((hp | ⟨g, hg, rfl⟩) | hp))) | rfl) | rfl) | rfl
 · exact Bytes.nil
 · exact (h.ok.2.1 a ha).2.2.2.2.2.2.2.2.1
 · exact relPs_bytes _ _ _ _ hp
 · refine Bytes.append ?_ (flatMap_bytes putN_bytes _)
   intro x hx
   simp only [List.mem_cons, List.not_mem_nil, or_false] at hx
   omega
 · unfold sigPart at hp
   split at hp
   · obtain rfl := List.mem_singleton.1 hp
     exact flatMap_bytes encB_bytes _
   · cases hp
 · refine flatMap_bytes (fun i => ?_) _
   exact putE_bytes _
 · exact tabOf_bytes _
 · exact Bytes.nil
theorem bytesF_bytes {o : ObjD} (h : LayH o) : Bytes (bytesF o) := by
 have hfin : ∀ i, i < (preF o).length → Bytes ((finF o).getD i default).b := fun i hi => by
  rw [finF_get hi, tblF_get hi]
  split
  · exact tabOf_bytes _
  · show Bytes ((preF o).getD i default).b
    exact pre_bytes h _ (mem_getD hi)
 have key : ∀ i, i ≤ (preF o).length → Bytes (layN (finF o) i).1 ∧ Bytes (layN (finF o) i).2 := by
  intro i
  induction i with
  | zero => intro _; exact ⟨Bytes.nil, Bytes.nil⟩
  | succ i ih =>
   intro hi
   obtain ⟨h1, h2⟩ := ih (by omega)
   exact ⟨h1.append (hfin i (by omega)), h2.append (putH_bytes _)⟩
 have hk := key (finF o).length (by rw [finF_len]; exact Nat.le_refl _)
 unfold bytesF
 refine (Bytes.append ?_ hk.1).append hk.2
 unfold putEh
 split
 · exact hdB_bytes _
 · exact Bytes.nil
@[reducible] def zSym : SymD := ⟨noS, 0, 0, 0, 0, 0⟩
@[reducible] def oUp : ObjD := ⟨[], [zSym], [], false, []⟩
theorem zObj_ok : zObj.ok := ⟨by rw [maxLen_eq]; decide, fun s h => (by cases h), by rw [maxLen_eq]; decide, fun s h => (by cases h), by rw [maxLen_eq]; decide, fun s h => (by cases h), by rw [maxLen_eq]; decide, fun s h => (by cases h)⟩
theorem oUp_ok : oUp.ok := by
 refine ⟨by rw [maxLen_eq]; decide, fun s h => (by cases h), by rw [maxLen_eq]; decide, fun s h => ?_, by rw [maxLen_eq]; decide, fun s h => (by cases h), by rw [maxLen_eq]; decide, fun s h => (by cases h)⟩
 obtain rfl := List.mem_singleton.1 h
 exact ⟨by rw [maxLen_eq]; decide, by decide, by decide, by decide, by decide, by decide⟩
theorem oUp_H : LayH oUp := ⟨oUp_ok, by decide +kernel, by decide, by decide⟩
theorem oUp_len : (bytesF oUp).length = 372 := by decide +kernel
theorem oUp_L : Laid oUp := ⟨oUp_H, by rw [oUp_len]; decide⟩
theorem oUp_may : mayP oUp = true := by
 unfold mayP
 rw [oUp_H.sh, oUp_len]; rfl
theorem zObj_may : mayP zObj = false := by
 unfold mayP
 rw [show shapeB zObj = false by decide]; rfl
theorem may_laid {o : ObjD} (ho : o.ok) (hg : o.groups.length ≤ 900000) (hsg : o.sig.length ≤ 1000000) (h : mayP o = true) : Laid o := by
 unfold mayP at h
 rw [Bool.and_eq_true, decide_eq_true_eq] at h
 exact ⟨⟨ho, h.1, hg, hsg⟩, h.2⟩
theorem obj_PutY {o : ObjD} (ho : o.ok) (hg : o.groups.length ≤ 900000) (hsg : o.sig.length ≤ 1000000) (h : mayP o = true) : A0 Try.prog 21 [.agg (objA o)] (fun ret => ret = .tup [.rd 1 (bys (bytesF o)), .v (ifV 33 0)]) := by
 have := obj_Put o ho hg hsg
 rw [if_pos h, if_pos h] at this
 exact this
theorem obj_PutN {o : ObjD} (ho : o.ok) (hg : o.groups.length ≤ 900000) (hsg : o.sig.length ≤ 1000000) (h : mayP o = false) : A0 Try.prog 21 [.agg (objA o)] (fun ret => ret = .tup [.rd 1 (bys []), .v (ifV 33 1)]) := by
 have := obj_Put o ho hg hsg
 rw [if_neg (by rw [h]; decide), if_neg (by rw [h]; decide)] at this
 exact this
theorem obj_MayV {o : ObjD} {v : Bool} (ho : o.ok) (hg : o.groups.length ≤ 900000) (hsg : o.sig.length ≤ 1000000) (h : mayP o = v) : A0 Try.prog 22 [.agg (objA o)] (fun ret => ret = .v (.bool v)) := by
 have := obj_May o ho hg hsg
 rw [h] at this
 exact this
theorem obj_GetB {o : ObjD} (L : Laid o) : A0 Try.prog 24 [.rd 1 (bys (bytesF o))] (fun ret => ret = .tup [.agg (objA o), .v (ifV 33 0)]) := by
 have hl := L.le
 have h := obj_GetY (bytesF o) (bytesF_bytes L.h) (by omega) _ (bk_get L).1 (by rw [(bk_get L).2]; exact L.h.sh)
 rw [(bk_get L).2] at h
 exact h
theorem get_cases (b : List Int) (hB : Bytes b) (hb : b.length ≤ 1000000) : (∃ o : ObjD, o.ok ∧ o.groups.length ≤ 900000 ∧ o.sig.length ≤ 1000000 ∧ b.length ≤ 16384 ∧ A0 Try.prog 24 [.rd 1 (bys b)] (fun ret => ret = .tup [.agg (objA o), .v (ifV 33 0)])) ∨ A0 Try.prog 24 [.rd 1 (bys b)] (fun ret => ret = .tup [.agg (objA zObj), .v (ifV 33 2)]) := by
 by_cases h : ∃ tb, getOk b tb ∧ shapeB (objG b tb) = true
 · obtain ⟨tb, hg, hs⟩ := h
   exact .inl ⟨objG b tb, objG_ok hB hg, (objG_lens hg).2.2, (sgS_S2 hB hg.1 _).1, hg.1.2.1, obj_GetY b hB hb tb hg hs⟩
 · refine .inr (obj_GetN b hB hb fun tb hg => ?_)
   cases hs : shapeB (objG b tb) with
   | false => rfl
   | true => exact absurd ⟨tb, hg, hs⟩ h
set_option maxHeartbeats 4000000 in
theorem up08  : A0 Try.prog 18 [] (fun ret => ret = .v (.bool true)) := by
 refine A0.body 45 Try.func18 rfl rfl Try.ntmps18 fun base n0 => ?_
 refine AW.seq' ?_
 refine AW.region ?_
 refine AO.c ?_
 refine AO.nil ?_
 refine SQ.normal ?_
 refine AW.seq' ?_
 refine AW.region ?_
 refine AO.c ?_
 refine AO.rr ?_
 refine AO.eq 7 (av' := .rd 6 (([zSym] : List SymD).map symA)) rfl ?_
 refine AO.c ?_
 refine AO.ghost (Gh.tell 8 (.agg [.rd 9 (([] : List SecD).map secA), .rd 6 (([zSym] : List SymD).map symA), .rd 2 (([] : List GrpD).map grpA), .v (.bool false), .rd 1 (([] : List Int).map iA)])) ?_
 refine AO.call1 Try.func21 rfl rfl (obj_PutY oUp_ok (by decide) (by decide) oUp_may) ?_
 iterate 5 refine AO.c ?_
 refine AO.nil ?_
 refine SQ.normal ?_
 refine AW.seq' ?_
 refine AW.region ?_
 refine AO.c ?_
 refine AO.call1 Try.func24 rfl rfl (obj_GetB oUp_L) ?_
 iterate 3 refine AO.c ?_
 refine AO.ww ?_
 refine AO.sst ?_
 refine AO.c ?_
 refine AO.nil ?_
 refine SQ.normal ?_
 refine AW.seq' ?_
 refine AW.region ?_
 iterate 2 refine AO.c ?_
 refine AO.eq 18 (av' := .v (.int .i64 372)) (by rw [oUp_len]; rfl) ?_
 refine AO.c ?_
 refine AO.eq 19 (av' := .v (.bool true)) rfl ?_
 refine AO.c ?_
 refine AO.gk rfl ?_
 refine AO.c ?_
 refine AO.gk rfl ?_
 refine AO.c ?_
 refine AO.eq 22 (av' := .v (.bool true)) rfl ?_
 refine AO.pt rfl ?_
 refine AO.c ?_
 refine AO.gk rfl ?_
 refine AO.c ?_
 refine AO.gk rfl ?_
 refine AO.c ?_
 refine AO.eq 26 (av' := .v (.bool true)) rfl ?_
 refine AO.pt rfl ?_
 refine AO.c ?_
 refine AO.gk rfl ?_
 refine AO.c ?_
 refine AO.gk rfl ?_
 refine AO.c ?_
 refine AO.gk rfl ?_
 refine AO.c ?_
 refine AO.gk rfl ?_
 refine AO.c ?_
 refine AO.eq 32 (av' := .v (.bool true)) rfl ?_
 refine AO.pt rfl ?_
 refine AO.c ?_
 refine AO.gk rfl ?_
 refine AO.c ?_
 refine AO.gk rfl ?_
 refine AO.c ?_
 refine AO.gk rfl ?_
 refine AO.c ?_
 refine AO.gk rfl ?_
 refine AO.c ?_
 refine AO.eq 38 (av' := .v (.bool true)) rfl ?_
 refine AO.pt rfl ?_
 refine AO.c ?_
 refine AO.gk rfl ?_
 refine AO.c ?_
 refine AO.gk rfl ?_
 refine AO.ghost (Gh.tell 41 (.agg [.rd 9 (([] : List SecD).map secA), .rd 6 (([] : List SymD).map symA), .rd 2 (([] : List GrpD).map grpA), .v (.bool false), .rd 1 (([] : List Int).map iA)])) ?_
 refine AO.call1 Try.func22 rfl rfl (obj_MayV (o := zObj) zObj_ok (by decide) (by decide) zObj_may) ?_
 refine AO.gk rfl ?_
 refine AO.c ?_
 refine AO.eq 43 (av' := .v (.bool true)) rfl ?_
 refine AO.pt rfl ?_
 refine AO.c ?_
 refine AO.nil ?_
 refine SQ.normal ?_
 refine AW.ret ?_
 refine Fin.ret (Gh.refl) noid1 ?_
 first | rfl | (simp [packA]; done)
set_option maxHeartbeats 4000000 in
theorem obj_Puts (o : ObjD) (ho : o.ok) : A0 Try.prog 6 [.agg (objA o)] (fun ret => ret = .v (.bool true)) := by
 refine A0.body 53 Try.func6 rfl rfl Try.ntmps6 fun base n0 => ?_
 refine AW.seq' ?_
 refine AW.region ?_
 refine AO.ww ?_
 refine AO.c ?_
 refine AO.nil ?_
 refine SQ.normal ?_
 refine AW.seq' ?_
 refine AW.region ?_
 refine AO.call1 Try.func18 rfl rfl (up08) ?_
 refine AO.c ?_
 refine AO.nil ?_
 refine SQ.normal ?_
 refine AW.seq' ?_
 refine AW.seq' ?_
 refine AW.region ?_
 refine AO.c ?_
 refine AO.call1 Try.func19 rfl rfl (law_Small _ (by assumption)) ?_
 refine AO.c ?_
 refine AO.nil ?_
 refine SQ.normal ?_
 refine AW.iteB (GL.ev _) (fun h0 => ?_) (fun h0 => ?_)
 ·
  skip
  refine AW.seq' ?_
  refine AW.region ?_
  iterate 2 refine AO.c ?_
  refine AO.nil ?_
  refine SQ.normal ?_
  refine AW.ret ?_
  refine SQ.ret ?_
  refine Fin.ret (Gh.refl) noid1 ?_
  first | rfl | (simp [packA]; done)
 ·
  have hsm : smallB o = true := by
   cases h : smallB o with
   | true => rfl
   | false => rw [h] at h0; simp at h0
  have W := small_W hsm
  have Wl := W.len
  have hgs : GSmall o.groups := ⟨by omega, fun g hg => by have := W.grp g hg; omega⟩
  refine AW.skip ?_
  refine SQ.normal ?_
  refine AW.seq' ?_
  cases hm : mayP o
  ·
   have hmay := ref_May8 o ho (by omega) (by omega) hgs
   rw [hm] at hmay
   refine AW.region ?_
   refine AO.c ?_
   refine AO.call1 Try.func20 rfl rfl (hmay) ?_
   refine AO.c ?_
   refine AO.nil ?_
   refine SQ.normal ?_
   refine AW.seq' ?_
   refine AW.region ?_
   refine AO.c ?_
   refine AO.call1 Try.func21 rfl rfl (obj_PutN ho (by omega) (by omega) hm) ?_
   iterate 5 refine AO.c ?_
   refine AO.nil ?_
   refine SQ.normal ?_
   refine AW.seq' ?_
   refine AW.seq' ?_
   refine AW.region ?_
   refine AO.c ?_
   refine AO.call1 Try.func22 rfl rfl (obj_MayV ho (by omega) (by omega) hm) ?_
   iterate 3 refine AO.c ?_
   iterate 5 refine AO.gx ?_
   refine AO.gxoo ?_
   iterate 6 refine AO.gx ?_
   refine AO.c ?_
   refine AO.nil ?_
   refine SQ.normal ?_
   refine AW.iteB (GL.ev _) (fun h1 => ?_) (fun h1 => ?_)
   ·
    exfalso
    simp at h1
   ·
    skip
    refine AW.skip ?_
    refine SQ.normal ?_
    refine AW.seq' ?_
    refine AW.seq' ?_
    refine AW.region ?_
    iterate 2 refine AO.c ?_
    refine AO.nil ?_
    refine SQ.normal ?_
    refine AW.iteB (GL.ev _) (fun h2 => ?_) (fun h2 => ?_)
    ·
     skip
     refine AW.seq' ?_
     refine AW.region ?_
     iterate 2 refine AO.c ?_
     refine AO.nil ?_
     refine SQ.normal ?_
     refine AW.ret ?_
     refine SQ.ret ?_
     refine Fin.ret (Gh.refl) noid1 ?_
     first | rfl | (simp [packA]; done)
    ·
     exfalso
     simp at h2
  ·
   have hmay := ref_May8 o ho (by omega) (by omega) hgs
   rw [hm] at hmay
   have hL := (may_laid ho (by omega) (by omega) hm).h
   refine AW.region ?_
   refine AO.c ?_
   refine AO.call1 Try.func20 rfl rfl (hmay) ?_
   refine AO.c ?_
   refine AO.nil ?_
   refine SQ.normal ?_
   refine AW.seq' ?_
   refine AW.region ?_
   refine AO.c ?_
   refine AO.call1 Try.func21 rfl rfl (obj_PutY ho (by omega) (by omega) hm) ?_
   iterate 5 refine AO.c ?_
   refine AO.nil ?_
   refine SQ.normal ?_
   refine AW.seq' ?_
   refine AW.seq' ?_
   refine AW.region ?_
   refine AO.c ?_
   refine AO.call1 Try.func22 rfl rfl (obj_MayV ho (by omega) (by omega) hm) ?_
   iterate 3 refine AO.c ?_
   iterate 5 refine AO.gx ?_
   refine AO.gxoo ?_
   iterate 6 refine AO.gx ?_
   refine AO.c ?_
   refine AO.nil ?_
   refine SQ.normal ?_
   refine AW.iteB (GL.ev _) (fun h1 => ?_) (fun h1 => ?_)
   ·
    exfalso
    simp at h1
   ·
    skip
    refine AW.skip ?_
    refine SQ.normal ?_
    refine AW.seq' ?_
    refine AW.seq' ?_
    refine AW.region ?_
    iterate 2 refine AO.c ?_
    refine AO.nil ?_
    refine SQ.normal ?_
    refine AW.iteB (GL.ev _) (fun h2 => ?_) (fun h2 => ?_)
    ·
     exfalso
     simp at h2
    ·
     skip
     refine AW.skip ?_
     refine SQ.normal ?_
     refine AW.seq' ?_
     refine AW.drawsZ [] (.one 0 false (.one 1 false (.one 2 false (.one 3 false (.one 4 false (.one 5 false (.one 6 false (.one 7 false (.one 8 false (.one 9 true (.one 10 false (.one 11 false (.one 12 false (.one 13 false .nil)))))))))))))) (by kernel_rfl) rfl (by kernel_rfl) ?_
     iterate 2 refine AZ.c rfl ?_
     iterate 2 refine AZ.gx rfl ?_
     iterate 2 refine AZ.c rfl ?_
     iterate 3 refine AZ.gx rfl ?_
     refine AZ.gxcall1 rfl Try.func23 rfl rfl (fun hgd => (ref_BytesR o hL).a0 (by rw [bys_length]; exact bytesF_len hL)) ?_
     iterate 2 refine AZ.gx rfl ?_
     iterate 2 refine AZ.c rfl ?_
     refine AZ.done ?_
     refine SQ.normal ?_
     refine AW.ret ?_
     refine Fin.ret (Gh.refl) noid1 ?_
     first | rfl | (simp [packA]; done)
set_option maxHeartbeats 4000000 in
theorem obj_Back (o : ObjD) (ho : o.ok) : A0 Try.prog 7 [.agg (objA o)] (fun ret => ret = .v (.bool true)) := by
 refine A0.body 53 Try.func7 rfl rfl Try.ntmps7 fun base n0 => ?_
 refine AW.seq' ?_
 refine AW.region ?_
 refine AO.ww ?_
 refine AO.c ?_
 refine AO.nil ?_
 refine SQ.normal ?_
 refine AW.seq' ?_
 refine AW.region ?_
 refine AO.call1 Try.func18 rfl rfl (up08) ?_
 refine AO.c ?_
 refine AO.nil ?_
 refine SQ.normal ?_
 refine AW.seq' ?_
 refine AW.seq' ?_
 refine AW.region ?_
 refine AO.c ?_
 refine AO.call1 Try.func19 rfl rfl (law_Small _ (by assumption)) ?_
 refine AO.c ?_
 refine AO.nil ?_
 refine SQ.normal ?_
 refine AW.iteB (GL.ev _) (fun h0 => ?_) (fun h0 => ?_)
 ·
  skip
  refine AW.seq' ?_
  refine AW.region ?_
  iterate 2 refine AO.c ?_
  refine AO.nil ?_
  refine SQ.normal ?_
  refine AW.ret ?_
  refine SQ.ret ?_
  refine Fin.ret (Gh.refl) noid1 ?_
  first | rfl | (simp [packA]; done) | (simp [packA]; omega)
 ·
  have hsm : smallB o = true := by
   cases h : smallB o with
   | true => rfl
   | false => rw [h] at h0; simp at h0
  have W := small_W hsm
  have Wl := W.len
  have hgs : GSmall o.groups := ⟨by omega, fun g hg => by have := W.grp g hg; omega⟩
  refine AW.skip ?_
  refine SQ.normal ?_
  refine AW.seq' ?_
  cases hm : mayP o
  ·
   refine AW.region ?_
   refine AO.c ?_
   refine AO.call1 Try.func21 rfl rfl (obj_PutN ho (by omega) (by omega) hm) ?_
   iterate 5 refine AO.c ?_
   refine AO.nil ?_
   refine SQ.normal ?_
   refine AW.seq' ?_
   refine AW.seq' ?_
   refine AW.region ?_
   refine AO.c ?_
   refine AO.call1 Try.func22 rfl rfl (obj_MayV ho (by omega) (by omega) hm) ?_
   refine AO.c ?_
   refine AO.nil ?_
   refine SQ.normal ?_
   refine AW.iteB (GL.ev _) (fun h1 => ?_) (fun h1 => ?_)
   ·
    skip
    refine AW.seq' ?_
    refine AW.region ?_
    iterate 2 refine AO.c ?_
    iterate 2 refine AO.gx ?_
    refine AO.gxoo ?_
    iterate 2 refine AO.c ?_
    refine AO.nil ?_
    refine SQ.normal ?_
    refine AW.ret ?_
    refine SQ.ret ?_
    refine Fin.ret (Gh.refl) noid1 ?_
    first | rfl | (simp [packA]; done) | (simp [packA]; omega)
   ·
    exfalso
    simp at h1
  ·
   have hL := may_laid ho (by omega) (by omega) hm
   have hle := hL.le
   refine AW.region ?_
   refine AO.c ?_
   refine AO.call1 Try.func21 rfl rfl (obj_PutY ho (by omega) (by omega) hm) ?_
   iterate 5 refine AO.c ?_
   refine AO.nil ?_
   refine SQ.normal ?_
   refine AW.seq' ?_
   refine AW.seq' ?_
   refine AW.region ?_
   refine AO.c ?_
   refine AO.call1 Try.func22 rfl rfl (obj_MayV ho (by omega) (by omega) hm) ?_
   refine AO.c ?_
   refine AO.nil ?_
   refine SQ.normal ?_
   refine AW.iteB (GL.ev _) (fun h1 => ?_) (fun h1 => ?_)
   ·
    exfalso
    simp at h1
   ·
    skip
    refine AW.skip ?_
    refine SQ.normal ?_
    refine AW.seq' ?_
    refine AW.region ?_
    refine AO.c ?_
    refine AO.call1 Try.func24 rfl rfl (obj_GetB hL) ?_
    iterate 3 refine AO.c ?_
    refine AO.ww ?_
    refine AO.sst ?_
    refine AO.c ?_
    refine AO.nil ?_
    refine SQ.normal ?_
    refine AW.seq' ?_
    refine AW.region ?_
    iterate 2 refine AO.c ?_
    refine AO.call1 Try.func25 rfl rfl (ref_Same o ho) ?_
    refine AO.c ?_
    refine AO.nil ?_
    refine SQ.normal ?_
    refine AW.seq' ?_
    refine AW.region ?_
    iterate 2 refine AO.c ?_
    iterate 2 refine AO.gx ?_
    iterate 2 refine AO.c ?_
    iterate 2 refine AO.gx ?_
    iterate 2 refine AO.c ?_
    refine AO.gx ?_
    iterate 2 refine AO.c ?_
    iterate 3 refine AO.gx ?_
    iterate 2 refine AO.c ?_
    refine AO.nil ?_
    refine SQ.normal ?_
    refine AW.ret ?_
    refine Fin.ret (Gh.refl) noid1 ?_
    first | rfl | (simp [packA]; done) | (simp [packA]; omega)
set_option maxHeartbeats 4000000 in
theorem obj_Again (b : List Int) (hB : Bytes b) (hb : b.length ≤ maxLen) : A0 Try.prog 8 [.rd 1 (bys b)] (fun ret => ret = .v (.bool true)) := by
 rw [maxLen_eq] at hb
 refine A0.body 91 Try.func8 rfl rfl Try.ntmps8 fun base n0 => ?_
 refine AW.seq' ?_
 refine AW.region ?_
 refine AO.c ?_
 refine AO.nil ?_
 refine SQ.normal ?_
 refine AW.seq' ?_
 refine AW.region ?_
 refine AO.call1 Try.func18 rfl rfl (up08) ?_
 refine AO.c ?_
 refine AO.nil ?_
 refine SQ.normal ?_
 refine AW.seq' ?_
 refine AW.seq' ?_
 refine AW.region ?_
 iterate 3 refine AO.c ?_
 refine AO.nil ?_
 refine SQ.normal ?_
 refine AW.iteB (GL.ev _) (fun h0 => ?_) (fun h0 => ?_)
 ·
  skip
  refine AW.seq' ?_
  refine AW.region ?_
  iterate 2 refine AO.c ?_
  refine AO.nil ?_
  refine SQ.normal ?_
  refine AW.ret ?_
  refine SQ.ret ?_
  refine Fin.ret (Gh.refl) noid1 ?_
  first | rfl | (simp [packA]; done)
 ·
  rw [decide_eq_false_iff_not] at h0
  refine AW.skip ?_
  refine SQ.normal ?_
  refine AW.seq' ?_
  rcases get_cases b hB (by omega) with ⟨o, ho, hg, hsg, hbl, hget⟩ | hget
  ·
   refine AW.region ?_
   refine AO.c ?_
   refine AO.call1 Try.func24 rfl rfl (hget) ?_
   iterate 3 refine AO.c ?_
   refine AO.ww ?_
   refine AO.sst ?_
   refine AO.c ?_
   refine AO.nil ?_
   refine SQ.normal ?_
   refine AW.seq' ?_
   refine AW.seq' ?_
   refine AW.region ?_
   iterate 3 refine AO.c ?_
   refine AO.nil ?_
   refine SQ.normal ?_
   refine AW.iteB (GL.ev _) (fun h1 => ?_) (fun h1 => ?_)
   ·
    exfalso
    rw [decide_eq_true_eq] at h1
    omega
   ·
    skip
    refine AW.skip ?_
    refine SQ.normal ?_
    refine AW.seq' ?_
    refine AW.seq' ?_
    cases hm : mayP o
    ·
     refine AW.region ?_
     iterate 3 refine AO.c ?_
     refine AO.gx ?_
     refine AO.gxcall1 Try.func22 rfl rfl (fun hgd => obj_MayV ho hg hsg hm) ?_
     refine AO.gx ?_
     refine AO.c ?_
     refine AO.nil ?_
     refine SQ.normal ?_
     refine AW.iteB (GL.ev _) (fun h2 => ?_) (fun h2 => ?_)
     ·
      skip
      refine AW.seq' ?_
      refine AW.region ?_
      iterate 2 refine AO.c ?_
      iterate 8 refine AO.gx ?_
      iterate 2 refine AO.c ?_
      refine AO.nil ?_
      refine SQ.normal ?_
      refine AW.ret ?_
      refine SQ.ret ?_
      refine Fin.ret (Gh.refl) noid1 ?_
      first | rfl | (simp [packA]; done)
     ·
      exfalso
      simp at h2
    ·
     have hL := may_laid ho hg hsg hm
     refine AW.region ?_
     iterate 3 refine AO.c ?_
     refine AO.gx ?_
     refine AO.gxcall1 Try.func22 rfl rfl (fun hgd => obj_MayV ho hg hsg hm) ?_
     refine AO.gx ?_
     refine AO.c ?_
     refine AO.nil ?_
     refine SQ.normal ?_
     refine AW.iteB (GL.ev _) (fun h2 => ?_) (fun h2 => ?_)
     ·
      exfalso
      simp at h2
     ·
      skip
      refine AW.skip ?_
      refine SQ.normal ?_
      refine AW.seq' ?_
      refine AW.region ?_
      refine AO.c ?_
      refine AO.call1 Try.func21 rfl rfl (obj_PutY ho hg hsg hm) ?_
      iterate 5 refine AO.c ?_
      refine AO.nil ?_
      refine SQ.normal ?_
      refine AW.seq' ?_
      refine AW.region ?_
      refine AO.c ?_
      refine AO.call1 Try.func24 rfl rfl (obj_GetB hL) ?_
      iterate 3 refine AO.c ?_
      refine AO.ww ?_
      refine AO.sst ?_
      refine AO.c ?_
      refine AO.nil ?_
      refine SQ.normal ?_
      refine AW.seq' ?_
      refine AW.region ?_
      refine AO.c ?_
      refine AO.call1 Try.func21 rfl rfl (obj_PutY ho hg hsg hm) ?_
      iterate 5 refine AO.c ?_
      refine AO.nil ?_
      refine SQ.normal ?_
      refine AW.seq' ?_
      refine AW.region ?_
      iterate 2 refine AO.c ?_
      refine AO.call1 Try.func25 rfl rfl (ref_Same o ho) ?_
      refine AO.c ?_
      refine AO.nil ?_
      refine SQ.normal ?_
      refine AW.seq' ?_
      refine AW.region ?_
      iterate 2 refine AO.c ?_
      iterate 2 refine AO.gx ?_
      iterate 2 refine AO.c ?_
      iterate 2 refine AO.gx ?_
      iterate 2 refine AO.c ?_
      iterate 2 refine AO.gx ?_
      iterate 2 refine AO.c ?_
      refine AO.gx ?_
      iterate 2 refine AO.c ?_
      iterate 5 refine AO.gx ?_
      iterate 2 refine AO.c ?_
      refine AO.nil ?_
      refine SQ.normal ?_
      refine AW.ret ?_
      refine Fin.ret (Gh.refl) noid1 ?_
      first | rfl | (simp [packA]; done)
  ·
   refine AW.region ?_
   refine AO.c ?_
   refine AO.call1 Try.func24 rfl rfl (hget) ?_
   iterate 3 refine AO.c ?_
   refine AO.ww ?_
   refine AO.sst ?_
   refine AO.c ?_
   refine AO.nil ?_
   refine SQ.normal ?_
   refine AW.seq' ?_
   refine AW.seq' ?_
   refine AW.region ?_
   iterate 3 refine AO.c ?_
   refine AO.nil ?_
   refine SQ.normal ?_
   refine AW.iteB (GL.ev _) (fun h1 => ?_) (fun h1 => ?_)
   ·
    skip
    refine AW.seq' ?_
    refine AW.region ?_
    iterate 2 refine AO.c ?_
    iterate 2 refine AO.gx ?_
    refine AO.gxoo ?_
    iterate 2 refine AO.c ?_
    refine AO.nil ?_
    refine SQ.normal ?_
    refine AW.ret ?_
    refine SQ.ret ?_
    refine Fin.ret (Gh.refl) noid1 ?_
    first | rfl | (simp [packA]; done)
   ·
    skip
    refine AW.skip ?_
    refine SQ.normal ?_
    refine AW.seq' ?_
    refine AW.seq' ?_
    refine AW.region ?_
    iterate 3 refine AO.c ?_
    refine AO.gx ?_
    refine AO.gxcall1 Try.func22 rfl rfl (fun hgd => obj_MayV zObj_ok (by decide) (by decide) zObj_may) ?_
    refine AO.gx ?_
    refine AO.c ?_
    refine AO.nil ?_
    refine SQ.normal ?_
    refine AW.iteB (GL.ev _) (fun h2 => ?_) (fun h2 => ?_)
    ·
     skip
     refine AW.seq' ?_
     refine AW.region ?_
     iterate 2 refine AO.c ?_
     iterate 8 refine AO.gx ?_
     iterate 2 refine AO.c ?_
     refine AO.nil ?_
     refine SQ.normal ?_
     refine AW.ret ?_
     refine SQ.ret ?_
     refine Fin.ret (Gh.refl) noid1 ?_
     first | rfl | (simp [packA]; done)
    ·
     exfalso
     simp at h2
theorem ta_rel {avs : List AV} (h : TA Try.prog 80 avs) : ∃ r : RelD, avs = relA r ∧ r.ok := by
 have h1 := h.inv_struct
 obtain ⟨a1, b1, rfl, k1, h2⟩ := TAs.inv_cons h1
 obtain ⟨a2, b2, rfl, k2, h3⟩ := TAs.inv_cons h2
 obtain ⟨a3, b3, rfl, k3, h4⟩ := TAs.inv_cons h3
 obtain ⟨a4, b4, rfl, k4, h5⟩ := TAs.inv_cons h4
 obtain rfl := TAs.inv_nil h5
 obtain ⟨n1, rfl, w1⟩ := k1.inv_int (k := .i64)
 obtain ⟨n2, rfl, w2⟩ := k2.inv_int (k := .i64)
 obtain ⟨n3, rfl, w3⟩ := k3.inv_int (k := .i64)
 obtain ⟨n4, rfl, w4⟩ := k4.inv_int (k := .i64)
 exact ⟨⟨n1, n2, n3, n4⟩, rfl, wf_i64 w1, wf_i64 w2, wf_i64 w3, wf_i64 w4⟩
theorem ta_rels {avs : List AV} (h : TA Try.prog 73 avs) : ∃ l : List RelD, avs = [.rd 4 (l.map relA)] ∧ l.length ≤ maxLen ∧ ∀ r ∈ l, r.ok := by
 obtain ⟨rows, rfl, hl, hr⟩ := TA.inv_slice (e := 80) (g := true) (sz := 4) h
 obtain ⟨l, rfl, h2⟩ := rows_map relA RelD.ok fun row hm => ta_rel (hr row hm)
 exact ⟨l, rfl, by simpa using hl, h2⟩
theorem ta_sec {avs : List AV} (h : TA Try.prog 75 avs) : ∃ s : SecD, avs = secA s ∧ s.ok := by
 have h0 := h.inv_struct
 obtain ⟨a1, b1, rfl, k1, h1⟩ := TAs.inv_cons h0
 obtain ⟨a2, b2, rfl, k2, h2⟩ := TAs.inv_cons h1
 obtain ⟨a3, b3, rfl, k3, h3⟩ := TAs.inv_cons h2
 obtain ⟨a4, b4, rfl, k4, h4⟩ := TAs.inv_cons h3
 obtain ⟨a5, b5, rfl, k5, h5⟩ := TAs.inv_cons h4
 obtain ⟨a6, b6, rfl, k6, h6⟩ := TAs.inv_cons h5
 obtain ⟨a7, b7, rfl, k7, h7⟩ := TAs.inv_cons h6
 obtain ⟨a8, b8, rfl, k8, h8⟩ := TAs.inv_cons h7
 obtain ⟨a9, b9, rfl, k9, h9⟩ := TAs.inv_cons h8
 obtain rfl := TAs.inv_nil h9
 obtain ⟨n1, rfl, w1⟩ := k1.inv_str
 obtain ⟨n2, rfl, w2⟩ := k2.inv_int (k := .i64)
 obtain ⟨n3, rfl, w3⟩ := k3.inv_int (k := .i64)
 obtain ⟨n4, rfl, w4⟩ := k4.inv_int (k := .i64)
 obtain ⟨n5, rfl, w5⟩ := k5.inv_int (k := .i64)
 obtain ⟨n6, rfl, w6⟩ := k6.inv_int (k := .i64)
 obtain ⟨n7, rfl, w7⟩ := k7.inv_int (k := .i64)
 obtain ⟨n8, rfl, w8, q8⟩ := TA.inv_bytes (e := 5) k8
 obtain ⟨n9, rfl, w9, q9⟩ := ta_rels k9
 exact ⟨⟨n1, n2, n3, n4, n5, n6, n7, n8, n9⟩, rfl, w1, wf_i64 w2, wf_i64 w3, wf_i64 w4, wf_i64 w5, wf_i64 w6, wf_i64 w7, w8, q8, w9, q9⟩
theorem ta_sym {avs : List AV} (h : TA Try.prog 105 avs) : ∃ s : SymD, avs = symA s ∧ s.ok := by
 have h0 := h.inv_struct
 obtain ⟨a1, b1, rfl, k1, h1⟩ := TAs.inv_cons h0
 obtain ⟨a2, b2, rfl, k2, h2⟩ := TAs.inv_cons h1
 obtain ⟨a3, b3, rfl, k3, h3⟩ := TAs.inv_cons h2
 obtain ⟨a4, b4, rfl, k4, h4⟩ := TAs.inv_cons h3
 obtain ⟨a5, b5, rfl, k5, h5⟩ := TAs.inv_cons h4
 obtain ⟨a6, b6, rfl, k6, h6⟩ := TAs.inv_cons h5
 obtain rfl := TAs.inv_nil h6
 obtain ⟨n1, rfl, w1⟩ := k1.inv_str
 obtain ⟨n2, rfl, w2⟩ := k2.inv_int (k := .i64)
 obtain ⟨n3, rfl, w3⟩ := k3.inv_int (k := .i64)
 obtain ⟨n4, rfl, w4⟩ := k4.inv_int (k := .i64)
 obtain ⟨n5, rfl, w5⟩ := k5.inv_int (k := .i64)
 obtain ⟨n6, rfl, w6⟩ := k6.inv_int (k := .i64)
 exact ⟨⟨n1, n2, n3, n4, n5, n6⟩, rfl, w1, wf_i64 w2, wf_i64 w3, wf_i64 w4, wf_i64 w5, wf_i64 w6⟩
theorem ta_grp {avs : List AV} (h : TA Try.prog 107 avs) : ∃ g : GrpD, avs = grpA g ∧ g.ok := by
 have h0 := h.inv_struct
 obtain ⟨a1, b1, rfl, k1, h1⟩ := TAs.inv_cons h0
 obtain ⟨a2, b2, rfl, k2, h2⟩ := TAs.inv_cons h1
 obtain rfl := TAs.inv_nil h2
 obtain ⟨n1, rfl, w1⟩ := k1.inv_int (k := .i64)
 obtain ⟨n2, rfl, w2, q2⟩ := TA.inv_ints (e := 3) (k := .i64) k2
 exact ⟨⟨n1, n2⟩, rfl, wf_i64 w1, w2, fun x hx => wf_i64 (q2 x hx)⟩
theorem ta_obj {avs : List AV} (h : TA Try.prog 52 avs) : ∃ o : ObjD, avs = objA o ∧ o.ok := by
 have h0 := h.inv_struct
 obtain ⟨a1, b1, rfl, k1, h1⟩ := TAs.inv_cons h0
 obtain ⟨a2, b2, rfl, k2, h2⟩ := TAs.inv_cons h1
 obtain ⟨a3, b3, rfl, k3, h3⟩ := TAs.inv_cons h2
 obtain ⟨a4, b4, rfl, k4, h4⟩ := TAs.inv_cons h3
 obtain ⟨a5, b5, rfl, k5, h5⟩ := TAs.inv_cons h4
 obtain rfl := TAs.inv_nil h5
 obtain ⟨r1, e1, l1, q1⟩ := TA.inv_slice (e := 75) (g := true) (sz := 9) k1
 cases e1
 obtain ⟨s1, rfl, p1⟩ := rows_map secA SecD.ok fun row hm => ta_sec (q1 row hm)
 obtain ⟨r2, e2, l2, q2⟩ := TA.inv_slice (e := 105) (g := true) (sz := 6) k2
 cases e2
 obtain ⟨s2, rfl, p2⟩ := rows_map symA SymD.ok fun row hm => ta_sym (q2 row hm)
 obtain ⟨r3, e3, l3, q3⟩ := TA.inv_slice (e := 107) (g := true) (sz := 2) k3
 cases e3
 obtain ⟨s3, rfl, p3⟩ := rows_map grpA GrpD.ok fun row hm => ta_grp (q3 row hm)
 obtain ⟨b4, rfl⟩ := k4.inv_bool
 obtain ⟨n5, rfl, w5, q5⟩ := TA.inv_ints (e := 3) (k := .i64) k5
 exact ⟨⟨s1, s2, s3, b4, n5⟩, rfl, by simpa using l1, p1, by simpa using l2, p2, by simpa using l3, p3, w5, fun x hx => wf_i64 (q5 x hx)⟩
theorem args_obj {f : FuncId} (hf : ∀ (o : ObjD) (ho : o.ok), A0 Try.prog f [.agg (objA o)] (fun ret => ret = .v (.bool true))) {avs : List AV} (h : TArgs Try.prog [52] avs) : A0 Try.prog f avs (fun ret => ret = .v (.bool true)) := by
 obtain ⟨cs, b1, rfl, k1, h1⟩ := TArgs.inv_agg h
 obtain rfl := TArgs.inv_nil h1
 obtain ⟨o, rfl, ho⟩ := ta_obj k1
 exact hf o ho
theorem args_ObjPuts {avs : List AV} (h : TArgs Try.prog [52] avs) : A0 Try.prog 6 avs (fun ret => ret = .v (.bool true)) := args_obj obj_Puts h
theorem args_ObjBack {avs : List AV} (h : TArgs Try.prog [52] avs) : A0 Try.prog 7 avs (fun ret => ret = .v (.bool true)) := args_obj obj_Back h
theorem args_ObjAgain {avs : List AV} (h : TArgs Try.prog [22] avs) : A0 Try.prog 8 avs (fun ret => ret = .v (.bool true)) := by
 obtain ⟨av1, b1, rfl, k1, h1⟩ := TArgs.inv_one rfl h
 obtain rfl := TArgs.inv_nil h1
 obtain ⟨b, he, w1, q1⟩ := TA.inv_bytes (e := 5) k1
 cases he
 exact obj_Again b q1 w1
end Go.Proofs.Ytlapfdfbgckfcaa.AL
