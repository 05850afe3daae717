/- What functions of the program compute, each by its own contract; the conditions stand with each. -/
import Derived.Test.YtbaibjhkmajplaaFSplit
namespace Go.Proofs.Ytbaibjhkmajplaa.AL
open Go Go.RowKit Go.Proofs.Ytbaibjhkmajplaa.Base
set_option linter.unusedVariables false
set_option linter.unusedSimpArgs false
set_option maxRecDepth 4000

instance (x : Int) : Decidable (I64 x) := by unfold I64; infer_instance
@[reducible] def upSec : SecD := ⟨emptyS, 1, 48, 1, 1, 0, 4, [97, 98, 0, 0], []⟩
theorem upSec_ok : upSec.ok := by
  refine ⟨by decide, by decide, by decide, by decide, by decide, by decide, by decide, by decide, ?_, by decide, fun r h => by cases h⟩
  intro x hx
  simp [upSec] at hx
  omega
@[reducible] def zeroSym : SymD := ⟨emptyS, 0, 0, 0, 0, 0⟩
@[reducible] def aloneO (s : SecD) : ObjD := ⟨[s], [zeroSym], [], false, []⟩
def aloneF (s : SecD) : Int := bif decide ((s.data.length : Int) > 4000) || decide ((s.rels.length : Int) > 0) || decide (s.link ≠ 0) then 0 else bif shapeB (aloneO s) then 1 else 0
theorem aloneO_ok {s : SecD} (h : s.ok) : (aloneO s).ok := by
  refine ⟨by simp [aloneO, maxLen_eq], fun x hx => ?_, by simp [aloneO, maxLen_eq], fun x hx => ?_, by simp [aloneO], fun g hg => (by cases hg), by simp [aloneO], fun x hx => (by cases hx)⟩
  · obtain rfl := List.mem_singleton.1 hx; exact h
  · obtain rfl := List.mem_singleton.1 hx
    refine ⟨by decide, ?_⟩
    unfold zeroSym I64; decide
theorem flags_nonneg {n : Int} (h : flagsB n = true) : 0 ≤ n := by
  unfold flagsB at h
  rw [decide_eq_true_eq] at h
  rcases Int.lt_or_le n 0 with hn | hn
  · have : ∀ l : List Int, l.foldl flagStep n = n := by
      intro l
      induction l with
      | nil => rfl
      | cons a l ih => rw [List.foldl_cons, show flagStep n a = n by unfold flagStep; rw [if_neg (by omega)]]; exact ih
    rw [this] at h; omega
  · exact hn
theorem alone_facts {s : SecD} (h : aloneF s ≠ 0) : s.data.length ≤ 4000 ∧ s.rels.length = 0 ∧ kindB s = true := by
  unfold aloneF at h
  cases h1 : (decide ((s.data.length : Int) > 4000) || decide ((s.rels.length : Int) > 0) || decide (s.link ≠ 0)) with
  | true => rw [h1] at h; exact absurd rfl h
  | false =>
    rw [h1] at h
    simp only [Bool.or_eq_false_iff, decide_eq_false_iff_not] at h1
    refine ⟨by omega, by omega, ?_⟩
    cases h2 : shapeB (aloneO s) with
    | false => rw [h2] at h; exact absurd rfl h
    | true =>
      unfold shapeB at h2
      simp only [Bool.and_eq_true] at h2
      have h3 := List.all_eq_true.1 h2.1.1.2 0 (by simp [aloneO])
      unfold sectionB at h3
      have e : (aloneO s).secs.getD ((((0 : Nat) : Int) + 1 - 1).toNat) default = s := rfl
      rw [e] at h3
      cases hk : kindB s with
      | true => rfl
      | false => rw [hk] at h3; simp at h3
structure Kinds (s : SecD) : Prop where
  fl : 0 ≤ s.flags
  sz : 0 ≤ s.size ∧ s.size ≤ 2147483647
  ent : 0 ≤ s.ent ∧ s.ent ≤ 16
  mrg : hasF s.flags 16 = true → s.size = s.data.length ∧ (hasF s.flags 32 = true → s.ent = 1 ∧ (s.data.length = 0 ∨ s.data.getD (s.data.length - 1) 0 = 0)) ∧ (hasF s.flags 32 = false → (s.ent = 4 ∨ s.ent = 8 ∨ s.ent = 16) ∧ s.size % s.ent = 0)
  nos : hasF s.flags 16 = false → s.ent = 0 ∧ hasF s.flags 32 = false
theorem kind_facts {s : SecD} (h : kindB s = true) : Kinds s := by
  unfold kindB at h
  cases h0 : (!flagsB s.flags || !alignB s.align || (hasF s.flags 1 && hasF s.flags 4)) with
  | true => rw [h0] at h; cases h
  | false =>
    rw [h0] at h
    simp only [cond_false] at h
    simp only [Bool.or_eq_false_iff, Bool.not_eq_false'] at h0
    have hfl := flags_nonneg h0.1.1
    cases h1 : (decide (s.typ = 1) && (decide (s.size ≠ s.data.length) || decide (s.size > 16384))) with
    | true => rw [h1] at h; cases h
    | false =>
      rw [h1] at h
      simp only [cond_false] at h
      cases h2 : (decide (s.typ = 8) && (decide ((s.data.length : Int) > 0) || decide (s.size < 0) || decide (s.size > 2147483647) || !hasF s.flags 1 || hasF s.flags 16)) with
      | true => rw [h2] at h; cases h
      | false =>
        rw [h2] at h
        simp only [cond_false] at h
        cases h3 : (decide (s.typ ≠ 1) && decide (s.typ ≠ 8)) with
        | true => rw [h3] at h; cases h
        | false =>
          rw [h3] at h
          simp only [cond_false] at h
          simp only [Bool.and_eq_false_iff, Bool.or_eq_false_iff, decide_eq_false_iff_not, Bool.not_eq_false'] at h1 h2 h3
          cases h4 : hasF s.flags 16 with
          | false =>
            rw [h4] at h
            simp only [Bool.not_false, cond_true, Bool.and_eq_true, decide_eq_true_eq, Bool.not_eq_true'] at h
            exact ⟨hfl, by omega, by omega, fun h => (by rw [h4] at h; cases h), fun _ => h⟩
          | true =>
            rw [h4] at h h2
            simp only [Bool.not_true, cond_false] at h
            have ht : s.typ = 1 := by
              rcases h2 with h2 | h2
              · omega
              · exact absurd h2.2 (by simp)
            have hsz : s.size = s.data.length := by omega
            cases h5 : (hasF s.flags 1 || hasF s.flags 4 || decide ((s.rels.length : Int) > 0)) with
            | true => rw [h5] at h; cases h
            | false =>
              rw [h5] at h
              simp only [cond_false] at h
              cases h6 : hasF s.flags 32 with
              | true =>
                rw [h6] at h
                simp only [cond_true, Bool.and_eq_true, Bool.or_eq_true, decide_eq_true_eq] at h
                refine ⟨hfl, by omega, by omega, fun _ => ⟨hsz, fun _ => ⟨h.1.1, ?_⟩, fun hh => (by rw [h6] at hh; cases hh)⟩, fun hh => (by rw [h4] at hh; cases hh)⟩
                rcases h.2 with h7 | h7
                · exact .inl (by omega)
                · rw [show ((s.data.length : Int) - 1).toNat = s.data.length - 1 by omega] at h7
                  exact .inr h7
              | false =>
                rw [h6] at h
                simp only [cond_false, Bool.and_eq_true, Bool.or_eq_true, decide_eq_true_eq] at h
                refine ⟨hfl, by omega, by omega, fun _ => ⟨hsz, fun hh => (by rw [h6] at hh; cases hh), fun _ => ⟨by omega, h.2⟩⟩, fun hh => (by rw [h4] at hh; cases hh)⟩
theorem splitZ_R : ∀ (l : List Int) (a i e : Int), splitZ a i l = splitR true e a i l := by
  intro l
  induction l with
  | nil => intro a i e; rfl
  | cons x l ih => intro a i e; rw [splitZ, splitR]; simp only [if_true]; split <;> rw [ih _ _ e]
theorem splitE_R {e : Int} (he : 0 < e) {len : Int} : ∀ (l : List Int) (a i : Int) (k : Nat), a ≤ i → i < a + e → i + l.length = len → len - a ≤ k → splitE e len k a = splitR false e a i l := by
  intro l
  induction l with
  | nil =>
    intro a i k h1 h2 h3 h4
    rw [splitR]
    cases k with
    | zero => rfl
    | succ k => rw [splitE, if_neg (by simp at h3; omega)]
  | cons x l ih =>
    intro a i k h1 h2 h3 h4
    rw [splitR]
    simp only [Bool.false_eq_true, if_false]
    simp only [List.length_cons] at h3
    by_cases h : i + 1 - a = e
    · rw [if_pos h]
      obtain ⟨k, rfl⟩ : ∃ k', k = k' + 1 := ⟨k - 1, by omega⟩
      rw [splitE, if_pos (by omega), show a + e = i + 1 by omega, ih (i + 1) (i + 1) k (by omega) (by omega) (by omega) (by omega), h]
    · rw [if_neg h]
      exact ih a (i + 1) k (by omega) (by omega) (by omega) h4
theorem split_same {s : SecD} (hk : Kinds s) : splitB s = splitRB s := by
  unfold splitB splitRB
  cases h : hasF s.flags 16 with
  | false => rfl
  | true =>
    simp only [Bool.true_eq_false, if_false]
    obtain ⟨h1, h2, h3⟩ := hk.mrg h
    cases h5 : hasF s.flags 32 with
    | true => simp only [if_true]; exact splitZ_R _ _ _ _
    | false =>
      simp only [Bool.false_eq_true, if_false]
      have := h3 h5
      rw [if_pos (by omega)]
      exact splitE_R (by omega) _ _ _ _ (by omega) (by omega) (by omega) (by omega)
/-- One behind the other. -/
def Cont : Int → List (Int × Int) → Prop
  | _, [] => True
  | a, p :: ps => p.1 = a ∧ 0 ≤ p.2 ∧ Cont (a + p.2) ps
theorem inG_far {N at_ : Int} : ∀ (l : List (Int × Int)) (a i out : Int), Cont a l → at_ < a → inG N at_ i out l = out := by
  intro l
  induction l with
  | nil => intro a i out _ _; rfl
  | cons p l ih =>
    intro a i out hc h
    obtain ⟨h1, h2, h3⟩ := hc
    rw [inG, if_neg (by omega)]
    exact ih _ _ _ h3 (by omega)
theorem find_in {N at_ : Int} : ∀ (l : List (Int × Int)) (a i : Int), Cont a l → 0 ≤ a → i + l.length = N → findG N at_ i l = inG N at_ i (-1) l := by
  intro l
  induction l with
  | nil => intro a i _ _ _; rfl
  | cons p l ih =>
    intro a i hc ha hN
    obtain ⟨h1, h2, h3⟩ := hc
    simp only [List.length_cons] at hN
    rw [findG, inG]
    by_cases hq : (p.1 ≤ at_ ∧ at_ - p.1 < p.2) ∨ (i + 1 = N ∧ at_ - p.1 = p.2 ∧ 0 ≤ at_)
    · rw [if_pos hq, if_pos (by omega)]
      rcases hq with h | h
      · exact (inG_far l _ _ _ h3 (by omega)).symm
      · have : l = [] := List.length_eq_zero_iff.1 (by omega)
        subst this; rfl
    · rw [if_neg hq, if_neg (by omega)]
      exact ih _ _ h3 (by omega) (by omega)
theorem splitR_cont {str : Bool} {e : Int} : ∀ (l : List Int) (a i : Int), a ≤ i → Cont a (splitR str e a i l) ∧ ∀ p ∈ splitR str e a i l, a ≤ p.1 ∧ 0 ≤ p.2 ∧ p.1 + p.2 ≤ i + l.length := by
  intro l
  induction l with
  | nil => intro a i _; exact ⟨trivial, fun p h => by cases h⟩
  | cons x l ih =>
    intro a i h
    rw [splitR]
    simp only [List.length_cons]
    by_cases hq : (if str = true then x = 0 else i + 1 - a = e)
    · rw [if_pos hq]
      obtain ⟨h1, h2⟩ := ih (i + 1) (i + 1) (Int.le_refl _)
      refine ⟨⟨rfl, by show 0 ≤ i + 1 - a; omega, by show Cont (a + (i + 1 - a)) _; rw [show a + (i + 1 - a) = i + 1 by omega]; exact h1⟩, fun p hp => ?_⟩
      rcases List.mem_cons.1 hp with rfl | hp
      · exact ⟨Int.le_refl _, by show 0 ≤ i + 1 - a; omega, by show a + (i + 1 - a) ≤ _; omega⟩
      · have := h2 p hp; omega
    · rw [if_neg hq]
      obtain ⟨h1, h2⟩ := ih a (i + 1) (by omega)
      exact ⟨h1, fun p hp => by have := h2 p hp; omega⟩
theorem splitR_len {str : Bool} {e : Int} : ∀ (l : List Int) (a i : Int), (splitR str e a i l).length ≤ l.length := by
  intro l
  induction l with
  | nil => intro a i; exact Nat.le_refl _
  | cons x l ih =>
    intro a i
    rw [splitR]
    have h1 := ih (i + 1) (i + 1)
    have h2 := ih a (i + 1)
    by_cases hq : (if str = true then x = 0 else i + 1 - a = e)
    · rw [if_pos hq]; simp only [List.length_cons]; omega
    · rw [if_neg hq]; simp only [List.length_cons]; omega
theorem split_cont {s : SecD} (hk : Kinds s) (hd : s.data.length ≤ 4000) : Cont 0 (splitRB s) ∧ PcOk (splitRB s) := by
  unfold splitRB
  cases h : hasF s.flags 16 with
  | false =>
    simp only [if_true]
    have := hk.sz
    exact ⟨⟨rfl, hk.sz.1, trivial⟩, by simp, fun p hp => by obtain rfl := List.mem_singleton.1 hp; show 0 ≤ (0 : Int) ∧ (0 : Int) ≤ _ ∧ 0 ≤ s.size ∧ s.size ≤ _; omega⟩
  | true =>
    simp only [Bool.true_eq_false, if_false]
    obtain ⟨h1, h2⟩ := splitR_cont (str := hasF s.flags 32) (e := s.ent) s.data 0 0 (Int.le_refl _)
    exact ⟨h1, by have := splitR_len (str := hasF s.flags 32) (e := s.ent) s.data 0 0; omega, fun p hp => by have := h2 p hp; omega⟩
theorem up_split : splitB upSec = [(0, 3), (3, 1)] := by decide
theorem up_pc : PcOk [(0, 3), (3, 1)] := ⟨by decide, fun p hp => by simp at hp; rcases hp with rfl | rfl <;> decide⟩
theorem up_find4 : findG (([(0, 3), (3, 1)] : List (Int × Int)).length : Int) 4 0 [(0, 3), (3, 1)] = 1 := by decide
theorem up_find5 : findG (([(0, 3), (3, 1)] : List (Int × Int)).length : Int) 5 0 [(0, 3), (3, 1)] = -1 := by decide

theorem up11  : A0 Try.prog 21 [] (fun ret => ret = .v (.bool true)) := by
  have hs := piece_Split upSec upSec_ok (by decide) (by decide) (by decide)
  rw [up_split] at hs
  have h4 := piece_Find [(0, 3), (3, 1)] 4 up_pc (by unfold I64; decide)
  have h5 := piece_Find [(0, 3), (3, 1)] 5 up_pc (by unfold I64; decide)
  rw [up_find4] at h4
  rw [up_find5] at h5
  refine A0.body 31 Try.func21 rfl rfl Try.ntmps21 fun base n0 => ?_
  refine AW.seq' ?_
  refine AW.region ?_
  refine AO.c ?_
  refine AO.nil ?_
  refine SQ.normal ?_
  refine AW.seq' ?_
  refine AW.region ?_
  refine AO.ww ?_
  refine AO.conv (li := [97, 98, 0, 0]) rfl (by decide) (by decide) ?_
  refine AO.c ?_
  refine AO.ghost (Gh.tell 4 (.agg (secA upSec))) ?_
  refine AO.call1 Try.func23 rfl rfl (hs) ?_
  refine AO.c ?_
  refine AO.nil ?_
  refine SQ.normal ?_
  refine AW.seq' ?_
  refine AW.seq' ?_
  refine AW.region ?_
  refine AO.c ?_
  refine AO.c ?_
  refine AO.c ?_
  refine AO.nil ?_
  refine SQ.normal ?_
  refine AW.iteB (GL.ev _) (fun h0 => ?_) (fun h0 => ?_)
  · skip
    exact absurd h0 (by decide)
  · skip
    skip
    refine AW.skip ?_
    refine SQ.normal ?_
    refine AW.seq' ?_
    refine AW.region ?_
    refine AO.c ?_
    refine AO.oo ?_
    refine AO.c ?_
    refine AO.c ?_
    refine AO.c ?_
    refine AO.c ?_
    refine AO.gx ?_
    refine AO.gxoo ?_
    refine AO.gx ?_
    refine AO.gx ?_
    refine AO.gx ?_
    refine AO.c ?_
    refine AO.c ?_
    refine AO.gx ?_
    refine AO.gxcall1 Try.func25 rfl rfl (fun hgd => h4) ?_
    refine AO.gx ?_
    refine AO.c ?_
    refine AO.c ?_
    refine AO.gx ?_
    refine AO.gxcall1 Try.func25 rfl rfl (fun hgd => h5) ?_
    refine AO.gx ?_
    refine AO.c ?_
    refine AO.c ?_
    refine AO.nil ?_
    refine SQ.normal ?_
    refine AW.ret ?_
    refine Fin.ret (Gh.refl) noid1 ?_
    rfl
theorem alone (s : SecD) (hs : s.ok) : A0 Try.prog 22 [.agg (secA s)] (fun ret => ret = .v (.int .i64 (aloneF s))) := by
  refine A0.body 26 Try.func22 rfl rfl Try.ntmps22 fun base n0 => ?_
  refine AW.seq' ?_
  refine AW.region ?_
  refine AO.ww ?_
  refine AO.c ?_
  refine AO.nil ?_
  refine SQ.normal ?_
  refine AW.seq' ?_
  refine AW.seq' ?_
  refine AW.region ?_
  refine AO.c ?_
  refine AO.c ?_
  refine AO.c ?_
  refine AO.c ?_
  refine AO.c ?_
  refine AO.gx ?_
  refine AO.gx ?_
  refine AO.gx ?_
  refine AO.gx ?_
  refine AO.c ?_
  refine AO.c ?_
  refine AO.gx ?_
  refine AO.gx ?_
  refine AO.gx ?_
  refine AO.c ?_
  refine AO.nil ?_
  refine SQ.normal ?_
  refine AW.iteB (GL.ev _) (fun h0 => ?_) (fun h0 => ?_)
  · skip
    skip
    refine AW.seq' ?_
    refine AW.region ?_
    refine AO.c ?_
    refine AO.nil ?_
    refine SQ.normal ?_
    refine AW.ret ?_
    refine SQ.ret ?_
    refine Fin.ret (Gh.refl) noid1 ?_
    unfold aloneF; simp only [*, cond_true, cond_false]; rfl
  · skip
    skip
    refine AW.skip ?_
    refine SQ.normal ?_
    refine AW.seq' ?_
    refine AW.region ?_
    refine AO.c ?_
    refine AO.rr ?_
    refine AO.eq 20 (av' := .rd 9 ([s].map secA)) rfl ?_
    refine AO.c ?_
    refine AO.rr ?_
    refine AO.eq 22 (av' := .rd 6 ([zeroSym].map symA)) rfl ?_
    refine AO.c ?_
    refine AO.ghost (Gh.tell 23 (.agg (objA (aloneO s)))) ?_
    refine AO.call1 Try.func80 rfl rfl (ref_Shape (aloneO s) (aloneO_ok hs) ⟨by simp [aloneO], fun g hg => by cases hg⟩) ?_
    refine AO.c ?_
    refine AO.nil ?_
    refine SQ.normal ?_
    refine AW.seq' ?_
    refine AW.seq' ?_
    refine AW.region ?_
    refine AO.c ?_
    refine AO.nil ?_
    refine SQ.normal ?_
    refine AW.iteB (GL.ev _) (fun h1 => ?_) (fun h1 => ?_)
    · skip
      skip
      refine AW.seq' ?_
      refine AW.region ?_
      refine AO.c ?_
      refine AO.nil ?_
      refine SQ.normal ?_
      refine AW.ret ?_
      refine SQ.ret ?_
      refine Fin.ret (Gh.refl) noid1 ?_
      unfold aloneF; simp only [*, cond_true, cond_false]; rfl
    · skip
      skip
      refine AW.skip ?_
      refine SQ.normal ?_
      refine AW.seq' ?_
      refine AW.region ?_
      refine AO.c ?_
      refine AO.nil ?_
      refine SQ.normal ?_
      refine AW.ret ?_
      refine Fin.ret (Gh.refl) noid1 ?_
      unfold aloneF; simp only [*, cond_true, cond_false]; rfl
theorem piece_Tells (s : SecD) (at_ : Int) (hs : s.ok) (ha : I64 at_) : A0 Try.prog 3 [.agg (secA s), .v (.int .i64 (at_))] (fun ret => ret = .v (.bool true)) := by
  have hup := up11
  have hq8 := hs.2.2.2.2.2.2.2.1
  refine A0.body 63 Try.func3 rfl rfl Try.ntmps3 fun base n0 => ?_
  refine AW.seq' ?_
  refine AW.region ?_
  refine AO.ww ?_
  refine AO.c ?_
  refine AO.nil ?_
  refine SQ.normal ?_
  refine AW.seq' ?_
  refine AW.region ?_
  refine AO.call1 Try.func21 rfl rfl (up11) ?_
  refine AO.c ?_
  refine AO.nil ?_
  refine SQ.normal ?_
  refine AW.seq' ?_
  refine AW.seq' ?_
  refine AW.region ?_
  refine AO.c ?_
  refine AO.call1 Try.func22 rfl rfl (alone _ (by assumption)) ?_
  refine AO.c ?_
  refine AO.nil ?_
  refine SQ.normal ?_
  refine AW.iteB (GL.ev _) (fun h0 => ?_) (fun h0 => ?_)
  · skip
    skip
    refine AW.seq' ?_
    refine AW.region ?_
    refine AO.c ?_
    refine AO.c ?_
    refine AO.nil ?_
    refine SQ.normal ?_
    refine AW.ret ?_
    refine SQ.ret ?_
    refine Fin.ret (Gh.refl) noid1 ?_
    rfl
  · skip
    skip
    refine AW.skip ?_
    refine SQ.normal ?_
    refine AW.seq' ?_
    have hfacts := alone_facts (s := s) (by simpa using h0)
    have hk := kind_facts hfacts.2.2
    obtain ⟨hc, hp⟩ := split_cont hk hfacts.1
    have hsp := split_same hk
    have hes := piece_Split s hs hk.fl (by have := hfacts.1; omega) (by have := hk.ent; omega)
    rw [hsp] at hes
    have hrs := ref_Split s hs (by have := hfacts.1; omega)
    have hfi := find_in (N := ((splitRB s).length : Int)) (at_ := at_) (splitRB s) 0 0 hc (Int.le_refl _) (by omega)
    have hl1 := hp.1
    refine AW.region ?_
    refine AO.c ?_
    refine AO.call1 Try.func23 rfl rfl (hes) ?_
    refine AO.c ?_
    refine AO.nil ?_
    refine SQ.normal ?_
    refine AW.seq' ?_
    refine AW.region ?_
    refine AO.c ?_
    refine AO.call1 Try.func24 rfl rfl (hrs) ?_
    refine AO.c ?_
    refine AO.nil ?_
    refine SQ.normal ?_
    refine AW.seq' ?_
    refine AW.seq' ?_
    refine AW.region ?_
    refine AO.c ?_
    refine AO.c ?_
    refine AO.c ?_
    refine AO.c ?_
    refine AO.c ?_
    refine AO.nil ?_
    refine SQ.normal ?_
    refine AW.iteB (GL.ev _) (fun h1 => ?_) (fun h1 => ?_)
    · skip
      exact absurd h1 (by simp)
    · skip
      skip
      refine AW.skip ?_
      refine SQ.normal ?_
      refine AW.seq' ?_
      refine AW.seq' ?_
      refine AW.region ?_
      refine AO.c ?_
      refine AO.nil ?_
      refine SQ.normal ?_
      refine AW.block' ?_
      refine AW.loopU [.f, .k, .f, .f, .f, .k, .k, .k, .k, .F, .F, .F, .F, .F, .F, .f, .f, .f, .f, .f, .f] (fun (i : Nat) => [(8, .v (.int .i64 (i)))]) (fun i => Hn n0 [some (.box 25 (secA s))]) (fun m i => i ≤ (splitRB s).length ∧ m = (splitRB s).length - i) ((splitRB s).length) (0) ⟨by omega, by omega⟩ (by first | rfl | (simp; done)) (by first | rfl | (simp; done)) ?_
      rintro m0 i ⟨hx1, hx2⟩
      refine AW.seq' ?_
      refine AW.seq' ?_
      refine AW.region ?_
      refine AO.c ?_
      refine AO.c ?_
      refine AO.c ?_
      refine AO.c ?_
      refine AO.nil ?_
      refine SQ.normal ?_
      refine AW.iteB (GL.ev _) (fun h2 => ?_) (fun h2 => ?_)
      · skip
        try simp only [Bool.and_eq_true, Bool.or_eq_true, Bool.not_eq_true', Bool.and_eq_false_iff, Bool.or_eq_false_iff, decide_eq_true_eq, decide_eq_false_iff_not, bys_length] at h2
        refine AW.skip ?_
        refine SQ.normal ?_
        refine AW.seq' ?_
        refine AW.block' ?_
        refine AW.seq' ?_
        refine AW.drawsZ [] [(0, false), (1, false), (2, false), (3, false), (4, false), (5, false), (6, false), (7, false), (8, false), (9, false), (10, false), (11, false), (12, false), (13, false), (14, false), (15, false), (16, false), (17, false), (18, false), (19, false), (20, false), (21, false), (22, false), (23, false)] (by kernel_rfl) rfl (by kernel_rfl) ?_
        refine AZ.c rfl ?_
        refine AZ.c rfl ?_
        refine AZ.oo rfl ?_
        refine AZ.c rfl ?_
        refine AZ.c rfl ?_
        refine AZ.c rfl ?_
        refine AZ.c rfl ?_
        refine AZ.oo rfl ?_
        refine AZ.c rfl ?_
        refine AZ.c rfl ?_
        refine AZ.c rfl ?_
        refine AZ.c rfl ?_
        refine AZ.gx rfl ?_
        refine AZ.gx rfl ?_
        refine AZ.gxoo rfl ?_
        refine AZ.gx rfl ?_
        refine AZ.gx rfl ?_
        refine AZ.gx rfl ?_
        refine AZ.gx rfl ?_
        refine AZ.gxoo rfl ?_
        refine AZ.gx rfl ?_
        refine AZ.gx rfl ?_
        refine AZ.gx rfl ?_
        refine AZ.c rfl ?_
        refine AZ.done ?_
        refine SQ.normal ?_
        refine AW.iteB (GL.ev _) (fun h3 => ?_) (fun h3 => ?_)
        · skip
          exact absurd h3 (by simp)
        · skip
          skip
          refine AW.skip ?_
          refine BQ.normal ?_
          refine SQ.normal ?_
          refine AW.region ?_
          refine AO.c ?_
          refine AO.oo ?_
          refine AO.c ?_
          refine AO.nil ?_
          exact AW.backU [.f, .k, .f, .f, .f, .k, .k, .k, .k, .F, .F, .F, .F, .F, .F, .f, .f, .f, .f, .f, .f] (m0 - 1) (i + 1) (by omega) (by first | omega | (simp; done) | (simp; omega)) (by first | rfl | (simp; done)) (by first | rfl | (simp; done))
      · skip
        try simp only [Bool.and_eq_true, Bool.or_eq_true, Bool.not_eq_true', Bool.and_eq_false_iff, Bool.or_eq_false_iff, decide_eq_true_eq, decide_eq_false_iff_not, bys_length] at h2
        refine AW.exit ?_
        refine SQ.exit <| AW.out <| LU.exit <| BQ.exit ?_
        refine SQ.normal ?_
        refine AW.seq' ?_
        refine AW.region ?_
        refine AO.c ?_
        refine AO.c ?_
        refine AO.gx ?_
        refine AO.gx ?_
        refine AO.gxcall1 Try.func25 rfl rfl (fun hgd => piece_Find _ _ hp ha) ?_
        refine AO.gx ?_
        refine AO.gx ?_
        refine AO.gxcall1 Try.func26 rfl rfl (fun hgd => ref_In _ _ hp ha) ?_
        refine AO.gx ?_
        refine AO.c ?_
        refine AO.c ?_
        refine AO.nil ?_
        refine SQ.normal ?_
        refine AW.ret ?_
        refine Fin.ret (Gh.refl) noid1 ?_
        rw [hfi]; simp [packA]

end Go.Proofs.Ytbaibjhkmajplaa.AL
