/- What functions of the program compute, each by its own contract; the conditions stand with each. -/
import Derived.Test.YtbaibjhkmajplaaFArgsPc
namespace Go.Proofs.Ytbaibjhkmajplaa.AL
open Go Go.RowKit Go.Proofs.Ytbaibjhkmajplaa.Base
set_option linter.unusedVariables false
set_option linter.unusedSimpArgs false
set_option maxRecDepth 4000

def tot (l : List (Int × Int)) : Int := (l.map (·.2)).sum
theorem tot_cons (p : Int × Int) (l : List (Int × Int)) : tot (p :: l) = p.2 + tot l := by simp [tot]
theorem tot_nonneg : ∀ (l : List (Int × Int)) (a : Int), Cont a l → 0 ≤ tot l := by
  intro l
  induction l with
  | nil => intro a _; simp [tot]
  | cons p l ih => intro a h; rw [tot_cons]; have := ih _ h.2.2; have := h.2.1; omega
theorem tot_take {l : List (Int × Int)} {i : Nat} (h : i < l.length) : tot (l.take (i + 1)) = tot (l.take i) + (l.getD i default).2 := by
  unfold tot
  rw [List.take_add_one, List.map_append, List.sum_append]
  simp [h]
theorem cont_at : ∀ (l : List (Int × Int)) (a : Int) (i : Nat), Cont a l → i < l.length → (l.getD i default).1 = a + tot (l.take i) ∧ 0 ≤ (l.getD i default).2 ∧ tot (l.take i) + (l.getD i default).2 ≤ tot l := by
  intro l
  induction l with
  | nil => intro a i _ h; simp at h
  | cons p l ih =>
    intro a i hc h
    obtain ⟨h1, h2, h3⟩ := hc
    have hn := tot_nonneg l _ h3
    cases i with
    | zero => rw [tot_cons]; simp [tot] at hn ⊢; omega
    | succ i =>
      have := ih _ i h3 (by simpa using h)
      rw [List.take_succ_cons, tot_cons, tot_cons]
      simp only [List.getD_cons_succ]
      omega
theorem find_spec {N at_ : Int} : ∀ (l : List (Int × Int)) (a i : Int), Cont a l → 0 ≤ a → i + l.length = N →
    (findG N at_ i l = -1 ∧ (at_ < a ∨ at_ > a + tot l ∨ l.length = 0)) ∨ ∃ j : Nat, j < l.length ∧ findG N at_ i l = i + j ∧ (l.getD j default).1 ≤ at_ ∧ (at_ < (l.getD j default).1 + (l.getD j default).2 ∨ (at_ = a + tot l ∧ j = l.length - 1)) := by
  intro l
  induction l with
  | nil => intro a i _ _ _; exact .inl ⟨rfl, .inr (.inr rfl)⟩
  | cons p l ih =>
    intro a i hc ha hN
    obtain ⟨h1, h2, h3⟩ := hc
    have hn := tot_nonneg l _ h3
    simp only [List.length_cons] at hN
    rw [findG, tot_cons]
    by_cases hq : (p.1 ≤ at_ ∧ at_ - p.1 < p.2) ∨ (i + 1 = N ∧ at_ - p.1 = p.2 ∧ 0 ≤ at_)
    · rw [if_pos hq]
      refine .inr ⟨0, by simp, by simp, ?_⟩
      simp only [List.getD_cons_zero, List.length_cons]
      rcases hq with hq | hq
      · omega
      · have : l = [] := List.length_eq_zero_iff.1 (by omega)
        subst this
        simp [tot]; omega
    · rw [if_neg hq]
      rcases ih (a + p.2) (i + 1) h3 (by omega) (by omega) with ⟨h4, h5⟩ | ⟨j, h4, h5, h6, h7⟩
      · refine .inl ⟨h4, ?_⟩
        rcases h5 with h5 | h5 | h5
        · omega
        · omega
        · have : l = [] := List.length_eq_zero_iff.1 h5
          subst this
          simp [tot] at *; omega
      · refine .inr ⟨j + 1, by simp; omega, by rw [h5]; omega, ?_⟩
        simp only [List.getD_cons_succ, List.length_cons]
        omega
theorem tot_str {e : Int} : ∀ (l : List Int) (a i : Int), (l ≠ [] → l.getD (l.length - 1) 1 = 0) → tot (splitR true e a i l) = if l = [] then 0 else i + l.length - a := by
  intro l
  induction l with
  | nil => intro a i _; rfl
  | cons x l ih =>
    intro a i h
    have h := h (by simp)
    rw [splitR, if_neg (List.cons_ne_nil x l)]
    simp only [if_true, List.length_cons]
    cases l with
    | nil =>
      simp at h
      rw [if_pos h]; simp [tot, splitR]
    | cons y l =>
      have hl : (y :: l).getD ((y :: l).length - 1) 1 = 0 := by simpa using h
      have h1 := ih (i + 1) (i + 1) fun _ => hl
      have h2 := ih a (i + 1) fun _ => hl
      rw [if_neg (by simp)] at h1 h2
      by_cases hx : x = 0
      · rw [if_pos hx, tot_cons, h1]; simp only [List.length_cons] at *; omega
      · rw [if_neg hx, h2]; simp only [List.length_cons] at *; omega
theorem tot_fix {e : Int} (he : 0 < e) : ∀ (l : List Int) (a i : Int), a ≤ i → i < a + e → (i + l.length - a) % e = 0 → tot (splitR false e a i l) = i + l.length - a := by
  intro l
  induction l with
  | nil =>
    intro a i h1 h2 h3
    simp at h3
    have : i - a = 0 := by
      have := Int.emod_eq_of_lt (a := i - a) (b := e) (by omega) (by omega)
      rw [this] at h3; exact h3
    simp [splitR, tot]; omega
  | cons x l ih =>
    intro a i h1 h2 h3
    rw [splitR]
    simp only [Bool.false_eq_true, if_false, List.length_cons] at h3 ⊢
    by_cases h : i + 1 - a = e
    · rw [if_pos h, tot_cons, ih (i + 1) (i + 1) (by omega) (by omega)]
      · push_cast; omega
      · rw [show i + ((l.length + 1 : Nat) : Int) - a = (i + 1 + l.length - (i + 1)) + e by push_cast; omega, Int.add_emod_right] at h3
        exact h3
    · rw [if_neg h, ih a (i + 1) (by omega) (by omega)]
      · push_cast; omega
      · rw [show i + ((l.length + 1 : Nat) : Int) - a = i + 1 + l.length - a by push_cast; omega] at h3; exact h3
theorem str_zero {e : Int} {D : List Int} : ∀ (l : List Int) (a i : Nat), D.drop i = l → a ≤ i → (∀ k, a ≤ k → k < i → D.getD k 0 ≠ 0) → ∀ p ∈ splitR true e a i l, ∀ k : Nat, p.1 ≤ k → (k : Int) < p.1 + p.2 → (D.getD k 0 = 0 ↔ (k : Int) = p.1 + p.2 - 1) := by
  intro l
  induction l with
  | nil => intro a i _ _ _ p hp; cases hp
  | cons x l ih =>
    intro a i hd hai hz p hp k h1 h2
    have hlt : i < D.length := by
      rcases Nat.lt_or_ge i D.length with h | h
      · exact h
      · rw [List.drop_of_length_le h] at hd; cases hd
    have hx : D.getD i 0 = x ∧ D.drop (i + 1) = l := by
      rw [drop_getD0 hlt] at hd
      exact ⟨(List.cons.inj hd).1, (List.cons.inj hd).2⟩
    rw [splitR] at hp
    simp only [if_true] at hp
    by_cases h : x = 0
    · rw [if_pos h] at hp
      rcases List.mem_cons.1 hp with rfl | hp
      · simp only at h1 h2 ⊢
        by_cases hk : k = i
        · subst hk; rw [hx.1]; exact ⟨fun _ => by omega, fun _ => h⟩
        · have := hz k (by omega) (by omega)
          exact ⟨fun h => absurd h this, fun h => by omega⟩
      · have := ih (i + 1) (i + 1) hx.2 (Nat.le_refl _) (fun k h1 h2 => by omega) p (by push_cast; exact hp) k h1 h2
        exact this
    · rw [if_neg h] at hp
      exact ih a (i + 1) hx.2 (by omega) (fun k h1 h2 => by
        by_cases hk : k = i
        · subst hk; rw [hx.1]; exact h
        · exact hz k h1 (by omega)) p (by push_cast; exact hp) k h1 h2
theorem split_tot {s : SecD} (hk : Kinds s) : tot (splitRB s) = s.size := by
  unfold splitRB
  cases h : hasF s.flags 16 with
  | false => simp [tot]
  | true =>
    simp only [Bool.true_eq_false, if_false]
    obtain ⟨h1, h2, h3⟩ := hk.mrg h
    cases h5 : hasF s.flags 32 with
    | true =>
      obtain ⟨_, h6⟩ := h2 h5
      rw [tot_str _ 0 0 (fun hne => ?_)]
      · split
        · rename_i h7; rw [h1, h7]; rfl
        · rw [h1]; omega
      · rcases h6 with h6 | h6
        · exact absurd (List.length_eq_zero_iff.1 h6) hne
        · have hlt : s.data.length - 1 < s.data.length := by have := List.length_pos_iff.2 hne; omega
          rw [List.getD_eq_getElem?_getD, List.getElem?_eq_getElem hlt] at h6 ⊢
          exact h6
    | false =>
      have := h3 h5
      rw [tot_fix (by omega) _ 0 0 (by omega) (by omega) (by rw [show (0 : Int) + s.data.length - 0 = s.size by omega]; exact this.2)]
      omega
theorem split_text {s : SecD} (hk : Kinds s) (ht : hasF s.flags 32 = true) : s.size = s.data.length ∧ ∀ p ∈ splitRB s, ∀ k : Nat, p.1 ≤ k → (k : Int) < p.1 + p.2 → (s.data.getD k 0 = 0 ↔ (k : Int) = p.1 + p.2 - 1) := by
  cases h : hasF s.flags 16 with
  | false => have := hk.nos h; rw [ht] at this; exact absurd this.2 (by simp)
  | true =>
    refine ⟨(hk.mrg h).1, ?_⟩
    unfold splitRB
    rw [h, ht]
    simp only [Bool.true_eq_false, if_false]
    exact str_zero s.data 0 0 rfl (Nat.le_refl _) (fun k h1 h2 => by omega)
theorem getD_mem' {α : Type} [Inhabited α] {l : List α} {i : Nat} (h : i < l.length) : l.getD i default ∈ l := by
  have : l.getD i default = l[i] := by simp [h]
  rw [this]; exact List.getElem_mem h

set_option maxHeartbeats 4000000 in
theorem piece_All (s : SecD) (at_ : Int) (hs : s.ok) (ha : I64 at_) : A0 Try.prog 4 [.agg (secA s), .v (.int .i64 (at_))] (fun ret => ret = .v (.bool true)) := by
  have hup := up11
  unfold I64 at ha
  refine A0.body 161 Try.func4 rfl rfl Try.ntmps4 fun base n0 => ?_
  refine AW.seq' ?_
  refine AW.region ?_
  refine AO.ww ?_
  refine AO.c ?_
  refine AO.nil ?_
  refine SQ.normal ?_
  refine AW.seq' ?_
  refine AW.region ?_
  refine AO.call1 Try.func21 rfl rfl (up11) ?_
  refine AO.c ?_
  refine AO.nil ?_
  refine SQ.normal ?_
  refine AW.seq' ?_
  refine AW.seq' ?_
  refine AW.region ?_
  refine AO.c ?_
  refine AO.call1 Try.func22 rfl rfl (alone _ (by assumption)) ?_
  refine AO.c ?_
  refine AO.nil ?_
  refine SQ.normal ?_
  refine AW.iteB (GL.ev _) (fun h0 => ?_) (fun h0 => ?_)
  · skip
    skip
    refine AW.seq' ?_
    refine AW.region ?_
    refine AO.c ?_
    refine AO.c ?_
    refine AO.nil ?_
    refine SQ.normal ?_
    refine AW.ret ?_
    refine SQ.ret ?_
    refine Fin.ret (Gh.refl) noid1 ?_
    rfl
  · skip
    skip
    refine AW.skip ?_
    refine SQ.normal ?_
    refine AW.seq' ?_
    have hfacts := alone_facts (s := s) (by simpa using h0)
    have hk := kind_facts hfacts.2.2
    obtain ⟨hc, hp⟩ := split_cont hk hfacts.1
    have hsp := split_same hk
    have hes := piece_Split s hs hk.fl (by have := hfacts.1; omega) (by have := hk.ent; omega)
    rw [hsp] at hes
    have ht := split_tot hk
    have hsz := hk.sz
    have hl1 := hp.1
    have hd := hfacts.1
    have hfs := find_spec (N := ((splitRB s).length : Int)) (at_ := at_) (splitRB s) 0 0 hc (Int.le_refl _) (by omega)
    rw [ht, Int.zero_add] at hfs
    have hcat := fun i => cont_at (splitRB s) 0 i hc
    have hts := fun i => tot_take (l := splitRB s) (i := i)
    refine AW.region ?_
    refine AO.c ?_
    refine AO.call1 Try.func23 rfl rfl (hes) ?_
    refine AO.c ?_
    refine AO.nil ?_
    refine SQ.normal ?_
    refine AW.seq' ?_
    refine AW.region ?_
    refine AO.c ?_
    refine AO.nil ?_
    refine SQ.normal ?_
    refine AW.seq' ?_
    refine AW.seq' ?_
    refine AW.region ?_
    refine AO.c ?_
    refine AO.nil ?_
    refine SQ.normal ?_
    refine AW.block' ?_
    refine AW.loopU [.f, .k, .k, .f, .f, .k, .k, .k, .k, .F, .F, .F, .F, .F, .F, .F, .F, .F, .F, .F, .F, .F, .F, .F, .F, .F, .F, .F] (fun (i : Nat) => [(7, .v (.int .i64 (tot ((splitRB s).take i)))), (8, .v (.int .i64 (i)))]) (fun i => Hn n0 [some (.box 25 (secA s))]) (fun m i => i ≤ (splitRB s).length ∧ m = (splitRB s).length - i) ((splitRB s).length) (0) ⟨by omega, by omega⟩ (by first | rfl | (simp; done)) (by first | rfl | (simp; done)) ?_
    rintro m0 i ⟨hx1, hx2⟩
    refine AW.seq' ?_
    refine AW.seq' ?_
    refine AW.region ?_
    refine AO.c ?_
    refine AO.c ?_
    refine AO.c ?_
    refine AO.c ?_
    refine AO.nil ?_
    refine SQ.normal ?_
    refine AW.iteB (GL.ev _) (fun h1 => ?_) (fun h1 => ?_)
    · skip
      rw [decide_eq_true_eq] at h1
      have hi : i < (splitRB s).length := by omega
      have hci := hcat i hi
      have hti := hts i hi
      have hpi := pcs_at hp i
      refine AW.skip ?_
      refine SQ.normal ?_
      refine AW.seq' ?_
      refine AW.block' ?_
      refine AW.seq' ?_
      refine AW.seq' ?_
      refine AW.drawsZ [] [(0, false), (1, false), (2, false), (3, false), (4, false), (5, false), (6, false), (7, false), (8, false), (9, false), (10, false), (11, false), (12, false), (13, false), (14, false), (15, false), (16, false), (17, false), (18, false), (19, false), (20, false), (21, false), (22, false), (23, false), (24, false), (25, false), (26, false)] (by kernel_rfl) rfl (by kernel_rfl) ?_
      refine AZ.c rfl ?_
      refine AZ.c rfl ?_
      refine AZ.oo rfl ?_
      refine AZ.c rfl ?_
      refine AZ.c rfl ?_
      refine AZ.c rfl ?_
      refine AZ.c rfl ?_
      refine AZ.c rfl ?_
      refine AZ.gx rfl ?_
      refine AZ.gx rfl ?_
      refine AZ.gxoo rfl ?_
      refine AZ.gx rfl ?_
      refine AZ.gx rfl ?_
      refine AZ.gx rfl ?_
      refine AZ.c rfl ?_
      refine AZ.c rfl ?_
      refine AZ.gx rfl ?_
      refine AZ.gx rfl ?_
      refine AZ.gxoo rfl ?_
      refine AZ.gx rfl ?_
      refine AZ.gx rfl ?_
      refine AZ.gx rfl ?_
      refine AZ.gx rfl ?_
      refine AZ.gx rfl ?_
      refine AZ.gxo rfl (fun h => by have := hcat i hi; omega) ?_
      refine AZ.gx rfl ?_
      refine AZ.c rfl ?_
      refine AZ.done ?_
      refine SQ.normal ?_
      refine AW.iteB (GL.ev _) (fun h2 => ?_) (fun h2 => ?_)
      · skip
        exfalso
        simp only [Bool.or_eq_true, decide_eq_true_eq] at h2
        omega
      · skip
        skip
        refine AW.skip ?_
        refine SQ.normal ?_
        refine AW.seq' ?_
        refine AW.region ?_
        refine AO.c ?_
        refine AO.c ?_
        refine AO.c ?_
        refine AO.oo ?_
        refine AO.c ?_
        refine AO.c ?_
        refine AO.o (by have := hcat i hi; omega) ?_
        refine AO.c ?_
        refine AO.nil ?_
        refine SQ.normal ?_
        refine AW.seq' ?_
        refine AW.region ?_
        refine AO.c ?_
        refine AO.call1 Try.func27 rfl rfl (ref_Has _ _ hs (by omega)) ?_
        refine AO.c ?_
        refine AO.nil ?_
        refine SQ.normal ?_
        refine AW.seq' ?_
        refine AW.region ?_
        refine AO.c ?_
        refine AO.c ?_
        refine AO.oo ?_
        refine AO.c ?_
        refine AO.c ?_
        refine AO.c ?_
        refine AO.nil ?_
        refine SQ.normal ?_
        refine AW.block' ?_
        refine AW.loopU [.f, .k, .k, .f, .f, .k, .k, .k, .k, .k, .k, .F, .F, .F, .F, .F, .F, .F, .F, .F, .F, .F, .F, .F, .F, .F, .F, .F, .F, .f, .f, .f, .f, .f, .f] (fun (k : Nat) => [(10, .v (.int .i64 (k)))]) (fun k => Hn n0 [some (.box 25 (secA s))]) (fun m k => ((splitRB s).getD i default).1 ≤ k ∧ m = (tot ((splitRB s).take i) + ((splitRB s).getD i default).2 - k).toNat) ((tot ((splitRB s).take i) + ((splitRB s).getD i default).2 - ((splitRB s).getD i default).1).toNat) (((splitRB s).getD i default).1.toNat) ⟨by omega, by omega⟩ (by rw [show ((((splitRB s).getD i default).1.toNat : Nat) : Int) = ((splitRB s).getD i default).1 by omega]) (by first | rfl | (simp; done)) ?_
        rintro m1 k ⟨hk1, hk2⟩
        refine AW.seq' ?_
        refine AW.seq' ?_
        refine AW.region ?_
        refine AO.c ?_
        refine AO.c ?_
        refine AO.gx ?_
        refine AO.gx ?_
        refine AO.gx ?_
        refine AO.c ?_
        refine AO.nil ?_
        refine SQ.normal ?_
        refine AW.iteB (GL.ev _) (fun h3 => ?_) (fun h3 => ?_)
        · skip
          simp only [Bool.and_eq_true, decide_eq_true_eq] at h3
          have htx := split_text hk h3.1
          have hz := htx.2 _ (getD_mem' hi) k hk1 (by omega)
          refine AW.skip ?_
          refine SQ.normal ?_
          refine AW.seq' ?_
          refine AW.block' ?_
          refine AW.seq' ?_
          refine AW.seq' ?_
          refine AW.region ?_
          refine AO.c ?_
          refine AO.c ?_
          refine AO.c ?_
          refine AO.c ?_
          refine AO.c ?_
          refine AO.nil ?_
          refine SQ.normal ?_
          refine AW.iteB (GL.ev _) (fun h4 => ?_) (fun h4 => ?_)
          · skip
            exfalso
            simp only [decide_eq_true_eq] at h4
            omega
          · skip
            rw [decide_eq_false_iff_not] at h4
            refine AW.skip ?_
            refine SQ.normal ?_
            refine AW.seq' ?_
            refine AW.region ?_
            refine AO.c ?_
            refine AO.c ?_
            refine AO.c ?_
            refine AO.oo ?_
            refine AO.c ?_
            refine AO.c ?_
            refine AO.c ?_
            refine AO.c ?_
            refine AO.oo ?_
            refine AO.c ?_
            refine AO.c ?_
            refine AO.nil ?_
            refine SQ.normal ?_
            refine AW.iteB (GL.ev _) (fun h5 => ?_) (fun h5 => ?_)
            · skip
              exfalso
              have e1 : decide (s.data.getD k 0 = 0) = decide ((k : Int) = tot ((splitRB s).take i) + ((splitRB s).getD i default).2 - 1) := by
                rw [Bool.eq_iff_iff, decide_eq_true_eq, decide_eq_true_eq, hz]
                omega
              rw [e1] at h5
              simp at h5
            · skip
              skip
              refine AW.skip ?_
              refine BQ.normal ?_
              refine SQ.normal ?_
              refine AW.region ?_
              refine AO.c ?_
              refine AO.oo ?_
              refine AO.c ?_
              refine AO.nil ?_
              exact AW.backU [.f, .k, .k, .f, .f, .k, .k, .k, .k, .k, .k, .F, .F, .F, .F, .F, .F, .F, .F, .F, .F, .F, .F, .F, .F, .F, .F, .F, .F, .f, .f, .f, .f, .f, .f] (m1 - 1) (k + 1) (by omega) (by first | omega | (simp; done) | (simp; omega)) (by first | rfl | (simp; done)) (by first | rfl | (simp; done))
        · skip
          skip
          refine AW.exit ?_
          refine SQ.exit <| AW.out <| LU.exit <| BQ.exit ?_
          refine BQ.normal ?_
          refine SQ.normal ?_
          refine AW.region ?_
          refine AO.c ?_
          refine AO.oo ?_
          refine AO.c ?_
          refine AO.nil ?_
          exact AW.backU [.f, .k, .k, .f, .f, .k, .k, .k, .k, .F, .F, .F, .F, .F, .F, .F, .F, .F, .F, .F, .F, .F, .F, .F, .F, .F, .F, .F] (m0 - 1) (i + 1) (by omega) (by first | omega | (simp; done) | (simp; omega)) (by (try dsimp only); rw [hti] <;> rfl) (by first | rfl | (simp; done))
    · skip
      rw [decide_eq_false_iff_not] at h1
      have hi : i = (splitRB s).length := by omega
      refine AW.exit ?_
      refine SQ.exit <| AW.out <| LU.exit <| BQ.exit ?_
      refine SQ.normal ?_
      refine AW.seq' ?_
      refine AW.seq' ?_
      refine AW.region ?_
      refine AO.c ?_
      refine AO.c ?_
      refine AO.c ?_
      refine AO.c ?_
      refine AO.nil ?_
      refine SQ.normal ?_
      refine AW.iteB (GL.ev _) (fun h6 => ?_) (fun h6 => ?_)
      · skip
        exfalso
        rw [hi, List.take_of_length_le (Nat.le_refl _), ht] at h6
        simp at h6
      · skip
        skip
        refine AW.skip ?_
        refine SQ.normal ?_
        refine AW.seq' ?_
        refine AW.region ?_
        refine AO.c ?_
        refine AO.c ?_
        refine AO.call1 Try.func25 rfl rfl (piece_Find _ _ hp ha) ?_
        refine AO.c ?_
        refine AO.nil ?_
        refine SQ.normal ?_
        refine AW.seq' ?_
        refine AW.seq' ?_
        refine AW.region ?_
        refine AO.c ?_
        refine AO.c ?_
        refine AO.c ?_
        refine AO.gx ?_
        refine AO.gx ?_
        refine AO.gx ?_
        refine AO.gx ?_
        refine AO.c ?_
        refine AO.c ?_
        refine AO.gx ?_
        refine AO.gx ?_
        refine AO.gx ?_
        refine AO.c ?_
        refine AO.nil ?_
        refine SQ.normal ?_
        generalize hfg : findG ((splitRB s).length : Int) at_ 0 (splitRB s) = fg at hfs
        refine AW.iteB (GL.ev _) (fun h7 => ?_) (fun h7 => ?_)
        · skip
          simp only [Bool.or_eq_true, decide_eq_true_eq] at h7
          refine AW.seq' ?_
          refine AW.region ?_
          refine AO.c ?_
          refine AO.c ?_
          refine AO.gx ?_
          refine AO.gx ?_
          refine AO.c ?_
          refine AO.c ?_
          refine AO.nil ?_
          refine SQ.normal ?_
          refine AW.ret ?_
          refine SQ.ret ?_
          refine Fin.ret (Gh.refl) noid1 ?_
          show AV.v (.bool _) = AV.v (.bool _)
          congr 2
          simp only [Bool.true_and, decide_eq_true_eq]
          rcases hfs with ⟨q1, q2⟩ | ⟨j, q1, q2, q3, q4⟩
          · omega
          · have := pcs_at hp j
            have := hcat j q1
            omega
        · skip
          simp only [Bool.or_eq_false_iff, decide_eq_false_iff_not] at h7
          refine AW.skip ?_
          refine SQ.normal ?_
          refine AW.seq' ?_
          refine AW.seq' ?_
          refine AW.region ?_
          refine AO.c ?_
          refine AO.c ?_
          refine AO.c ?_
          refine AO.gx ?_
          refine AO.gx ?_
          refine AO.gx ?_
          refine AO.gx ?_
          refine AO.c ?_
          refine AO.nil ?_
          refine SQ.normal ?_
          refine AW.iteB (GL.ev _) (fun h8 => ?_) (fun h8 => ?_)
          · skip
            exfalso
            simp only [Bool.or_eq_true, decide_eq_true_eq] at h8
            rcases hfs with ⟨q1, q2⟩ | ⟨j, q1, q2, q3, q4⟩ <;> omega
          · skip
            simp only [Bool.or_eq_false_iff, decide_eq_false_iff_not] at h8
            rcases hfs with ⟨q1, q2⟩ | ⟨j, q1, q2, q3, q4⟩
            · exfalso; omega
            rw [Int.zero_add] at q2
            subst q2
            have hpj := pcs_at hp j
            refine AW.skip ?_
            refine SQ.normal ?_
            refine AW.seq' ?_
            refine AW.drawsZ [] [(0, false), (1, false), (2, false), (3, false), (4, false), (5, false), (6, false), (7, false), (8, false), (9, false), (10, false), (11, false), (12, false), (13, false), (14, false), (15, false), (16, false), (17, false), (18, false), (19, false), (20, false), (21, false), (22, false), (23, false), (24, false), (25, false), (26, false), (27, false), (28, false), (29, false), (30, false), (31, false), (32, false), (33, false), (34, false), (35, false), (36, false), (37, false), (38, false)] (by kernel_rfl) rfl (by kernel_rfl) ?_
            refine AZ.c rfl ?_
            refine AZ.c rfl ?_
            refine AZ.gx rfl ?_
            refine AZ.gx rfl ?_
            refine AZ.gx rfl ?_
            refine AZ.gxoo rfl ?_
            refine AZ.gx rfl ?_
            refine AZ.gx rfl ?_
            refine AZ.gx rfl ?_
            refine AZ.c rfl ?_
            refine AZ.c rfl ?_
            refine AZ.gx rfl ?_
            refine AZ.gx rfl ?_
            refine AZ.gx rfl ?_
            refine AZ.gxoo rfl ?_
            refine AZ.gx rfl ?_
            refine AZ.gx rfl ?_
            refine AZ.gx rfl ?_
            refine AZ.gx rfl ?_
            refine AZ.gxoo rfl ?_
            refine AZ.gx rfl ?_
            refine AZ.gx rfl ?_
            refine AZ.gxoo rfl ?_
            refine AZ.gx rfl ?_
            refine AZ.gx rfl ?_
            refine AZ.gx rfl ?_
            refine AZ.gx rfl ?_
            refine AZ.gx rfl ?_
            refine AZ.gx rfl ?_
            refine AZ.gx rfl ?_
            refine AZ.gx rfl ?_
            refine AZ.gx rfl ?_
            refine AZ.gx rfl ?_
            refine AZ.gxoo rfl ?_
            refine AZ.gx rfl ?_
            refine AZ.gx rfl ?_
            refine AZ.gx rfl ?_
            refine AZ.c rfl ?_
            refine AZ.c rfl ?_
            refine AZ.done ?_
            refine SQ.normal ?_
            refine AW.ret ?_
            refine Fin.ret (Gh.refl) noid1 ?_
            show AV.v (.bool _) = AV.v (.bool _)
            congr 2
            simp only [Bool.true_and, Bool.and_eq_true, Bool.or_eq_true, decide_eq_true_eq]
            omega

theorem args_PieceAll {avs : List AV} (h : TArgs Try.prog [25, 3] avs) : A0 Try.prog 4 avs (fun ret => ret = .v (.bool true)) := by
  obtain ⟨cs, b1, rfl, k1, h1⟩ := TArgs.inv_agg h
  obtain ⟨av, b2, rfl, k2, h2⟩ := TArgs.inv_one rfl h1
  obtain rfl := TArgs.inv_nil h2
  obtain ⟨s, rfl, hs⟩ := ta_sec k1
  obtain ⟨n, he, w⟩ := k2.inv_int (k := .i64)
  cases he
  exact piece_All s n hs (i64_wf w)


end Go.Proofs.Ytbaibjhkmajplaa.AL
