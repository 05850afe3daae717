/- What functions of the program compute, each by its own contract; the conditions stand with each. -/
import Derived.Test.YtbaibjhkmajplaaFUleb
namespace Go.Proofs.Ytbaibjhkmajplaa.AL
open Go Go.RowKit Go.Proofs.Ytbaibjhkmajplaa.Base
set_option linter.unusedVariables false
set_option linter.unusedSimpArgs false
set_option maxRecDepth 4000
set_option synthInstance.maxSize 1000

theorem flat_len : ∀ (l : List Int), (∀ x ∈ l, 0 ≤ x ∧ x ≤ 2147483647) → l.length ≤ (l.flatMap encB).length := by
  intro l
  induction l with
  | nil => intro _; simp
  | cons x l ih =>
    intro h
    have h1 := ulebH_enc [] (h x (by simp))
    have h2 := ih fun y hy => h y (by simp [hy])
    rw [List.flatMap_cons, List.length_append, List.length_cons]
    omega
theorem flat_le : ∀ (l : List Int), (l.flatMap encB).length ≤ 5 * l.length := by
  intro l
  induction l with
  | nil => simp
  | cons x l ih =>
    have h1 := encB_len x
    rw [List.flatMap_cons, List.length_append, List.length_cons]
    omega
theorem flat_bytes (l : List Int) : Bytes (l.flatMap encB) := fun x hx => by
  obtain ⟨y, _, hy⟩ := List.mem_flatMap.1 hx
  exact encB_bytes y x hy
theorem take_succ0 {l : List Int} {i : Nat} (h : i < l.length) : l.take (i + 1) = l.take i ++ [l.getD i 0] := by
  rw [List.take_succ_eq_append_getElem h]; simp [h]

theorem up02  : A0 Try.prog 49 [] (fun ret => ret = .v (.bool true)) := by
  have he : encB 300 = [172, 2] := by decide
  have hp := uleb_Put 300 (by decide)
  rw [he] at hp
  refine A0.body 6 Try.func49 rfl rfl Try.ntmps49 fun base n0 => ?_
  refine AW.seq' ?_
  refine AW.region ?_
  refine AO.c ?_
  refine AO.nil ?_
  refine SQ.normal ?_
  refine AW.seq' ?_
  apply AW.mid
  case h =>
    refine AW.drawsZ [] (.two 0 2 (.one 1 false (.one 2 true (.one 3 false (.one 4 false (.one 5 false .nil))))) (.one 3 false (.one 0 true (.one 1 false (.one 4 false (.one 5 false .nil)))))) (by kernel_rfl) rfl (by kernel_rfl) ?_
    refine AZ.two ?_ ?_
    · refine AZi.call1 rfl Try.func54 rfl rfl (hp) ?_
      refine AZ.c rfl ?_
      refine AZ.rr rfl ?_
      refine AZ.c rfl ?_
      refine AZ.c rfl ?_
      refine AZ.c rfl ?_
      exact AZ.done ⟨rfl, rfl⟩
    · refine AZi.rr rfl ?_
      refine AZ.c rfl ?_
      refine AZ.call1 rfl Try.func54 rfl rfl (hp) ?_
      refine AZ.c rfl ?_
      refine AZ.c rfl ?_
      refine AZ.c rfl ?_
      exact AZ.done ⟨rfl, rfl⟩
  refine SQ.normal ?_
  refine AW.ret ?_
  refine Fin.ret (Gh.refl) noid1 ?_
  show AV.v (.bool (decide _)) = AV.v (.bool true)
  rw [decide_eq_true (by rfl)]
theorem uleb_Back (l b : List Int) (hB : Bytes b) (hl : l.length ≤ maxLen) (hbl : b.length ≤ maxLen) (h64 : ∀ x ∈ l, I64 x) : A0 Try.prog 12 [.rd 1 (l.map iA), .rd 1 (bys b)] (fun ret => ret = .v (.bool true)) := by
  have hup := up02
  have h64g : ∀ i, I64 (l.getD i 0) := fun i => by
    rcases Nat.lt_or_ge i l.length with h | h
    · have := h64 l[i] (List.getElem_mem h); simpa [h] using this
    · simp [h]; decide
  refine A0.body 108 Try.func12 rfl rfl Try.ntmps12 fun base n0 => ?_
  refine AW.seq' ?_
  refine AW.region ?_
  refine AO.c ?_
  refine AO.nil ?_
  refine SQ.normal ?_
  refine AW.seq' ?_
  refine AW.region ?_
  refine AO.call1 Try.func49 rfl rfl (up02) ?_
  refine AO.c ?_
  refine AO.nil ?_
  refine SQ.normal ?_
  refine AW.seq' ?_
  refine AW.seq' ?_
  refine AW.region ?_
  refine AO.c ?_
  refine AO.c ?_
  refine AO.c ?_
  refine AO.c ?_
  refine AO.gx ?_
  refine AO.gx ?_
  refine AO.gx ?_
  refine AO.c ?_
  refine AO.nil ?_
  refine SQ.normal ?_
  refine AW.iteB (GL.ev _) (fun h0 => ?_) (fun h0 => ?_)
  · skip
    skip
    refine AW.seq' ?_
    refine AW.region ?_
    refine AO.c ?_
    refine AO.c ?_
    refine AO.nil ?_
    refine SQ.normal ?_
    refine AW.ret ?_
    refine SQ.ret ?_
    refine Fin.ret (Gh.refl) noid1 ?_
    rfl
  · skip
    simp only [Bool.or_eq_false_iff, decide_eq_false_iff_not, List.length_map] at h0
    refine AW.skip ?_
    refine SQ.normal ?_
    refine AW.seq' ?_
    refine AW.region ?_
    refine AO.c ?_
    refine AO.nil ?_
    refine SQ.normal ?_
    refine AW.seq' ?_
    refine AW.seq' ?_
    refine AW.region ?_
    refine AO.c ?_
    refine AO.nil ?_
    refine SQ.normal ?_
    refine AW.block' ?_
    refine AW.ghost (Gh.adoptB 6 5) ?_
    refine AW.loopU [.k, .k, .f, .f, .f, .k, .k, .k, .F, .F, .F, .F, .F, .F, .F, .F, .F, .F, .F, .F, .f, .f, .f, .f] (fun (i : Nat) => [(6, .own (n0 + 0) i 0 ((l.take i).flatMap encB).length), (7, .v (.int .i64 (i)))]) (fun i => Hn n0 [some (.row 5 1 i (bys ((l.take i).flatMap encB)))]) (fun m i => i ≤ l.length ∧ m = l.length - i ∧ ∀ x ∈ l.take i, 0 ≤ x ∧ x ≤ 2147483647) (l.length) (0) ⟨by omega, by omega, by simp⟩ (by first | rfl | (simp; done)) (by first | rfl | (simp; done)) ?_
    rintro m0 i ⟨hx1, hx2, hx3⟩
    have hfl0 := flat_le (l.take i)
    rw [List.length_take] at hfl0
    refine AW.seq' ?_
    refine AW.seq' ?_
    refine AW.region ?_
    refine AO.c ?_
    refine AO.c ?_
    refine AO.c ?_
    refine AO.c ?_
    refine AO.nil ?_
    refine SQ.normal ?_
    refine AW.iteB (GL.ev _) (fun h1 => ?_) (fun h1 => ?_)
    · skip
      rw [decide_eq_true_eq] at h1
      have hi : i < l.length := by omega
      have hel := encB_len (l.getD i 0)
      have hts := take_succ0 hi
      refine AW.skip ?_
      refine SQ.normal ?_
      refine AW.seq' ?_
      refine AW.block' ?_
      refine AW.seq' ?_
      refine AW.region ?_
      refine AO.c ?_
      refine AO.c ?_
      refine AO.oo ?_
      refine AO.c ?_
      refine AO.call1 Try.func54 rfl rfl (uleb_Put _ (h64g i)) ?_
      refine AO.c ?_
      refine AO.nil ?_
      refine SQ.normal ?_
      refine AW.seq' ?_
      refine AW.seq' ?_
      refine AW.region ?_
      refine AO.c ?_
      refine AO.c ?_
      refine AO.oo ?_
      refine AO.c ?_
      refine AO.c ?_
      refine AO.c ?_
      refine AO.gx ?_
      refine AO.gx ?_
      refine AO.gxoo ?_
      refine AO.gx ?_
      refine AO.gx ?_
      refine AO.c ?_
      refine AO.nil ?_
      refine SQ.normal ?_
      refine AW.iteB (GL.ev _) (fun h2 => ?_) (fun h2 => ?_)
      · skip
        simp only [Bool.or_eq_true, decide_eq_true_eq, iA_getD] at h2
        have hno : encB (l.getD i 0) = [] := by unfold encB; rw [if_neg (by omega)]
        refine AW.seq' ?_
        refine AW.region ?_
        refine AO.c ?_
        refine AO.c ?_
        refine AO.gx ?_
        refine AO.gx ?_
        refine AO.gx ?_
        refine AO.c ?_
        refine AO.c ?_
        refine AO.nil ?_
        refine SQ.normal ?_
        refine AW.ret ?_
        refine SQ.ret <| BQ.ret <| SQ.ret <| AW.out <| LU.ret <| BQ.ret <| SQ.ret ?_
        refine Fin.ret (Gh.refl) noid1 ?_
        show AV.v (.bool (true && decide (((encB (l.getD i 0)).length : Int) = 0))) = AV.v (.bool true)
        rw [hno]; rfl
      · skip
        simp only [Bool.or_eq_false_iff, decide_eq_false_iff_not, iA_getD] at h2
        have hok : 0 ≤ l.getD i 0 ∧ l.getD i 0 ≤ 2147483647 := by omega
        have hue := ulebH_enc b hok
        have hug : ulebG (encB (l.getD i 0) ++ b) 0 = some (l.getD i 0, (encB (l.getD i 0)).length) := by
          unfold ulebG; rw [if_pos (Int.le_refl 0)]; exact hue.1
        have hcall := uleb_Get (encB (l.getD i 0) ++ b) 0 ((encB_bytes _).append hB) (by rw [List.length_append]; omega) (by decide)
        rw [hug] at hcall
        simp only [gN, gX, Option.isSome_some, Int.zero_add] at hcall
        refine AW.skip ?_
        refine SQ.normal ?_
        refine AW.seq' ?_
        refine AW.region ?_
        refine AO.c ?_
        refine AO.c ?_
        refine AO.c ?_
        refine AO.c ?_
        refine AO.c ?_
        refine AO.capA (by rw [bys_length]) (by rw [bys_length]) rfl (by rw [bys_length, bys_length]; omega) (by rw [bys_length, bys_length, maxLen_eq]; omega) ?_
        -- 
        refine AO.eq 61 (av' := .rd 1 (bys (encB (l.getD i 0) ++ b))) (by rw [bys_append]) ?_
        refine AO.call1 Try.func50 rfl rfl (hcall) ?_
        refine AO.c ?_
        refine AO.c ?_
        refine AO.c ?_
        refine AO.c ?_
        refine AO.c ?_
        refine AO.c ?_
        refine AO.c ?_
        refine AO.nil ?_
        refine SQ.normal ?_
        refine AW.seq' ?_
        refine AW.seq' ?_
        refine AW.region ?_
        refine AO.c ?_
        refine AO.c ?_
        refine AO.c ?_
        refine AO.gx ?_
        refine AO.gx ?_
        refine AO.gx ?_
        refine AO.gxoo ?_
        refine AO.gx ?_
        refine AO.gx ?_
        refine AO.c ?_
        refine AO.c ?_
        refine AO.gx ?_
        refine AO.gx ?_
        refine AO.gx ?_
        refine AO.gx ?_
        refine AO.c ?_
        refine AO.c ?_
        refine AO.gx ?_
        refine AO.gx ?_
        refine AO.c ?_
        refine AO.c ?_
        refine AO.gx ?_
        refine AO.gx ?_
        refine AO.c ?_
        refine AO.nil ?_
        refine SQ.normal ?_
        refine AW.iteB (GL.ev _) (fun h3 => ?_) (fun h3 => ?_)
        · skip
          exfalso
          simp only [Bool.or_eq_true, Bool.not_true, Bool.false_eq_true, decide_eq_true_eq, iA_getD, ne_eq, not_true_eq_false, false_or] at h3
          omega
        · skip
          skip
          refine AW.skip ?_
          refine SQ.normal ?_
          refine AW.region ?_
          refine AO.c ?_
          refine AO.c ?_
          refine AO.ww ?_
          refine AO.c ?_
          refine AO.nil ?_
          refine BQ.normal ?_
          refine SQ.normal ?_
          refine AW.region ?_
          refine AO.c ?_
          refine AO.oo ?_
          refine AO.c ?_
          refine AO.nil ?_
          exact AW.backU [.k, .k, .f, .f, .f, .k, .k, .k, .F, .F, .F, .F, .F, .F, .F, .F, .F, .F, .F, .F, .f, .f, .f, .f] (m0 - 1) (i + 1) (by omega) (by (try dsimp only); exact ⟨by omega, by omega, fun x hx => by rw [hts] at hx; rcases List.mem_append.1 hx with h | h; exact hx3 x h; rw [List.mem_singleton.1 h]; exact hok⟩) (by rw [hts, List.flatMap_append]; simp) (by rw [hts, List.flatMap_append]; simp [bys_append, iA_getD])
    · skip
      rw [decide_eq_false_iff_not] at h1
      have hi : i = l.length := by omega
      have hlast : (l.take i).flatMap encB = l.flatMap encB := by rw [hi, List.take_of_length_le (Nat.le_refl _)]
      have hin : ∀ x ∈ l, 0 ≤ x ∧ x ≤ 2147483647 := fun x hx => hx3 x (by rw [hi, List.take_of_length_le (Nat.le_refl _)]; exact hx)
      have hfl := flat_le l
      refine AW.exit ?_
      refine SQ.exit <| AW.out <| LU.exit <| BQ.exit ?_
      refine SQ.normal ?_
      refine AW.seq' ?_
      refine AW.region ?_
      have hall := flat_len l hin
      have hlist := uleb_List (l.flatMap encB) (flat_bytes l) (by omega)
      rw [ulebAll_enc l _ hin hall] at hlist
      refine AO.ghost (Gh.freezeE 6 (li' := l.flatMap encB) (by rw [hlast]) (by rw [hlast]) (by omega)) ?_
      refine AO.c ?_
      refine AO.call1 Try.func52 rfl rfl (hlist) ?_
      refine AO.c ?_
      refine AO.c ?_
      refine AO.c ?_
      refine AO.c ?_
      refine AO.c ?_
      refine AO.nil ?_
      refine SQ.normal ?_
      refine AW.seq' ?_
      refine AW.region ?_
      refine AO.c ?_
      refine AO.c ?_
      refine AO.gx ?_
      refine AO.c ?_
      refine AO.c ?_
      refine AO.gx ?_
      refine AO.gx ?_
      refine AO.gxcall1 Try.func48 rfl rfl (fun hgd => law_Ints _ _ (by simp; omega) (by omega)) ?_
      refine AO.gx ?_
      refine AO.c ?_
      refine AO.c ?_
      refine AO.nil ?_
      refine SQ.normal ?_
      refine AW.ret ?_
      refine Fin.ret (Gh.refl) noid1 ?_
      show AV.v (.bool _) = AV.v (.bool true)
      simp

theorem args_UlebBack {avs : List AV} (h : TArgs Try.prog [54, 22] avs) : A0 Try.prog 12 avs (fun ret => ret = .v (.bool true)) := by
  obtain ⟨av1, b1, rfl, k1, h1⟩ := TArgs.inv_one rfl h
  obtain ⟨av2, b2, rfl, k2, h2⟩ := TArgs.inv_one rfl h1
  obtain rfl := TArgs.inv_nil h2
  obtain ⟨l, he1, w1, q1⟩ := TA.inv_ints (e := 3) (k := .i64) k1
  cases he1
  obtain ⟨b, he2, w2, q2⟩ := TA.inv_bytes (e := 5) k2
  cases he2
  exact uleb_Back l b q2 w1 w2 fun x hx => wf_i64 (q1 x hx)


end Go.Proofs.Ytbaibjhkmajplaa.AL
