/- What functions of the program compute, each by its own contract; the conditions stand with each. -/
import Derived.Test.YtbaibjhkmajplaaFGlob2
namespace Go.Proofs.Ytbaibjhkmajplaa.AL
open Go Go.RowKit Go.Proofs.Ytbaibjhkmajplaa.Base
set_option linter.unusedVariables false
set_option linter.unusedSimpArgs false
set_option maxRecDepth 4000
set_option synthInstance.maxSize 1000

theorem data_app (a b : ByteArray) : (a ++ b).data.toList = a.data.toList ++ b.data.toList := by simp
theorem fitsS_b {p s : ByteArray} : fitsS p s = false ↔ ¬ Fit p.data.toList s.data.toList := by rw [← Bool.not_eq_true, fitsS_iff]
theorem fit_any (s : List UInt8) : Fit [42] s := by have := Fit.star s Fit.nil; rwa [List.append_nil] at this
theorem fit_plain : ∀ {p s : List UInt8}, (∀ c ∈ p, c ≠ 42 ∧ c ≠ 63) → (Fit p s ↔ p = s) := by
  intro p
  induction p with
  | nil => intro s _; rw [fit_nil]; exact ⟨fun h => h.symm, fun h => h.symm⟩
  | cons c p ih =>
    intro s h
    have hc := h c (by simp)
    rw [fit_one hc.1]
    constructor
    · rintro ⟨d, t, rfl, h1, h2⟩
      rw [(ih fun x hx => h x (by simp [hx])).1 h2]
      rw [h1.resolve_left hc.2]
    · rintro rfl
      exact ⟨c, p, rfl, .inr rfl, (ih fun x hx => h x (by simp [hx])).2 rfl⟩
theorem fit_quest {s : List UInt8} : Fit [63] s ↔ s.length = 1 := by
  rw [fit_one (by decide)]
  constructor
  · rintro ⟨d, t, rfl, _, h⟩; rw [fit_nil.1 h]; rfl
  · intro h
    match s, h with
    | [d], _ => exact ⟨d, [], rfl, .inl rfl, .nil⟩

theorem glob_Tells (p s : ByteArray) (l : List ByteArray) (hp : p.size ≤ maxLen) (hs : s.size ≤ maxLen) (hl : l.length ≤ maxLen) (h64 : ∀ x ∈ l, x.size ≤ maxLen) : A0 Try.prog 7 [.v (.string p), .v (.string s), .rd 1 (l.map sA)] (fun ret => ret = .v (.bool true)) := by
  have hup := up09
  refine A0.body 56 Try.func7 rfl rfl Try.ntmps7 fun base n0 => ?_
  refine AW.seq' ?_
  refine AW.region ?_
  refine AO.c ?_
  refine AO.nil ?_
  refine SQ.normal ?_
  refine AW.seq' ?_
  refine AW.region ?_
  refine AO.call1 Try.func35 rfl rfl (up09) ?_
  refine AO.c ?_
  refine AO.nil ?_
  refine SQ.normal ?_
  refine AW.seq' ?_
  refine AW.seq' ?_
  refine AW.region ?_
  refine AO.c ?_
  refine AO.c ?_
  refine AO.c ?_
  refine AO.c ?_
  refine AO.gx ?_
  refine AO.gx ?_
  refine AO.gx ?_
  refine AO.c ?_
  refine AO.c ?_
  refine AO.gx ?_
  refine AO.gx ?_
  refine AO.gx ?_
  refine AO.c ?_
  refine AO.nil ?_
  refine SQ.normal ?_
  refine AW.iteB (GL.ev _) (fun h0 => ?_) (fun h0 => ?_)
  · skip
    skip
    refine AW.seq' ?_
    refine AW.region ?_
    refine AO.c ?_
    refine AO.c ?_
    refine AO.nil ?_
    refine SQ.normal ?_
    refine AW.ret ?_
    refine SQ.ret ?_
    refine Fin.ret (Gh.refl) noid1 ?_
    rfl
  · skip
    simp only [Bool.or_eq_false_iff, decide_eq_false_iff_not, List.length_map] at h0
    refine AW.skip ?_
    refine SQ.normal ?_
    refine AW.seq' ?_
    refine AW.seq' ?_
    refine AW.region ?_
    refine AO.c ?_
    refine AO.nil ?_
    refine SQ.normal ?_
    refine AW.block' ?_
    refine AW.loopU [.k, .k, .k, .f, .f, .f, .f, .k, .k, .F, .F, .F, .F, .F, .f, .f, .f, .f, .f, .f, .f] (fun (i : Nat) => [(8, .v (.int .i64 (i)))]) (fun i => Hn n0 []) (fun m i => i ≤ l.length ∧ m = l.length - i ∧ ∀ j, j < i → (l.getD j default).size ≤ 200) (l.length) (0) ⟨by omega, rfl, fun j h => by omega⟩ (by first | rfl | (simp; done)) (by first | rfl | (simp; done)) ?_
    rintro m0 i ⟨hx1, hx2, hx3⟩
    refine AW.seq' ?_
    refine AW.seq' ?_
    refine AW.region ?_
    refine AO.c ?_
    refine AO.c ?_
    refine AO.c ?_
    refine AO.c ?_
    refine AO.nil ?_
    refine SQ.normal ?_
    refine AW.iteB (GL.ev _) (fun h1 => ?_) (fun h1 => ?_)
    · skip
      rw [decide_eq_true_eq] at h1
      have hi : i < l.length := by omega
      refine AW.skip ?_
      refine SQ.normal ?_
      refine AW.seq' ?_
      refine AW.block' ?_
      refine AW.seq' ?_
      refine AW.region ?_
      refine AO.c ?_
      refine AO.c ?_
      refine AO.oo ?_
      refine AO.c ?_
      refine AO.c ?_
      refine AO.c ?_
      refine AO.nil ?_
      refine SQ.normal ?_
      refine AW.iteB (GL.ev _) (fun h2 => ?_) (fun h2 => ?_)
      · skip
        skip
        refine AW.seq' ?_
        refine AW.region ?_
        refine AO.c ?_
        refine AO.c ?_
        refine AO.nil ?_
        refine SQ.normal ?_
        refine AW.ret ?_
        refine BQ.ret <| SQ.ret <| AW.out <| LU.ret <| BQ.ret <| SQ.ret ?_
        refine Fin.ret (Gh.refl) noid1 ?_
        rfl
      · skip
        rw [decide_eq_false_iff_not] at h2
        refine AW.skip ?_
        refine BQ.normal ?_
        refine SQ.normal ?_
        refine AW.region ?_
        refine AO.c ?_
        refine AO.oo ?_
        refine AO.c ?_
        refine AO.nil ?_
        exact AW.backU [.k, .k, .k, .f, .f, .f, .f, .k, .k, .F, .F, .F, .F, .F, .f, .f, .f, .f, .f, .f, .f] (m0 - 1) (i + 1) (by omega) (by (try dsimp only); exact ⟨by omega, by omega, fun j hj => (Nat.lt_or_eq_of_le (Nat.le_of_lt_succ hj)).elim (hx3 j) (fun h => by rw [h]; omega)⟩) (by first | rfl | (simp; done)) (by first | rfl | (simp; done))
    · skip
      rw [decide_eq_false_iff_not] at h1
      have hall : ∀ x ∈ l, x.size ≤ 1000000000 := fun x hx => by
        obtain ⟨j, hj, rfl⟩ := List.getElem_of_mem hx
        have := hx3 j (by omega)
        simp [hj] at this
        omega
      refine AW.exit ?_
      refine SQ.exit <| AW.out <| LU.exit <| BQ.exit ?_
      refine SQ.normal ?_
      refine AW.seq' ?_
      refine AW.region ?_
      refine AO.c ?_
      refine AO.c ?_
      refine AO.gx ?_
      refine AO.gx ?_
      refine AO.gxcall1 Try.func36 rfl rfl (fun hgd => glob_Fits _ _ (by omega) (by omega)) ?_
      refine AO.gx ?_
      refine AO.gx ?_
      refine AO.gxcall1 Try.func37 rfl rfl (fun hgd => ref_Fits _ _ (by omega) (by omega)) ?_
      refine AO.gx ?_
      refine AO.c ?_
      refine AO.c ?_
      refine AO.gx ?_
      refine AO.gx ?_
      refine AO.gxcall1 Try.func38 rfl rfl (fun hgd => glob_Any _ _ (by rw [← maxLen_eq]; exact hl) hall (by omega)) ?_
      refine AO.gx ?_
      refine AO.gx ?_
      refine AO.gxcall1 Try.func39 rfl rfl (fun hgd => ref_Any _ _ (by omega) hall (by omega)) ?_
      refine AO.gx ?_
      refine AO.c ?_
      refine AO.c ?_
      refine AO.nil ?_
      refine SQ.normal ?_
      refine AW.ret ?_
      refine Fin.ret (Gh.refl) noid1 ?_
      show AV.v (.bool _) = AV.v (.bool true)
      simp
set_option maxHeartbeats 2000000 in
theorem glob_Parts (p q s t : ByteArray) (hp : p.size ≤ maxLen) (hq : q.size ≤ maxLen) (hs : s.size ≤ maxLen) (ht : t.size ≤ maxLen) : A0 Try.prog 8 [.v (.string p), .v (.string q), .v (.string s), .v (.string t)] (fun ret => ret = .v (.bool true)) := by
  have hup := up09
  have z1 : (ByteArray.mk #[42]).size = 1 := rfl
  have z2 : (ByteArray.mk #[63]).size = 1 := rfl
  have z3 : (ByteArray.mk #[]).size = 0 := rfl
  have sa : ∀ a b : ByteArray, (a ++ b).size = a.size + b.size := fun a b => ByteArray.size_append
  refine A0.body 117 Try.func8 rfl rfl Try.ntmps8 fun base n0 => ?_
  refine AW.seq' ?_
  refine AW.region ?_
  refine AO.c ?_
  refine AO.nil ?_
  refine SQ.normal ?_
  refine AW.seq' ?_
  refine AW.region ?_
  refine AO.call1 Try.func35 rfl rfl (up09) ?_
  refine AO.c ?_
  refine AO.nil ?_
  refine SQ.normal ?_
  refine AW.seq' ?_
  refine AW.seq' ?_
  refine AW.region ?_
  refine AO.c ?_
  refine AO.c ?_
  refine AO.c ?_
  refine AO.c ?_
  refine AO.gx ?_
  refine AO.gx ?_
  refine AO.gx ?_
  refine AO.c ?_
  refine AO.c ?_
  refine AO.gx ?_
  refine AO.gx ?_
  refine AO.gx ?_
  refine AO.c ?_
  refine AO.c ?_
  refine AO.gx ?_
  refine AO.gx ?_
  refine AO.gx ?_
  refine AO.c ?_
  refine AO.nil ?_
  refine SQ.normal ?_
  refine AW.iteB (GL.ev _) (fun h0 => ?_) (fun h0 => ?_)
  · skip
    skip
    refine AW.seq' ?_
    refine AW.region ?_
    refine AO.c ?_
    refine AO.c ?_
    refine AO.nil ?_
    refine SQ.normal ?_
    refine AW.ret ?_
    refine SQ.ret ?_
    refine Fin.ret (Gh.refl) noid1 ?_
    rfl
  · skip
    simp only [Bool.or_eq_false_iff, decide_eq_false_iff_not] at h0
    refine AW.skip ?_
    refine SQ.normal ?_
    refine AW.seq' ?_
    refine AW.seq' ?_
    refine AW.region ?_
    refine AO.c ?_
    refine AO.c ?_
    refine AO.call1 Try.func36 rfl rfl (glob_Fits _ _ (by omega) (by omega)) ?_
    refine AO.c ?_
    refine AO.gx ?_
    refine AO.gxoo ?_
    refine AO.gx ?_
    refine AO.gx ?_
    refine AO.gxoo ?_
    refine AO.gxcall1 Try.func36 rfl rfl (fun hgd => glob_Fits _ _ (by simp only [sa]; omega) (by simp only [sa]; omega)) ?_
    refine AO.gx ?_
    refine AO.gx ?_
    refine AO.gx ?_
    refine AO.gxoo ?_
    refine AO.gx ?_
    refine AO.gx ?_
    refine AO.gxoo ?_
    refine AO.gxcall1 Try.func36 rfl rfl (fun hgd => glob_Fits _ _ (by simp only [sa]; omega) (by simp only [sa]; omega)) ?_
    refine AO.gx ?_
    refine AO.gx ?_
    refine AO.gx ?_
    refine AO.gx ?_
    refine AO.gx ?_
    refine AO.gxcall1 Try.func36 rfl rfl (fun hgd => glob_Fits _ _ (by omega) (by omega)) ?_
    refine AO.gx ?_
    refine AO.gx ?_
    refine AO.gx ?_
    refine AO.gxoo ?_
    refine AO.gx ?_
    refine AO.gx ?_
    refine AO.gxoo ?_
    refine AO.gxcall1 Try.func36 rfl rfl (fun hgd => glob_Fits _ _ (by simp only [sa]; omega) (by simp only [sa]; omega)) ?_
    refine AO.gx ?_
    refine AO.gx ?_
    refine AO.gx ?_
    refine AO.c ?_
    refine AO.nil ?_
    refine SQ.normal ?_
    refine AW.iteB (GL.ev _) (fun h1 => ?_) (fun h1 => ?_)
    · skip
      exfalso
      simp only [Bool.and_eq_true, Bool.or_eq_true, Bool.not_eq_true', fitsS_iff, fitsS_b, data_app] at h1
      obtain ⟨k1, k2⟩ := h1
      rcases k2 with (k2 | k2) | k2
      · exact k2 (Fit.star _ k1)
      · exact k2 (fit_app k1 (fit_any _))
      · exact k2.2 (fit_app k1 k2.1)
    · skip
      skip
      refine AW.skip ?_
      refine SQ.normal ?_
      refine AW.seq' ?_
      refine AW.region ?_
      refine AO.c ?_
      refine AO.nil ?_
      refine SQ.normal ?_
      refine AW.seq' ?_
      refine AW.seq' ?_
      refine AW.region ?_
      refine AO.c ?_
      refine AO.nil ?_
      refine SQ.normal ?_
      refine AW.block' ?_
      refine AW.loopU [.k, .f, .k, .f, .f, .f, .f, .f, .f, .k, .k, .k, .F, .F, .F, .F, .F, .F, .F, .F, .F, .F, .F, .F, .F, .f] (fun (i : Nat) => [(10, .v (.bool ((p.data.toList.take i).all fun c => c != 42 && c != 63))), (11, .v (.int .i64 (i)))]) (fun i => Hn n0 []) (fun m i => i ≤ p.size ∧ m = p.size - i) (p.size) (0) ⟨by omega, rfl⟩ (by first | rfl | (simp; done)) (by first | rfl | (simp; done)) ?_
      rintro m0 i ⟨hx1, hx2⟩
      refine AW.seq' ?_
      refine AW.seq' ?_
      refine AW.region ?_
      refine AO.c ?_
      refine AO.c ?_
      refine AO.c ?_
      refine AO.c ?_
      refine AO.nil ?_
      refine SQ.normal ?_
      refine AW.iteB (GL.ev _) (fun h2 => ?_) (fun h2 => ?_)
      · skip
        rw [decide_eq_true_eq] at h2
        have hi : i < p.data.toList.length := by rw [dl_len]; omega
        refine AW.skip ?_
        refine SQ.normal ?_
        refine AW.seq' ?_
        refine AW.block' ?_
        refine AW.region ?_
        refine AO.c ?_
        refine AO.c ?_
        refine AO.gx ?_
        refine AO.gx ?_
        refine AO.gxoo ?_
        refine AO.gx ?_
        refine AO.c ?_
        refine AO.c ?_
        refine AO.gx ?_
        refine AO.gx ?_
        refine AO.gxoo ?_
        refine AO.gx ?_
        refine AO.c ?_
        refine AO.c ?_
        refine AO.nil ?_
        refine BQ.normal ?_
        refine SQ.normal ?_
        refine AW.region ?_
        refine AO.c ?_
        refine AO.oo ?_
        refine AO.c ?_
        refine AO.nil ?_
        exact AW.backU [.k, .f, .k, .f, .f, .f, .f, .f, .f, .k, .k, .k, .F, .F, .F, .F, .F, .F, .F, .F, .F, .F, .F, .F, .F, .f] (m0 - 1) (i + 1) (by omega) (by first | omega | (simp; done) | (simp; omega)) (by rw [take_snocU hi, List.all_append]; simp only [List.all_cons, List.all_nil, Bool.and_true, Int.toNat_natCast, ← Bool.and_assoc]; rw [show decide (((p.data.toList.getD i 0).toNat : Int) ≠ 42) = (p.data.toList.getD i 0 != 42) by rw [Bool.eq_iff_iff, decide_eq_true_eq, bne_iff_ne, Ne, u8_42], show decide (((p.data.toList.getD i 0).toNat : Int) ≠ 63) = (p.data.toList.getD i 0 != 63) by rw [Bool.eq_iff_iff, decide_eq_true_eq, bne_iff_ne, Ne, u8_63]]; rfl) (by first | rfl | (simp; done))
      · skip
        rw [decide_eq_false_iff_not] at h2
        have hfull : p.data.toList.take i = p.data.toList := List.take_of_length_le (by rw [dl_len]; omega)
        refine AW.exit ?_
        refine SQ.exit <| AW.out <| LU.exit <| BQ.exit ?_
        refine SQ.normal ?_
        refine AW.seq' ?_
        refine AW.seq' ?_
        refine AW.region ?_
        refine AO.c ?_
        refine AO.c ?_
        refine AO.gx ?_
        refine AO.gx ?_
        refine AO.gxcall1 Try.func36 rfl rfl (fun hgd => glob_Fits _ _ (by omega) (by omega)) ?_
        refine AO.gx ?_
        refine AO.gx ?_
        refine AO.gx ?_
        refine AO.gx ?_
        refine AO.c ?_
        refine AO.nil ?_
        refine SQ.normal ?_
        refine AW.iteB (GL.ev _) (fun h3 => ?_) (fun h3 => ?_)
        · skip
          exfalso
          rw [hfull] at h3
          simp only [Bool.and_eq_true, Bool.not_eq_true', List.all_eq_true, decide_eq_true_eq] at h3
          obtain ⟨k1, k2⟩ := h3
          have k3 := fit_plain (s := s.data.toList) fun c hc => by have := k1 c hc; simpa using this
          rw [ByteArray.toList_eq, ByteArray.toList_eq] at k2
          have k4 : fitsS p s = decide (p.data.toList = s.data.toList) := by rw [Bool.eq_iff_iff, fitsS_iff, k3, decide_eq_true_eq]
          rw [k4] at k2
          simp at k2
        · skip
          skip
          refine AW.skip ?_
          refine SQ.normal ?_
          refine AW.seq' ?_
          refine AW.region ?_
          refine AO.c ?_
          refine AO.c ?_
          refine AO.gx ?_
          refine AO.gxcall1 Try.func36 rfl rfl (fun hgd => glob_Fits _ _ (by omega) (by omega)) ?_
          refine AO.c ?_
          refine AO.c ?_
          refine AO.gx ?_
          refine AO.gxcall1 Try.func36 rfl rfl (fun hgd => glob_Fits _ _ (by omega) (by omega)) ?_
          refine AO.gx ?_
          refine AO.gx ?_
          refine AO.gx ?_
          refine AO.gx ?_
          refine AO.c ?_
          refine AO.c ?_
          refine AO.gx ?_
          refine AO.gxcall1 Try.func36 rfl rfl (fun hgd => glob_Fits _ _ (by omega) (by omega)) ?_
          refine AO.gx ?_
          refine AO.gx ?_
          refine AO.gx ?_
          refine AO.c ?_
          refine AO.c ?_
          refine AO.nil ?_
          refine SQ.normal ?_
          refine AW.ret ?_
          have q1 : fitsS ⟨#[42]⟩ s = true := fitsS_iff.2 (fit_any _)
          have q2 : fitsS ⟨#[63]⟩ s = decide ((s.size : Int) = 1) := by
            rw [Bool.eq_iff_iff, fitsS_iff, decide_eq_true_eq]
            show Fit [63] _ ↔ _
            rw [fit_quest, dl_len]; omega
          have q3 : fitsS ⟨#[]⟩ s = decide (s.toList = (ByteArray.mk #[]).toList) := by
            rw [Bool.eq_iff_iff, fitsS_iff, decide_eq_true_eq, ByteArray.toList_eq, ByteArray.toList_eq]
            exact fit_nil
          refine Fin.ret (Gh.refl) noid1 ?_
          show AV.v (.bool _) = AV.v (.bool true)
          rw [q1, q2, q3]
          simp

theorem args_GlobTells {avs : List AV} (h : TArgs Try.prog [9, 9, 45] avs) : A0 Try.prog 7 avs (fun ret => ret = .v (.bool true)) := by
  obtain ⟨av1, b1, rfl, k1, h1⟩ := TArgs.inv_one rfl h
  obtain ⟨av2, b2, rfl, k2, h2⟩ := TArgs.inv_one rfl h1
  obtain ⟨av3, b3, rfl, k3, h3⟩ := TArgs.inv_one rfl h2
  obtain rfl := TArgs.inv_nil h3
  obtain ⟨p, he1, w1⟩ := k1.inv_str
  cases he1
  obtain ⟨s, he2, w2⟩ := k2.inv_str
  cases he2
  obtain ⟨l, he3, w3, q3⟩ := k3.inv_strs (e := 9)
  cases he3
  exact glob_Tells p s l w1 w2 w3 q3
theorem args_GlobParts {avs : List AV} (h : TArgs Try.prog [9, 9, 9, 9] avs) : A0 Try.prog 8 avs (fun ret => ret = .v (.bool true)) := by
  obtain ⟨av1, b1, rfl, k1, h1⟩ := TArgs.inv_one rfl h
  obtain ⟨av2, b2, rfl, k2, h2⟩ := TArgs.inv_one rfl h1
  obtain ⟨av3, b3, rfl, k3, h3⟩ := TArgs.inv_one rfl h2
  obtain ⟨av4, b4, rfl, k4, h4⟩ := TArgs.inv_one rfl h3
  obtain rfl := TArgs.inv_nil h4
  obtain ⟨p, he1, w1⟩ := k1.inv_str
  cases he1
  obtain ⟨q, he2, w2⟩ := k2.inv_str
  cases he2
  obtain ⟨s, he3, w3⟩ := k3.inv_str
  cases he3
  obtain ⟨t, he4, w4⟩ := k4.inv_str
  cases he4
  exact glob_Parts p q s t w1 w2 w3 w4


end Go.Proofs.Ytbaibjhkmajplaa.AL
