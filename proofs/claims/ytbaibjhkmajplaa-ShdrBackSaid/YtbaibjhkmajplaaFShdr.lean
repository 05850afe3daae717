/- What functions of the program compute, each by its own contract; the conditions stand with each. -/
import Derived.Test.YtbaibjhkmajplaaFSym
import Derived.Test.YtbaibjhkmajplaaAlI
namespace Go.Proofs.Ytbaibjhkmajplaa.AL
open Go Go.RowKit Go.Proofs.Ytbaibjhkmajplaa.Base
set_option linter.unusedVariables false
set_option linter.unusedSimpArgs false
set_option maxRecDepth 4000
set_option synthInstance.maxSize 1000

structure ShD where
  (a0 a1 a2 a3 a4 a5 a6 a7 a8 a9 : Int)
  deriving Inhabited, DecidableEq
@[reducible] def shA (h : ShD) : List AV := [.v (.int .i64 h.a0), .v (.int .i64 h.a1), .v (.int .i64 h.a2), .v (.int .i64 h.a3), .v (.int .i64 h.a4), .v (.int .i64 h.a5), .v (.int .i64 h.a6), .v (.int .i64 h.a7), .v (.int .i64 h.a8), .v (.int .i64 h.a9)]
def ShD.list (h : ShD) : List Int := [h.a0, h.a1, h.a2, h.a3, h.a4, h.a5, h.a6, h.a7, h.a8, h.a9]
def ShD.ok (h : ShD) : Prop := ∀ x ∈ h.list, I64 x
def ShD.may (h : ShD) : Prop := ∀ x ∈ h.list, 0 ≤ x ∧ x ≤ 2147483647
instance (h : ShD) : Decidable h.may := by unfold ShD.may; infer_instance
def zeroSh : ShD := ⟨0, 0, 0, 0, 0, 0, 0, 0, 0, 0⟩
def shOf (b : List Int) (a : Int) : ShD := ⟨numAt b a 4, numAt b (a + 4) 4, numAt b (a + 8) 8, numAt b (a + 16) 8, numAt b (a + 24) 8, numAt b (a + 32) 8, numAt b (a + 40) 4, numAt b (a + 44) 4, numAt b (a + 48) 8, numAt b (a + 56) 8⟩
def ShOk (b : List Int) (a : Int) : Prop := 0 ≤ a ∧ a + 64 ≤ b.length ∧ (shOf b a).may
instance (b : List Int) (a : Int) : Decidable (ShOk b a) := by unfold ShOk; infer_instance
def shw (t : Int) : Int := if t < 2 ∨ t = 6 ∨ t = 7 then 4 else 8
def offL : List Int := [0, 4, 8, 16, 24, 32, 40, 44, 48, 56, 64]
def ShW : List Nat := [4, 4, 8, 8, 8, 8, 4, 4, 8, 8]
def ShD.bytes (h : ShD) : List Int := joinW ShW h.list
theorem hasB_in64 {b : List Int} {a : Int} (h0 : 0 ≤ a) (h1 : a + 64 ≤ b.length) (o n : Int) (ho : 0 ≤ o) (hon : o + n ≤ 64) (hw : Wide n) : HasB b (a + o) n := ⟨hw, by omega, by omega⟩
theorem ten {i : Nat} (h : i < 10) : i = 0 ∨ i = 1 ∨ i = 2 ∨ i = 3 ∨ i = 4 ∨ i = 5 ∨ i = 6 ∨ i = 7 ∨ i = 8 ∨ i = 9 := by omega
theorem off_step {i : Nat} (h : i < 10) : offL.getD (i + 1) 0 = offL.getD i 0 + shw i ∧ 0 ≤ offL.getD i 0 ∧ offL.getD i 0 + shw i ≤ 64 ∧ Wide (shw i) := by
  rcases ten h with rfl | rfl | rfl | rfl | rfl | rfl | rfl | rfl | rfl | rfl <;> decide
theorem sh_at (b : List Int) (a : Int) {i : Nat} (h : i < 10) : numAt b (a + offL.getD i 0) (shw i) = (shOf b a).list.getD i 0 := by
  rcases ten h with rfl | rfl | rfl | rfl | rfl | rfl | rfl | rfl | rfl | rfl
  · show numAt b (a + 0) 4 = numAt b a 4
    rw [Int.add_zero]
  all_goals rfl
theorem list_len (h : ShD) : h.list.length = 10 := rfl
theorem may_at {h : ShD} (hm : h.may) {i : Nat} (hi : i < 10) : 0 ≤ h.list.getD i 0 ∧ h.list.getD i 0 ≤ 2147483647 := by
  have : h.list.getD i 0 = h.list[i]'(by rw [list_len]; exact hi) := by rw [List.getD_eq_getElem?_getD, List.getElem?_eq_getElem (by rw [list_len]; exact hi)]; rfl
  rw [this]; exact hm _ (List.getElem_mem _)
theorem may_of {h : ShD} (hm : ∀ i, i < 10 → 0 ≤ h.list.getD i 0 ∧ h.list.getD i 0 ≤ 2147483647) : h.may := by
  intro x hx
  obtain ⟨i, hi, rfl⟩ := List.getElem_of_mem hx
  have := hm i (by rw [list_len] at hi; exact hi)
  rw [List.getD_eq_getElem?_getD, List.getElem?_eq_getElem hi] at this
  exact this
theorem set_step {l z : List Int} {i : Nat} (hl : l.length = 10) (hz : z.length = 10) (hi : i < 10) : (l.take i ++ z.drop i).set i (l.getD i 0) = l.take (i + 1) ++ z.drop (i + 1) := by
  have hlt : i < l.length := by omega
  have hzt : i < z.length := by omega
  rw [List.set_append_right _ _ (by rw [List.length_take]; omega), List.length_take, Nat.min_eq_left (by omega), Nat.sub_self, List.drop_eq_getElem_cons hzt, List.set_cons_zero, List.take_succ_eq_append_getElem hlt, List.append_assoc]
  congr 1
  rw [List.getD_eq_getElem?_getD, List.getElem?_eq_getElem hlt]; rfl

theorem shdr_width (t : Int) : A0 Try.prog 93 [.v (.int .i64 (t))] (fun ret => ret = .v (.int .i64 (shw t))) := by
  refine A0.body 13 Try.func93 rfl rfl Try.ntmps93 fun base n0 => ?_
  refine AW.seq' ?_
  refine AW.region ?_
  refine AO.c ?_
  refine AO.nil ?_
  refine SQ.normal ?_
  refine AW.seq' ?_
  refine AW.seq' ?_
  refine AW.region ?_
  refine AO.c ?_
  refine AO.c ?_
  refine AO.c ?_
  refine AO.gx ?_
  refine AO.gx ?_
  refine AO.c ?_
  refine AO.c ?_
  refine AO.gx ?_
  refine AO.gx ?_
  refine AO.c ?_
  refine AO.nil ?_
  refine SQ.normal ?_
  refine AW.iteB (GL.ev _) (fun h0 => ?_) (fun h0 => ?_)
  · skip
    try simp only [Bool.and_eq_true, Bool.or_eq_true, Bool.not_eq_true', Bool.and_eq_false_iff, Bool.or_eq_false_iff, decide_eq_true_eq, decide_eq_false_iff_not, bys_length] at h0
    refine AW.seq' ?_
    refine AW.region ?_
    refine AO.c ?_
    refine AO.nil ?_
    refine SQ.normal ?_
    refine AW.ret ?_
    refine SQ.ret ?_
    refine Fin.ret (Gh.refl) noid1 ?_
    show AV.v _ = AV.v _
    congr 2
    unfold shw
    rw [if_pos (by omega)]
  · skip
    try simp only [Bool.and_eq_true, Bool.or_eq_true, Bool.not_eq_true', Bool.and_eq_false_iff, Bool.or_eq_false_iff, decide_eq_true_eq, decide_eq_false_iff_not, bys_length] at h0
    refine AW.skip ?_
    refine SQ.normal ?_
    refine AW.seq' ?_
    refine AW.region ?_
    refine AO.c ?_
    refine AO.nil ?_
    refine SQ.normal ?_
    refine AW.ret ?_
    refine Fin.ret (Gh.refl) noid1 ?_
    show AV.v _ = AV.v _
    congr 2
    unfold shw
    rw [if_neg (by omega)]
theorem shdr_fields (n k : Nat) (L : List (Option AB)) (cs : List AV) [gb : GB L k (.box 81 cs)] : AC Try.prog 92 (Hn n L) [.box (n + k) 0] (fun r H' => r = .rd 1 ((List.range 10).map fun i => [AV.box (n + k) i]) ∧ H' = Hn n L) := by
  refine AC.body 34 Try.func92 rfl rfl Try.ntmps92 fun base => ?_
  refine AW.seq' ?_
  refine AW.region ?_
  refine AO.c ?_
  refine AO.nil ?_
  refine SQ.normal ?_
  refine AW.seq' ?_
  refine AW.drawsZ [] (.one 0 false (.one 1 false (.one 2 false (.one 3 false (.one 4 false (.one 5 false (.one 6 false (.one 7 false (.one 8 false (.one 9 false (.one 10 false (.one 11 false (.one 12 false (.one 13 false (.one 14 false (.one 15 false (.one 16 false (.one 17 false (.one 18 false (.one 19 false (.one 20 false (.one 21 false (.one 22 false (.one 23 false (.one 24 false (.one 25 false (.one 26 false (.one 27 false (.one 28 false (.one 29 false (.one 30 true (.one 31 false .nil)))))))))))))))))))))))))))))))) (by kernel_rfl) rfl (by kernel_rfl) ?_
  refine AZ.c rfl ?_
  refine AZ.c rfl ?_
  refine AZ.c rfl ?_
  refine AZ.c rfl ?_
  refine AZ.c rfl ?_
  refine AZ.c rfl ?_
  refine AZ.c rfl ?_
  refine AZ.c rfl ?_
  refine AZ.c rfl ?_
  refine AZ.c rfl ?_
  refine AZ.c rfl ?_
  refine AZ.c rfl ?_
  refine AZ.c rfl ?_
  refine AZ.c rfl ?_
  refine AZ.c rfl ?_
  refine AZ.c rfl ?_
  refine AZ.c rfl ?_
  refine AZ.c rfl ?_
  refine AZ.c rfl ?_
  refine AZ.c rfl ?_
  refine AZ.c rfl ?_
  refine AZ.c rfl ?_
  refine AZ.c rfl ?_
  refine AZ.c rfl ?_
  refine AZ.c rfl ?_
  refine AZ.c rfl ?_
  refine AZ.c rfl ?_
  refine AZ.c rfl ?_
  refine AZ.c rfl ?_
  refine AZ.c rfl ?_
  refine AZ.rr rfl ?_
  refine AZ.c rfl ?_
  refine AZ.done ?_
  refine SQ.normal ?_
  refine AW.ret ?_
  exact FinC.ret Gh.refl ⟨rfl, rfl⟩ (.inr rfl)
set_option maxHeartbeats 4000000 in
theorem shdr_Get (b : List Int) (a : Int) (hB : Bytes b) (hb : b.length ≤ 1000000000000) (ha : I64 a) : A0 Try.prog 63 [.rd 1 (bys b), .v (.int .i64 (a))] (fun ret => ret = .tup [.agg (shA (if ShOk b a then shOf b a else zeroSh)), .v (.bool (decide (ShOk b a)))]) := by
  have ha0 := ha
  unfold I64 at ha
  have hl10 : (List.range 10).length = 10 := rfl
  refine A0.body 53 Try.func63 rfl rfl Try.ntmps63 fun base n0 => ?_
  refine AW.seq' ?_
  refine AW.region ?_
  refine AO.ww ?_
  refine AO.c ?_
  refine AO.nil ?_
  refine SQ.normal ?_
  refine AW.seq' ?_
  refine AW.region ?_
  refine AO.ww ?_
  refine AO.nil ?_
  refine SQ.normal ?_
  refine AW.seq' ?_
  refine AW.seq' ?_
  refine AW.region ?_
  refine AO.c ?_
  refine AO.c ?_
  refine AO.c ?_
  refine AO.gx ?_
  refine AO.gx ?_
  refine AO.gx ?_
  refine AO.gxoo ?_
  refine AO.gx ?_
  refine AO.c ?_
  refine AO.nil ?_
  refine SQ.normal ?_
  refine AW.iteB (GL.ev _) (fun h0 => ?_) (fun h0 => ?_)
  · skip
    simp only [Bool.or_eq_true, decide_eq_true_eq] at h0
    have hno : ¬ ShOk b a := fun h => by unfold ShOk at h; omega
    refine AW.seq' ?_
    refine AW.region ?_
    refine AO.c ?_
    refine AO.sst ?_
    refine AO.c ?_
    refine AO.nil ?_
    refine SQ.normal ?_
    refine AW.ret ?_
    refine SQ.ret ?_
    refine Fin.ret (Gh.refl) noid2 ?_
    show AV.tup _ = AV.tup _
    first | (rw [if_neg hno, decide_eq_false hno]; rfl) | (rw [if_pos hyes, decide_eq_true hyes]; rfl) | (rw [if_pos hyes, decide_eq_true hyes]) | (rw [if_neg hno, decide_eq_false hno])
  · skip
    simp only [Bool.or_eq_false_iff, decide_eq_false_iff_not] at h0
    have ha1 : 0 ≤ a := by omega
    have ha2 : a + 64 ≤ b.length := by omega
    refine AW.skip ?_
    refine SQ.normal ?_
    refine AW.seq' ?_
    refine AW.seq' ?_
    refine AW.region ?_
    refine AO.callC Try.func92 rfl rfl (shdr_fields n0 1 _ _) ?_
    refine AO.c ?_
    refine AO.c ?_
    refine AO.nil ?_
    refine SQ.normal ?_
    refine AW.block' ?_
    refine AW.loopU [.k, .k, .f, .f, .k, .f, .k, .F, .f, .f, .f, .f, .f, .f, .k, .k, .k, .F, .F, .F, .f, .f, .f, .f, .f] (fun (i : Nat) => [(1, .v (.int .i64 (a + offL.getD i 0))), (23, .v (.int .i64 (i)))]) (fun i => Hn n0 [some (.box 81 (shA zeroSh)), some (.box 81 (((shOf b a).list.take i ++ zeroSh.list.drop i).map iV))]) (fun m i => i ≤ 10 ∧ m = 10 - i ∧ ∀ k, k < i → 0 ≤ (shOf b a).list.getD k 0 ∧ (shOf b a).list.getD k 0 ≤ 2147483647) (10) (0) ⟨by omega, by omega, fun k hk => by omega⟩ (by simp [offL]) (by first | rfl | (simp; done)) ?_
    rintro m0 i ⟨hx1, hx2, hx3⟩
    refine AW.seq' ?_
    refine AW.region ?_
    refine AO.c ?_
    refine AO.nil ?_
    refine SQ.normal ?_
    refine AW.seq' ?_
    refine AW.iteB (GL.ev _) (fun h1 => ?_) (fun h1 => ?_)
    · skip
      rw [decide_eq_true_eq] at h1
      have hi : i < 10 := by omega
      obtain ⟨o1, o2, o3, o4⟩ := off_step hi
      have hk : HasB b (a + offL.getD i 0) (shw i) := ⟨o4, by omega, by omega⟩
      have hr := numAt_range hB (a + offL.getD i 0) (shw i)
      have hsa := sh_at b a hi
      have o5 : 0 ≤ shw (i : Int) := by unfold shw; split <;> omega
      have hli : ((shOf b a).list.take i ++ zeroSh.list.drop i).length = 10 := by rw [List.length_append, List.length_take, List.length_drop, list_len, list_len]; omega
      refine AW.skip ?_
      refine SQ.normal ?_
      refine AW.seq' ?_
      refine AW.block' ?_
      refine AW.seq' ?_
      refine AW.region ?_
      refine AO.c ?_
      refine AO.oo ?_
      refine AO.c ?_
      refine AO.eq 27 (av' := .box (n0 + 1) i) (by simp [List.getD_eq_getElem?_getD, hi]) ?_
      refine AO.c ?_
      refine AO.c ?_
      refine AO.nil ?_
      refine SQ.normal ?_
      refine AW.seq' ?_
      refine AW.region ?_
      refine AO.c ?_
      refine AO.c ?_
      refine AO.c ?_
      refine AO.call1 Try.func93 rfl rfl (shdr_width _) ?_
      refine AO.call1 Try.func29 rfl rfl (le_GetT b (a + offL.getD i 0) (shw i) hB (by omega) hk) ?_
      refine AO.c ?_
      refine AO.c ?_
      refine AO.c ?_
      refine AO.c ?_
      refine AO.c ?_
      refine AO.nil ?_
      refine SQ.normal ?_
      refine AW.seq' ?_
      refine AW.seq' ?_
      refine AW.region ?_
      refine AO.c ?_
      refine AO.c ?_
      refine AO.c ?_
      refine AO.gx ?_
      refine AO.gx ?_
      refine AO.c ?_
      refine AO.nil ?_
      refine SQ.normal ?_
      refine AW.iteB (GL.ev _) (fun h2 => ?_) (fun h2 => ?_)
      · skip
        simp only [Bool.not_true, Bool.false_or, decide_eq_true_eq] at h2
        have hno : ¬ ShOk b a := fun h => by have := (may_at h.2.2 hi).2; omega
        refine AW.seq' ?_
        refine AW.region ?_
        refine AO.c ?_
        refine AO.sst ?_
        refine AO.c ?_
        refine AO.nil ?_
        refine SQ.normal ?_
        refine AW.ret ?_
        refine SQ.ret <| BQ.ret <| SQ.ret <| AW.out <| LU.ret <| BQ.ret <| SQ.ret ?_
        refine Fin.ret (Gh.refl) noid2 ?_
        show AV.tup _ = AV.tup _
        first | (rw [if_neg hno, decide_eq_false hno]; rfl) | (rw [if_pos hyes, decide_eq_true hyes]; rfl) | (rw [if_pos hyes, decide_eq_true hyes]) | (rw [if_neg hno, decide_eq_false hno])
      · skip
        simp only [Bool.not_true, Bool.false_or, decide_eq_false_iff_not] at h2
        refine AW.skip ?_
        refine SQ.normal ?_
        refine AW.seq' ?_
        refine AW.region ?_
        refine AO.c ?_
        refine AO.c ?_
        refine AO.oo ?_
        refine AO.c ?_
        refine AO.sst ?_
        refine AO.nil ?_
        refine SQ.normal ?_
        refine AW.region ?_
        refine AO.c ?_
        refine AO.c ?_
        refine AO.call1 Try.func93 rfl rfl (shdr_width _) ?_
        refine AO.o (by omega) ?_
        refine AO.c ?_
        refine AO.nil ?_
        refine BQ.normal ?_
        refine SQ.normal ?_
        refine AW.region ?_
        refine AO.oo ?_
        refine AO.c ?_
        refine AO.nil ?_
        exact AW.backU [.k, .k, .f, .f, .k, .f, .k, .F, .f, .f, .f, .f, .f, .f, .k, .k, .k, .F, .F, .F, .f, .f, .f, .f, .f] (m0 - 1) (i + 1) (by omega) (by (try dsimp only); exact ⟨by omega, by omega, fun k hk => by rcases Nat.lt_succ_iff_lt_or_eq.1 hk with h | rfl; exact hx3 k h; rw [← hsa]; omega⟩) (by (try dsimp only); rw [o1, ← Int.add_assoc] <;> rfl) (by rw [hsa, set_step rfl rfl hi])
    · skip
      rw [decide_eq_false_iff_not] at h1
      have hi : i = 10 := by omega
      subst hi
      have hyes : ShOk b a := ⟨ha1, ha2, may_of hx3⟩
      refine AW.eqH (H' := Hn n0 [some (.box 81 (shA zeroSh)), some (.box 81 (shA (shOf b a)))]) rfl ?_
      refine AW.exit ?_
      refine SQ.exit <| AW.out <| LU.exit <| BQ.exit ?_
      refine SQ.normal ?_
      refine AW.seq' ?_
      refine AW.region ?_
      refine AO.c ?_
      refine AO.sst ?_
      refine AO.c ?_
      refine AO.nil ?_
      refine SQ.normal ?_
      refine AW.ret ?_
      refine Fin.ret (Gh.refl) noid2 ?_
      show AV.tup _ = AV.tup _
      first | (rw [if_neg hno, decide_eq_false hno]; rfl) | (rw [if_pos hyes, decide_eq_true hyes]; rfl) | (rw [if_pos hyes, decide_eq_true hyes]) | (rw [if_neg hno, decide_eq_false hno])

theorem bytes_len (h : ShD) : h.bytes.length = 64 := joinW_length _ _ rfl
theorem sh_split {b : List Int} {a : Int} (h0 : 0 ≤ a) : splitW ShW (b.drop a.toNat) = (shOf b a).list := by
  have e4 : (a + 4).toNat = a.toNat + 4 := by omega
  have e8 : (a + 8).toNat = a.toNat + 4 + 4 := by omega
  have e16 : (a + 16).toNat = a.toNat + 4 + 4 + 8 := by omega
  have e24 : (a + 24).toNat = a.toNat + 4 + 4 + 8 + 8 := by omega
  have e32 : (a + 32).toNat = a.toNat + 4 + 4 + 8 + 8 + 8 := by omega
  have e40 : (a + 40).toNat = a.toNat + 4 + 4 + 8 + 8 + 8 + 8 := by omega
  have e44 : (a + 44).toNat = a.toNat + 4 + 4 + 8 + 8 + 8 + 8 + 4 := by omega
  have e48 : (a + 48).toNat = a.toNat + 4 + 4 + 8 + 8 + 8 + 8 + 4 + 4 := by omega
  have e56 : (a + 56).toNat = a.toNat + 4 + 4 + 8 + 8 + 8 + 8 + 4 + 4 + 8 := by omega
  simp only [ShW, splitW, List.drop_drop, ShD.list, shOf, numAt, e4, e8, e16, e24, e32, e40, e44, e48, e56]
  rfl
theorem sh_back {b : List Int} {a : Int} (hB : Bytes b) (h : ShOk b a) : (shOf b a).bytes = (b.take (a + 64).toNat).drop a.toNat := by
  obtain ⟨h0, h1, h2⟩ := h
  have hj := join_split ShW (b.drop a.toNat) (hB.drop _) (by simp [ShW]; omega)
  rw [sh_split h0] at hj
  rw [show (a + 64).toNat = a.toNat + 64 by omega, List.drop_take, Nat.add_sub_cancel_left]
  exact hj
theorem list_inj {x y : ShD} (h : x.list = y.list) : x = y := by
  cases x; cases y
  simp only [ShD.list, List.cons.injEq, and_true] at h
  simp only [ShD.mk.injEq]
  exact h
theorem sh_zip {h : ShD} (hm : h.may) : ∀ p ∈ ShW.zip h.list, 0 ≤ p.2 ∧ p.2 < 256 ^ p.1 := by
  intro p hp
  have h2 := hm p.2 (List.of_mem_zip (a := p.1) (b := p.2) hp).2
  have h1 := (List.of_mem_zip (a := p.1) (b := p.2) hp).1
  have h3 : (256 : Int) ^ 4 ≤ 256 ^ p.1 := pow_le_pow (by simp [ShW] at h1; omega)
  have h4 : (256 : Int) ^ 4 = 4294967296 := by decide
  omega
theorem sh_forth (b c : List Int) {h : ShD} (hm : h.may) : ShOk (b ++ h.bytes ++ c) (b.length : Int) ∧ shOf (b ++ h.bytes ++ c) (b.length : Int) = h := by
  have hl : (b.length : Int) + 64 ≤ ((b ++ h.bytes ++ c).length : Nat) := by rw [List.length_append, List.length_append, bytes_len]; omega
  have hs := sh_split (b := b ++ h.bytes ++ c) (a := (b.length : Int)) (by omega)
  have hj := split_join ShW h.list c rfl (sh_zip hm)
  rw [List.append_assoc, Int.toNat_natCast, List.drop_left, show h.bytes = joinW ShW h.list from rfl, hj] at hs
  have he : shOf (b ++ h.bytes ++ c) (b.length : Int) = h := by
    rw [List.append_assoc]; exact (list_inj hs).symm
  exact ⟨⟨by omega, hl, by rw [he]; exact hm⟩, he⟩


def digsW : List Nat → List Int → List Int := joinW
theorem joinW_snoc : ∀ (ws : List Nat) (vs : List Int) (i : Nat), i < ws.length → ws.length = vs.length → joinW (ws.take (i + 1)) (vs.take (i + 1)) = joinW (ws.take i) (vs.take i) ++ dig (vs.getD i 0) (ws.getD i 0) := by
  intro ws
  induction ws with
  | nil => intro vs i h; simp at h
  | cons w ws ih =>
    intro vs i h hl
    cases vs with
    | nil => simp at hl
    | cons v vs =>
      cases i with
      | zero => simp [joinW]
      | succ i =>
        have := ih vs i (by simpa using h) (by simpa using hl)
        simp only [List.take_succ_cons, joinW, List.getD_cons_succ, this, List.append_assoc]
theorem shw_nat {i : Nat} (h : i < 10) : (shw i).toNat = ShW.getD i 0 := by
  rcases ten h with rfl | rfl | rfl | rfl | rfl | rfl | rfl | rfl | rfl | rfl <;> decide

set_option maxHeartbeats 4000000 in
theorem shdr_Put (h : ShD) (hh : h.ok) : A0 Try.prog 66 [.agg (shA h)] (fun ret => ret = .rd 1 (bys (if h.may then h.bytes else []))) := by
  have hl10 : (List.range 10).length = 10 := rfl
  refine A0.body 34 Try.func66 rfl rfl Try.ntmps66 fun base n0 => ?_
  refine AW.seq' ?_
  refine AW.region ?_
  refine AO.ww ?_
  refine AO.c ?_
  refine AO.nil ?_
  refine SQ.normal ?_
  refine AW.seq' ?_
  refine AW.region ?_
  refine AO.c ?_
  refine AO.nil ?_
  refine SQ.normal ?_
  refine AW.seq' ?_
  refine AW.seq' ?_
  refine AW.region ?_
  refine AO.callC Try.func92 rfl rfl (shdr_fields n0 0 _ _) ?_
  refine AO.c ?_
  refine AO.c ?_
  refine AO.nil ?_
  refine SQ.normal ?_
  refine AW.block' ?_
  refine AW.ghost (Gh.adoptB 3 5) ?_
  refine AW.eqH (H' := Hn n0 [some (.box 81 (h.list.map iV)), some (.row 5 1 0 (bys []))]) rfl ?_
  refine AW.loopU3 [.f, .f, .f, .k, .f, .f, .k, .k, .k, .F, .F, .F, .f] (fun (i ep : Nat) (out : List Int) => [(3, .own (n0 + 1) ep 0 out.length), (8, .v (.int .i64 (i)))]) (fun i ep out => Hn n0 [some (.box 81 (h.list.map iV)), some (.row 5 1 ep (bys out))]) (fun m i ep out => i ≤ 10 ∧ m = 10 - i ∧ (∀ k, k < i → 0 ≤ h.list.getD k 0 ∧ h.list.getD k 0 ≤ 2147483647) ∧ out.length ≤ 8 * i ∧ out = joinW (ShW.take i) (h.list.take i)) (10) (0) (0) ([]) ⟨by omega, by omega, fun k hk => by omega, by simp, rfl⟩ (by first | rfl | (simp; done)) (by first | rfl | (simp; done)) ?_
  rintro m0 i ep out ⟨hx1, hx2, hx3, hx4, hx5⟩
  refine AW.seq' ?_
  refine AW.region ?_
  refine AO.c ?_
  refine AO.nil ?_
  refine SQ.normal ?_
  refine AW.seq' ?_
  refine AW.iteB (GL.ev _) (fun h0 => ?_) (fun h0 => ?_)
  · skip
    rw [decide_eq_true_eq] at h0
    have hi : i < 10 := by omega
    obtain ⟨o1, o2, o3, o4⟩ := off_step hi
    have hil : i < h.list.length := hi
    have hok : I64 (h.list.getD i 0) := by
      have : h.list.getD i 0 = h.list[i] := by rw [List.getD_eq_getElem?_getD, List.getElem?_eq_getElem hil]; rfl
      rw [this]; exact hh _ (List.getElem_mem _)
    have hpl := put8_len (h.list.getD i 0) (shw i)
    have o5 : 0 ≤ shw (i : Int) := by unfold shw; split <;> omega
    refine AW.skip ?_
    refine SQ.normal ?_
    refine AW.seq' ?_
    refine AW.block' ?_
    refine AW.seq' ?_
    refine AW.region ?_
    refine AO.c ?_
    refine AO.oo ?_
    refine AO.c ?_
    refine AO.eq 12 (av' := .box (n0 + 0) i) (by simp [List.getD_eq_getElem?_getD, hi]) ?_
    refine AO.c ?_
    refine AO.c ?_
    refine AO.nil ?_
    refine SQ.normal ?_
    refine AW.seq' ?_
    refine AW.seq' ?_
    refine AW.region ?_
    refine AO.c ?_
    refine AO.c ?_
    refine AO.oo ?_
    refine AO.c ?_
    refine AO.c ?_
    refine AO.gx ?_
    refine AO.gx ?_
    refine AO.gxoo ?_
    refine AO.gx ?_
    refine AO.c ?_
    refine AO.nil ?_
    refine SQ.normal ?_
    refine AW.iteB (GL.ev _) (fun h1 => ?_) (fun h1 => ?_)
    · skip
      simp only [Bool.or_eq_true, decide_eq_true_eq] at h1
      have hno : ¬ h.may := fun hm => by have := may_at hm hi; omega
      refine AW.seq' ?_
      refine AW.region ?_
      refine AO.c ?_
      refine AO.nil ?_
      refine SQ.normal ?_
      refine AW.ret ?_
      refine SQ.ret <| BQ.ret <| SQ.ret <| AW.out <| LU.ret <| BQ.ret <| SQ.ret ?_
      refine Fin.ret (Gh.nilB 2) noid1 ?_
      rw [if_neg hno]; rfl
    · skip
      simp only [Bool.or_eq_false_iff, decide_eq_false_iff_not] at h1
      refine AW.skip ?_
      refine SQ.normal ?_
      refine AW.drawsZ [8] (.one 0 false (.one 1 false (.one 2 false (.one 3 false (.one 4 false (.one 5 false (.one 6 true (.one 7 true (.one 8 true (.one 9 false .nil)))))))))) (by kernel_rfl) rfl (by kernel_rfl) ?_
      refine AZ.c rfl ?_
      refine AZ.c rfl ?_
      refine AZ.c rfl ?_
      refine AZ.oo rfl ?_
      refine AZ.oo rfl ?_
      refine AZ.c rfl ?_
      refine AZ.call1 rfl Try.func93 rfl rfl (shdr_width _) ?_
      refine AZ.call1 rfl Try.func33 rfl rfl ((le_PutR (h.list.getD i 0) (shw i) (by omega) (by omega)).a0 (by rw [bys_length]; exact Nat.le_trans (put8_len _ _) (by decide))) ?_
      refine AZ.ww rfl rfl ?_
      refine AZ.c rfl ?_
      refine AZ.done ?_
      refine BQ.normal ?_
      refine SQ.normal ?_
      refine AW.region ?_
      refine AO.oo ?_
      refine AO.c ?_
      refine AO.nil ?_
      exact AW.backU [.f, .f, .f, .k, .f, .f, .k, .k, .k, .F, .F, .F, .f] (m0 - 1) (i + 1, ep + 1, out ++ (if Wide (shw i) then dig (h.list.getD i 0) (shw i).toNat else [])) (by omega) (by (try dsimp only); exact ⟨by omega, by omega, fun k hk => by rcases Nat.lt_succ_iff_lt_or_eq.1 hk with q | rfl; exact hx3 k q; omega, by rw [List.length_append]; omega, by rw [if_pos o4, joinW_snoc ShW h.list i hi rfl, shw_nat hi, ← hx5]⟩) (by (try dsimp only); rw [List.length_append] <;> rfl) (rfl)
  · skip
    rw [decide_eq_false_iff_not] at h0
    have hi : i = 10 := by omega
    subst hi
    have hyes : h.may := may_of hx3
    refine AW.exit ?_
    refine SQ.exit <| AW.out <| LU.exit <| BQ.exit ?_
    refine SQ.normal ?_
    refine AW.seq' ?_
    refine AW.region ?_
    refine AO.c ?_
    refine AO.c ?_
    refine AO.nil ?_
    refine SQ.normal ?_
    refine AW.ret ?_
    refine Fin.ret (Gh.freezeE 2 (li' := h.bytes) hx5 (by rw [← show out = h.bytes from hx5]) (by rw [bytes_len]; decide)) noid1 ?_
    rw [if_pos hyes]; rfl
theorem like05 (h : ShD) : A0 Try.prog 65 [.agg (shA h)] (fun ret => ret = .agg (shA h)) := by
  refine A0.body 24 Try.func65 rfl rfl Try.ntmps65 fun base n0 => ?_
  refine AW.seq' ?_
  refine AW.region ?_
  refine AO.ww ?_
  refine AO.ww ?_
  refine AO.nil ?_
  refine SQ.normal ?_
  refine AW.seq' ?_
  refine AW.region ?_
  refine AO.c ?_
  refine AO.c ?_
  refine AO.c ?_
  refine AO.c ?_
  refine AO.c ?_
  refine AO.c ?_
  refine AO.c ?_
  refine AO.c ?_
  refine AO.c ?_
  refine AO.c ?_
  refine AO.c ?_
  refine AO.c ?_
  refine AO.c ?_
  refine AO.c ?_
  refine AO.c ?_
  refine AO.c ?_
  refine AO.c ?_
  refine AO.c ?_
  refine AO.c ?_
  refine AO.c ?_
  refine AO.c ?_
  refine AO.sst ?_
  refine AO.nil ?_
  refine SQ.normal ?_
  refine AW.ret ?_
  refine Fin.ret (Gh.refl) noid1 ?_
  rfl

/-- The document's numbers: too large ones are -1. -/
def numS (b : List Int) (a : Int) : ShD := ⟨capN (numAt b a 4), capN (numAt b (a + 4) 4), capN (numAt b (a + 8) 8), capN (numAt b (a + 16) 8), capN (numAt b (a + 24) 8), capN (numAt b (a + 32) 8), capN (numAt b (a + 40) 4), capN (numAt b (a + 44) 4), capN (numAt b (a + 48) 8), capN (numAt b (a + 56) 8)⟩
theorem numS_list (b : List Int) (a : Int) : (numS b a).list = (shOf b a).list.map capN := rfl
theorem shOf_nn {b : List Int} (hB : Bytes b) (a : Int) : ∀ x ∈ (shOf b a).list, 0 ≤ x := by
  intro x hx
  simp only [ShD.list, shOf, List.mem_cons, List.not_mem_nil, or_false] at hx
  rcases hx with rfl | rfl | rfl | rfl | rfl | rfl | rfl | rfl | rfl | rfl <;> exact (numAt_range hB _ _).1
theorem numS_may {b : List Int} (hB : Bytes b) (a : Int) : (numS b a).may ↔ (shOf b a).may := by
  unfold ShD.may
  rw [numS_list]
  simp only [List.mem_map, forall_exists_index, and_imp, forall_apply_eq_imp_iff₂]
  constructor
  · intro h x hx; exact (capN_fit (shOf_nn hB a x hx) 2147483647 (by omega)).1 (h x hx)
  · intro h x hx; exact (capN_fit (shOf_nn hB a x hx) 2147483647 (by omega)).2 (h x hx)
theorem numS_same {b : List Int} {a : Int} (h : (shOf b a).may) : numS b a = shOf b a := by
  refine list_inj ?_
  rw [numS_list]
  refine (List.map_congr_left fun x hx => ?_).trans (List.map_id _)
  have := h x hx
  unfold capN
  rw [if_neg (by omega)]; rfl
theorem numS_ok {b : List Int} (hB : Bytes b) (a : Int) : (numS b a).ok := by
  intro x hx
  rw [numS_list, List.mem_map] at hx
  obtain ⟨y, hy, rfl⟩ := hx
  exact capN_64 _ (shOf_nn hB a y hy)
@[reducible] def numLS (h : ShD) : List Int := [h.a0, 4, h.a1, 4, h.a2, 8, h.a3, 8, h.a4, 8, h.a5, 8, h.a6, 4, h.a7, 4, h.a8, 8, h.a9, 8]
theorem nums_sh {h : ShD} (hm : h.may) : numsF (numLS h) = h.bytes := by
  have hm' : ∀ x, x ∈ h.list → IntKind.u64.wrap x = x := fun x hx => wu64n (hm x hx).1 (hm x hx).2
  simp only [numLS, numsF]
  rw [if_pos (by decide), if_pos (by decide), if_pos (by decide), if_pos (by decide), if_pos (by decide), if_pos (by decide), if_pos (by decide), if_pos (by decide), if_pos (by decide), if_pos (by decide)]
  rw [hm' h.a0 (by simp [ShD.list]), hm' h.a1 (by simp [ShD.list]), hm' h.a2 (by simp [ShD.list]), hm' h.a3 (by simp [ShD.list]), hm' h.a4 (by simp [ShD.list]), hm' h.a5 (by simp [ShD.list]), hm' h.a6 (by simp [ShD.list]), hm' h.a7 (by simp [ShD.list]), hm' h.a8 (by simp [ShD.list]), hm' h.a9 (by simp [ShD.list])]
  rfl
theorem numLS_64 {h : ShD} (hh : h.ok) : ∀ x ∈ numLS h, I64 x := by
  have q : ∀ x, x ∈ h.list → I64 x := hh
  intro x hx
  simp only [numLS, List.mem_cons, List.not_mem_nil, or_false] at hx
  rcases hx with rfl | rfl | rfl | rfl | rfl | rfl | rfl | rfl | rfl | rfl | rfl | rfl | rfl | rfl | rfl | rfl | rfl | rfl | rfl | rfl <;> first | decide | exact q _ (by simp [ShD.list])

theorem ref_MayHead (h : ShD) (hh : h.ok) : A0 Try.prog 94 [.agg (shA h)] (fun ret => ret = .v (.bool (decide h.may))) := by
  have hll : h.list.length = 10 := rfl
  have hdef : ∀ i, h.list.getD i default = h.list.getD i 0 := fun i => rfl
  refine A0.body 40 Try.func94 rfl rfl Try.ntmps94 fun base n0 => ?_
  refine AW.seq' ?_
  refine AW.region ?_
  refine AO.ww ?_
  refine AO.c ?_
  refine AO.nil ?_
  refine SQ.normal ?_
  refine AW.seq' ?_
  refine AW.region ?_
  refine AO.c ?_
  refine AO.c ?_
  refine AO.c ?_
  refine AO.c ?_
  refine AO.c ?_
  refine AO.c ?_
  refine AO.c ?_
  refine AO.c ?_
  refine AO.c ?_
  refine AO.c ?_
  refine AO.c ?_
  refine AO.c ?_
  refine AO.c ?_
  refine AO.c ?_
  refine AO.c ?_
  refine AO.c ?_
  refine AO.c ?_
  refine AO.c ?_
  refine AO.c ?_
  refine AO.c ?_
  refine AO.rr ?_
  refine AO.eq 26 (av' := .rd 1 (h.list.map iA)) rfl ?_
  refine AO.c ?_
  refine AO.nil ?_
  refine SQ.normal ?_
  refine AW.seq' ?_
  refine AW.seq' ?_
  refine AW.region ?_
  refine AO.c ?_
  refine AO.nil ?_
  refine SQ.normal ?_
  refine AW.block' ?_
  refine AW.loopU [.f, .f, .f, .k, .k, .F, .F, .F, .F, .f, .f, .f] (fun (i : Nat) => [(4, .v (.int .i64 (i)))]) (fun i => Hn n0 [some (.box 84 (shA h))]) (fun m i => i ≤ 10 ∧ m = 10 - i ∧ ∀ k, k < i → 0 ≤ h.list.getD k 0 ∧ h.list.getD k 0 ≤ 2147483647) (10) (0) ⟨by omega, by omega, fun k hk => by omega⟩ (by first | rfl | (simp; done)) (by first | rfl | (simp; done)) ?_
  rintro m0 i ⟨hx1, hx2, hx3⟩
  refine AW.seq' ?_
  refine AW.seq' ?_
  refine AW.region ?_
  refine AO.c ?_
  refine AO.c ?_
  refine AO.c ?_
  refine AO.c ?_
  refine AO.nil ?_
  refine SQ.normal ?_
  refine AW.iteB (GL.ev _) (fun h0 => ?_) (fun h0 => ?_)
  · skip
    rw [decide_eq_true_eq] at h0
    have hi : i < 10 := by omega
    have hok : I64 (h.list.getD i default) := by
      have hil : i < h.list.length := hi
      have : h.list.getD i default = h.list[i] := by rw [List.getD_eq_getElem?_getD, List.getElem?_eq_getElem hil]; rfl
      rw [this]; exact hh _ (List.getElem_mem _)
    refine AW.skip ?_
    refine SQ.normal ?_
    refine AW.seq' ?_
    refine AW.block' ?_
    refine AW.seq' ?_
    refine AW.region ?_
    refine AO.c ?_
    refine AO.c ?_
    refine AO.oo ?_
    refine AO.c ?_
    refine AO.call1 Try.func100 rfl rfl (ref_fits (h.list.getD i default) hok) ?_
    refine AO.c ?_
    refine AO.nil ?_
    refine SQ.normal ?_
    refine AW.seq' ?_
    refine AW.region ?_
    refine AO.c ?_
    refine AO.c ?_
    refine AO.nil ?_
    refine SQ.normal ?_
    refine AW.iteB (GL.ev _) (fun h1 => ?_) (fun h1 => ?_)
    · skip
      rw [hdef] at h1
      unfold fitsB at h1
      have hno : ¬ h.may := fun hm => by
        have := may_at hm hi
        simp only [Bool.not_eq_true', Bool.and_eq_false_iff, decide_eq_false_iff_not] at h1
        omega
      refine AW.seq' ?_
      refine AW.region ?_
      refine AO.c ?_
      refine AO.nil ?_
      refine SQ.normal ?_
      refine AW.ret ?_
      refine BQ.ret <| SQ.ret <| AW.out <| LU.ret <| BQ.ret <| SQ.ret ?_
      refine Fin.ret (Gh.refl) noid1 ?_
      rw [decide_eq_false hno]; rfl
    · skip
      rw [hdef] at h1
      unfold fitsB at h1
      simp only [Bool.not_eq_false', Bool.and_eq_true, decide_eq_true_eq] at h1
      refine AW.skip ?_
      refine BQ.normal ?_
      refine SQ.normal ?_
      refine AW.region ?_
      refine AO.c ?_
      refine AO.oo ?_
      refine AO.c ?_
      refine AO.nil ?_
      exact AW.backU [.f, .f, .f, .k, .k, .F, .F, .F, .F, .f, .f, .f] (m0 - 1) (i + 1) (by omega) (by (try dsimp only); exact ⟨by omega, by omega, fun k hk => by rcases Nat.lt_succ_iff_lt_or_eq.1 hk with q | rfl; exact hx3 k q; exact h1⟩) (by first | rfl | (simp; done)) (by first | rfl | (simp; done))
  · skip
    rw [decide_eq_false_iff_not] at h0
    have hyes : h.may := may_of fun k hk => hx3 k (by omega)
    refine AW.exit ?_
    refine SQ.exit <| AW.out <| LU.exit <| BQ.exit ?_
    refine SQ.normal ?_
    refine AW.seq' ?_
    refine AW.region ?_
    refine AO.c ?_
    refine AO.nil ?_
    refine SQ.normal ?_
    refine AW.ret ?_
    refine Fin.ret (Gh.refl) noid1 ?_
    rw [decide_eq_true hyes]; rfl
set_option maxHeartbeats 4000000 in
theorem ref_Section (b : List Int) (a : Int) (hB : Bytes b) (hb : b.length ≤ 1000000000000) (ha : I64 a) : A0 Try.prog 64 [.rd 1 (bys b), .v (.int .i64 (a))] (fun ret => ret = .tup [.agg (shA (if ShOk b a then shOf b a else zeroSh)), .v (.bool (decide (ShOk b a)))]) := by
  have ha0 := ha
  unfold I64 at ha
  refine A0.body 75 Try.func64 rfl rfl Try.ntmps64 fun base n0 => ?_
  refine AW.seq' ?_
  refine AW.region ?_
  refine AO.ww ?_
  refine AO.c ?_
  refine AO.nil ?_
  refine SQ.normal ?_
  refine AW.seq' ?_
  refine AW.seq' ?_
  refine AW.region ?_
  refine AO.c ?_
  refine AO.c ?_
  refine AO.c ?_
  refine AO.gx ?_
  refine AO.gx ?_
  refine AO.gx ?_
  refine AO.gx ?_
  refine AO.c ?_
  refine AO.c ?_
  refine AO.gx ?_
  refine AO.gx ?_
  refine AO.gx ?_
  refine AO.gxoo ?_
  refine AO.gx ?_
  refine AO.c ?_
  refine AO.nil ?_
  refine SQ.normal ?_
  refine AW.iteB (GL.ev _) (fun h0 => ?_) (fun h0 => ?_)
  · skip
    simp only [Bool.or_eq_true, decide_eq_true_eq] at h0
    have hno : ¬ ShOk b a := fun h => by unfold ShOk at h; omega
    refine AW.seq' ?_
    refine AW.region ?_
    refine AO.c ?_
    refine AO.sst ?_
    refine AO.c ?_
    refine AO.nil ?_
    refine SQ.normal ?_
    refine AW.ret ?_
    refine SQ.ret ?_
    refine Fin.ret (Gh.refl) noid2 ?_
    show AV.tup _ = AV.tup _
    rw [if_neg hno, decide_eq_false hno]; rfl
  · skip
    simp only [Bool.or_eq_false_iff, decide_eq_false_iff_not] at h0
    have ha1 : 0 ≤ a := by omega
    have ha2 : a + 64 ≤ b.length := by omega
    have k0 := hasB_in64 ha1 ha2 0 4 (by omega) (by omega) (by decide)
    have k4 := hasB_in64 ha1 ha2 4 4 (by omega) (by omega) (by decide)
    have k8 := hasB_in64 ha1 ha2 8 8 (by omega) (by omega) (by decide)
    have k16 := hasB_in64 ha1 ha2 16 8 (by omega) (by omega) (by decide)
    have k24 := hasB_in64 ha1 ha2 24 8 (by omega) (by omega) (by decide)
    have k32 := hasB_in64 ha1 ha2 32 8 (by omega) (by omega) (by decide)
    have k40 := hasB_in64 ha1 ha2 40 4 (by omega) (by omega) (by decide)
    have k44 := hasB_in64 ha1 ha2 44 4 (by omega) (by omega) (by decide)
    have k48 := hasB_in64 ha1 ha2 48 8 (by omega) (by omega) (by decide)
    have k56 := hasB_in64 ha1 ha2 56 8 (by omega) (by omega) (by decide)
    rw [Int.add_zero] at k0
    have r0 := numAt_range hB a 4
    have r4 := numAt_range hB (a + 4) 4
    have r8 := numAt_range hB (a + 8) 8
    have r16 := numAt_range hB (a + 16) 8
    have r24 := numAt_range hB (a + 24) 8
    have r32 := numAt_range hB (a + 32) 8
    have r40 := numAt_range hB (a + 40) 4
    have r44 := numAt_range hB (a + 44) 4
    have r48 := numAt_range hB (a + 48) 8
    have r56 := numAt_range hB (a + 56) 8
    have hmay := numS_may hB a
    have hnok := numS_ok hB a
    refine AW.skip ?_
    refine SQ.normal ?_
    refine AW.seq' ?_
    refine AW.region ?_
    refine AO.c ?_
    refine AO.c ?_
    refine AO.call1 Try.func89 rfl rfl (ref_num b a 4 hB (by omega) k0) ?_
    refine AO.c ?_
    refine AO.c ?_
    refine AO.oo ?_
    refine AO.call1 Try.func89 rfl rfl (ref_num b (a + 4) 4 hB (by omega) k4) ?_
    refine AO.c ?_
    refine AO.c ?_
    refine AO.oo ?_
    refine AO.call1 Try.func89 rfl rfl (ref_num b (a + 8) 8 hB (by omega) k8) ?_
    refine AO.c ?_
    refine AO.c ?_
    refine AO.oo ?_
    refine AO.call1 Try.func89 rfl rfl (ref_num b (a + 16) 8 hB (by omega) k16) ?_
    refine AO.c ?_
    refine AO.c ?_
    refine AO.oo ?_
    refine AO.call1 Try.func89 rfl rfl (ref_num b (a + 24) 8 hB (by omega) k24) ?_
    refine AO.c ?_
    refine AO.ww ?_
    refine AO.sst ?_
    refine AO.nil ?_
    refine SQ.normal ?_
    refine AW.seq' ?_
    refine AW.region ?_
    refine AO.c ?_
    refine AO.c ?_
    refine AO.oo ?_
    refine AO.call1 Try.func89 rfl rfl (ref_num b (a + 32) 8 hB (by omega) k32) ?_
    refine AO.c ?_
    refine AO.sst ?_
    refine AO.nil ?_
    refine SQ.normal ?_
    refine AW.seq' ?_
    refine AW.region ?_
    refine AO.c ?_
    refine AO.c ?_
    refine AO.oo ?_
    refine AO.call1 Try.func89 rfl rfl (ref_num b (a + 40) 4 hB (by omega) k40) ?_
    refine AO.c ?_
    refine AO.sst ?_
    refine AO.nil ?_
    refine SQ.normal ?_
    refine AW.seq' ?_
    refine AW.region ?_
    refine AO.c ?_
    refine AO.c ?_
    refine AO.oo ?_
    refine AO.call1 Try.func89 rfl rfl (ref_num b (a + 44) 4 hB (by omega) k44) ?_
    refine AO.c ?_
    refine AO.sst ?_
    refine AO.nil ?_
    refine SQ.normal ?_
    refine AW.seq' ?_
    refine AW.region ?_
    refine AO.c ?_
    refine AO.c ?_
    refine AO.oo ?_
    refine AO.call1 Try.func89 rfl rfl (ref_num b (a + 48) 8 hB (by omega) k48) ?_
    refine AO.c ?_
    refine AO.sst ?_
    refine AO.nil ?_
    refine SQ.normal ?_
    refine AW.seq' ?_
    refine AW.region ?_
    refine AO.c ?_
    refine AO.c ?_
    refine AO.oo ?_
    refine AO.call1 Try.func89 rfl rfl (ref_num b (a + 56) 8 hB (by omega) k56) ?_
    refine AO.c ?_
    refine AO.sst ?_
    refine AO.nil ?_
    refine SQ.normal ?_
    refine AW.seq' ?_
    refine AW.region ?_
    refine AO.c ?_
    refine AO.call1 Try.func94 rfl rfl (ref_MayHead (numS b a) hnok) ?_
    refine AO.c ?_
    refine AO.nil ?_
    refine SQ.normal ?_
    refine AW.seq' ?_
    refine AW.seq' ?_
    refine AW.region ?_
    refine AO.c ?_
    refine AO.c ?_
    refine AO.nil ?_
    refine SQ.normal ?_
    refine AW.iteB (GL.ev _) (fun h1 => ?_) (fun h1 => ?_)
    · skip
      simp only [Bool.not_eq_true', decide_eq_false_iff_not] at h1
      have hno : ¬ ShOk b a := fun h => h1 (hmay.2 h.2.2)
      refine AW.seq' ?_
      refine AW.region ?_
      refine AO.c ?_
      refine AO.sst ?_
      refine AO.c ?_
      refine AO.nil ?_
      refine SQ.normal ?_
      refine AW.ret ?_
      refine SQ.ret ?_
      refine Fin.ret (Gh.refl) noid2 ?_
      show AV.tup _ = AV.tup _
      rw [if_neg hno, decide_eq_false hno]; rfl
    · skip
      simp only [Bool.not_eq_false', decide_eq_true_eq] at h1
      have hyes : ShOk b a := ⟨ha1, ha2, hmay.1 h1⟩
      have hsame := numS_same (hmay.1 h1)
      refine AW.skip ?_
      refine SQ.normal ?_
      refine AW.seq' ?_
      refine AW.region ?_
      refine AO.c ?_
      refine AO.sst ?_
      refine AO.c ?_
      refine AO.nil ?_
      refine SQ.normal ?_
      refine AW.ret ?_
      refine Fin.ret (Gh.refl) noid2 ?_
      show AV.tup [AV.agg (shA (numS b a)), _] = AV.tup _
      rw [if_pos hyes, decide_eq_true hyes, hsame]
theorem ref_HeadBytes (h : ShD) (hh : h.ok) : A0 Try.prog 67 [.agg (shA h)] (fun ret => ret = .rd 1 (bys (if h.may then h.bytes else []))) := by
  refine A0.body 30 Try.func67 rfl rfl Try.ntmps67 fun base n0 => ?_
  refine AW.seq' ?_
  refine AW.region ?_
  refine AO.ww ?_
  refine AO.c ?_
  refine AO.nil ?_
  refine SQ.normal ?_
  refine AW.seq' ?_
  refine AW.region ?_
  refine AO.c ?_
  refine AO.call1 Try.func94 rfl rfl (ref_MayHead _ (by assumption)) ?_
  refine AO.c ?_
  refine AO.nil ?_
  refine SQ.normal ?_
  refine AW.seq' ?_
  refine AW.seq' ?_
  refine AW.region ?_
  refine AO.c ?_
  refine AO.c ?_
  refine AO.nil ?_
  refine SQ.normal ?_
  refine AW.iteB (GL.ev _) (fun h0 => ?_) (fun h0 => ?_)
  · skip
    rw [Bool.not_eq_true', decide_eq_false_iff_not] at h0
    refine AW.seq' ?_
    refine AW.region ?_
    refine AO.c ?_
    refine AO.nil ?_
    refine SQ.normal ?_
    refine AW.ret ?_
    refine SQ.ret ?_
    refine Fin.ret (Gh.nilB 2) noid1 ?_
    rw [if_neg h0]; rfl
  · skip
    rw [Bool.not_eq_false', decide_eq_true_eq] at h0
    have hnu := nums_sh h0
    have h64 := numLS_64 hh
    refine AW.skip ?_
    refine SQ.normal ?_
    refine AW.seq' ?_
    refine AW.region ?_
    refine AO.c ?_
    refine AO.c ?_
    refine AO.c ?_
    refine AO.c ?_
    refine AO.c ?_
    refine AO.c ?_
    refine AO.c ?_
    refine AO.c ?_
    refine AO.c ?_
    refine AO.c ?_
    refine AO.c ?_
    refine AO.c ?_
    refine AO.c ?_
    refine AO.c ?_
    refine AO.c ?_
    refine AO.c ?_
    refine AO.c ?_
    refine AO.c ?_
    refine AO.c ?_
    refine AO.c ?_
    refine AO.rr ?_
    refine AO.eq 28 (av' := .rd 1 ((numLS h).map iA)) rfl ?_
    refine AO.call1 Try.func91 rfl rfl (ref_Nums _ (by simp) h64) ?_
    refine AO.c ?_
    refine AO.nil ?_
    refine SQ.normal ?_
    refine AW.ret ?_
    refine Fin.ret (Gh.refl) noid1 ?_
    rw [if_pos h0, ← hnu]; rfl

end Go.Proofs.Ytbaibjhkmajplaa.AL
