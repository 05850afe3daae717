/- A part of the proof: rules of an own logic over blocks, and what functions of the program compute, each by its own contract; the conditions stand with each. -/
import Derived.Test.YtdniaamhbfadnaaGreatCd
import Derived.Test.YtdniaamhbfadnaaGreatCf
import Derived.Test.YtdniaamhbfadnaaGreatCe
namespace Go.Proofs.YtdniaamhbfadnaaGreat.AL
open Go Go.RowKit Go.Proofs.YtdniaamhbfadnaaGreat.Base
set_option linter.unusedVariables false
set_option linter.unusedSimpArgs false
set_option maxRecDepth 4000
set_option synthInstance.maxSize 1000
set_option synthInstance.maxHeartbeats 200000
structure ShD where
 (a0 a1 a2 a3 a4 a5 a6 a7 a8 a9 : Int)
 deriving Inhabited, DecidableEq
@[reducible] def shA (h : ShD) : List AV := [.v (.int .i64 h.a0), .v (.int .i64 h.a1), .v (.int .i64 h.a2), .v (.int .i64 h.a3), .v (.int .i64 h.a4), .v (.int .i64 h.a5), .v (.int .i64 h.a6), .v (.int .i64 h.a7), .v (.int .i64 h.a8), .v (.int .i64 h.a9)]
def ShD.list (h : ShD) : List Int := [h.a0, h.a1, h.a2, h.a3, h.a4, h.a5, h.a6, h.a7, h.a8, h.a9]
def ShD.ok (h : ShD) : Prop := ∀ x ∈ h.list, I64 x
def ShD.may (h : ShD) : Prop := ∀ x ∈ h.list, 0 ≤ x ∧ x ≤ 2147483647
instance shMayDec (h : ShD) : Decidable h.may := by unfold ShD.may; infer_instance
def zeroSh : ShD := ⟨0, 0, 0, 0, 0, 0, 0, 0, 0, 0⟩
def shOf (b : List Int) (a : Int) : ShD := ⟨numAt b a 4, numAt b (a + 4) 4, numAt b (a + 8) 8, numAt b (a + 16) 8, numAt b (a + 24) 8, numAt b (a + 32) 8, numAt b (a + 40) 4, numAt b (a + 44) 4, numAt b (a + 48) 8, numAt b (a + 56) 8⟩
def ShOk (b : List Int) (a : Int) : Prop := 0 ≤ a ∧ a + 64 ≤ b.length ∧ (shOf b a).may
instance shOkDec (b : List Int) (a : Int) : Decidable (ShOk b a) := by unfold ShOk; infer_instance
def shw (t : Int) : Int := if t < 2 ∨ t = 6 ∨ t = 7 then 4 else 8
def offL : List Int := [0, 4, 8, 16, 24, 32, 40, 44, 48, 56, 64]
def ShW : List Nat := [4, 4, 8, 8, 8, 8, 4, 4, 8, 8]
def ShD.bytes (h : ShD) : List Int := joinW ShW h.list
theorem hasB_in64 {b : List Int} {a : Int} (h0 : 0 ≤ a) (h1 : a + 64 ≤ b.length) (o n : Int) (ho : 0 ≤ o) (hon : o + n ≤ 64) (hw : Wide n) : HasB b (a + o) n := ⟨hw, by omega, by omega⟩
theorem ten {i : Nat} (h : i < 10) : i = 0 ∨ i = 1 ∨ i = 2 ∨ i = 3 ∨ i = 4 ∨ i = 5 ∨ i = 6 ∨ i = 7 ∨ i = 8 ∨ i = 9 := by omega
theorem off_step {i : Nat} (h : i < 10) : offL.getD (i + 1) 0 = offL.getD i 0 + shw i ∧ 0 ≤ offL.getD i 0 ∧ offL.getD i 0 + shw i ≤ 64 ∧ Wide (shw i) := by
 rcases ten h with rfl | rfl | rfl | rfl | rfl | rfl | rfl | rfl | rfl | rfl <;> decide
theorem sh_at (b : List Int) (a : Int) {i : Nat} (h : i < 10) : numAt b (a + offL.getD i 0) (shw i) = (shOf b a).list.getD i 0 := by
 rcases ten h with rfl | rfl | rfl | rfl | rfl | rfl | rfl | rfl | rfl | rfl
 · show numAt b (a + 0) 4 = numAt b a 4
   rw [Int.add_zero]
 all_goals rfl
theorem list_len (h : ShD) : h.list.length = 10 := rfl
theorem may_at {h : ShD} (hm : h.may) {i : Nat} (hi : i < 10) : 0 ≤ h.list.getD i 0 ∧ h.list.getD i 0 ≤ 2147483647 := by
 have : h.list.getD i 0 = h.list[i]'(by rw [list_len]; exact hi) := by rw [List.getD_eq_getElem?_getD, List.getElem?_eq_getElem (by rw [list_len]; exact hi)]; rfl
 rw [this]; exact hm _ (List.getElem_mem _)
theorem may_of {h : ShD} (hm : ∀ i, i < 10 → 0 ≤ h.list.getD i 0 ∧ h.list.getD i 0 ≤ 2147483647) : h.may := by
 intro x hx
 obtain ⟨i, hi, rfl⟩ := List.getElem_of_mem hx
 have := hm i (by rw [list_len] at hi; exact hi)
 rw [List.getD_eq_getElem?_getD, List.getElem?_eq_getElem hi] at this
 exact this
theorem set_step {l z : List Int} {i : Nat} (hl : l.length = 10) (hz : z.length = 10) (hi : i < 10) : (l.take i ++ z.drop i).set i (l.getD i 0) = l.take (i + 1) ++ z.drop (i + 1) := by
 have hlt : i < l.length := by omega
 have hzt : i < z.length := by omega
 rw [List.set_append_right _ _ (by rw [List.length_take]; omega), List.length_take, Nat.min_eq_left (by omega), Nat.sub_self, List.drop_eq_getElem_cons hzt, List.set_cons_zero, List.take_succ_eq_append_getElem hlt, List.append_assoc]
 congr 1
 rw [List.getD_eq_getElem?_getD, List.getElem?_eq_getElem hlt]; rfl
theorem shdr_width (t : Int) : A0 Tryz.prog 114 [.v (.int .i64 (t))] (fun ret => ret = .v (.int .i64 (shw t))) := by
 refine A0.body 13 Tryz.func114 rfl rfl Tryz.ntmps114 fun base n0 => ?_
 refine AW.seq' ?_
 refine AW.region ?_
 refine AO.c ?_
 refine AO.nil ?_
 refine SQ.normal ?_
 refine AW.seq' ?_
 refine AW.seq' ?_
 refine AW.region ?_
 iterate 3 refine AO.c ?_
 iterate 2 refine AO.gx ?_
 iterate 2 refine AO.c ?_
 iterate 2 refine AO.gx ?_
 refine AO.c ?_
 refine AO.nil ?_
 refine SQ.normal ?_
 refine AW.iteB (GL.ev _) (fun h0 => ?_) (fun h0 => ?_)
 ·
  try simp only [Bool.and_eq_true, Bool.or_eq_true, Bool.not_eq_true', Bool.and_eq_false_iff, Bool.or_eq_false_iff, decide_eq_true_eq, decide_eq_false_iff_not, bys_length] at h0
  refine AW.seq' ?_
  refine AW.region ?_
  refine AO.c ?_
  refine AO.nil ?_
  refine SQ.normal ?_
  refine AW.ret ?_
  refine SQ.ret ?_
  refine Fin.ret (Gh.refl) noid1 ?_
  show AV.v _ = AV.v _
  congr 2
  unfold shw
  rw [if_pos (by omega)]
 ·
  try simp only [Bool.and_eq_true, Bool.or_eq_true, Bool.not_eq_true', Bool.and_eq_false_iff, Bool.or_eq_false_iff, decide_eq_true_eq, decide_eq_false_iff_not, bys_length] at h0
  refine AW.skip ?_
  refine SQ.normal ?_
  refine AW.seq' ?_
  refine AW.region ?_
  refine AO.c ?_
  refine AO.nil ?_
  refine SQ.normal ?_
  refine AW.ret ?_
  refine Fin.ret (Gh.refl) noid1 ?_
  show AV.v _ = AV.v _
  congr 2
  unfold shw
  rw [if_neg (by omega)]
theorem shdr_fields (n k : Nat) (L : List (Option AB)) (cs : List AV) [gb : GB L k (.box 157 cs)] : AC Tryz.prog 113 (Hn n L) [.box (n + k) 0] (fun r H' => r = .rd 1 ((List.range 10).map fun i => [AV.box (n + k) i]) ∧ H' = Hn n L) := by
 refine AC.body 34 Tryz.func113 rfl rfl Tryz.ntmps113 fun base => ?_
 refine AW.seq' ?_
 refine AW.region ?_
 refine AO.c ?_
 refine AO.nil ?_
 refine SQ.normal ?_
 refine AW.seq' ?_
 refine AW.drawsZ [] (.one 0 false (.one 1 false (.one 2 false (.one 3 false (.one 4 false (.one 5 false (.one 6 false (.one 7 false (.one 8 false (.one 9 false (.one 10 false (.one 11 false (.one 12 false (.one 13 false (.one 14 false (.one 15 false (.one 16 false (.one 17 false (.one 18 false (.one 19 false (.one 20 false (.one 21 false (.one 22 false (.one 23 false (.one 24 false (.one 25 false (.one 26 false (.one 27 false (.one 28 false (.one 29 false (.one 30 true (.one 31 false .nil)))))))))))))))))))))))))))))))) (by kernel_rfl) rfl (by kernel_rfl) ?_
 iterate 30 refine AZ.c rfl ?_
 refine AZ.rr rfl ?_
 refine AZ.c rfl ?_
 refine AZ.done ?_
 refine SQ.normal ?_
 refine AW.ret ?_
 exact FinC.ret Gh.refl ⟨rfl, rfl⟩ (.inr rfl)
set_option maxHeartbeats 4000000 in
theorem shdr_Get (b : List Int) (a : Int) (hB : Bytes b) (hb : b.length ≤ 1000000000000) (ha : I64 a) : A0 Tryz.prog 68 [.rd 1 (bys b), .v (.int .i64 (a))] (fun ret => ret = .tup [.agg (shA (if ShOk b a then shOf b a else zeroSh)), .v (.bool (decide (ShOk b a)))]) := by
 have ha0 := ha
 unfold I64 at ha
 have hl10 : (List.range 10).length = 10 := rfl
 refine A0.body 53 Tryz.func68 rfl rfl Tryz.ntmps68 fun base n0 => ?_
 refine AW.seq' ?_
 refine AW.region ?_
 refine AO.ww ?_
 refine AO.c ?_
 refine AO.nil ?_
 refine SQ.normal ?_
 refine AW.seq' ?_
 refine AW.region ?_
 refine AO.ww ?_
 refine AO.nil ?_
 refine SQ.normal ?_
 refine AW.seq' ?_
 refine AW.seq' ?_
 refine AW.region ?_
 iterate 3 refine AO.c ?_
 iterate 3 refine AO.gx ?_
 refine AO.gxoo ?_
 refine AO.gx ?_
 refine AO.c ?_
 refine AO.nil ?_
 refine SQ.normal ?_
 refine AW.iteB (GL.ev _) (fun h0 => ?_) (fun h0 => ?_)
 ·
  simp only [Bool.or_eq_true, decide_eq_true_eq] at h0
  have hno : ¬ ShOk b a := fun h => by unfold ShOk at h; omega
  refine AW.seq' ?_
  refine AW.region ?_
  refine AO.c ?_
  refine AO.sst ?_
  refine AO.c ?_
  refine AO.nil ?_
  refine SQ.normal ?_
  refine AW.ret ?_
  refine SQ.ret ?_
  refine Fin.ret (Gh.refl) noid2 ?_
  show AV.tup _ = AV.tup _
  first | (rw [if_neg hno, decide_eq_false hno]; rfl) | (rw [if_pos hyes, decide_eq_true hyes]; rfl) | (rw [if_pos hyes, decide_eq_true hyes]) | (rw [if_neg hno, decide_eq_false hno])
 ·
  simp only [Bool.or_eq_false_iff, decide_eq_false_iff_not] at h0
  have ha1 : 0 ≤ a := by omega
  have ha2 : a + 64 ≤ b.length := by omega
  refine AW.skip ?_
  refine SQ.normal ?_
  refine AW.seq' ?_
  refine AW.seq' ?_
  refine AW.region ?_
  refine AO.callC Tryz.func113 rfl rfl (shdr_fields n0 1 _ _) ?_
  iterate 2 refine AO.c ?_
  refine AO.nil ?_
  refine SQ.normal ?_
  refine AW.block' ?_
  refine AW.loopU [.k, .k, .f, .f, .k, .f, .k, .F, .f, .f, .f, .f, .f, .f, .k, .k, .k, .F, .F, .F, .f, .f, .f, .f, .f] (fun (i : Nat) => [(1, .v (.int .i64 (a + offL.getD i 0))), (23, .v (.int .i64 (i)))]) (fun i => Hn n0 [some (.box 157 (shA zeroSh)), some (.box 157 (((shOf b a).list.take i ++ zeroSh.list.drop i).map iV))]) (fun m i => i ≤ 10 ∧ m = 10 - i ∧ ∀ k, k < i → 0 ≤ (shOf b a).list.getD k 0 ∧ (shOf b a).list.getD k 0 ≤ 2147483647) (10) (0) ⟨by omega, by omega, fun k hk => by omega⟩ (by simp [offL]) (by first | rfl | (simp; done)) ?_
  rintro m0 i ⟨hx1, hx2, hx3⟩
  refine AW.seq' ?_
  refine AW.region ?_
  refine AO.c ?_
  refine AO.nil ?_
  refine SQ.normal ?_
  refine AW.seq' ?_
  refine AW.iteB (GL.ev _) (fun h1 => ?_) (fun h1 => ?_)
  ·
   rw [decide_eq_true_eq] at h1
   have hi : i < 10 := by omega
   obtain ⟨o1, o2, o3, o4⟩ := off_step hi
   have hk : HasB b (a + offL.getD i 0) (shw i) := ⟨o4, by omega, by omega⟩
   have hr := numAt_range hB (a + offL.getD i 0) (shw i)
   have hsa := sh_at b a hi
   have o5 : 0 ≤ shw (i : Int) := by unfold shw; split <;> omega
   have hli : ((shOf b a).list.take i ++ zeroSh.list.drop i).length = 10 := by rw [List.length_append, List.length_take, List.length_drop, list_len, list_len]; omega
   refine AW.skip ?_
   refine SQ.normal ?_
   refine AW.seq' ?_
   refine AW.block' ?_
   refine AW.seq' ?_
   refine AW.region ?_
   refine AO.c ?_
   refine AO.oo ?_
   refine AO.c ?_
   refine AO.eq 27 (av' := .box (n0 + 1) i) (by simp [List.getD_eq_getElem?_getD, hi]) ?_
   iterate 2 refine AO.c ?_
   refine AO.nil ?_
   refine SQ.normal ?_
   refine AW.seq' ?_
   refine AW.region ?_
   iterate 3 refine AO.c ?_
   refine AO.call1 Tryz.func114 rfl rfl (shdr_width _) ?_
   refine AO.call1 Tryz.func109 rfl rfl (le_GetT b (a + offL.getD i 0) (shw i) hB (by omega) hk) ?_
   iterate 5 refine AO.c ?_
   refine AO.nil ?_
   refine SQ.normal ?_
   refine AW.seq' ?_
   refine AW.seq' ?_
   refine AW.region ?_
   iterate 3 refine AO.c ?_
   iterate 2 refine AO.gx ?_
   refine AO.c ?_
   refine AO.nil ?_
   refine SQ.normal ?_
   refine AW.iteB (GL.ev _) (fun h2 => ?_) (fun h2 => ?_)
   ·
    simp only [Bool.not_true, Bool.false_or, decide_eq_true_eq] at h2
    have hno : ¬ ShOk b a := fun h => by have := (may_at h.2.2 hi).2; omega
    refine AW.seq' ?_
    refine AW.region ?_
    refine AO.c ?_
    refine AO.sst ?_
    refine AO.c ?_
    refine AO.nil ?_
    refine SQ.normal ?_
    refine AW.ret ?_
    refine SQ.ret <| BQ.ret <| SQ.ret <| AW.out <| LU.ret <| BQ.ret <| SQ.ret ?_
    refine Fin.ret (Gh.refl) noid2 ?_
    show AV.tup _ = AV.tup _
    first | (rw [if_neg hno, decide_eq_false hno]; rfl) | (rw [if_pos hyes, decide_eq_true hyes]; rfl) | (rw [if_pos hyes, decide_eq_true hyes]) | (rw [if_neg hno, decide_eq_false hno])
   ·
    simp only [Bool.not_true, Bool.false_or, decide_eq_false_iff_not] at h2
    refine AW.skip ?_
    refine SQ.normal ?_
    refine AW.seq' ?_
    refine AW.region ?_
    iterate 2 refine AO.c ?_
    refine AO.oo ?_
    refine AO.c ?_
    refine AO.sst ?_
    refine AO.nil ?_
    refine SQ.normal ?_
    refine AW.region ?_
    iterate 2 refine AO.c ?_
    refine AO.call1 Tryz.func114 rfl rfl (shdr_width _) ?_
    refine AO.o (by omega) ?_
    refine AO.c ?_
    refine AO.nil ?_
    refine BQ.normal ?_
    refine SQ.normal ?_
    refine AW.region ?_
    refine AO.oo ?_
    refine AO.c ?_
    refine AO.nil ?_
    exact AW.backU [.k, .k, .f, .f, .k, .f, .k, .F, .f, .f, .f, .f, .f, .f, .k, .k, .k, .F, .F, .F, .f, .f, .f, .f, .f] (m0 - 1) (i + 1) (by omega) (by (try dsimp only); exact ⟨by omega, by omega, fun k hk => by rcases Nat.lt_succ_iff_lt_or_eq.1 hk with h | rfl; exact hx3 k h; rw [← hsa]; omega⟩) (by (try dsimp only); rw [o1, ← Int.add_assoc] <;> rfl) (by rw [hsa, set_step rfl rfl hi])
  ·
   rw [decide_eq_false_iff_not] at h1
   have hi : i = 10 := by omega
   subst hi
   have hyes : ShOk b a := ⟨ha1, ha2, may_of hx3⟩
   refine AW.eqH (H' := Hn n0 [some (.box 157 (shA zeroSh)), some (.box 157 (shA (shOf b a)))]) rfl ?_
   refine AW.exit ?_
   refine SQ.exit <| AW.out <| LU.exit <| BQ.exit ?_
   refine SQ.normal ?_
   refine AW.seq' ?_
   refine AW.region ?_
   refine AO.c ?_
   refine AO.sst ?_
   refine AO.c ?_
   refine AO.nil ?_
   refine SQ.normal ?_
   refine AW.ret ?_
   refine Fin.ret (Gh.refl) noid2 ?_
   show AV.tup _ = AV.tup _
   first | (rw [if_neg hno, decide_eq_false hno]; rfl) | (rw [if_pos hyes, decide_eq_true hyes]; rfl) | (rw [if_pos hyes, decide_eq_true hyes]) | (rw [if_neg hno, decide_eq_false hno])
theorem bytes_len (h : ShD) : h.bytes.length = 64 := joinW_length _ _ rfl
theorem list_inj {x y : ShD} (h : x.list = y.list) : x = y := by
 cases x; cases y
 simp only [ShD.list, List.cons.injEq, and_true] at h
 simp only [ShD.mk.injEq]
 exact h
theorem joinW_snoc : ∀ (ws : List Nat) (vs : List Int) (i : Nat), i < ws.length → ws.length = vs.length → joinW (ws.take (i + 1)) (vs.take (i + 1)) = joinW (ws.take i) (vs.take i) ++ dig (vs.getD i 0) (ws.getD i 0) := by
 intro ws
 induction ws with
 | nil => intro vs i h; simp at h
 | cons w ws ih =>
  intro vs i h hl
  cases vs with
  | nil => simp at hl
  | cons v vs =>
   cases i with
   | zero => simp [joinW]
   | succ i =>
    have := ih vs i (by simpa using h) (by simpa using hl)
    simp only [List.take_succ_cons, joinW, List.getD_cons_succ, this, List.append_assoc]
theorem shw_nat {i : Nat} (h : i < 10) : (shw i).toNat = ShW.getD i 0 := by
 rcases ten h with rfl | rfl | rfl | rfl | rfl | rfl | rfl | rfl | rfl | rfl <;> decide
set_option maxHeartbeats 4000000 in
theorem shdr_Put (h : ShD) (hh : h.ok) : A0 Tryz.prog 107 [.agg (shA h)] (fun ret => ret = .rd 1 (bys (if h.may then h.bytes else []))) := by
 have hl10 : (List.range 10).length = 10 := rfl
 refine A0.body 34 Tryz.func107 rfl rfl Tryz.ntmps107 fun base n0 => ?_
 refine AW.seq' ?_
 refine AW.region ?_
 refine AO.ww ?_
 refine AO.c ?_
 refine AO.nil ?_
 refine SQ.normal ?_
 refine AW.seq' ?_
 refine AW.region ?_
 refine AO.c ?_
 refine AO.nil ?_
 refine SQ.normal ?_
 refine AW.seq' ?_
 refine AW.seq' ?_
 refine AW.region ?_
 refine AO.callC Tryz.func113 rfl rfl (shdr_fields n0 0 _ _) ?_
 iterate 2 refine AO.c ?_
 refine AO.nil ?_
 refine SQ.normal ?_
 refine AW.block' ?_
 refine AW.ghost (Gh.adoptB 3 5) ?_
 refine AW.eqH (H' := Hn n0 [some (.box 157 (h.list.map iV)), some (.row 5 1 0 (bys []))]) rfl ?_
 refine AW.loopU3 [.f, .f, .f, .k, .f, .f, .k, .k, .k, .F, .F, .F, .f] (fun (i ep : Nat) (out : List Int) => [(3, .own (n0 + 1) ep 0 out.length), (8, .v (.int .i64 (i)))]) (fun i ep out => Hn n0 [some (.box 157 (h.list.map iV)), some (.row 5 1 ep (bys out))]) (fun m i ep out => i ≤ 10 ∧ m = 10 - i ∧ (∀ k, k < i → 0 ≤ h.list.getD k 0 ∧ h.list.getD k 0 ≤ 2147483647) ∧ out.length ≤ 8 * i ∧ out = joinW (ShW.take i) (h.list.take i)) (10) (0) (0) ([]) ⟨by omega, by omega, fun k hk => by omega, by simp, rfl⟩ (by first | rfl | (simp; done)) (by first | rfl | (simp; done)) ?_
 rintro m0 i ep out ⟨hx1, hx2, hx3, hx4, hx5⟩
 refine AW.seq' ?_
 refine AW.region ?_
 refine AO.c ?_
 refine AO.nil ?_
 refine SQ.normal ?_
 refine AW.seq' ?_
 refine AW.iteB (GL.ev _) (fun h0 => ?_) (fun h0 => ?_)
 ·
  rw [decide_eq_true_eq] at h0
  have hi : i < 10 := by omega
  obtain ⟨o1, o2, o3, o4⟩ := off_step hi
  have hil : i < h.list.length := hi
  have hok : I64 (h.list.getD i 0) := by
   have : h.list.getD i 0 = h.list[i] := by rw [List.getD_eq_getElem?_getD, List.getElem?_eq_getElem hil]; rfl
   rw [this]; exact hh _ (List.getElem_mem _)
  have hpl := put8_len (h.list.getD i 0) (shw i)
  have o5 : 0 ≤ shw (i : Int) := by unfold shw; split <;> omega
  refine AW.skip ?_
  refine SQ.normal ?_
  refine AW.seq' ?_
  refine AW.block' ?_
  refine AW.seq' ?_
  refine AW.region ?_
  refine AO.c ?_
  refine AO.oo ?_
  refine AO.c ?_
  refine AO.eq 12 (av' := .box (n0 + 0) i) (by simp [List.getD_eq_getElem?_getD, hi]) ?_
  iterate 2 refine AO.c ?_
  refine AO.nil ?_
  refine SQ.normal ?_
  refine AW.seq' ?_
  refine AW.seq' ?_
  refine AW.region ?_
  iterate 2 refine AO.c ?_
  refine AO.oo ?_
  iterate 2 refine AO.c ?_
  iterate 2 refine AO.gx ?_
  refine AO.gxoo ?_
  refine AO.gx ?_
  refine AO.c ?_
  refine AO.nil ?_
  refine SQ.normal ?_
  refine AW.iteB (GL.ev _) (fun h1 => ?_) (fun h1 => ?_)
  ·
   simp only [Bool.or_eq_true, decide_eq_true_eq] at h1
   have hno : ¬ h.may := fun hm => by have := may_at hm hi; omega
   refine AW.seq' ?_
   refine AW.region ?_
   refine AO.c ?_
   refine AO.nil ?_
   refine SQ.normal ?_
   refine AW.ret ?_
   refine SQ.ret <| BQ.ret <| SQ.ret <| AW.out <| LU.ret <| BQ.ret <| SQ.ret ?_
   refine Fin.ret (Gh.nilB 2) noid1 ?_
   rw [if_neg hno]; rfl
  ·
   simp only [Bool.or_eq_false_iff, decide_eq_false_iff_not] at h1
   refine AW.skip ?_
   refine SQ.normal ?_
   refine AW.drawsZ [8] (.one 0 false (.one 1 false (.one 2 false (.one 3 false (.one 4 false (.one 5 false (.one 6 true (.one 7 true (.one 8 true (.one 9 false .nil)))))))))) (by kernel_rfl) rfl (by kernel_rfl) ?_
   iterate 3 refine AZ.c rfl ?_
   iterate 2 refine AZ.oo rfl ?_
   refine AZ.c rfl ?_
   refine AZ.call1 rfl Tryz.func114 rfl rfl (shdr_width _) ?_
   refine AZ.call1 rfl Tryz.func150 rfl rfl ((le_PutR (h.list.getD i 0) (shw i) (by omega) (by omega)).a0 (by rw [bys_length]; exact Nat.le_trans (put8_len _ _) (by decide))) ?_
   refine AZ.ww rfl rfl ?_
   refine AZ.c rfl ?_
   refine AZ.done ?_
   refine BQ.normal ?_
   refine SQ.normal ?_
   refine AW.region ?_
   refine AO.oo ?_
   refine AO.c ?_
   refine AO.nil ?_
   exact AW.backU [.f, .f, .f, .k, .f, .f, .k, .k, .k, .F, .F, .F, .f] (m0 - 1) (i + 1, ep + 1, out ++ (if Wide (shw i) then dig (h.list.getD i 0) (shw i).toNat else [])) (by omega) (by (try dsimp only); exact ⟨by omega, by omega, fun k hk => by rcases Nat.lt_succ_iff_lt_or_eq.1 hk with q | rfl; exact hx3 k q; omega, by rw [List.length_append]; omega, by rw [if_pos o4, joinW_snoc ShW h.list i hi rfl, shw_nat hi, ← hx5]⟩) (by (try dsimp only); rw [List.length_append] <;> rfl) (rfl)
 ·
  rw [decide_eq_false_iff_not] at h0
  have hi : i = 10 := by omega
  subst hi
  have hyes : h.may := may_of hx3
  refine AW.exit ?_
  refine SQ.exit <| AW.out <| LU.exit <| BQ.exit ?_
  refine SQ.normal ?_
  refine AW.seq' ?_
  refine AW.region ?_
  iterate 2 refine AO.c ?_
  refine AO.nil ?_
  refine SQ.normal ?_
  refine AW.ret ?_
  refine Fin.ret (Gh.freezeE 2 (li' := h.bytes) hx5 (by rw [← show out = h.bytes from hx5]) (by rw [bytes_len]; decide)) noid1 ?_
  rw [if_pos hyes]; rfl
/-- The document's numbers: too large ones are -1. -/
def numS (b : List Int) (a : Int) : ShD := ⟨capN (numAt b a 4), capN (numAt b (a + 4) 4), capN (numAt b (a + 8) 8), capN (numAt b (a + 16) 8), capN (numAt b (a + 24) 8), capN (numAt b (a + 32) 8), capN (numAt b (a + 40) 4), capN (numAt b (a + 44) 4), capN (numAt b (a + 48) 8), capN (numAt b (a + 56) 8)⟩
theorem numS_list (b : List Int) (a : Int) : (numS b a).list = (shOf b a).list.map capN := rfl
theorem shOf_nn {b : List Int} (hB : Bytes b) (a : Int) : ∀ x ∈ (shOf b a).list, 0 ≤ x := by
 intro x hx
 simp only [ShD.list, shOf, List.mem_cons, List.not_mem_nil, or_false] at hx
 rcases hx with rfl | rfl | rfl | rfl | rfl | rfl | rfl | rfl | rfl | rfl <;> exact (numAt_range hB _ _).1
theorem numS_may {b : List Int} (hB : Bytes b) (a : Int) : (numS b a).may ↔ (shOf b a).may := by
 unfold ShD.may
 rw [numS_list]
 simp only [List.mem_map, forall_exists_index, and_imp, forall_apply_eq_imp_iff₂]
 constructor
 · intro h x hx; exact (capN_fit (shOf_nn hB a x hx) 2147483647 (by omega)).1 (h x hx)
 · intro h x hx; exact (capN_fit (shOf_nn hB a x hx) 2147483647 (by omega)).2 (h x hx)
theorem numS_same {b : List Int} {a : Int} (h : (shOf b a).may) : numS b a = shOf b a := by
 refine list_inj ?_
 rw [numS_list]
 refine (List.map_congr_left fun x hx => ?_).trans (List.map_id _)
 have := h x hx
 unfold capN
 rw [if_neg (by omega)]; rfl
theorem numS_ok {b : List Int} (hB : Bytes b) (a : Int) : (numS b a).ok := by
 intro x hx
 rw [numS_list, List.mem_map] at hx
 obtain ⟨y, hy, rfl⟩ := hx
 exact capN_64 _ (shOf_nn hB a y hy)
theorem ref_MayHead (h : ShD) (hh : h.ok) : A0 Tryz.prog 130 [.agg (shA h)] (fun ret => ret = .v (.bool (decide h.may))) := by
 have hll : h.list.length = 10 := rfl
 have hdef : ∀ i, h.list.getD i default = h.list.getD i 0 := fun i => rfl
 refine A0.body 40 Tryz.func130 rfl rfl Tryz.ntmps130 fun base n0 => ?_
 refine AW.seq' ?_
 refine AW.region ?_
 refine AO.ww ?_
 refine AO.c ?_
 refine AO.nil ?_
 refine SQ.normal ?_
 refine AW.seq' ?_
 refine AW.region ?_
 iterate 20 refine AO.c ?_
 refine AO.rr ?_
 refine AO.eq 26 (av' := .rd 1 (h.list.map iA)) rfl ?_
 refine AO.c ?_
 refine AO.nil ?_
 refine SQ.normal ?_
 refine AW.seq' ?_
 refine AW.seq' ?_
 refine AW.region ?_
 refine AO.c ?_
 refine AO.nil ?_
 refine SQ.normal ?_
 refine AW.block' ?_
 refine AW.loopU [.f, .f, .f, .k, .k, .F, .F, .F, .F, .f, .f, .f] (fun (i : Nat) => [(4, .v (.int .i64 (i)))]) (fun i => Hn n0 [some (.box 99 (shA h))]) (fun m i => i ≤ 10 ∧ m = 10 - i ∧ ∀ k, k < i → 0 ≤ h.list.getD k 0 ∧ h.list.getD k 0 ≤ 2147483647) (10) (0) ⟨by omega, by omega, fun k hk => by omega⟩ (by first | rfl | (simp; done)) (by first | rfl | (simp; done)) ?_
 rintro m0 i ⟨hx1, hx2, hx3⟩
 refine AW.seq' ?_
 refine AW.seq' ?_
 refine AW.region ?_
 iterate 4 refine AO.c ?_
 refine AO.nil ?_
 refine SQ.normal ?_
 refine AW.iteB (GL.ev _) (fun h0 => ?_) (fun h0 => ?_)
 ·
  rw [decide_eq_true_eq] at h0
  have hi : i < 10 := by omega
  have hok : I64 (h.list.getD i default) := by
   have hil : i < h.list.length := hi
   have : h.list.getD i default = h.list[i] := by rw [List.getD_eq_getElem?_getD, List.getElem?_eq_getElem hil]; rfl
   rw [this]; exact hh _ (List.getElem_mem _)
  refine AW.skip ?_
  refine SQ.normal ?_
  refine AW.seq' ?_
  refine AW.block' ?_
  refine AW.seq' ?_
  refine AW.region ?_
  iterate 2 refine AO.c ?_
  refine AO.oo ?_
  refine AO.c ?_
  refine AO.call1 Tryz.func160 rfl rfl (ref_fits (h.list.getD i default) hok) ?_
  refine AO.c ?_
  refine AO.nil ?_
  refine SQ.normal ?_
  refine AW.seq' ?_
  refine AW.region ?_
  iterate 2 refine AO.c ?_
  refine AO.nil ?_
  refine SQ.normal ?_
  refine AW.iteB (GL.ev _) (fun h1 => ?_) (fun h1 => ?_)
  ·
   rw [hdef] at h1
   unfold fitsB at h1
   have hno : ¬ h.may := fun hm => by
    have := may_at hm hi
    simp only [Bool.not_eq_true', Bool.and_eq_false_iff, decide_eq_false_iff_not] at h1
    omega
   refine AW.seq' ?_
   refine AW.region ?_
   refine AO.c ?_
   refine AO.nil ?_
   refine SQ.normal ?_
   refine AW.ret ?_
   refine BQ.ret <| SQ.ret <| AW.out <| LU.ret <| BQ.ret <| SQ.ret ?_
   refine Fin.ret (Gh.refl) noid1 ?_
   rw [decide_eq_false hno]; rfl
  ·
   rw [hdef] at h1
   unfold fitsB at h1
   simp only [Bool.not_eq_false', Bool.and_eq_true, decide_eq_true_eq] at h1
   refine AW.skip ?_
   refine BQ.normal ?_
   refine SQ.normal ?_
   refine AW.region ?_
   refine AO.c ?_
   refine AO.oo ?_
   refine AO.c ?_
   refine AO.nil ?_
   exact AW.backU [.f, .f, .f, .k, .k, .F, .F, .F, .F, .f, .f, .f] (m0 - 1) (i + 1) (by omega) (by (try dsimp only); exact ⟨by omega, by omega, fun k hk => by rcases Nat.lt_succ_iff_lt_or_eq.1 hk with q | rfl; exact hx3 k q; exact h1⟩) (by first | rfl | (simp; done)) (by first | rfl | (simp; done))
 ·
  rw [decide_eq_false_iff_not] at h0
  have hyes : h.may := may_of fun k hk => hx3 k (by omega)
  refine AW.exit ?_
  refine SQ.exit <| AW.out <| LU.exit <| BQ.exit ?_
  refine SQ.normal ?_
  refine AW.seq' ?_
  refine AW.region ?_
  refine AO.c ?_
  refine AO.nil ?_
  refine SQ.normal ?_
  refine AW.ret ?_
  refine Fin.ret (Gh.refl) noid1 ?_
  rw [decide_eq_true hyes]; rfl
set_option maxHeartbeats 4000000 in
theorem ref_Section (b : List Int) (a : Int) (hB : Bytes b) (hb : b.length ≤ 1000000000000) (ha : I64 a) : A0 Tryz.prog 86 [.rd 1 (bys b), .v (.int .i64 (a))] (fun ret => ret = .tup [.agg (shA (if ShOk b a then shOf b a else zeroSh)), .v (.bool (decide (ShOk b a)))]) := by
 have ha0 := ha
 unfold I64 at ha
 refine A0.body 75 Tryz.func86 rfl rfl Tryz.ntmps86 fun base n0 => ?_
 refine AW.seq' ?_
 refine AW.region ?_
 refine AO.ww ?_
 refine AO.c ?_
 refine AO.nil ?_
 refine SQ.normal ?_
 refine AW.seq' ?_
 refine AW.seq' ?_
 refine AW.region ?_
 iterate 3 refine AO.c ?_
 iterate 4 refine AO.gx ?_
 iterate 2 refine AO.c ?_
 iterate 3 refine AO.gx ?_
 refine AO.gxoo ?_
 refine AO.gx ?_
 refine AO.c ?_
 refine AO.nil ?_
 refine SQ.normal ?_
 refine AW.iteB (GL.ev _) (fun h0 => ?_) (fun h0 => ?_)
 ·
  simp only [Bool.or_eq_true, decide_eq_true_eq] at h0
  have hno : ¬ ShOk b a := fun h => by unfold ShOk at h; omega
  refine AW.seq' ?_
  refine AW.region ?_
  refine AO.c ?_
  refine AO.sst ?_
  refine AO.c ?_
  refine AO.nil ?_
  refine SQ.normal ?_
  refine AW.ret ?_
  refine SQ.ret ?_
  refine Fin.ret (Gh.refl) noid2 ?_
  show AV.tup _ = AV.tup _
  rw [if_neg hno, decide_eq_false hno]; rfl
 ·
  simp only [Bool.or_eq_false_iff, decide_eq_false_iff_not] at h0
  have ha1 : 0 ≤ a := by omega
  have ha2 : a + 64 ≤ b.length := by omega
  have k0 := hasB_in64 ha1 ha2 0 4 (by omega) (by omega) (by decide)
  have k4 := hasB_in64 ha1 ha2 4 4 (by omega) (by omega) (by decide)
  have k8 := hasB_in64 ha1 ha2 8 8 (by omega) (by omega) (by decide)
  have k16 := hasB_in64 ha1 ha2 16 8 (by omega) (by omega) (by decide)
  have k24 := hasB_in64 ha1 ha2 24 8 (by omega) (by omega) (by decide)
  have k32 := hasB_in64 ha1 ha2 32 8 (by omega) (by omega) (by decide)
  have k40 := hasB_in64 ha1 ha2 40 4 (by omega) (by omega) (by decide)
  have k44 := hasB_in64 ha1 ha2 44 4 (by omega) (by omega) (by decide)
  have k48 := hasB_in64 ha1 ha2 48 8 (by omega) (by omega) (by decide)
  have k56 := hasB_in64 ha1 ha2 56 8 (by omega) (by omega) (by decide)
  rw [Int.add_zero] at k0
  have r0 := numAt_range hB a 4
  have r4 := numAt_range hB (a + 4) 4
  have r8 := numAt_range hB (a + 8) 8
  have r16 := numAt_range hB (a + 16) 8
  have r24 := numAt_range hB (a + 24) 8
  have r32 := numAt_range hB (a + 32) 8
  have r40 := numAt_range hB (a + 40) 4
  have r44 := numAt_range hB (a + 44) 4
  have r48 := numAt_range hB (a + 48) 8
  have r56 := numAt_range hB (a + 56) 8
  have hmay := numS_may hB a
  have hnok := numS_ok hB a
  refine AW.skip ?_
  refine SQ.normal ?_
  refine AW.seq' ?_
  refine AW.region ?_
  iterate 2 refine AO.c ?_
  refine AO.call1 Tryz.func129 rfl rfl (ref_num b a 4 hB (by omega) k0) ?_
  iterate 2 refine AO.c ?_
  refine AO.oo ?_
  refine AO.call1 Tryz.func129 rfl rfl (ref_num b (a + 4) 4 hB (by omega) k4) ?_
  iterate 2 refine AO.c ?_
  refine AO.oo ?_
  refine AO.call1 Tryz.func129 rfl rfl (ref_num b (a + 8) 8 hB (by omega) k8) ?_
  iterate 2 refine AO.c ?_
  refine AO.oo ?_
  refine AO.call1 Tryz.func129 rfl rfl (ref_num b (a + 16) 8 hB (by omega) k16) ?_
  iterate 2 refine AO.c ?_
  refine AO.oo ?_
  refine AO.call1 Tryz.func129 rfl rfl (ref_num b (a + 24) 8 hB (by omega) k24) ?_
  refine AO.c ?_
  refine AO.ww ?_
  refine AO.sst ?_
  refine AO.nil ?_
  refine SQ.normal ?_
  refine AW.seq' ?_
  refine AW.region ?_
  iterate 2 refine AO.c ?_
  refine AO.oo ?_
  refine AO.call1 Tryz.func129 rfl rfl (ref_num b (a + 32) 8 hB (by omega) k32) ?_
  refine AO.c ?_
  refine AO.sst ?_
  refine AO.nil ?_
  refine SQ.normal ?_
  refine AW.seq' ?_
  refine AW.region ?_
  iterate 2 refine AO.c ?_
  refine AO.oo ?_
  refine AO.call1 Tryz.func129 rfl rfl (ref_num b (a + 40) 4 hB (by omega) k40) ?_
  refine AO.c ?_
  refine AO.sst ?_
  refine AO.nil ?_
  refine SQ.normal ?_
  refine AW.seq' ?_
  refine AW.region ?_
  iterate 2 refine AO.c ?_
  refine AO.oo ?_
  refine AO.call1 Tryz.func129 rfl rfl (ref_num b (a + 44) 4 hB (by omega) k44) ?_
  refine AO.c ?_
  refine AO.sst ?_
  refine AO.nil ?_
  refine SQ.normal ?_
  refine AW.seq' ?_
  refine AW.region ?_
  iterate 2 refine AO.c ?_
  refine AO.oo ?_
  refine AO.call1 Tryz.func129 rfl rfl (ref_num b (a + 48) 8 hB (by omega) k48) ?_
  refine AO.c ?_
  refine AO.sst ?_
  refine AO.nil ?_
  refine SQ.normal ?_
  refine AW.seq' ?_
  refine AW.region ?_
  iterate 2 refine AO.c ?_
  refine AO.oo ?_
  refine AO.call1 Tryz.func129 rfl rfl (ref_num b (a + 56) 8 hB (by omega) k56) ?_
  refine AO.c ?_
  refine AO.sst ?_
  refine AO.nil ?_
  refine SQ.normal ?_
  refine AW.seq' ?_
  refine AW.region ?_
  refine AO.c ?_
  refine AO.call1 Tryz.func130 rfl rfl (ref_MayHead (numS b a) hnok) ?_
  refine AO.c ?_
  refine AO.nil ?_
  refine SQ.normal ?_
  refine AW.seq' ?_
  refine AW.seq' ?_
  refine AW.region ?_
  iterate 2 refine AO.c ?_
  refine AO.nil ?_
  refine SQ.normal ?_
  refine AW.iteB (GL.ev _) (fun h1 => ?_) (fun h1 => ?_)
  ·
   simp only [Bool.not_eq_true', decide_eq_false_iff_not] at h1
   have hno : ¬ ShOk b a := fun h => h1 (hmay.2 h.2.2)
   refine AW.seq' ?_
   refine AW.region ?_
   refine AO.c ?_
   refine AO.sst ?_
   refine AO.c ?_
   refine AO.nil ?_
   refine SQ.normal ?_
   refine AW.ret ?_
   refine SQ.ret ?_
   refine Fin.ret (Gh.refl) noid2 ?_
   show AV.tup _ = AV.tup _
   rw [if_neg hno, decide_eq_false hno]; rfl
  ·
   simp only [Bool.not_eq_false', decide_eq_true_eq] at h1
   have hyes : ShOk b a := ⟨ha1, ha2, hmay.1 h1⟩
   have hsame := numS_same (hmay.1 h1)
   refine AW.skip ?_
   refine SQ.normal ?_
   refine AW.seq' ?_
   refine AW.region ?_
   refine AO.c ?_
   refine AO.sst ?_
   refine AO.c ?_
   refine AO.nil ?_
   refine SQ.normal ?_
   refine AW.ret ?_
   refine Fin.ret (Gh.refl) noid2 ?_
   show AV.tup [AV.agg (shA (numS b a)), _] = AV.tup _
   rw [if_pos hyes, decide_eq_true hyes, hsame]
end Go.Proofs.YtdniaamhbfadnaaGreat.AL
namespace Go.Proofs.YtdniaamhbfadnaaGreat.AL
open Go Go.RowKit Go.Proofs.YtdniaamhbfadnaaGreat.Base
set_option linter.unusedVariables false
set_option linter.unusedSimpArgs false
set_option maxRecDepth 4000
set_option synthInstance.maxSize 1000
set_option synthInstance.maxHeartbeats 200000
/-- The number at the head of bytes, if it is one that may be. -/
def ulebH (l : List Int) : Option (Int × Nat) := match ulebD 5 l with
 | some (v, n) => if v > 2147483647 then none else some (v, n)
 | none => none
def ulebG (b : List Int) (a : Int) : Option (Int × Nat) := if 0 ≤ a then ulebH (b.drop a.toNat) else none
def gN (r : Option (Int × Nat)) : Int := match r with | some p => p.1 | none => 0
def gX (a : Int) (r : Option (Int × Nat)) : Int := match r with | some p => a + p.2 | none => 0
/-- All numbers of bytes. -/
def ulebAll : Nat → List Int → Option (List Int)
 | _, [] => some []
 | 0, _ :: _ => none
 | f + 1, x :: l => match ulebH (x :: l) with
  | none => none
  | some (v, n) => (ulebAll f ((x :: l).drop n)).map (v :: ·)
def encB (n : Int) : List Int := if 0 ≤ n ∧ n ≤ 2147483647 then enc 5 n else []
theorem ulebH_some {l : List Int} {v : Int} {n : Nat} (hB : Bytes l) (h : ulebH l = some (v, n)) : 0 ≤ v ∧ v ≤ 2147483647 ∧ 1 ≤ n ∧ n ≤ 5 ∧ n ≤ l.length := by
 unfold ulebH at h
 split at h
 · rename_i v' n' h1
   split at h
   · cases h
   · obtain ⟨rfl, rfl⟩ := Prod.mk.inj (Option.some.inj h)
     have := ulebD_bound 5 l _ _ hB h1
     omega
 · cases h
theorem ulebG_some {b : List Int} {a v : Int} {n : Nat} (hB : Bytes b) (h : ulebG b a = some (v, n)) : 0 ≤ a ∧ 0 ≤ v ∧ v ≤ 2147483647 ∧ 1 ≤ n ∧ n ≤ 5 ∧ a + n ≤ b.length := by
 unfold ulebG at h
 split at h
 · rename_i h0
   have := ulebH_some (hB.drop _) h
   rw [List.length_drop] at this
   omega
 · cases h
theorem ulebG_of {b : List Int} {a v : Int} {i k : Nat} {n : Int} (h0 : 0 ≤ a) (h : ulebD 5 (b.drop a.toNat) = (ulebD k (b.drop (a.toNat + i))).map (fun r => (n + 128 ^ i * r.1, r.2 + i))) (h1 : ulebD k (b.drop (a.toNat + i)) = none) : ulebG b a = none := by
 unfold ulebG ulebH
 rw [if_pos h0, h, h1]; rfl
theorem uleb_Get (b : List Int) (a : Int) (hB : Bytes b) (hb : b.length ≤ 1000000000000) (ha : I64 a) : A0 Tryz.prog 118 [.rd 1 (bys b), .v (.int .i64 (a))] (fun ret => ret = .tup [.v (.int .i64 (gN (ulebG b a))), .v (.int .i64 (gX a (ulebG b a))), .v (.bool (ulebG b a).isSome)]) := by
 unfold I64 at ha
 refine A0.body 47 Tryz.func118 rfl rfl Tryz.ntmps118 fun base n0 => ?_
 refine AW.seq' ?_
 refine AW.region ?_
 iterate 3 refine AO.c ?_
 refine AO.nil ?_
 refine SQ.normal ?_
 refine AW.seq' ?_
 refine AW.region ?_
 refine AO.c ?_
 refine AO.nil ?_
 refine SQ.normal ?_
 refine AW.seq' ?_
 refine AW.seq' ?_
 refine AW.region ?_
 refine AO.c ?_
 refine AO.nil ?_
 refine SQ.normal ?_
 refine AW.block' ?_
 refine AW.loopU2 [.k, .k, .f, .f, .f, .f, .f, .k, .f, .f, .k, .F, .F, .F, .F, .f, .f, .f, .f] (fun (i : Nat) (n : Int) => [(7, .v (.int .i64 (n))), (10, .v (.int .i64 (i)))]) (fun i n => Hn n0 []) (fun m i n => i ≤ 5 ∧ m = 5 - i ∧ (0 < i → 0 ≤ a) ∧ (0 ≤ n ∧ n < 128 ^ i) ∧ (0 ≤ a → ulebD 5 (b.drop a.toNat) = (ulebD (5 - i) (b.drop (a.toNat + i))).map (fun r => (n + 128 ^ i * r.1, r.2 + i)))) (5) (0) (0) ⟨by omega, by omega, by omega, by simp, fun _ => by simp⟩ (by first | rfl | (simp; done)) (by first | rfl | (simp; done)) ?_
 rintro m0 i n ⟨hx1, hx2, hx3, hx4, hx5⟩
 refine AW.seq' ?_
 refine AW.region ?_
 refine AO.c ?_
 refine AO.nil ?_
 refine SQ.normal ?_
 refine AW.seq' ?_
 refine AW.iteB (GL.ev _) (fun h0 => ?_) (fun h0 => ?_)
 ·
  rw [decide_eq_true_eq] at h0
  have hi5 : i < 5 := by omega
  have hpw : (128 : Int) ^ i ≤ 128 ^ 4 := pow128_le (by omega)
  refine AW.skip ?_
  refine SQ.normal ?_
  refine AW.seq' ?_
  refine AW.block' ?_
  refine AW.seq' ?_
  refine AW.region ?_
  iterate 2 refine AO.c ?_
  refine AO.nil ?_
  refine SQ.normal ?_
  refine AW.seq' ?_
  refine AW.seq' ?_
  refine AW.region ?_
  iterate 3 refine AO.c ?_
  iterate 4 refine AO.gx ?_
  refine AO.gxoo ?_
  refine AO.gx ?_
  refine AO.c ?_
  refine AO.nil ?_
  refine SQ.normal ?_
  refine AW.iteB (GL.ev _) (fun h1 => ?_) (fun h1 => ?_)
  ·
   simp only [Bool.or_eq_true, decide_eq_true_eq] at h1
   have hg : ulebG b a = none := by
    by_cases h : 0 ≤ a
    · have hnil : b.drop (a.toNat + i) = [] := List.drop_of_length_le (by omega)
      exact ulebG_of (v := 0) h (hx5 h) (by rw [hnil, show 5 - i = (4 - i) + 1 by omega]; rfl)
    · unfold ulebG; rw [if_neg h]
   refine AW.seq' ?_
   refine AW.region ?_
   iterate 3 refine AO.c ?_
   refine AO.nil ?_
   refine SQ.normal ?_
   refine AW.ret ?_
   refine SQ.ret <| BQ.ret <| SQ.ret <| AW.out <| LU.ret <| BQ.ret <| SQ.ret ?_
   refine Fin.ret (Gh.refl) noid3 ?_
   rw [hg]; rfl
  ·
   simp only [Bool.or_eq_false_iff, decide_eq_false_iff_not] at h1
   have hpa : 0 ≤ a := by omega
   have hlt : a.toNat + i < b.length := by omega
   have hd : ulebD (5 - i) (b.drop (a.toNat + i)) = if b.getD (a.toNat + i) 0 < 128 then some (b.getD (a.toNat + i) 0, 1) else (ulebD (5 - (i + 1)) (b.drop (a.toNat + (i + 1)))).map fun r => (b.getD (a.toNat + i) 0 % 128 + 128 * r.1, r.2 + 1) := by
    rw [drop_getD0 hlt, show 5 - i = (5 - (i + 1)) + 1 by omega]; rfl
   have hbr := bytes_getD hB (a.toNat + i)
   have hor := or_i64A i hi5 n (b.getD (a.toNat + i) 0 % 128) hx4.1 hx4.2 (by omega) (by omega)
   have hps : (128 : Int) ^ (i + 1) = 128 ^ i * 128 := Int.pow_succ _ _
   have hmul : 128 ^ i * (b.getD (a.toNat + i) 0 % 128) ≤ 128 ^ i * 127 := Int.mul_le_mul_of_nonneg_left (by omega) (by have := pow128_pos i; omega)
   have hmul0 : 0 ≤ 128 ^ i * (b.getD (a.toNat + i) 0 % 128) := Int.mul_nonneg (by have := pow128_pos i; omega) (by omega)
   refine AW.skip ?_
   refine SQ.normal ?_
   refine AW.seq' ?_
   refine AW.region ?_
   iterate 3 refine AO.c ?_
   refine AO.oo ?_
   refine AO.o (by omega) ?_
   refine AO.c ?_
   refine AO.eq 28 (av' := .v (.int .u8 (b.getD (a.toNat + i) 0))) (by rw [show (a + (i : Int)).toNat = a.toNat + i by omega]) ?_
   refine AO.c ?_
   refine AO.nil ?_
   refine SQ.normal ?_
   refine AW.seq' ?_
   refine AW.region ?_
   iterate 2 refine AO.c ?_
   iterate 2 refine AO.oo ?_
   refine AO.c ?_
   iterate 2 refine AO.oo ?_
   refine AO.c ?_
   refine AO.eq 36 (av' := .v (.int .i64 (n + 128 ^ i * (b.getD (a.toNat + i) 0 % 128)))) (by rw [← hor]) ?_
   refine AO.c ?_
   refine AO.nil ?_
   refine SQ.normal ?_
   refine AW.seq' ?_
   refine AW.seq' ?_
   refine AW.region ?_
   iterate 2 refine AO.c ?_
   refine AO.nil ?_
   refine SQ.normal ?_
   refine AW.iteB (GL.ev _) (fun h2 => ?_) (fun h2 => ?_)
   ·
    rw [decide_eq_true_eq] at h2
    refine AW.exit ?_
    refine SQ.exit <| BQ.exit ?_
    refine SQ.normal ?_
    refine AW.region ?_
    refine AO.oo ?_
    refine AO.c ?_
    refine AO.nil ?_
    exact AW.backU [.k, .k, .f, .f, .f, .f, .f, .k, .f, .f, .k, .F, .F, .F, .F, .f, .f, .f, .f] (m0 - 1) (i + 1, n + 128 ^ i * (b.getD (a.toNat + i) 0 % 128)) (by omega) (by (try dsimp only); exact ⟨by omega, by omega, fun _ => hpa, ⟨by omega, by omega⟩, fun _ => by rw [hx5 hpa, hd, if_neg (by omega), Option.map_map]; congr 1; funext r; simp only [Function.comp]; rw [Prod.mk.injEq]; exact ⟨by rw [Int.pow_succ, Int.mul_add, ← Int.mul_assoc]; omega, by omega⟩⟩) (by first | rfl | (simp; done)) (by first | rfl | (simp; done))
   ·
    rw [decide_eq_false_iff_not] at h2
    refine AW.skip ?_
    refine SQ.normal ?_
    refine AW.seq' ?_
    refine AW.seq' ?_
    refine AW.region ?_
    iterate 2 refine AO.c ?_
    refine AO.nil ?_
    refine SQ.normal ?_
    refine AW.iteB (GL.ev _) (fun h3 => ?_) (fun h3 => ?_)
    ·
     rw [decide_eq_true_eq] at h3
     have hlow : b.getD (a.toNat + i) 0 % 128 = b.getD (a.toNat + i) 0 := by omega
     have hg : ulebG b a = none := by
      unfold ulebG ulebH
      rw [if_pos hpa, hx5 hpa, hd, if_pos (by omega)]
      simp only [Option.map_some]
      rw [if_pos (by rw [← hlow]; omega)]
     refine AW.seq' ?_
     refine AW.region ?_
     iterate 3 refine AO.c ?_
     refine AO.nil ?_
     refine SQ.normal ?_
     refine AW.ret ?_
     refine SQ.ret <| BQ.ret <| SQ.ret <| AW.out <| LU.ret <| BQ.ret <| SQ.ret ?_
     refine Fin.ret (Gh.refl) noid3 ?_
     rw [hg]; rfl
    ·
     rw [decide_eq_false_iff_not] at h3
     have hlow : b.getD (a.toNat + i) 0 % 128 = b.getD (a.toNat + i) 0 := by omega
     have hg : ulebG b a = some (n + 128 ^ i * (b.getD (a.toNat + i) 0 % 128), 1 + i) := by
      unfold ulebG ulebH
      rw [if_pos hpa, hx5 hpa, hd, if_pos (by omega)]
      simp only [Option.map_some]
      rw [if_neg (by rw [← hlow]; omega), hlow]
     refine AW.skip ?_
     refine SQ.normal ?_
     refine AW.seq' ?_
     refine AW.region ?_
     iterate 3 refine AO.c ?_
     iterate 2 refine AO.oo ?_
     iterate 3 refine AO.c ?_
     refine AO.nil ?_
     refine SQ.normal ?_
     refine AW.ret ?_
     refine BQ.ret <| SQ.ret <| AW.out <| LU.ret <| BQ.ret <| SQ.ret ?_
     refine Fin.ret (Gh.refl) noid3 ?_
     rw [hg]
     show AV.tup [_, AV.v (.int .i64 (a + (i : Int) + 1)), _] = AV.tup [_, AV.v (.int .i64 (a + ((1 + i : Nat) : Int))), _]
     rw [show a + (i : Int) + 1 = a + ((1 + i : Nat) : Int) by omega]
     rfl
 ·
  rw [decide_eq_false_iff_not] at h0
  have hi5 : i = 5 := by omega
  have hg : ulebG b a = none := ulebG_of (v := 0) (k := 0) (by omega) (by have := hx5 (by omega); rw [hi5] at this; exact this) rfl
  refine AW.exit ?_
  refine SQ.exit <| AW.out <| LU.exit <| BQ.exit ?_
  refine SQ.normal ?_
  refine AW.seq' ?_
  refine AW.region ?_
  iterate 3 refine AO.c ?_
  refine AO.nil ?_
  refine SQ.normal ?_
  refine AW.ret ?_
  refine Fin.ret (Gh.refl) noid3 ?_
  rw [hg]; rfl
theorem ulebAll_nil (f : Nat) : ulebAll f [] = some [] := by cases f <;> rfl
theorem ulebAll_cons {f : Nat} {l : List Int} (h : l ≠ []) (hf : 1 ≤ f) : ulebAll f l = match ulebH l with
 | none => none
 | some (v, n) => (ulebAll (f - 1) (l.drop n)).map (v :: ·) := by
 obtain ⟨k, rfl⟩ : ∃ k, f = k + 1 := ⟨f - 1, by omega⟩
 cases l with
 | nil => exact absurd rfl h
 | cons x l => rfl
theorem encB_len (n : Int) : (encB n).length ≤ 5 := by unfold encB; split; exact enc_length 5 n; simp
theorem uleb_List (b : List Int) (hB : Bytes b) (hb : b.length ≤ 1000000000) : A0 Tryz.prog 78 [.rd 1 (bys b)] (fun ret => ret = .tup [.rd 1 (((ulebAll b.length b).getD []).map iA), .v (.bool (ulebAll b.length b).isSome)]) := by
 refine A0.body 28 Tryz.func78 rfl rfl Tryz.ntmps78 fun base n0 => ?_
 refine AW.seq' ?_
 refine AW.region ?_
 iterate 2 refine AO.c ?_
 refine AO.nil ?_
 refine SQ.normal ?_
 refine AW.seq' ?_
 refine AW.region ?_
 refine AO.c ?_
 refine AO.nil ?_
 refine SQ.normal ?_
 refine AW.seq' ?_
 refine AW.seq' ?_
 refine AW.region ?_
 refine AO.c ?_
 refine AO.nil ?_
 refine SQ.normal ?_
 refine AW.block' ?_
 refine AW.ghost (Gh.adoptM 4 3 1) ?_
 refine AW.loopU3 [.k, .f, .f, .f, .k, .k, .F, .F, .f, .f, .f, .f, .f, .f] (fun (ep : Nat) (a : Int) (out : List Int) => [(4, .own (n0 + 0) ep 0 out.length), (5, .v (.int .i64 (a)))]) (fun ep a out => Hn n0 [some (.row 3 1 ep (out.map iA))]) (fun m ep a out => (0 ≤ a ∧ a ≤ b.length ∧ (b.length : Int) - a ≤ m ∧ (out.length : Int) ≤ a) ∧ ulebAll b.length b = (ulebAll m (b.drop a.toNat)).map (out ++ ·)) (b.length) (0) (0) ([]) ⟨by simp, by simp⟩ (by first | rfl | (simp; done)) (by first | rfl | (simp; done)) ?_
 rintro m0 ep a out ⟨hx1, hx2⟩
 refine AW.seq' ?_
 refine AW.seq' ?_
 refine AW.region ?_
 iterate 4 refine AO.c ?_
 refine AO.nil ?_
 refine SQ.normal ?_
 refine AW.iteB (GL.ev _) (fun h0 => ?_) (fun h0 => ?_)
 ·
  rw [decide_eq_true_eq] at h0
  have hne : b.drop a.toNat ≠ [] := fun h => by have := congrArg List.length h; rw [List.length_drop] at this; simp at this; omega
  have hI : I64 a := by unfold I64; omega
  have hgd : ulebG b a = ulebH (b.drop a.toNat) := by unfold ulebG; rw [if_pos hx1.1]
  refine AW.skip ?_
  refine SQ.normal ?_
  refine AW.block' ?_
  refine AW.seq' ?_
  refine AW.region ?_
  iterate 2 refine AO.c ?_
  refine AO.call1 Tryz.func118 rfl rfl (uleb_Get _ _ (by assumption) (by omega) (by assumption)) ?_
  iterate 7 refine AO.c ?_
  refine AO.nil ?_
  refine SQ.normal ?_
  refine AW.seq' ?_
  refine AW.seq' ?_
  refine AW.region ?_
  iterate 2 refine AO.c ?_
  refine AO.nil ?_
  refine SQ.normal ?_
  refine AW.iteB (GL.ev _) (fun h1 => ?_) (fun h1 => ?_)
  ·
   have hgn : ulebG b a = none := by simpa using h1
   rw [ulebAll_cons hne (by omega), ← hgd, hgn] at hx2
   refine AW.seq' ?_
   refine AW.region ?_
   iterate 2 refine AO.c ?_
   refine AO.nil ?_
   refine SQ.normal ?_
   refine AW.ret ?_
   refine SQ.ret <| BQ.ret <| AW.out <| LU.ret <| BQ.ret <| SQ.ret ?_
   refine Fin.ret (Gh.nilM (α := Int) 2 1 iA) noid2 ?_
   rw [hx2]; rfl
  ·
   obtain ⟨⟨v, n⟩, hg⟩ : ∃ p, ulebG b a = some p := Option.isSome_iff_exists.1 (by simpa using h1)
   have hgs := ulebG_some hB hg
   have hnext : ulebAll b.length b = (ulebAll (m0 - 1) (b.drop (gX a (ulebG b a)).toNat)).map ((out ++ [gN (ulebG b a)]) ++ ·) := by
    rw [hx2, ulebAll_cons hne (by omega), ← hgd, hg]
    simp only [gX, gN, List.drop_drop]
    rw [Option.map_map, show (a + (n : Int)).toNat = a.toNat + n by omega]
    congr 1
    funext r
    simp
   refine AW.skip ?_
   refine SQ.normal ?_
   refine AW.seq' ?_
   refine AW.region ?_
   iterate 2 refine AO.c ?_
   refine AO.rr ?_
   refine AO.ww ?_
   refine AO.c ?_
   refine AO.nil ?_
   refine SQ.normal ?_
   refine AW.region ?_
   iterate 2 refine AO.c ?_
   refine AO.nil ?_
   refine BQ.normal ?_
   exact AW.backU [.k, .f, .f, .f, .k, .k, .F, .F, .f, .f, .f, .f, .f, .f] (m0 - 1) (ep + 1, gX a (ulebG b a), out ++ [gN (ulebG b a)]) (by omega) (by (try dsimp only); exact ⟨by rw [hg]; simp only [gX, List.length_append, List.length_cons, List.length_nil]; omega, hnext⟩) (by first | rfl | (simp; done)) (by first | rfl | (simp; done))
 ·
  rw [decide_eq_false_iff_not] at h0
  have hnil : b.drop a.toNat = [] := List.drop_of_length_le (by omega)
  rw [hnil, ulebAll_nil] at hx2
  refine AW.exit ?_
  refine SQ.exit <| AW.out <| LU.exit <| BQ.exit ?_
  refine SQ.normal ?_
  refine AW.seq' ?_
  refine AW.region ?_
  iterate 3 refine AO.c ?_
  refine AO.nil ?_
  refine SQ.normal ?_
  refine AW.ret ?_
  refine Fin.ret (Gh.freezeM 2 iA out rfl rfl (by omega)) noid2 ?_
  rw [hx2]; simp [packA]
theorem uleb_Put (n : Int) (hn : I64 n) : A0 Tryz.prog 170 [.v (.int .i64 (n))] (fun ret => ret = .rd 1 (bys (encB n))) := by
 unfold I64 at hn
 refine A0.body 26 Tryz.func170 rfl rfl Tryz.ntmps170 fun base n0 => ?_
 refine AW.seq' ?_
 refine AW.region ?_
 refine AO.c ?_
 refine AO.nil ?_
 refine SQ.normal ?_
 refine AW.seq' ?_
 refine AW.seq' ?_
 refine AW.region ?_
 iterate 3 refine AO.c ?_
 iterate 2 refine AO.gx ?_
 refine AO.c ?_
 refine AO.nil ?_
 refine SQ.normal ?_
 refine AW.iteB (GL.ev _) (fun h0 => ?_) (fun h0 => ?_)
 ·
  simp only [Bool.or_eq_true, decide_eq_true_eq] at h0
  have hno : encB n = [] := by unfold encB; rw [if_neg (by omega)]
  refine AW.seq' ?_
  refine AW.region ?_
  refine AO.c ?_
  refine AO.nil ?_
  refine SQ.normal ?_
  refine AW.ret ?_
  refine SQ.ret ?_
  refine Fin.ret (Gh.nilB 2) noid1 ?_
  rw [hno]; rfl
 ·
  simp only [Bool.or_eq_false_iff, decide_eq_false_iff_not] at h0
  have hyes : encB n = enc 5 n := by unfold encB; rw [if_pos (by omega)]
  refine AW.skip ?_
  refine SQ.normal ?_
  refine AW.seq' ?_
  refine AW.region ?_
  refine AO.c ?_
  refine AO.nil ?_
  refine SQ.normal ?_
  refine AW.seq' ?_
  refine AW.block' ?_
  refine AW.ghost (Gh.adoptB 3 5) ?_
  refine AW.loopU3 [.k, .f, .f, .k, .F, .F, .f, .f, .f, .f, .f, .f] (fun (ep : Nat) (x : Int) (out : List Int) => [(0, .v (.int .i64 (x))), (3, .own (n0 + 0) ep 0 out.length)]) (fun ep x out => Hn n0 [some (.row 5 1 ep (bys out))]) (fun m ep x out => enc 5 n = out ++ enc m x ∧ 0 ≤ x ∧ x < 128 ^ m ∧ (1 ≤ m ∧ out.length + m = 5)) (5) (0) (n) ([]) ⟨rfl, by omega, by omega, by simp⟩ (by first | rfl | (simp; done)) (by first | rfl | (simp; done)) ?_
  rintro m0 ep x out ⟨hx1, hx2, hx3, hx4⟩
  have hxb : x < 128 ^ 5 := Int.lt_of_lt_of_le hx3 (pow128_le (by omega))
  refine AW.seq' ?_
  refine AW.seq' ?_
  refine AW.region ?_
  iterate 2 refine AO.c ?_
  refine AO.nil ?_
  refine SQ.normal ?_
  refine AW.iteB (GL.ev _) (fun h1 => ?_) (fun h1 => ?_)
  ·
   rw [decide_eq_true_eq] at h1
   have hm2 : 2 ≤ m0 := by
    rcases Nat.lt_or_ge m0 2 with h | h
    · have : m0 = 1 := by omega
      subst this; omega
    · exact h
   have hst : enc m0 x = (x % 128 + 128) :: enc (m0 - 1) (x / 128) := by
    obtain ⟨k, rfl⟩ : ∃ k, m0 = k + 1 := ⟨m0 - 1, by omega⟩
    show (if x < 128 then [x] else _) = _
    rw [if_neg (by omega)]; rfl
   have hpp : x / 128 < 128 ^ (m0 - 1) := by
    obtain ⟨k, rfl⟩ : ∃ k, m0 = k + 1 := ⟨m0 - 1, by omega⟩
    have := hx3; rw [Int.pow_succ] at this
    show x / 128 < 128 ^ k
    omega
   refine AW.skip ?_
   refine SQ.normal ?_
   refine AW.seq' ?_
   refine AW.block' ?_
   refine AW.region ?_
   iterate 2 refine AO.c ?_
   iterate 3 refine AO.oo ?_
   refine AO.rr ?_
   refine AO.ww ?_
   refine AO.c ?_
   refine AO.nil ?_
   refine BQ.normal ?_
   refine SQ.normal ?_
   refine AW.region ?_
   refine AO.c ?_
   refine AO.oo ?_
   refine AO.c ?_
   refine AO.nil ?_
   exact AW.backU [.k, .f, .f, .k, .F, .F, .f, .f, .f, .f, .f, .f] (m0 - 1) (ep + 1, x / 128, out ++ [x % 128 + 128]) (by omega) (by (try dsimp only); exact ⟨by rw [hx1, hst]; simp, by omega, hpp, by simp; omega⟩) (by first | rfl | (simp; done)) (by first | rfl | (simp; done))
  ·
   rw [decide_eq_false_iff_not] at h1
   have hst : enc m0 x = [x] := by
    obtain ⟨k, rfl⟩ : ∃ k, m0 = k + 1 := ⟨m0 - 1, by omega⟩
    show (if x < 128 then [x] else _) = _
    rw [if_pos (by omega)]
   have hfin : out ++ [x] = encB n := by rw [hyes, hx1, hst]
   refine AW.exit ?_
   refine SQ.exit <| AW.out <| LU.exit <| BQ.exit ?_
   refine SQ.normal ?_
   refine AW.seq' ?_
   refine AW.region ?_
   iterate 2 refine AO.c ?_
   refine AO.oo ?_
   refine AO.rr ?_
   refine AO.ww ?_
   refine AO.c ?_
   refine AO.nil ?_
   refine SQ.normal ?_
   refine AW.ret ?_
   refine Fin.ret (Gh.freezeE 2 hfin (by rw [← hfin]; simp) (by rw [← hfin]; simp; omega)) noid1 ?_
   rfl
end Go.Proofs.YtdniaamhbfadnaaGreat.AL
namespace Go.Proofs.YtdniaamhbfadnaaGreat.AL
open Go Go.RowKit Go.Proofs.YtdniaamhbfadnaaGreat.Base
set_option linter.unusedVariables false
set_option linter.unusedSimpArgs false
set_option maxRecDepth 4000
set_option synthInstance.maxSize 1000
set_option synthInstance.maxHeartbeats 200000
theorem ba_ext {a b : ByteArray} (h : a.data.toList = b.data.toList) : a = b := by
 cases a; cases b; simp at h; simp [h]
theorem ba_eq {a b : ByteArray} : a.toList = b.toList ↔ a = b := ⟨fun h => ba_ext (by rwa [ByteArray.toList_eq, ByteArray.toList_eq] at h), fun h => by rw [h]⟩
@[reducible] def noS : ByteArray := ⟨#[]⟩
abbrev TabS := List Int × List Int × List (ByteArray × Int)
def tabStep (st : TabS) (s : ByteArray) : TabS :=
 if s = noS then (st.1, st.2.1 ++ [0], st.2.2)
 else match aget st.2.2 s with
  | some a => (st.1, st.2.1 ++ [a], st.2.2)
  | none => (st.1 ++ strB s ++ [0], st.2.1 ++ [(st.1.length : Int)], aput st.2.2 s (st.1.length : Int))
def tabOf (l : List ByteArray) : TabS := l.foldl tabStep ([0], [], [])
theorem tabOf_succ {l : List ByteArray} {i : Nat} (h : i < l.length) : tabOf (l.take (i + 1)) = tabStep (tabOf (l.take i)) (l.getD i default) := by
 unfold tabOf
 rw [List.take_succ_eq_append_getElem h, List.foldl_append]
 simp [h]
structure TabInv (l : List ByteArray) (st : TabS) : Prop where
 pl : st.2.1.length = l.length
 nil : ∀ k, k < l.length → l.getD k default = noS → st.2.1.getD k 0 = 0
 get : ∀ k, k < l.length → l.getD k default ≠ noS → aget st.2.2 (l.getD k default) = some (st.2.1.getD k 0)
 old : ∀ s a, aget st.2.2 s = some a → 0 ≤ a ∧ s ≠ noS ∧ ∃ k, k < l.length ∧ l.getD k default = s
 at_ : ∀ k, k < l.length → 0 ≤ st.2.1.getD k 0 ∧ ∃ r, st.1.drop (st.2.1.getD k 0).toNat = strB (l.getD k default) ++ 0 :: r
 t0 : ∃ r, st.1 = 0 :: r
theorem tab_start : TabInv [] ([0], [], []) := ⟨rfl, fun k h => by simp at h, fun k h => by simp at h, fun s a h => by simp [aget] at h, fun k h => by simp at h, ⟨[], rfl⟩⟩
theorem getD_snoc_lt {α : Type} {l : List α} {x d : α} {k : Nat} (h : k < l.length) : (l ++ [x]).getD k d = l.getD k d := by
 simp [List.getElem?_append_left h]
theorem getD_snoc_eq {α : Type} {l : List α} {x d : α} : (l ++ [x]).getD l.length d = x := by simp
theorem drop_app_of {T r u : List Int} {p : Nat} {h : List Int} (hp : T.drop p = h ++ 0 :: r) : (T ++ u).drop p = h ++ 0 :: (r ++ u) := by
 have hlt : p ≤ T.length := by
  rcases Nat.lt_or_ge T.length p with h1 | h1
  · rw [List.drop_of_length_le (by omega)] at hp
    have := congrArg List.length hp
    simp at this
  · exact h1
 rw [List.drop_append_of_le_length hlt, hp]
 simp
theorem tab_step {l : List ByteArray} {st : TabS} (h : TabInv l st) (s : ByteArray) : TabInv (l ++ [s]) (tabStep st s) := by
 obtain ⟨T, P, S⟩ := st
 obtain ⟨h1, h2, h3, h4, h5, h6⟩ := h
 simp only at h1 h2 h3 h4 h5 h6
 have hl : (l ++ [s]).length = l.length + 1 := by simp
 have split : ∀ {k : Nat}, k < (l ++ [s]).length → k < l.length ∨ k = l.length := fun h => by omega
 unfold tabStep
 by_cases hs : s = noS
 · rw [if_pos hs]
   refine ⟨by simp [h1], fun k hk he => ?_, fun k hk he => ?_, fun s' a ha => ?_, fun k hk => ?_, h6⟩
   · rcases split hk with hk | rfl
     · rw [getD_snoc_lt hk] at he
       show (P ++ [0]).getD k 0 = 0
       rw [getD_snoc_lt (by omega)]; exact h2 k hk he
     · show (P ++ [0]).getD l.length 0 = 0
       rw [← h1, getD_snoc_eq]
   · rcases split hk with hk | rfl
     · rw [getD_snoc_lt hk] at he ⊢
       show _ = some ((P ++ [0]).getD k 0)
       rw [getD_snoc_lt (by omega)]; exact h3 k hk he
     · rw [getD_snoc_eq] at he; exact absurd hs he
   · obtain ⟨g1, g2, k, g3, g4⟩ := h4 s' a ha
     exact ⟨g1, g2, k, by omega, by rw [getD_snoc_lt g3]; exact g4⟩
   · rcases split hk with hk | rfl
     · show 0 ≤ (P ++ [0]).getD k 0 ∧ ∃ r, T.drop ((P ++ [0]).getD k 0).toNat = _
       rw [getD_snoc_lt (by omega), getD_snoc_lt hk]; exact h5 k hk
     · show 0 ≤ (P ++ [0]).getD l.length 0 ∧ ∃ r, T.drop ((P ++ [0]).getD l.length 0).toNat = _
       rw [getD_snoc_eq, ← h1, getD_snoc_eq, hs]
       obtain ⟨r, rfl⟩ := h6
       exact ⟨by decide, r, rfl⟩
 · rw [if_neg hs]
   cases hg : aget S s with
   | some a =>
    simp only
    obtain ⟨g1, g2, k0, g3, g4⟩ := h4 s a hg
    have g5 := h3 k0 g3 (by rw [g4]; exact hs)
    rw [g4, hg] at g5
    obtain rfl := Option.some.inj g5
    refine ⟨by simp [h1], fun k hk he => ?_, fun k hk he => ?_, fun s' a ha => ?_, fun k hk => ?_, h6⟩
    · rcases split hk with hk | rfl
      · rw [getD_snoc_lt hk] at he
        show (P ++ [_]).getD k 0 = 0
        rw [getD_snoc_lt (by omega)]; exact h2 k hk he
      · rw [getD_snoc_eq] at he; exact absurd he hs
    · rcases split hk with hk | rfl
      · rw [getD_snoc_lt hk] at he ⊢
        show _ = some ((P ++ [_]).getD k 0)
        rw [getD_snoc_lt (by omega)]; exact h3 k hk he
      · show _ = some ((P ++ [_]).getD l.length 0)
        rw [getD_snoc_eq, ← h1, getD_snoc_eq]; exact hg
    · obtain ⟨g1, g2, k, g3, g4⟩ := h4 s' a ha
      exact ⟨g1, g2, k, by omega, by rw [getD_snoc_lt g3]; exact g4⟩
    · rcases split hk with hk | rfl
      · dsimp only
        rw [getD_snoc_lt (by omega), getD_snoc_lt hk]; exact h5 k hk
      · dsimp only
        rw [getD_snoc_eq, ← h1, getD_snoc_eq]
        have := h5 k0 g3
        rw [g4] at this; exact this
   | none =>
    simp only
    refine ⟨by simp [h1], fun k hk he => ?_, fun k hk he => ?_, fun s' a ha => ?_, fun k hk => ?_, ?_⟩
    · rcases split hk with hk | rfl
      · rw [getD_snoc_lt hk] at he
        show (P ++ [_]).getD k 0 = 0
        rw [getD_snoc_lt (by omega)]; exact h2 k hk he
      · rw [getD_snoc_eq] at he; exact absurd he hs
    · rcases split hk with hk | rfl
      · rw [getD_snoc_lt hk] at he ⊢
        show aget (aput S s _) _ = some ((P ++ [_]).getD k 0)
        rw [getD_snoc_lt (by omega), aget_aput]
        have := h3 k hk he
        rw [if_neg, this]
        intro e
        rw [← e, hg] at this; cases this
      · show aget (aput S s _) _ = some ((P ++ [_]).getD l.length 0)
        rw [getD_snoc_eq, ← h1, getD_snoc_eq, aget_aput, if_pos rfl]
    · have ha : aget (aput S s (T.length : Int)) s' = some a := ha
      rw [aget_aput] at ha
      by_cases e : s = s'
      · rw [if_pos e] at ha
        obtain rfl := Option.some.inj ha
        subst e
        exact ⟨by omega, hs, l.length, by omega, getD_snoc_eq⟩
      · rw [if_neg e] at ha
        obtain ⟨g1, g2, k, g3, g4⟩ := h4 s' a ha
        exact ⟨g1, g2, k, by omega, by rw [getD_snoc_lt g3]; exact g4⟩
    · rcases split hk with hk | rfl
      · dsimp only
        rw [getD_snoc_lt (by omega), getD_snoc_lt hk]
        obtain ⟨g1, r, g2⟩ := h5 k hk
        rw [List.append_assoc]
        exact ⟨g1, _, drop_app_of g2⟩
      · dsimp only
        rw [getD_snoc_eq, ← h1, getD_snoc_eq]
        refine ⟨by omega, [], ?_⟩
        rw [Int.toNat_natCast, List.append_assoc, List.drop_left]
    · obtain ⟨r, rfl⟩ := h6
      exact ⟨r ++ strB s ++ [0], by simp⟩
theorem tab_invG : ∀ (l2 l1 : List ByteArray) (st : TabS), TabInv l1 st → TabInv (l1 ++ l2) (l2.foldl tabStep st) := by
 intro l2
 induction l2 with
 | nil => intro l1 st h; rwa [List.append_nil]
 | cons s l2 ih =>
  intro l1 st h
  have := ih (l1 ++ [s]) (tabStep st s) (tab_step h s)
  rwa [List.append_assoc] at this
theorem tab_inv (l : List ByteArray) : TabInv l (tabOf l) := tab_invG l [] _ tab_start
theorem getD_lt {l : List Int} {j : Nat} {d : Int} (h : j < l.length) : l.getD j d = l[j] := by simp [h]
/-- What begins at a place of a table. -/
def atF (b : List Int) (a : Int) : Option ByteArray :=
 if 0 ≤ a ∧ a < b.length then
  if firstB (b.drop a.toNat) 0 < 0 ∨ firstB (b.drop a.toNat) 0 > 32 then none else some (strOfNums ((b.take (a + firstB (b.drop a.toNat) 0).toNat).drop a.toNat))
 else none
theorem atF_at {b : List Int} {a : Int} {i : Nat} (h0 : 0 ≤ a) (hi : a.toNat ≤ i) (hl : i < b.length) (h : ∀ j, a.toNat ≤ j → j < i → b.getD j 0 ≠ 0) (hz : b.getD i 0 = 0) : firstB (b.drop a.toNat) 0 = (i : Int) - a := by
 have hg : ∀ j, (b.drop a.toNat).getD j default = b.getD (a.toNat + j) 0 := fun j => by simp [List.getElem?_drop]
 have := idxF_at (q := fun x : Int => x == 0) (l := b.drop a.toNat) (i := i - a.toNat) (by rw [List.length_drop]; omega) (fun j hj => by
  rw [hg]; simpa using h (a.toNat + j) (by omega) (by omega)) (by
  rw [hg, show a.toNat + (i - a.toNat) = i by omega, hz]; rfl)
 unfold firstB
 rw [this]; omega
theorem strB_getD (s : ByteArray) (j : Nat) : (strB s).getD j 0 = ((s.data.toList.getD j 0).toNat : Int) := by
 unfold strB
 rw [List.getD_eq_getElem?_getD, List.getD_eq_getElem?_getD, List.getElem?_map]
 cases s.data.toList[j]? <;> rfl
theorem firstB_gt {l : List Int} {m : Nat} (h : ∀ j, j < m → l.getD j 0 ≠ 0) : firstB l 0 = -1 ∨ (m : Int) ≤ firstB l 0 := by
 unfold firstB idxF
 cases hf : l.findIdx? (fun x => x == 0) with
 | none => exact .inl rfl
 | some i =>
  right
  have h1 := List.findIdx?_eq_some_iff_getElem.1 hf
  obtain ⟨h2, h3, _⟩ := h1
  rcases Nat.lt_or_ge i m with h4 | h4
  · have := h i h4
    simp [h2] at this h3
    exact absurd h3 this
  · show (m : Int) ≤ (i : Int); omega
theorem firstB_none {l : List Int} (h : ∀ j, j < l.length → l.getD j 0 ≠ 0) : firstB l 0 = -1 := by
 unfold firstB
 exact idxF_none fun j hj => by simpa using h j hj
theorem drop_get {b : List Int} {a j : Nat} : (b.drop a).getD j 0 = b.getD (a + j) 0 := by simp [List.getElem?_drop]
/-- May a text be a name? -/
def mayS (s : ByteArray) : Bool := decide (s.size ≤ 32 ∧ firstB (strB s) 0 < 0)
theorem mayS_of {s : ByteArray} (h : s.size ≤ 32) (h0 : ∀ j, j < s.size → (s.data.toList.getD j 0).toNat ≠ 0) : mayS s = true := by
 unfold mayS
 rw [decide_eq_true_eq]
 refine ⟨h, ?_⟩
 rw [firstB_none]
 · decide
 · intro j hj
   rw [strB_len] at hj
   have := h0 j hj
   rw [strB_getD]; omega
theorem mayS_no {s : ByteArray} {j : Nat} (hj : j < s.size) (h : (s.data.toList.getD j 0).toNat = 0) : mayS s = false := by
 unfold mayS
 rw [decide_eq_false_iff_not]
 intro ⟨_, h2⟩
 have e : (strB s).getD j 0 = 0 := by rw [strB_getD, h]; rfl
 unfold firstB idxF at h2
 cases hf : (strB s).findIdx? (fun x => x == 0) with
 | none =>
  rw [List.findIdx?_eq_none_iff] at hf
  have hm : (strB s).getD j 0 ∈ strB s := by
   have h1 : j < (strB s).length := by rw [strB_len]; exact hj
   rw [getD_lt h1]; exact List.getElem_mem h1
  have := hf _ hm
  rw [e] at this
  cases this
 | some i =>
  rw [hf] at h2
  have h2 : (i : Int) < 0 := h2
  omega
theorem tab_len : ∀ (l2 : List ByteArray) (st : TabS) (c : Nat), (∀ s ∈ l2, s.size ≤ 1000000) → st.1.length ≤ c → (l2.foldl tabStep st).1.length ≤ c + 1000001 * l2.length := by
 intro l2
 induction l2 with
 | nil => intro st c _ h; simpa using h
 | cons s l2 ih =>
  intro st c h hc
  have := ih (tabStep st s) (c + 1000001) (fun x hx => h x (by simp [hx])) (by
   have hs := h s (by simp)
   unfold tabStep
   split
   · dsimp only; omega
   · split
     · dsimp only; omega
     · simp only [List.length_append, strB_len, List.length_cons, List.length_nil]; omega)
  simp only [List.foldl_cons, List.length_cons]
  omega
theorem tabOf_len {l : List ByteArray} (h : ∀ s ∈ l, s.size ≤ 1000000) : (tabOf l).1.length ≤ 1 + 1000001 * l.length := tab_len l _ 1 h (by simp)
theorem tabOf_pl (l : List ByteArray) : (tabOf l).2.1.length = l.length := (tab_inv l).pl
theorem szI {l : List ByteArray} (h : ∀ s ∈ l, s.size ≤ 1000000) (i : Nat) : (l.getD i default).size ≤ 1000000 := by
 rcases Nat.lt_or_ge i l.length with hi | hi
 · exact h _ (getD_in hi)
 · rw [List.getD_eq_getElem?_getD, List.getElem?_eq_none hi]; decide
theorem takeI {l : List ByteArray} (h : ∀ s ∈ l, s.size ≤ 1000000) (i : Nat) : ∀ s ∈ l.take i, s.size ≤ 1000000 := fun s hs => h s (List.mem_of_mem_take hs)
theorem step_no {st : TabS} {s : ByteArray} (h : s = noS) : tabStep st s = (st.1, st.2.1 ++ [0], st.2.2) := by unfold tabStep; rw [if_pos h]
theorem step_old {st : TabS} {s : ByteArray} {a : Int} (h : s ≠ noS) (h1 : aget st.2.2 s = some a) : tabStep st s = (st.1, st.2.1 ++ [a], st.2.2) := by unfold tabStep; rw [if_neg h, h1]
theorem step_new {st : TabS} {s : ByteArray} (h : s ≠ noS) (h1 : aget st.2.2 s = none) : tabStep st s = (st.1 ++ strB s ++ [0], st.2.1 ++ [(st.1.length : Int)], aput st.2.2 s (st.1.length : Int)) := by unfold tabStep; rw [if_neg h, h1]
theorem take_getD {α : Type} {l : List α} {i k : Nat} {d : α} (h : k < i) : (l.take i).getD k d = l.getD k d := by
 rw [List.getD_eq_getElem?_getD, List.getD_eq_getElem?_getD, List.getElem?_take, if_pos h]
theorem bytes_IndexByte (li : List Int) (c : Int) (hB : ∀ x ∈ li, 0 ≤ x ∧ x < 256) (hc : 0 ≤ c ∧ c < 256) : A0 Tryz.prog 115 [.rd 1 (bys li), .v (.int .u8 c)] (fun ret => ret = .v (.int .i64 (firstB li c))) := by
 refine A0.body 8 Tryz.func115 rfl rfl Tryz.ntmps115 fun base n0 => ?_
 refine AW.seq' ?_
 refine AW.region ?_
 refine AO.c ?_
 refine AO.nil ?_
 refine SQ.normal ?_
 refine AW.seq' ?_
 refine AW.region ?_
 iterate 2 refine AO.c ?_
 refine AO.indexRd Tryz.func152 rfl rfl (by kernel_rfl) (by kernel_rfl) hB hc ?_
 refine AO.c ?_
 refine AO.nil ?_
 refine SQ.normal ?_
 refine AW.ret ?_
 refine Fin.ret (Gh.refl) noid1 ?_
 rfl
theorem slite_IndexByte (s : ByteArray) (c : Int) (hc : 0 ≤ c ∧ c < 256) : A0 Tryz.prog 172 [.v (.string s), .v (.int .u8 c)] (fun ret => ret = .v (.int .i64 (firstB (strB s) c))) := by
 refine A0.body 8 Tryz.func172 rfl rfl Tryz.ntmps172 fun base n0 => ?_
 refine AW.seq' ?_
 refine AW.region ?_
 refine AO.c ?_
 refine AO.nil ?_
 refine SQ.normal ?_
 refine AW.seq' ?_
 refine AW.region ?_
 iterate 2 refine AO.c ?_
 refine AO.indexStr Tryz.func175 rfl rfl (by kernel_rfl) (by kernel_rfl) hc ?_
 refine AO.c ?_
 refine AO.nil ?_
 refine SQ.normal ?_
 refine AW.ret ?_
 refine Fin.ret (Gh.refl) noid1 ?_
 rfl
theorem strings_IndexByte (s : ByteArray) (c : Int) (hc : 0 ≤ c ∧ c < 256) : A0 Tryz.prog 155 [.v (.string s), .v (.int .u8 c)] (fun ret => ret = .v (.int .i64 (firstB (strB s) c))) := by
 refine A0.body 8 Tryz.func155 rfl rfl Tryz.ntmps155 fun base n0 => ?_
 refine AW.seq' ?_
 refine AW.region ?_
 refine AO.c ?_
 refine AO.nil ?_
 refine SQ.normal ?_
 refine AW.seq' ?_
 refine AW.region ?_
 iterate 2 refine AO.c ?_
 refine AO.call1 Tryz.func172 rfl rfl (slite_IndexByte _ _ (by omega)) ?_
 refine AO.c ?_
 refine AO.nil ?_
 refine SQ.normal ?_
 refine AW.ret ?_
 refine Fin.ret (Gh.refl) noid1 ?_
 rfl
theorem strtab_May (s : ByteArray) : A0 Tryz.prog 119 [.v (.string s)] (fun ret => ret = .v (.bool (mayS s))) := by
 refine A0.body 11 Tryz.func119 rfl rfl Tryz.ntmps119 fun base n0 => ?_
 refine AW.seq' ?_
 refine AW.region ?_
 refine AO.c ?_
 refine AO.nil ?_
 refine SQ.normal ?_
 refine AW.seq' ?_
 refine AW.region ?_
 iterate 4 refine AO.c ?_
 refine AO.gx ?_
 refine AO.gxcall1 Tryz.func155 rfl rfl (fun hgd => strings_IndexByte _ _ (by omega)) ?_
 refine AO.gx ?_
 iterate 2 refine AO.c ?_
 refine AO.nil ?_
 refine SQ.normal ?_
 refine AW.ret ?_
 refine Fin.ret (Gh.refl) noid1 ?_
 show AV.v (.bool _) = AV.v (.bool _)
 congr 2
 unfold mayS
 rw [Bool.eq_iff_iff]
 simp only [Bool.and_eq_true, decide_eq_true_eq]
 omega
theorem ref_NameS (s : ByteArray) (hs : s.size ≤ 9223372036854775807) : A0 Tryz.prog 133 [.v (.string s)] (fun ret => ret = .v (.bool (mayS s))) := by
 refine A0.body 18 Tryz.func133 rfl rfl Tryz.ntmps133 fun base n0 => ?_
 refine AW.seq' ?_
 refine AW.region ?_
 refine AO.c ?_
 refine AO.nil ?_
 refine SQ.normal ?_
 refine AW.seq' ?_
 refine AW.seq' ?_
 refine AW.region ?_
 refine AO.c ?_
 refine AO.nil ?_
 refine SQ.normal ?_
 refine AW.block' ?_
 refine AW.loopU [.k, .f, .f, .k, .F, .f, .f, .f, .f, .f, .f] (fun (i : Nat) => [(3, .v (.int .i64 (i)))]) (fun i => Hn n0 []) (fun m i => i ≤ s.size ∧ i ≤ 32 ∧ m = s.size - i ∧ ∀ j, j < i → (s.data.toList.getD j 0).toNat ≠ 0) (s.size) (0) ⟨by omega, by omega, rfl, fun j h => by omega⟩ (by first | rfl | (simp; done)) (by first | rfl | (simp; done)) ?_
 rintro m0 i ⟨hx1, hx4, hx2, hx3⟩
 refine AW.seq' ?_
 refine AW.seq' ?_
 refine AW.region ?_
 iterate 4 refine AO.c ?_
 refine AO.nil ?_
 refine SQ.normal ?_
 refine AW.iteB (GL.ev _) (fun h0 => ?_) (fun h0 => ?_)
 ·
  rw [decide_eq_true_eq] at h0
  refine AW.skip ?_
  refine SQ.normal ?_
  refine AW.seq' ?_
  refine AW.block' ?_
  refine AW.seq' ?_
  refine AW.region ?_
  iterate 3 refine AO.c ?_
  iterate 2 refine AO.gx ?_
  refine AO.gxoo ?_
  refine AO.gx ?_
  refine AO.c ?_
  refine AO.nil ?_
  refine SQ.normal ?_
  refine AW.iteB (GL.ev _) (fun h1 => ?_) (fun h1 => ?_)
  ·
   simp only [Bool.or_eq_true, decide_eq_true_eq, Int.toNat_natCast] at h1
   have hres : mayS s = false := by
    rcases h1 with h1 | h1
    · unfold mayS; rw [decide_eq_false_iff_not]; omega
    · exact mayS_no (j := i) (by omega) (by omega)
   refine AW.seq' ?_
   refine AW.region ?_
   refine AO.c ?_
   refine AO.nil ?_
   refine SQ.normal ?_
   refine AW.ret ?_
   refine BQ.ret <| SQ.ret <| AW.out <| LU.ret <| BQ.ret <| SQ.ret ?_
   refine Fin.ret (Gh.refl) noid1 ?_
   rw [hres]; rfl
  ·
   simp only [Bool.or_eq_false_iff, decide_eq_false_iff_not, Int.toNat_natCast] at h1
   refine AW.skip ?_
   refine BQ.normal ?_
   refine SQ.normal ?_
   refine AW.region ?_
   refine AO.c ?_
   refine AO.oo ?_
   refine AO.c ?_
   refine AO.nil ?_
   exact AW.backU [.k, .f, .f, .k, .F, .f, .f, .f, .f, .f, .f] (m0 - 1) (i + 1) (by omega) (by (try dsimp only); exact ⟨by omega, by omega, by omega, fun j hj => (Nat.lt_or_eq_of_le (Nat.le_of_lt_succ hj)).elim (hx3 j) (fun h => by rw [h]; omega)⟩) (by first | rfl | (simp; done)) (by first | rfl | (simp; done))
 ·
  rw [decide_eq_false_iff_not] at h0
  have hres : mayS s = true := mayS_of (by omega) fun j hj => hx3 j (by omega)
  refine AW.exit ?_
  refine SQ.exit <| AW.out <| LU.exit <| BQ.exit ?_
  refine SQ.normal ?_
  refine AW.seq' ?_
  refine AW.region ?_
  refine AO.c ?_
  refine AO.nil ?_
  refine SQ.normal ?_
  refine AW.ret ?_
  refine Fin.ret (Gh.refl) noid1 ?_
  rw [hres]; rfl
theorem strtab_At (b : List Int) (a : Int) (hB : Bytes b) (hb : b.length ≤ 1000000000000) (ha : I64 a) : A0 Tryz.prog 71 [.rd 1 (bys b), .v (.int .i64 (a))] (fun ret => ret = .tup [.v (.string ((atF b a).getD noS)), .v (.bool (atF b a).isSome)]) := by
 unfold I64 at ha
 refine A0.body 32 Tryz.func71 rfl rfl Tryz.ntmps71 fun base n0 => ?_
 refine AW.seq' ?_
 refine AW.region ?_
 iterate 2 refine AO.c ?_
 refine AO.nil ?_
 refine SQ.normal ?_
 refine AW.seq' ?_
 refine AW.seq' ?_
 refine AW.region ?_
 iterate 3 refine AO.c ?_
 iterate 4 refine AO.gx ?_
 refine AO.c ?_
 refine AO.nil ?_
 refine SQ.normal ?_
 refine AW.iteB (GL.ev _) (fun h0 => ?_) (fun h0 => ?_)
 ·
  simp only [Bool.or_eq_true, decide_eq_true_eq] at h0
  have hres : atF b a = none := by unfold atF; rw [if_neg (by omega)]
  refine AW.seq' ?_
  refine AW.region ?_
  iterate 2 refine AO.c ?_
  refine AO.nil ?_
  refine SQ.normal ?_
  refine AW.ret ?_
  refine SQ.ret ?_
  refine Fin.ret (Gh.refl) noid2 ?_
  rw [hres]; rfl
 ·
  simp only [Bool.or_eq_false_iff, decide_eq_false_iff_not] at h0
  have hfl : firstB (b.drop a.toNat) 0 < (b.drop a.toNat).length := idxF_lt
  rw [List.length_drop] at hfl
  refine AW.skip ?_
  refine SQ.normal ?_
  refine AW.seq' ?_
  refine AW.region ?_
  iterate 2 refine AO.c ?_
  refine AO.oo ?_
  refine AO.eq 17 (av' := .rd 1 (bys (b.drop a.toNat))) (by simp) ?_
  refine AO.call1 Tryz.func115 rfl rfl (bytes_IndexByte (b.drop a.toNat) 0 (hB.drop _) (by omega)) ?_
  refine AO.c ?_
  refine AO.nil ?_
  refine SQ.normal ?_
  refine AW.seq' ?_
  refine AW.seq' ?_
  refine AW.region ?_
  iterate 3 refine AO.c ?_
  iterate 2 refine AO.gx ?_
  refine AO.c ?_
  refine AO.nil ?_
  refine SQ.normal ?_
  refine AW.iteB (GL.ev _) (fun h1 => ?_) (fun h1 => ?_)
  ·
   simp only [Bool.or_eq_true, decide_eq_true_eq] at h1
   have hres : atF b a = none := by unfold atF; rw [if_pos (by omega), if_pos h1]
   refine AW.seq' ?_
   refine AW.region ?_
   iterate 2 refine AO.c ?_
   refine AO.nil ?_
   refine SQ.normal ?_
   refine AW.ret ?_
   refine SQ.ret ?_
   refine Fin.ret (Gh.refl) noid2 ?_
   rw [hres]; rfl
  ·
   simp only [Bool.or_eq_false_iff, decide_eq_false_iff_not] at h1
   have hres : atF b a = some (strOfNums ((b.take (a + firstB (b.drop a.toNat) 0).toNat).drop a.toNat)) := by unfold atF; rw [if_pos (by omega), if_neg (by omega)]
   refine AW.skip ?_
   refine SQ.normal ?_
   refine AW.seq' ?_
   refine AW.region ?_
   iterate 4 refine AO.c ?_
   refine AO.oo ?_
   refine AO.o (by simp only [Option.getD_some]; omega) ?_
   iterate 3 refine AO.c ?_
   refine AO.nil ?_
   refine SQ.normal ?_
   refine AW.ret ?_
   refine Fin.ret (Gh.refl) noid2 ?_
   rw [hres]; rfl
theorem ref_At (b : List Int) (a : Int) (hB : Bytes b) (hb : b.length ≤ 1000000000000) (ha : I64 a) : A0 Tryz.prog 88 [.rd 1 (bys b), .v (.int .i64 (a))] (fun ret => ret = .tup [.v (.string ((atF b a).getD noS)), .v (.bool (atF b a).isSome)]) := by
 unfold I64 at ha
 refine A0.body 38 Tryz.func88 rfl rfl Tryz.ntmps88 fun base n0 => ?_
 refine AW.seq' ?_
 refine AW.region ?_
 iterate 2 refine AO.c ?_
 refine AO.nil ?_
 refine SQ.normal ?_
 refine AW.seq' ?_
 refine AW.seq' ?_
 refine AW.region ?_
 iterate 3 refine AO.c ?_
 iterate 4 refine AO.gx ?_
 refine AO.c ?_
 refine AO.nil ?_
 refine SQ.normal ?_
 refine AW.iteB (GL.ev _) (fun h0 => ?_) (fun h0 => ?_)
 ·
  simp only [Bool.or_eq_true, decide_eq_true_eq] at h0
  have hres : atF b a = none := by unfold atF; rw [if_neg (by omega)]
  refine AW.seq' ?_
  refine AW.region ?_
  iterate 2 refine AO.c ?_
  refine AO.nil ?_
  refine SQ.normal ?_
  refine AW.ret ?_
  refine SQ.ret ?_
  refine Fin.ret (Gh.refl) noid2 ?_
  rw [hres]; rfl
 ·
  simp only [Bool.or_eq_false_iff, decide_eq_false_iff_not] at h0
  refine AW.skip ?_
  refine SQ.normal ?_
  refine AW.seq' ?_
  refine AW.seq' ?_
  refine AW.region ?_
  iterate 2 refine AO.c ?_
  refine AO.nil ?_
  refine SQ.normal ?_
  refine AW.block' ?_
  refine AW.loopU [.k, .k, .f, .f, .f, .f, .k, .F, .F, .F, .f, .f, .f, .f, .f, .f, .f] (fun (i : Int) => [(6, .v (.int .i64 (i)))]) (fun i => Hn n0 []) (fun m i => a ≤ i ∧ i ≤ b.length ∧ m = (b.length - i).toNat ∧ ∀ j, a.toNat ≤ j → j < i.toNat → b.getD j 0 ≠ 0) ((b.length - a).toNat) (a) ⟨by omega, by omega, rfl, fun j h h2 => by omega⟩ (by first | rfl | (simp; done)) (by first | rfl | (simp; done)) ?_
  rintro m0 i ⟨hx1, hx2, hx3, hx4⟩
  refine AW.seq' ?_
  refine AW.seq' ?_
  refine AW.region ?_
  iterate 5 refine AO.c ?_
  iterate 2 refine AO.gx ?_
  refine AO.gxoo ?_
  refine AO.gx ?_
  refine AO.c ?_
  refine AO.nil ?_
  refine SQ.normal ?_
  refine AW.iteB (GL.ev _) (fun h1 => ?_) (fun h1 => ?_)
  ·
   simp only [Bool.and_eq_true, decide_eq_true_eq] at h1
   refine AW.skip ?_
   refine SQ.normal ?_
   refine AW.seq' ?_
   refine AW.block' ?_
   refine AW.seq' ?_
   refine AW.region ?_
   iterate 2 refine AO.c ?_
   refine AO.oo ?_
   iterate 2 refine AO.c ?_
   refine AO.nil ?_
   refine SQ.normal ?_
   refine AW.iteB (GL.ev _) (fun h2 => ?_) (fun h2 => ?_)
   ·
    rw [decide_eq_true_eq] at h2
    have hf := atF_at (b := b) (a := a) (i := i.toNat) (by omega) (by omega) (by omega) hx4 h2
    have hres : atF b a = some (strOfNums ((b.take i.toNat).drop a.toNat)) := by
     unfold atF
     rw [if_pos (by omega), hf, if_neg (by omega)]
     congr 4
     omega
    refine AW.seq' ?_
    refine AW.region ?_
    iterate 3 refine AO.c ?_
    refine AO.oo ?_
    iterate 3 refine AO.c ?_
    refine AO.nil ?_
    refine SQ.normal ?_
    refine AW.ret ?_
    refine BQ.ret <| SQ.ret <| AW.out <| LU.ret <| BQ.ret <| SQ.ret ?_
    refine Fin.ret (Gh.refl) noid2 ?_
    rw [hres]; rfl
   ·
    rw [decide_eq_false_iff_not] at h2
    refine AW.skip ?_
    refine BQ.normal ?_
    refine SQ.normal ?_
    refine AW.region ?_
    refine AO.c ?_
    refine AO.oo ?_
    refine AO.c ?_
    refine AO.nil ?_
    exact AW.backU [.k, .k, .f, .f, .f, .f, .k, .F, .F, .F, .f, .f, .f, .f, .f, .f, .f] (m0 - 1) (i + 1) (by omega) (by (try dsimp only); exact ⟨by omega, by omega, by omega, fun j hj hj2 => (Nat.lt_or_eq_of_le (show j ≤ i.toNat by omega)).elim (hx4 j hj) (fun h => by rw [h]; omega)⟩) (by first | rfl | (simp; done)) (by first | rfl | (simp; done))
  ·
   simp only [Bool.and_eq_false_iff, decide_eq_false_iff_not] at h1
   have hres : atF b a = none := by
    unfold atF
    rw [if_pos (by omega), if_pos]
    rcases h1 with h1 | h1
    · left
      rw [firstB_none]
      · decide
      · intro j hj
        rw [List.length_drop] at hj
        rw [drop_get]; exact hx4 _ (by omega) (by omega)
    · have := firstB_gt (l := b.drop a.toNat) (m := 33) fun j hj => by rw [drop_get]; exact hx4 _ (by omega) (by omega)
      omega
   refine AW.exit ?_
   refine SQ.exit <| AW.out <| LU.exit <| BQ.exit ?_
   refine SQ.normal ?_
   refine AW.seq' ?_
   refine AW.region ?_
   iterate 2 refine AO.c ?_
   refine AO.nil ?_
   refine SQ.normal ?_
   refine AW.ret ?_
   refine Fin.ret (Gh.refl) noid2 ?_
   rw [hres]; rfl
set_option maxHeartbeats 1000000 in
theorem strtab_Make (l : List ByteArray) (hl : l.length ≤ 1000000) (hsz : ∀ s ∈ l, s.size ≤ 1000000) : A0 Tryz.prog 149 [.rd 1 (l.map sA)] (fun ret => ret = .tup [.rd 1 (bys (tabOf l).1), .rd 1 ((tabOf l).2.1.map iA)]) := by
 refine A0.body 49 Tryz.func149 rfl rfl Tryz.ntmps149 fun base n0 => ?_
 refine AW.seq' ?_
 refine AW.region ?_
 iterate 2 refine AO.c ?_
 refine AO.nil ?_
 refine SQ.normal ?_
 refine AW.seq' ?_
 refine AW.region ?_
 refine AO.ww ?_
 refine AO.c ?_
 refine AO.nil ?_
 refine SQ.normal ?_
 refine AW.seq' ?_
 refine AW.region ?_
 refine AO.ww ?_
 refine AO.c ?_
 refine AO.nil ?_
 refine SQ.normal ?_
 refine AW.seq' ?_
 refine AW.region ?_
 refine AO.ww ?_
 refine AO.c ?_
 refine AO.nil ?_
 refine SQ.normal ?_
 refine AW.seq' ?_
 refine AW.seq' ?_
 refine AW.region ?_
 iterate 3 refine AO.c ?_
 refine AO.nil ?_
 refine SQ.normal ?_
 refine AW.block' ?_
 refine AW.loopU3 [.f, .f, .f, .f, .k, .k, .k, .F, .k, .k, .k, .F, .F, .F, .f, .f, .f, .f, .f, .f, .f] (fun (i ep : Nat) (st : TabS) => [(4, .own (n0 + 0) ep 0 st.1.length), (5, .own (n0 + 1) i 0 st.2.1.length), (17, .v (.int .i64 (i)))]) (fun i ep st => Hn n0 [some (.row 5 1 (ep) (bys st.1)), some (.row 3 1 (i) (st.2.1.map iA)), some (.map (st.2.2.map (mE kS vI)))]) (fun m i ep st => i ≤ l.length ∧ m = l.length - i ∧ st = tabOf (l.take i)) (l.length) (0) (0) (([0], [], [])) ⟨by omega, rfl, by simp [tabOf]⟩ (by first | rfl | (simp; done)) (by first | rfl | (simp; done)) ?_
 rintro m0 i ep st ⟨hx1, hx2, hx3⟩
 have hlen : st.1.length ≤ 1 + 1000001 * i := by
  have := tabOf_len (takeI hsz i)
  rw [← hx3, List.length_take] at this
  omega
 have hpl : st.2.1.length = i := by
  have := tabOf_pl (l.take i)
  rw [← hx3, List.length_take] at this
  omega
 have hsi := szI hsz i
 refine AW.seq' ?_
 refine AW.region ?_
 refine AO.c ?_
 refine AO.nil ?_
 refine SQ.normal ?_
 refine AW.seq' ?_
 refine AW.iteB (GL.ev _) (fun h0 => ?_) (fun h0 => ?_)
 ·
  rw [decide_eq_true_eq] at h0
  have hi : i < l.length := by omega
  refine AW.skip ?_
  refine SQ.normal ?_
  refine AW.seq' ?_
  refine AW.block' ?_
  refine AW.seq' ?_
  refine AW.region ?_
  refine AO.oo ?_
  iterate 2 refine AO.c ?_
  refine AO.nil ?_
  refine SQ.normal ?_
  refine AW.seq' ?_
  refine AW.region ?_
  refine AO.c ?_
  refine AO.nil ?_
  refine SQ.normal ?_
  refine AW.seq' ?_
  refine AW.seq' ?_
  refine AW.region ?_
  iterate 2 refine AO.c ?_
  refine AO.nil ?_
  refine SQ.normal ?_
  refine AW.iteB (GL.ev _) (fun h1 => ?_) (fun h1 => ?_)
  ·
   rw [decide_eq_true_eq, Ne, ba_eq] at h1
   have hne : l.getD i default ≠ noS := h1
   refine AW.seq' ?_
   refine AW.region ?_
   iterate 8 refine AO.c ?_
   refine AO.nil ?_
   refine SQ.normal ?_
   refine AW.seq' ?_
   refine AW.region ?_
   iterate 2 refine AO.c ?_
   refine AO.nil ?_
   refine SQ.normal ?_
   refine AW.seq' ?_
   refine AW.region ?_
   iterate 2 refine AO.c ?_
   refine AO.nil ?_
   refine SQ.normal ?_
   refine AW.iteB (GL.ev _) (fun h2 => ?_) (fun h2 => ?_)
   ·
    rw [Bool.not_eq_true', Option.isSome_eq_false_iff, Option.isNone_iff_eq_none] at h2
    have hag := h2
    refine AW.seq' ?_
    refine AW.region ?_
    iterate 3 refine AO.c ?_
    refine AO.nil ?_
    refine SQ.normal ?_
    refine AW.seq' ?_
    refine AW.region ?_
    iterate 3 refine AO.c ?_
    refine AO.sst ?_
    refine AO.nil ?_
    refine SQ.normal ?_
    refine AW.region ?_
    iterate 2 refine AO.c ?_
    refine AO.w ⟨rfl, by omega⟩ ?_
    refine AO.rr ?_
    refine AO.w ⟨by rw [List.length_append, strB_len], by show _ + 1 ≤ _; omega⟩ ?_
    refine AO.c ?_
    refine AO.nil ?_
    refine SQ.normal ?_
    refine AW.region ?_
    iterate 2 refine AO.c ?_
    refine AO.rr ?_
    refine AO.ww ?_
    refine AO.c ?_
    refine AO.nil ?_
    refine BQ.normal ?_
    refine SQ.normal ?_
    refine AW.region ?_
    refine AO.oo ?_
    refine AO.c ?_
    refine AO.nil ?_
    exact AW.backU [.f, .f, .f, .f, .k, .k, .k, .F, .k, .k, .k, .F, .F, .F, .f, .f, .f, .f, .f, .f, .f] (m0 - 1) (i + 1, ep + 2, (st.1 ++ strB (l.getD i default) ++ [0], st.2.1 ++ [(st.1.length : Int)], aput st.2.2 (l.getD i default) (st.1.length : Int))) (by omega) (by (try dsimp only); exact ⟨by omega, by omega, by rw [tabOf_succ hi, ← hx3, step_new hne hag]⟩) (by simp [strB_len, Nat.add_assoc]) (by first | rfl | (simp; done))
   ·
    rw [Bool.not_eq_false'] at h2
    obtain ⟨pa, hag⟩ := Option.isSome_iff_exists.1 h2
    refine AW.skip ?_
    refine SQ.normal ?_
    refine AW.region ?_
    iterate 2 refine AO.c ?_
    refine AO.rr ?_
    refine AO.ww ?_
    refine AO.c ?_
    refine AO.nil ?_
    refine BQ.normal ?_
    refine SQ.normal ?_
    refine AW.region ?_
    refine AO.oo ?_
    refine AO.c ?_
    refine AO.nil ?_
    exact AW.backU [.f, .f, .f, .f, .k, .k, .k, .F, .k, .k, .k, .F, .F, .F, .f, .f, .f, .f, .f, .f, .f] (m0 - 1) (i + 1, ep, (st.1, st.2.1 ++ [(aget st.2.2 (l.getD i default)).getD 0], st.2.2)) (by omega) (by (try dsimp only); exact ⟨by omega, by omega, by rw [tabOf_succ hi, ← hx3, step_old hne hag, hag]; rfl⟩) (by simp) (by first | rfl | (simp; done))
  ·
   rw [decide_eq_false_iff_not, Ne, Decidable.not_not, ba_eq] at h1
   have hne : l.getD i default = noS := h1
   refine AW.skip ?_
   refine SQ.normal ?_
   refine AW.region ?_
   iterate 2 refine AO.c ?_
   refine AO.rr ?_
   refine AO.ww ?_
   refine AO.c ?_
   refine AO.nil ?_
   refine BQ.normal ?_
   refine SQ.normal ?_
   refine AW.region ?_
   refine AO.oo ?_
   refine AO.c ?_
   refine AO.nil ?_
   exact AW.backU [.f, .f, .f, .f, .k, .k, .k, .F, .k, .k, .k, .F, .F, .F, .f, .f, .f, .f, .f, .f, .f] (m0 - 1) (i + 1, ep, (st.1, st.2.1 ++ [0], st.2.2)) (by omega) (by (try dsimp only); exact ⟨by omega, by omega, by rw [tabOf_succ hi, ← hx3, step_no hne]⟩) (by simp) (by first | rfl | (simp; done))
 ·
  rw [decide_eq_false_iff_not] at h0
  refine AW.exit ?_
  refine SQ.exit <| AW.out <| LU.exit <| BQ.exit ?_
  refine SQ.normal ?_
  refine AW.seq' ?_
  refine AW.region ?_
  iterate 4 refine AO.c ?_
  refine AO.nil ?_
  refine SQ.normal ?_
  refine AW.ret ?_
  have hfin : st = tabOf l := by rw [hx3, List.take_of_length_le (by omega)]
  refine Fin.ret ((Gh.freezeE 2 (li' := st.1) rfl rfl (by omega)).trans (Gh.freezeM 3 iA st.2.1 rfl rfl (by omega))) noid2 ?_
  rw [← hfin]; rfl
end Go.Proofs.YtdniaamhbfadnaaGreat.AL
namespace Go.Proofs.YtdniaamhbfadnaaGreat.AL
open Go Go.RowKit Go.Proofs.YtdniaamhbfadnaaGreat.Base
set_option linter.unusedVariables false
set_option linter.unusedSimpArgs false
set_option maxRecDepth 4000
set_option synthInstance.maxSize 1000
set_option synthInstance.maxHeartbeats 200000
def nameB (s : ByteArray) : Bool := decide (s.size ≤ 32) && s.data.toList.all (· ≠ 0)
def hasF (f k : Int) : Bool := decide (0 ≤ f) && decide (f / k % 2 = 1)
def flagL : List Int := [1, 2, 4, 16, 32, 128, 512, 2097152]
def flagStep (n x : Int) : Int := if 0 ≤ n ∧ n / x % 2 = 1 then n - x else n
def flagsB (n : Int) : Bool := decide (flagL.foldl flagStep n = 0)
theorem flag_pos (i : Nat) (h : i < flagL.length) : 0 < flagL.getD i 0 ∧ flagL.getD i 0 ≤ 2097152 := by
 have : i < 8 := h
 have : i = 0 ∨ i = 1 ∨ i = 2 ∨ i = 3 ∨ i = 4 ∨ i = 5 ∨ i = 6 ∨ i = 7 := by omega
 rcases this with rfl | rfl | rfl | rfl | rfl | rfl | rfl | rfl <;> decide
theorem foldl_take_succ {α β : Type} [Inhabited β] (f : α → β → α) (a : α) (l : List β) (i : Nat) (h : i < l.length) : (l.take (i + 1)).foldl f a = f ((l.take i).foldl f a) (l.getD i default) := by
 rw [List.take_add_one, List.foldl_append]
 simp [h]
theorem flag_range (n : Int) (hn : I64 n) : ∀ i : Nat, I64 ((flagL.take i).foldl flagStep n) := by
 intro i
 induction i with
 | zero => simpa using hn
 | succ i ih =>
  by_cases h : i < flagL.length
  · rw [foldl_take_succ _ _ _ _ h]
    have := flag_pos i h
    have e : flagL.getD i default = flagL.getD i 0 := rfl
    rw [e]
    unfold flagStep I64 at *
    split
    · rename_i hh
      have h2 : flagL.getD i 0 ≤ (flagL.take i).foldl flagStep n := by
       rcases Int.lt_or_le ((flagL.take i).foldl flagStep n) (flagL.getD i 0) with h3 | h3
       · have := Int.ediv_eq_zero_of_lt hh.1 h3
         omega
       · exact h3
      unfold flagStep at h2
      omega
    · exact ih
  · rw [List.take_of_length_le (by omega)] at ih ⊢
    exact ih
theorem pow2_le {k : Nat} (h : k ≤ 12) : (2 : Int) ^ k ≤ 4096 := by
 have h : k = 0 ∨ k = 1 ∨ k = 2 ∨ k = 3 ∨ k = 4 ∨ k = 5 ∨ k = 6 ∨ k = 7 ∨ k = 8 ∨ k = 9 ∨ k = 10 ∨ k = 11 ∨ k = 12 := by omega
 rcases h with rfl | rfl | rfl | rfl | rfl | rfl | rfl | rfl | rfl | rfl | rfl | rfl | rfl <;> decide
def powL : List Int := [1, 2, 4, 8, 16, 32, 64, 128, 256, 512, 1024, 2048, 4096]
def alignB (n : Int) : Bool := powL.contains n
theorem align_end {n : Int} {k : Nat} (hk : k ≤ 12) (hb : ∀ j : Nat, j < k → (2 : Int) ^ j < n) (he : ¬ ((2 : Int) ^ k < n ∧ (2 : Int) ^ k < 4096)) : decide ((2 : Int) ^ k = n) = alignB n := by
 have h : k = 0 ∨ k = 1 ∨ k = 2 ∨ k = 3 ∨ k = 4 ∨ k = 5 ∨ k = 6 ∨ k = 7 ∨ k = 8 ∨ k = 9 ∨ k = 10 ∨ k = 11 ∨ k = 12 := by omega
 have hb' := hb (k - 1)
 rw [Bool.eq_iff_iff]
 unfold alignB powL
 rcases h with rfl | rfl | rfl | rfl | rfl | rfl | rfl | rfl | rfl | rfl | rfl | rfl | rfl <;> simp at hb' he ⊢ <;> omega
theorem ref_Name (s : ByteArray) (hs : s.size ≤ maxLen) : A0 Tryz.prog 133 [.v (.string s)] (fun ret => ret = .v (.bool (nameB s))) := by
 rw [maxLen_eq] at hs
 refine A0.body 18 Tryz.func133 rfl rfl Tryz.ntmps133 fun base n0 => ?_
 refine AW.seq' ?_
 refine AW.region ?_
 refine AO.c ?_
 refine AO.nil ?_
 refine SQ.normal ?_
 refine AW.seq' ?_
 refine AW.seq' ?_
 refine AW.region ?_
 refine AO.c ?_
 refine AO.nil ?_
 refine SQ.normal ?_
 refine AW.block' ?_
 refine AW.loopU [.k, .f, .f, .k, .F, .f, .f, .f, .f, .f, .f] (fun (i : Nat) => [(3, .v (.int .i64 (i)))]) (fun i => Hn n0 []) (fun m i => i ≤ s.size ∧ i ≤ 32 ∧ m = s.size - i ∧ (s.data.toList.take i).all (· ≠ 0) = true) (s.size) (0) (by first | omega | (simp; done) | (simp; omega)) (by first | rfl | (simp; done)) (by first | rfl | (simp; done)) ?_
 rintro m0 i ⟨hx1, hx2, hx3, hx4⟩
 refine AW.seq' ?_
 refine AW.seq' ?_
 refine AW.region ?_
 iterate 4 refine AO.c ?_
 refine AO.nil ?_
 refine SQ.normal ?_
 refine AW.iteB (GL.ev _) (fun h0 => ?_) (fun h0 => ?_)
 ·
  try simp only [Bool.and_eq_true, Bool.or_eq_true, Bool.not_eq_true', Bool.and_eq_false_iff, Bool.or_eq_false_iff, decide_eq_true_eq, decide_eq_false_iff_not, bys_length] at h0
  refine AW.skip ?_
  refine SQ.normal ?_
  refine AW.seq' ?_
  refine AW.block' ?_
  refine AW.seq' ?_
  refine AW.region ?_
  iterate 3 refine AO.c ?_
  iterate 2 refine AO.gx ?_
  refine AO.gxoo ?_
  refine AO.gx ?_
  refine AO.c ?_
  refine AO.nil ?_
  refine SQ.normal ?_
  refine AW.iteB (GL.ev _) (fun h1 => ?_) (fun h1 => ?_)
  ·
   simp only [Bool.or_eq_true, decide_eq_true_eq] at h1
   refine AW.seq' ?_
   refine AW.region ?_
   refine AO.c ?_
   refine AO.nil ?_
   refine SQ.normal ?_
   refine AW.ret ?_
   refine BQ.ret <| SQ.ret <| AW.out <| LU.ret <| BQ.ret <| SQ.ret ?_
   refine Fin.ret (Gh.refl) noid1 ?_
   have hlt : i < s.data.toList.length := by simp; omega
   have : nameB s = false := by
    unfold nameB
    rcases h1 with h1 | h1
    · have : ¬ s.size ≤ 32 := by omega
      simp [this]
    · have : s.data.toList.all (· ≠ 0) = false := by
       rw [List.all_eq_false]
       refine ⟨s.data.toList[i], List.getElem_mem hlt, ?_⟩
       simp only [List.getD_eq_getElem?_getD, Int.toNat_natCast, List.getElem?_eq_getElem hlt, Option.getD_some] at h1
       have h2 : s.data.toList[i] = 0 := UInt8.toNat_inj.1 (by simpa using h1)
       simp [h2]
      rw [this, Bool.and_false]
   rw [this]; rfl
  ·
   simp only [Bool.or_eq_false_iff, decide_eq_false_iff_not] at h1
   have e : (s.data.toList.take (i + 1)).all (· ≠ 0) = true := by
    have hlt : i < s.data.toList.length := by simp; omega
    rw [List.take_add_one, List.all_append, hx4]
    have h2 := h1.2
    simp only [List.getD_eq_getElem?_getD, Int.toNat_natCast, List.getElem?_eq_getElem hlt, Option.getD_some] at h2
    simp only [List.getElem?_eq_getElem hlt, Option.toList_some, List.all_cons, List.all_nil, Bool.and_true, Bool.true_and, decide_eq_true_eq]
    intro h3
    rw [h3] at h2
    exact h2 rfl
   refine AW.skip ?_
   refine BQ.normal ?_
   refine SQ.normal ?_
   refine AW.region ?_
   refine AO.c ?_
   refine AO.oo ?_
   refine AO.c ?_
   refine AO.nil ?_
   exact AW.backU [.k, .f, .f, .k, .F, .f, .f, .f, .f, .f, .f] (m0 - 1) (i + 1) (by omega) (by (try dsimp only); exact ⟨by omega, by omega, by omega, e⟩) (by first | rfl | (simp; done)) (by first | rfl | (simp; done))
 ·
  try simp only [Bool.and_eq_true, Bool.or_eq_true, Bool.not_eq_true', Bool.and_eq_false_iff, Bool.or_eq_false_iff, decide_eq_true_eq, decide_eq_false_iff_not, bys_length] at h0
  refine AW.exit ?_
  refine SQ.exit <| AW.out <| LU.exit <| BQ.exit ?_
  refine SQ.normal ?_
  refine AW.seq' ?_
  refine AW.region ?_
  refine AO.c ?_
  refine AO.nil ?_
  refine SQ.normal ?_
  refine AW.ret ?_
  refine Fin.ret (Gh.refl) noid1 ?_
  have : nameB s = true := by
   unfold nameB
   rw [List.take_of_length_le (by simp; omega)] at hx4
   rw [hx4, decide_eq_true (by omega)]; rfl
  rw [this]; rfl
theorem ref_Has (s : SecD) (k : Int) (hs : s.ok) (hk : 0 < k) : A0 Tryz.prog 63 [.agg (secA s), .v (.int .i64 (k))] (fun ret => ret = .v (.bool (hasF s.flags k))) := by
 have hf := hs.2.2.1
 unfold I64 at hf
 refine A0.body 16 Tryz.func63 rfl rfl Tryz.ntmps63 fun base n0 => ?_
 refine AW.seq' ?_
 refine AW.region ?_
 refine AO.ww ?_
 refine AO.c ?_
 refine AO.nil ?_
 refine SQ.normal ?_
 refine AW.seq' ?_
 refine AW.region ?_
 iterate 4 refine AO.c ?_
 iterate 3 refine AO.gx ?_
 refine AO.gxo (fun h => ?_) ?_
 · have h0 : 0 ≤ s.flags := by simpa using h
   exact ⟨h0, hk, by have := Int.ediv_le_self k h0; omega, by omega⟩
 refine AO.gxo (fun h => ?_) ?_
 · have h0 : 0 ≤ s.flags := by simpa using h
   exact ⟨Int.ediv_nonneg h0 (by omega), by omega⟩
 refine AO.gx ?_
 iterate 2 refine AO.c ?_
 refine AO.nil ?_
 refine SQ.normal ?_
 refine AW.ret ?_
 refine Fin.ret (Gh.refl) noid1 ?_
 rfl
theorem ref_flags (n : Int) (hn : I64 n) : A0 Tryz.prog 163 [.v (.int .i64 (n))] (fun ret => ret = .v (.bool (flagsB n))) := by
 refine A0.body 32 Tryz.func163 rfl rfl Tryz.ntmps163 fun base n0 => ?_
 refine AW.seq' ?_
 refine AW.region ?_
 refine AO.c ?_
 refine AO.nil ?_
 refine SQ.normal ?_
 refine AW.seq' ?_
 refine AW.region ?_
 refine AO.rr ?_
 refine AO.eq 5 (av' := .rd 1 (flagL.map iA)) rfl ?_
 refine AO.c ?_
 refine AO.nil ?_
 refine SQ.normal ?_
 refine AW.seq' ?_
 refine AW.seq' ?_
 refine AW.region ?_
 refine AO.c ?_
 refine AO.nil ?_
 refine SQ.normal ?_
 refine AW.block' ?_
 refine AW.loopU [.k, .f, .f, .k, .k, .F, .F, .F, .f, .f, .f] (fun (i : Nat) => [(0, .v (.int .i64 ((flagL.take i).foldl flagStep n))), (4, .v (.int .i64 (i)))]) (fun i => Hn n0 []) (fun m i => i ≤ 8 ∧ m = 8 - i) (8) (0) (by decide) (by first | rfl | (simp; done)) (by first | rfl | (simp; done)) ?_
 rintro m0 i ⟨hx1, hx2⟩
 have hr := flag_range n hn i
 unfold I64 at hr
 have hl8 : flagL.length = 8 := rfl
 refine AW.seq' ?_
 refine AW.seq' ?_
 refine AW.region ?_
 iterate 4 refine AO.c ?_
 refine AO.nil ?_
 refine SQ.normal ?_
 refine AW.iteB (GL.ev _) (fun h0 => ?_) (fun h0 => ?_)
 ·
  rw [decide_eq_true_eq, hl8] at h0
  have hp := flag_pos i (by omega)
  have e0 : flagL.getD i default = flagL.getD i 0 := rfl
  have e := foldl_take_succ flagStep n flagL i (by omega)
  rw [e0] at e
  refine AW.skip ?_
  refine SQ.normal ?_
  refine AW.seq' ?_
  refine AW.block' ?_
  refine AW.seq' ?_
  refine AW.region ?_
  iterate 3 refine AO.c ?_
  iterate 3 refine AO.gx ?_
  refine AO.gxoo ?_
  refine AO.gx ?_
  refine AO.gxo (fun h => ?_) ?_
  · have h0 : 0 ≤ (flagL.take i).foldl flagStep n := by simpa using h
    exact ⟨h0, hp.1, by have := Int.ediv_le_self (flagL.getD i 0) h0; have e : flagL.getD i default = flagL.getD i 0 := rfl; rw [e]; omega, by omega⟩
  refine AO.gxo (fun h => ?_) ?_
  · have h0 : 0 ≤ (flagL.take i).foldl flagStep n := by simpa using h
    exact ⟨Int.ediv_nonneg h0 (Int.le_of_lt hp.1), by omega⟩
  refine AO.gx ?_
  refine AO.c ?_
  refine AO.nil ?_
  refine SQ.normal ?_
  refine AW.iteB (GL.ev _) (fun h1 => ?_) (fun h1 => ?_)
  ·
   simp only [Bool.and_eq_true, decide_eq_true_eq, e0] at h1
   rw [show flagStep ((flagL.take i).foldl flagStep n) (flagL.getD i 0) = _ from if_pos h1] at e
   have h2 : flagL.getD i 0 ≤ (flagL.take i).foldl flagStep n := by
    rcases Int.lt_or_le ((flagL.take i).foldl flagStep n) (flagL.getD i 0) with h3 | h3
    · have := Int.ediv_eq_zero_of_lt h1.1 h3
      omega
    · exact h3
   refine AW.region ?_
   iterate 3 refine AO.c ?_
   refine AO.oo ?_
   refine AO.c ?_
   refine AO.o ⟨by omega, by omega⟩ ?_
   refine AO.c ?_
   refine AO.nil ?_
   refine BQ.normal ?_
   refine SQ.normal ?_
   refine AW.region ?_
   refine AO.c ?_
   refine AO.oo ?_
   refine AO.c ?_
   refine AO.nil ?_
   exact AW.backU [.k, .f, .f, .k, .k, .F, .F, .F, .f, .f, .f] (m0 - 1) (i + 1) (by omega) (by first | omega | (simp; done) | (simp; omega)) (by (try dsimp only); rw [e, e0] <;> rfl) (by first | rfl | (simp; done))
  ·
   have h2 : ¬ (0 ≤ (flagL.take i).foldl flagStep n ∧ (flagL.take i).foldl flagStep n / flagL.getD i 0 % 2 = 1) := by
    intro h
    rw [e0, decide_eq_true h.2, decide_eq_true h.1] at h1
    cases h1
   rw [show flagStep ((flagL.take i).foldl flagStep n) (flagL.getD i 0) = _ from if_neg h2] at e
   refine AW.skip ?_
   refine BQ.normal ?_
   refine SQ.normal ?_
   refine AW.region ?_
   refine AO.c ?_
   refine AO.oo ?_
   refine AO.c ?_
   refine AO.nil ?_
   exact AW.backU [.k, .f, .f, .k, .k, .F, .F, .F, .f, .f, .f] (m0 - 1) (i + 1) (by omega) (by first | omega | (simp; done) | (simp; omega)) (by (try dsimp only); rw [e] <;> rfl) (by first | rfl | (simp; done))
 ·
  try simp only [Bool.and_eq_true, Bool.or_eq_true, Bool.not_eq_true', Bool.and_eq_false_iff, Bool.or_eq_false_iff, decide_eq_true_eq, decide_eq_false_iff_not, bys_length] at h0
  refine AW.exit ?_
  refine SQ.exit <| AW.out <| LU.exit <| BQ.exit ?_
  refine SQ.normal ?_
  refine AW.seq' ?_
  refine AW.region ?_
  iterate 3 refine AO.c ?_
  refine AO.nil ?_
  refine SQ.normal ?_
  refine AW.ret ?_
  refine Fin.ret (Gh.refl) noid1 ?_
  rw [List.take_of_length_le (by omega)]; rfl
theorem ref_align (n : Int) (hn : I64 n) : A0 Tryz.prog 164 [.v (.int .i64 (n))] (fun ret => ret = .v (.bool (alignB n))) := by
 unfold I64 at hn
 refine A0.body 16 Tryz.func164 rfl rfl Tryz.ntmps164 fun base n0 => ?_
 refine AW.seq' ?_
 refine AW.region ?_
 refine AO.c ?_
 refine AO.nil ?_
 refine SQ.normal ?_
 refine AW.seq' ?_
 refine AW.region ?_
 refine AO.c ?_
 refine AO.nil ?_
 refine SQ.normal ?_
 refine AW.seq' ?_
 refine AW.block' ?_
 refine AW.loopU [.k, .f, .f, .k, .F, .f, .f, .f, .f] (fun (k : Nat) => [(3, .v (.int .i64 (2 ^ k)))]) (fun k => Hn n0 []) (fun m k => k ≤ 12 ∧ m = 12 - k ∧ ∀ j : Nat, j < k → (2 : Int) ^ j < n) (12) (0) ⟨by decide, by decide, fun j h => by omega⟩ (by first | rfl | (simp; done)) (by first | rfl | (simp; done)) ?_
 rintro m0 k ⟨hx1, hx2, hx3⟩
 have hpw : (1 : Int) ≤ 2 ^ k ∧ (2 : Int) ^ k ≤ 4096 := ⟨(Int.pow_pos (by decide) : (0 : Int) < 2 ^ k), pow2_le hx1⟩
 refine AW.seq' ?_
 refine AW.seq' ?_
 refine AW.region ?_
 iterate 4 refine AO.c ?_
 iterate 2 refine AO.gx ?_
 refine AO.c ?_
 refine AO.nil ?_
 refine SQ.normal ?_
 refine AW.iteB (GL.ev _) (fun h0 => ?_) (fun h0 => ?_)
 ·
  simp only [Bool.and_eq_true, decide_eq_true_eq] at h0
  have hk12 : k < 12 := by
   rcases Nat.lt_or_ge k 12 with h | h
   · exact h
   · have : k = 12 := by omega
     subst this
     exact absurd h0.2 (by decide)
  refine AW.skip ?_
  refine SQ.normal ?_
  refine AW.block' ?_
  refine AW.region ?_
  refine AO.c ?_
  refine AO.oo ?_
  refine AO.c ?_
  refine AO.nil ?_
  refine BQ.normal ?_
  exact AW.backU [.k, .f, .f, .k, .F, .f, .f, .f, .f] (m0 - 1) (k + 1) (by omega) (by (try dsimp only); exact ⟨by omega, by omega, fun j hj => by rcases Nat.lt_succ_iff_lt_or_eq.1 hj with h | rfl; exact hx3 j h; exact h0.1⟩) (by (try dsimp only); rw [Int.pow_succ, Int.mul_comm] <;> rfl) (by first | rfl | (simp; done))
 ·
  simp only [Bool.and_eq_false_iff, decide_eq_false_iff_not] at h0
  refine AW.exit ?_
  refine SQ.exit <| AW.out <| LU.exit <| BQ.exit ?_
  refine SQ.normal ?_
  refine AW.seq' ?_
  refine AW.region ?_
  iterate 4 refine AO.c ?_
  refine AO.nil ?_
  refine SQ.normal ?_
  refine AW.ret ?_
  refine Fin.ret (Gh.refl) noid1 ?_
  rw [← align_end hx1 hx3 (by omega)]; rfl
end Go.Proofs.YtdniaamhbfadnaaGreat.AL
namespace Go.Proofs.YtdniaamhbfadnaaGreat.AL
open Go Go.RowKit Go.Proofs.YtdniaamhbfadnaaGreat.Base
set_option linter.unusedVariables false
set_option linter.unusedSimpArgs false
set_option maxRecDepth 4000
set_option synthInstance.maxSize 1000
set_option synthInstance.maxHeartbeats 200000
def kindB (s : SecD) : Bool :=
 bif !flagsB s.flags || !alignB s.align || (hasF s.flags 1 && hasF s.flags 4) then false
 else bif decide (s.typ = 1) && (decide (s.size ≠ s.data.length) || decide (s.size > 16384)) then false
 else bif decide (s.typ = 8) && (decide ((s.data.length : Int) > 0) || decide (s.size < 0) || decide (s.size > 2147483647) || !hasF s.flags 1 || hasF s.flags 16) then false
 else bif decide (s.typ ≠ 1) && decide (s.typ ≠ 8) then false
 else bif !hasF s.flags 16 then decide (s.ent = 0) && !hasF s.flags 32
 else bif hasF s.flags 1 || hasF s.flags 4 || decide ((s.rels.length : Int) > 0) then false
 else bif hasF s.flags 32 then decide (s.ent = 1) && decide (s.align = 1) && (decide ((s.data.length : Int) = 0) || decide (s.data.getD ((s.data.length : Int) - 1).toNat 0 = 0))
 else (decide (s.ent = 4) || decide (s.ent = 8) || decide (s.ent = 16)) && decide (s.align ≤ s.ent) && decide (s.size % s.ent = 0)
def memberF (gs : List GrpD) (n : Int) : Int := (gs.map fun g => (g.mem.count n : Int)).sum
def prevBad (r : RelD) : Option RelD → Bool
 | none => false
 | some p => decide (p.off + widthF p.typ > r.off)
def relsG (many len : Int) : Option RelD → List RelD → Bool
 | _, [] => true
 | prev, r :: rs => bif !mayRelB r || decide (r.sym ≥ many) || decide (r.off + widthF r.typ > len) then false else
  bif prevBad r prev then false else relsG many len (some r) rs
theorem relsG_cons (many len : Int) (prev : Option RelD) (r : RelD) (rs : List RelD) : relsG many len prev (r :: rs) = bif !mayRelB r || decide (r.sym ≥ many) || decide (r.off + widthF r.typ > len) then false else
 bif prevBad r prev then false else relsG many len (some r) rs := by cases prev <;> rfl
def relsB (o : ObjD) (s : SecD) : Bool := decide ((s.rels.length : Int) ≤ 64) && relsG o.syms.length s.data.length none s.rels
def prevR (l : List RelD) (i : Nat) : Option RelD := if i = 0 then none else some (l.getD (i - 1) default)
theorem widthF_range (t : Int) : 0 ≤ widthF t ∧ widthF t ≤ 8 := by unfold widthF; split <;> (try split) <;> omega
theorem mayRel_off {r : RelD} (h : mayRelB r = true) : 0 ≤ r.off ∧ r.off ≤ 2147483647 ∧ 0 ≤ r.sym ∧ r.sym ≤ 2147483647 ∧ 0 < widthF r.typ := by
 unfold mayRelB fitsB at h
 simp only [Bool.and_eq_true, decide_eq_true_eq] at h
 omega
theorem relOk_at {l : List RelD} (h : ∀ r ∈ l, r.ok) {i : Nat} (hi : i < l.length) : (l.getD i default).ok := by
 have := h l[i] (List.getElem_mem hi)
 simpa [hi] using this
def sectionB (o : ObjD) (n : Int) : Bool :=
 bif !nameB (o.secs.getD (n - 1).toNat default).name || !kindB (o.secs.getD (n - 1).toNat default) || !relsB o (o.secs.getD (n - 1).toNat default) then false
 else bif hasF (o.secs.getD (n - 1).toNat default).flags 128 && (decide ((o.secs.getD (n - 1).toNat default).link < 1) || decide ((o.secs.getD (n - 1).toNat default).link > o.secs.length) || decide ((o.secs.getD (n - 1).toNat default).link = n)) || (!hasF (o.secs.getD (n - 1).toNat default).flags 128 && decide ((o.secs.getD (n - 1).toNat default).link ≠ 0)) then false
 else decide (memberF o.groups n = 0) && !hasF (o.secs.getD (n - 1).toNat default).flags 512 || decide (memberF o.groups n = 1) && hasF (o.secs.getD (n - 1).toNat default).flags 512
theorem secOk_at {l : List SecD} (h : ∀ r ∈ l, r.ok) {i : Nat} (hi : i < l.length) : (l.getD i default).ok := by
 have := h l[i] (List.getElem_mem hi)
 simpa [hi] using this
theorem memberF_take {l : List GrpD} {n : Int} {i : Nat} (hi : i < l.length) : memberF (l.take (i + 1)) n = memberF (l.take i) n + ((l.getD i default).mem.count n : Int) := by
 unfold memberF
 rw [List.take_add_one, List.map_append, List.sum_append]
 simp only [List.getElem?_eq_getElem hi, Option.toList_some, List.map_cons, List.map_nil, List.sum_cons, List.sum_nil, List.getD_eq_getElem?_getD, Option.getD_some]
 omega
theorem memberF_range {l : List GrpD} {n : Int} : 0 ≤ memberF l n := by
 unfold memberF
 induction l with
 | nil => simp
 | cons a l ih => simp only [List.map_cons, List.sum_cons]; omega
theorem count_take {l : List Int} {n : Int} {i : Nat} (hi : i < l.length) : (l.take (i + 1)).count n = (l.take i).count n + (if l.getD i default = n then 1 else 0) := by
 rw [List.take_add_one, List.count_append]
 simp only [List.getElem?_eq_getElem hi, Option.toList_some, List.count_cons, List.count_nil, List.getD_eq_getElem?_getD, Option.getD_some]
 by_cases h : l[i] = n <;> simp [h]
set_option maxHeartbeats 1000000 in
theorem ref_kind (s : SecD) (hs : s.ok) : A0 Tryz.prog 134 [.agg (secA s)] (fun ret => ret = .v (.bool (kindB s))) := by
 have hs0 := hs
 obtain ⟨q1, q2, q3, q4, q5, q6, q7, q8, q9, q10, q11⟩ := hs
 unfold I64 at q2 q5 q6 q7
 rw [maxLen_eq] at q8 q10
 refine A0.body 158 Tryz.func134 rfl rfl Tryz.ntmps134 fun base n0 => ?_
 refine AW.seq' ?_
 refine AW.region ?_
 refine AO.ww ?_
 refine AO.c ?_
 refine AO.nil ?_
 refine SQ.normal ?_
 refine AW.seq' ?_
 refine AW.region ?_
 refine AO.c ?_
 refine AO.call1 Tryz.func63 rfl rfl (ref_Has _ _ ‹_› (by omega)) ?_
 refine AO.c ?_
 refine AO.nil ?_
 refine SQ.normal ?_
 refine AW.seq' ?_
 refine AW.region ?_
 refine AO.c ?_
 refine AO.call1 Tryz.func63 rfl rfl (ref_Has _ _ ‹_› (by omega)) ?_
 refine AO.c ?_
 refine AO.nil ?_
 refine SQ.normal ?_
 refine AW.seq' ?_
 refine AW.region ?_
 refine AO.c ?_
 refine AO.call1 Tryz.func63 rfl rfl (ref_Has _ _ ‹_› (by omega)) ?_
 refine AO.c ?_
 refine AO.nil ?_
 refine SQ.normal ?_
 refine AW.seq' ?_
 refine AW.region ?_
 refine AO.c ?_
 refine AO.call1 Tryz.func63 rfl rfl (ref_Has _ _ ‹_› (by omega)) ?_
 refine AO.c ?_
 refine AO.nil ?_
 refine SQ.normal ?_
 refine AW.seq' ?_
 refine AW.region ?_
 iterate 2 refine AO.c ?_
 refine AO.call1 Tryz.func163 rfl rfl (ref_flags _ q3) ?_
 refine AO.c ?_
 refine AO.nil ?_
 refine SQ.normal ?_
 refine AW.seq' ?_
 refine AW.region ?_
 iterate 2 refine AO.c ?_
 refine AO.call1 Tryz.func164 rfl rfl (ref_align _ q4) ?_
 refine AO.c ?_
 refine AO.nil ?_
 refine SQ.normal ?_
 refine AW.seq' ?_
 refine AW.seq' ?_
 refine AW.region ?_
 iterate 3 refine AO.c ?_
 iterate 2 refine AO.gx ?_
 iterate 2 refine AO.c ?_
 iterate 4 refine AO.gx ?_
 refine AO.c ?_
 refine AO.nil ?_
 refine SQ.normal ?_
 refine AW.iteB (GL.ev _) (fun h0 => ?_) (fun h0 => ?_)
 ·
  skip
  refine AW.seq' ?_
  refine AW.region ?_
  refine AO.c ?_
  refine AO.nil ?_
  refine SQ.normal ?_
  refine AW.ret ?_
  refine SQ.ret ?_
  refine Fin.ret (Gh.refl) noid1 ?_
  unfold kindB; simp only [*, cond_true, cond_false]; rfl
 ·
  skip
  refine AW.skip ?_
  refine SQ.normal ?_
  refine AW.seq' ?_
  refine AW.seq' ?_
  refine AW.region ?_
  iterate 4 refine AO.c ?_
  iterate 11 refine AO.gx ?_
  refine AO.c ?_
  refine AO.nil ?_
  refine SQ.normal ?_
  refine AW.iteB (GL.ev _) (fun h1 => ?_) (fun h1 => ?_)
  ·
   skip
   refine AW.seq' ?_
   refine AW.region ?_
   refine AO.c ?_
   refine AO.nil ?_
   refine SQ.normal ?_
   refine AW.ret ?_
   refine SQ.ret ?_
   refine Fin.ret (Gh.refl) noid1 ?_
   unfold kindB; simp only [*, cond_true, cond_false]; rfl
  ·
   skip
   refine AW.skip ?_
   refine SQ.normal ?_
   refine AW.seq' ?_
   refine AW.seq' ?_
   refine AW.region ?_
   iterate 4 refine AO.c ?_
   iterate 21 refine AO.gx ?_
   refine AO.c ?_
   refine AO.nil ?_
   refine SQ.normal ?_
   refine AW.iteB (GL.ev _) (fun h2 => ?_) (fun h2 => ?_)
   ·
    skip
    refine AW.seq' ?_
    refine AW.region ?_
    refine AO.c ?_
    refine AO.nil ?_
    refine SQ.normal ?_
    refine AW.ret ?_
    refine SQ.ret ?_
    refine Fin.ret (Gh.refl) noid1 ?_
    unfold kindB; simp only [*, cond_true, cond_false]; rfl
   ·
    skip
    refine AW.skip ?_
    refine SQ.normal ?_
    refine AW.seq' ?_
    refine AW.seq' ?_
    refine AW.region ?_
    iterate 4 refine AO.c ?_
    iterate 3 refine AO.gx ?_
    refine AO.c ?_
    refine AO.nil ?_
    refine SQ.normal ?_
    refine AW.iteB (GL.ev _) (fun h3 => ?_) (fun h3 => ?_)
    ·
     skip
     refine AW.seq' ?_
     refine AW.region ?_
     refine AO.c ?_
     refine AO.nil ?_
     refine SQ.normal ?_
     refine AW.ret ?_
     refine SQ.ret ?_
     refine Fin.ret (Gh.refl) noid1 ?_
     unfold kindB; simp only [*, cond_true, cond_false]; rfl
    ·
     skip
     refine AW.skip ?_
     refine SQ.normal ?_
     refine AW.seq' ?_
     refine AW.seq' ?_
     refine AW.region ?_
     iterate 2 refine AO.c ?_
     refine AO.nil ?_
     refine SQ.normal ?_
     refine AW.iteB (GL.ev _) (fun h4 => ?_) (fun h4 => ?_)
     ·
      skip
      refine AW.seq' ?_
      refine AW.region ?_
      iterate 4 refine AO.c ?_
      iterate 2 refine AO.gx ?_
      iterate 2 refine AO.c ?_
      refine AO.nil ?_
      refine SQ.normal ?_
      refine AW.ret ?_
      refine SQ.ret ?_
      refine Fin.ret (Gh.refl) noid1 ?_
      unfold kindB; simp only [*, cond_true, cond_false]; rfl
     ·
      skip
      refine AW.skip ?_
      refine SQ.normal ?_
      refine AW.seq' ?_
      refine AW.seq' ?_
      refine AW.region ?_
      iterate 2 refine AO.c ?_
      refine AO.gx ?_
      iterate 2 refine AO.c ?_
      iterate 4 refine AO.gx ?_
      refine AO.c ?_
      refine AO.nil ?_
      refine SQ.normal ?_
      refine AW.iteB (GL.ev _) (fun h5 => ?_) (fun h5 => ?_)
      ·
       skip
       refine AW.seq' ?_
       refine AW.region ?_
       refine AO.c ?_
       refine AO.nil ?_
       refine SQ.normal ?_
       refine AW.ret ?_
       refine SQ.ret ?_
       refine Fin.ret (Gh.refl) noid1 ?_
       unfold kindB; simp only [*, cond_true, cond_false]; rfl
      ·
       skip
       refine AW.skip ?_
       refine SQ.normal ?_
       refine AW.seq' ?_
       refine AW.seq' ?_
       refine AW.region ?_
       refine AO.c ?_
       refine AO.nil ?_
       refine SQ.normal ?_
       refine AW.iteB (GL.ev _) (fun h6 => ?_) (fun h6 => ?_)
       ·
        skip
        refine AW.seq' ?_
        refine AW.region ?_
        iterate 4 refine AO.c ?_
        iterate 3 refine AO.gx ?_
        iterate 2 refine AO.c ?_
        iterate 10 refine AO.gx ?_
        refine AO.gxo (fun h => by omega) ?_
        refine AO.gxo (fun h => ?_) ?_
        · simp only [Bool.and_eq_true, Bool.not_eq_true', decide_eq_false_iff_not] at h
          omega
        iterate 3 refine AO.gx ?_
        iterate 2 refine AO.c ?_
        refine AO.nil ?_
        refine SQ.normal ?_
        refine AW.ret ?_
        refine SQ.ret ?_
        refine Fin.ret (Gh.refl) noid1 ?_
        unfold kindB; simp only [*, cond_true, cond_false]; rfl
       ·
        skip
        refine AW.skip ?_
        refine SQ.normal ?_
        refine AW.seq' ?_
        have hsz : 0 ≤ s.size := by
         simp only [Bool.and_eq_false_iff, Bool.or_eq_false_iff, decide_eq_false_iff_not, Bool.not_eq_false'] at h1 h2 h3
         omega
        refine AW.region ?_
        iterate 4 refine AO.c ?_
        iterate 3 refine AO.gx ?_
        iterate 2 refine AO.c ?_
        iterate 3 refine AO.gx ?_
        iterate 2 refine AO.c ?_
        iterate 5 refine AO.gx ?_
        iterate 2 refine AO.c ?_
        iterate 4 refine AO.gx ?_
        refine AO.gxo (fun h => ?_) ?_
        · simp only [Bool.and_eq_true, Bool.or_eq_true, decide_eq_true_eq] at h
          exact ⟨by omega, by omega⟩
        refine AO.gx ?_
        iterate 2 refine AO.c ?_
        refine AO.nil ?_
        refine SQ.normal ?_
        refine AW.ret ?_
        refine Fin.ret (Gh.refl) noid1 ?_
        unfold kindB; simp only [*, cond_true, cond_false]; rfl
end Go.Proofs.YtdniaamhbfadnaaGreat.AL
namespace Go.Proofs.YtdniaamhbfadnaaGreat.AL
open Go Go.RowKit Go.Proofs.YtdniaamhbfadnaaGreat.Base
set_option linter.unusedVariables false
set_option linter.unusedSimpArgs false
set_option maxRecDepth 4000
set_option synthInstance.maxSize 1000
set_option synthInstance.maxHeartbeats 200000
theorem grpOk_at {l : List GrpD} (h : ∀ r ∈ l, r.ok) {i : Nat} (hi : i < l.length) : (l.getD i default).ok := by
 have := h l[i] (List.getElem_mem hi)
 simpa [hi] using this
theorem symOk_at {l : List SymD} (h : ∀ r ∈ l, r.ok) {i : Nat} (hi : i < l.length) : (l.getD i default).ok := by
 have := h l[i] (List.getElem_mem hi)
 simpa [hi] using this
theorem memberF_big {l : List GrpD} {n : Int} (h : ∀ g ∈ l, g.mem.length ≤ 1000000000) : memberF l n ≤ 1000000000 * l.length := by
 unfold memberF
 induction l with
 | nil => simp
 | cons a l ih =>
  have h1 := h a List.mem_cons_self
  have h2 := ih fun g hg => h g (List.mem_cons_of_mem _ hg)
  have h3 : a.mem.count n ≤ a.mem.length := List.count_le_length
  simp only [List.map_cons, List.sum_cons, List.length_cons]
  omega
theorem mem_take {l : List GrpD} (h : ∀ g ∈ l, g.mem.length ≤ 1000000000) (i : Nat) : ∀ g ∈ l.take i, g.mem.length ≤ 1000000000 := fun g hg => h g (List.mem_of_mem_take hg)
def GSmall (l : List GrpD) : Prop := l.length ≤ 1000000000 ∧ ∀ g ∈ l, g.mem.length ≤ 1000000000
theorem gsm_at {l : List GrpD} (h : GSmall l) {i : Nat} (hi : i < l.length) : (l.getD i default).mem.length ≤ 1000000000 := by
 have := h.2 l[i] (List.getElem_mem hi)
 simpa [hi] using this
theorem ref_member (o : ObjD) (n : Int) (hs : GSmall o.groups) : A0 Tryz.prog 136 [.agg (objA o), .v (.int .i64 (n))] (fun ret => ret = .v (.int .i64 (memberF o.groups n))) := by
 have hs1 := hs.1
 have hs2 := hs.2
 refine A0.body 40 Tryz.func136 rfl rfl Tryz.ntmps136 fun base n0 => ?_
 refine AW.seq' ?_
 refine AW.region ?_
 refine AO.ww ?_
 refine AO.c ?_
 refine AO.nil ?_
 refine SQ.normal ?_
 refine AW.seq' ?_
 refine AW.region ?_
 refine AO.c ?_
 refine AO.nil ?_
 refine SQ.normal ?_
 refine AW.seq' ?_
 refine AW.seq' ?_
 refine AW.region ?_
 refine AO.c ?_
 refine AO.nil ?_
 refine SQ.normal ?_
 refine AW.block' ?_
 refine AW.loopU [.f, .k, .k, .f, .f, .k, .k, .F, .F, .F, .F, .f] (fun (i : Nat) => [(5, .v (.int .i64 (memberF (o.groups.take i) n))), (6, .v (.int .i64 (i)))]) (fun i => Hn n0 [some (.box 29 (objA o))]) (fun m i => i ≤ o.groups.length ∧ m = o.groups.length - i) (o.groups.length) (0) ⟨by omega, by omega⟩ (by first | rfl | (simp; done)) (by first | rfl | (simp; done)) ?_
 rintro m0 i ⟨hx1, hx2⟩
 refine AW.seq' ?_
 refine AW.seq' ?_
 refine AW.region ?_
 iterate 5 refine AO.c ?_
 refine AO.nil ?_
 refine SQ.normal ?_
 refine AW.iteB (GL.ev _) (fun h0 => ?_) (fun h0 => ?_)
 ·
  rw [decide_eq_true_eq] at h0
  have hi : i < o.groups.length := by omega
  have hm := gsm_at hs hi
  have hb := memberF_big (n := n) (mem_take hs2 i)
  have hb0 := memberF_range (l := o.groups.take i) (n := n)
  rw [List.length_take] at hb
  refine AW.skip ?_
  refine SQ.normal ?_
  refine AW.seq' ?_
  refine AW.block' ?_
  refine AW.seq' ?_
  refine AW.region ?_
  refine AO.c ?_
  refine AO.nil ?_
  refine SQ.normal ?_
  refine AW.block' ?_
  refine AW.loopU [.f, .k, .k, .f, .f, .k, .k, .k, .F, .F, .F, .F] (fun (k : Nat) => [(5, .v (.int .i64 (memberF (o.groups.take i) n + ((o.groups.getD i default).mem.take k).count n))), (7, .v (.int .i64 (k)))]) (fun k => Hn n0 [some (.box 29 (objA o))]) (fun m k => k ≤ (o.groups.getD i default).mem.length ∧ m = (o.groups.getD i default).mem.length - k) ((o.groups.getD i default).mem.length) (0) ⟨by omega, by omega⟩ (by first | rfl | (simp; done)) (by first | rfl | (simp; done)) ?_
  rintro m1 k ⟨hk1, hk2⟩
  have hc : ((o.groups.getD i default).mem.take k).count n ≤ k := Nat.le_trans List.count_le_length (by rw [List.length_take]; omega)
  refine AW.seq' ?_
  refine AW.seq' ?_
  refine AW.region ?_
  iterate 4 refine AO.c ?_
  refine AO.oo ?_
  iterate 4 refine AO.c ?_
  refine AO.nil ?_
  refine SQ.normal ?_
  refine AW.iteB (GL.ev _) (fun h1 => ?_) (fun h1 => ?_)
  ·
   rw [decide_eq_true_eq] at h1
   have hk : k < (o.groups.getD i default).mem.length := by omega
   refine AW.skip ?_
   refine SQ.normal ?_
   refine AW.seq' ?_
   refine AW.block' ?_
   refine AW.seq' ?_
   refine AW.region ?_
   iterate 3 refine AO.c ?_
   refine AO.oo ?_
   iterate 3 refine AO.c ?_
   refine AO.oo ?_
   iterate 3 refine AO.c ?_
   refine AO.nil ?_
   refine SQ.normal ?_
   refine AW.iteB (GL.ev _) (fun h2 => ?_) (fun h2 => ?_)
   ·
    rw [decide_eq_true_eq] at h2
    have e2 : (((o.groups.getD i default).mem.take (k + 1)).count n : Int) = ((o.groups.getD i default).mem.take k).count n + 1 := by
     rw [count_take hk, if_pos h2]; rfl
    refine AW.region ?_
    refine AO.c ?_
    refine AO.oo ?_
    refine AO.c ?_
    refine AO.nil ?_
    refine BQ.normal ?_
    refine SQ.normal ?_
    refine AW.region ?_
    refine AO.c ?_
    refine AO.oo ?_
    refine AO.c ?_
    refine AO.nil ?_
    exact AW.backU [.f, .k, .k, .f, .f, .k, .k, .k, .F, .F, .F, .F] (m1 - 1) (k + 1) (by omega) (by first | omega | (simp; done) | (simp; omega)) (by (try dsimp only); rw [e2, ← Int.add_assoc] <;> rfl) (by first | rfl | (simp; done))
   ·
    rw [decide_eq_false_iff_not] at h2
    have e2 : (((o.groups.getD i default).mem.take (k + 1)).count n : Int) = ((o.groups.getD i default).mem.take k).count n := by
     rw [count_take hk, if_neg h2]; rfl
    refine AW.skip ?_
    refine BQ.normal ?_
    refine SQ.normal ?_
    refine AW.region ?_
    refine AO.c ?_
    refine AO.oo ?_
    refine AO.c ?_
    refine AO.nil ?_
    exact AW.backU [.f, .k, .k, .f, .f, .k, .k, .k, .F, .F, .F, .F] (m1 - 1) (k + 1) (by omega) (by first | omega | (simp; done) | (simp; omega)) (by (try dsimp only); rw [e2] <;> rfl) (by first | rfl | (simp; done))
  ·
   rw [decide_eq_false_iff_not] at h1
   have e := memberF_take (n := n) hi
   rw [show ((o.groups.getD i default).mem) = (o.groups.getD i default).mem.take k from (List.take_of_length_le (by omega)).symm] at e
   refine AW.exit ?_
   refine SQ.exit <| AW.out <| LU.exit <| BQ.exit ?_
   refine BQ.normal ?_
   refine SQ.normal ?_
   refine AW.region ?_
   refine AO.c ?_
   refine AO.oo ?_
   refine AO.c ?_
   refine AO.nil ?_
   exact AW.backU [.f, .k, .k, .f, .f, .k, .k, .F, .F, .F, .F, .f] (m0 - 1) (i + 1) (by omega) (by first | omega | (simp; done) | (simp; omega)) (by (try dsimp only); rw [e] <;> rfl) (by first | rfl | (simp; done))
 ·
  try simp only [Bool.and_eq_true, Bool.or_eq_true, Bool.not_eq_true', Bool.and_eq_false_iff, Bool.or_eq_false_iff, decide_eq_true_eq, decide_eq_false_iff_not, bys_length] at h0
  refine AW.exit ?_
  refine SQ.exit <| AW.out <| LU.exit <| BQ.exit ?_
  refine SQ.normal ?_
  refine AW.seq' ?_
  refine AW.region ?_
  iterate 2 refine AO.c ?_
  refine AO.nil ?_
  refine SQ.normal ?_
  refine AW.ret ?_
  refine Fin.ret (Gh.refl) noid1 ?_
  rw [List.take_of_length_le (by omega)]; rfl
theorem ref_rels (o : ObjD) (s : SecD) (ho : o.syms.length ≤ maxLen) (hs : s.ok) : A0 Tryz.prog 135 [.agg (objA o), .agg (secA s)] (fun ret => ret = .v (.bool (relsB o s))) := by
 have hs0 := hs
 obtain ⟨q1, q2, q3, q4, q5, q6, q7, q8, q9, q10, q11⟩ := hs
 rw [maxLen_eq] at q8 q10 ho
 refine A0.body 71 Tryz.func135 rfl rfl Tryz.ntmps135 fun base n0 => ?_
 refine AW.seq' ?_
 refine AW.region ?_
 iterate 2 refine AO.ww ?_
 refine AO.c ?_
 refine AO.nil ?_
 refine SQ.normal ?_
 refine AW.seq' ?_
 refine AW.seq' ?_
 refine AW.region ?_
 iterate 4 refine AO.c ?_
 refine AO.nil ?_
 refine SQ.normal ?_
 refine AW.iteB (GL.ev _) (fun h0 => ?_) (fun h0 => ?_)
 ·
  try simp only [Bool.and_eq_true, Bool.or_eq_true, Bool.not_eq_true', Bool.and_eq_false_iff, Bool.or_eq_false_iff, decide_eq_true_eq, decide_eq_false_iff_not, bys_length] at h0
  refine AW.seq' ?_
  refine AW.region ?_
  refine AO.c ?_
  refine AO.nil ?_
  refine SQ.normal ?_
  refine AW.ret ?_
  refine SQ.ret ?_
  refine Fin.ret (Gh.refl) noid1 ?_
  unfold relsB; rw [decide_eq_false (by omega)]; rfl
 ·
  try simp only [Bool.and_eq_true, Bool.or_eq_true, Bool.not_eq_true', Bool.and_eq_false_iff, Bool.or_eq_false_iff, decide_eq_true_eq, decide_eq_false_iff_not, bys_length] at h0
  refine AW.skip ?_
  refine SQ.normal ?_
  refine AW.seq' ?_
  refine AW.seq' ?_
  refine AW.region ?_
  refine AO.c ?_
  refine AO.nil ?_
  refine SQ.normal ?_
  refine AW.block' ?_
  refine AW.loopU2 [.f, .f, .k, .k, .f, .k, .F, .F, .F, .F, .F, .F, .F, .F, .f] (fun (i j : Nat) => [(5, .v (.int .i64 (i)))]) (fun i j => Hn n0 (([some (.box 29 (objA o)), some (.box 104 (secA s))] ++ List.replicate j none) ++ [])) (fun m i j => i ≤ s.rels.length ∧ m = s.rels.length - i ∧ (∀ k, k < i → mayRelB (s.rels.getD k default) = true) ∧ relsG o.syms.length s.data.length none s.rels = relsG o.syms.length s.data.length (prevR s.rels i) (s.rels.drop i)) (s.rels.length) (0) (0) ⟨by omega, by omega, fun k h => by omega, rfl⟩ (by first | rfl | (simp; done)) (by first | rfl | (simp; done)) ?_
  rintro m0 i j ⟨hx1, hx2, hx3, hx4⟩
  refine AW.seq' ?_
  refine AW.seq' ?_
  refine AW.region ?_
  iterate 5 refine AO.c ?_
  refine AO.nil ?_
  refine SQ.normal ?_
  refine AW.iteB (GL.ev _) (fun h1 => ?_) (fun h1 => ?_)
  ·
   rw [decide_eq_true_eq] at h1
   have hi : i < s.rels.length := by omega
   rw [drop_getD hi, relsG_cons] at hx4
   refine AW.skip ?_
   refine SQ.normal ?_
   refine AW.seq' ?_
   refine AW.block' ?_
   refine AW.seq' ?_
   refine AW.region ?_
   iterate 3 refine AO.c ?_
   refine AO.oo ?_
   refine AO.c ?_
   refine AO.ww ?_
   refine AO.sst ?_
   refine AO.nil ?_
   refine SQ.normal ?_
   refine AW.seq' ?_
   refine AW.region ?_
   refine AO.c ?_
   refine AO.call1 Tryz.func132 rfl rfl (ref_MayRel _ (relOk_at q11 hi)) ?_
   refine AO.c ?_
   refine AO.nil ?_
   refine SQ.normal ?_
   refine AW.seq' ?_
   refine AW.seq' ?_
   refine AW.drawsZ [] (.one 0 false (.one 1 false (.one 2 false (.one 3 false (.one 4 false (.one 5 false (.one 6 false (.one 7 false (.one 8 false (.one 9 false (.one 10 false (.one 11 false (.one 12 false (.one 13 false (.one 14 false (.one 17 false (.one 18 false (.one 19 false (.one 15 true (.one 16 false (.one 20 false (.one 21 false .nil)))))))))))))))))))))) (by kernel_rfl) rfl (by kernel_rfl) ?_
   iterate 3 refine AZ.c rfl ?_
   iterate 6 refine AZ.gx rfl ?_
   iterate 2 refine AZ.c rfl ?_
   iterate 7 refine AZ.gx rfl ?_
   refine AZ.gxcall1 rfl Tryz.func162 rfl rfl (fun hgd => ref_Width _) ?_
   refine AZ.gxo rfl (fun h => ?_) ?_
   · have hw := widthF_range (s.rels.getD i default).typ
     simp only [Bool.not_eq_true', Bool.or_eq_false_iff, Bool.not_eq_false', decide_eq_false_iff_not] at h
     have := mayRel_off h.1
     omega
   refine AZ.gx rfl ?_
   refine AZ.c rfl ?_
   refine AZ.done ?_
   refine SQ.normal ?_
   refine AW.iteB (GL.ev _) (fun h2 => ?_) (fun h2 => ?_)
   ·
    rw [h2, cond_true] at hx4
    refine AW.seq' ?_
    refine AW.region ?_
    refine AO.c ?_
    refine AO.nil ?_
    refine SQ.normal ?_
    refine AW.ret ?_
    refine SQ.ret <| BQ.ret <| SQ.ret <| AW.out <| LU.ret <| BQ.ret <| SQ.ret ?_
    refine Fin.ret (Gh.refl) noid1 ?_
    unfold relsB; rw [hx4, Bool.and_false]; rfl
   ·
    have hmay : mayRelB (s.rels.getD i default) = true := by
     simp only [Bool.or_eq_false_iff, Bool.not_eq_false'] at h2
     exact h2.1.1
    rw [h2, cond_false] at hx4
    have hp : prevBad (s.rels.getD i default) (prevR s.rels i) = (decide ((i : Int) > 0) && decide ((s.rels.getD ((i : Int) - 1).toNat default).off + widthF (s.rels.getD ((i : Int) - 1).toNat default).typ > (s.rels.getD i default).off)) := by
     unfold prevR
     by_cases h : i = 0
     · subst h; rfl
     · rw [if_neg h, show ((i : Int) - 1).toNat = i - 1 by omega, decide_eq_true (show (i : Int) > 0 by omega), Bool.true_and]; rfl
    refine AW.skip ?_
    refine SQ.normal ?_
    refine AW.seq' ?_
    refine AW.drawsZ [] (.one 0 false (.one 1 false (.one 2 false (.one 3 false (.one 4 false (.one 5 false (.one 6 false (.one 7 false (.one 8 false (.one 9 false (.one 10 false (.one 11 false (.one 12 false (.one 13 false (.one 14 false (.one 15 false (.one 16 false (.one 19 false (.one 20 false (.one 17 true (.one 18 false (.one 21 false (.one 22 false .nil))))))))))))))))))))))) (by kernel_rfl) rfl (by kernel_rfl) ?_
    iterate 3 refine AZ.c rfl ?_
    iterate 3 refine AZ.gx rfl ?_
    refine AZ.gxo rfl (fun h => by omega) ?_
    refine AZ.gxo rfl (fun h => by rw [decide_eq_true_eq] at h; omega) ?_
    iterate 5 refine AZ.gx rfl ?_
    refine AZ.gxo rfl (fun h => by omega) ?_
    refine AZ.gxo rfl (fun h => by rw [decide_eq_true_eq] at h; omega) ?_
    iterate 4 refine AZ.gx rfl ?_
    refine AZ.gxcall1 rfl Tryz.func162 rfl rfl (fun hgd => ref_Width _) ?_
    refine AZ.gxo rfl (fun h => ?_) ?_
    · have hw := widthF_range (s.rels.getD ((i : Int) - 1).toNat default).typ
      rw [decide_eq_true_eq] at h
      have := mayRel_off (hx3 ((i : Int) - 1).toNat (by omega))
      omega
    refine AZ.gx rfl ?_
    refine AZ.c rfl ?_
    refine AZ.done ?_
    refine SQ.normal ?_
    refine AW.iteB (GL.ev _) (fun h3 => ?_) (fun h3 => ?_)
    ·
     rw [hp, h3, cond_true] at hx4
     refine AW.seq' ?_
     refine AW.region ?_
     refine AO.c ?_
     refine AO.nil ?_
     refine SQ.normal ?_
     refine AW.ret ?_
     refine BQ.ret <| SQ.ret <| AW.out <| LU.ret <| BQ.ret <| SQ.ret ?_
     refine Fin.ret (Gh.refl) noid1 ?_
     unfold relsB; rw [hx4, Bool.and_false]; rfl
    ·
     rw [hp, h3, cond_false] at hx4
     rw [show some (s.rels.getD i default) = prevR s.rels (i + 1) by unfold prevR; rw [if_neg (by omega)]; rfl] at hx4
     refine AW.skip ?_
     refine BQ.normal ?_
     refine SQ.normal ?_
     refine AW.region ?_
     refine AO.c ?_
     refine AO.oo ?_
     refine AO.c ?_
     refine AO.nil ?_
     exact AW.backD [.f, .f, .k, .k, .f, .k, .F, .F, .F, .F, .F, .F, .F, .F, .f] ([some (.box 29 (objA o)), some (.box 104 (secA s))]) (j) (m0 - 1) (i + 1, j + 1) (by omega) (by (try dsimp only); exact ⟨by omega, by omega, fun k hk => by rcases Nat.lt_succ_iff_lt_or_eq.1 hk with h | rfl; exact hx3 k h; exact hmay, hx4⟩) (by first | rfl | (simp; done)) (by first | rfl | (simp; done))
  ·
   try simp only [Bool.and_eq_true, Bool.or_eq_true, Bool.not_eq_true', Bool.and_eq_false_iff, Bool.or_eq_false_iff, decide_eq_true_eq, decide_eq_false_iff_not, bys_length] at h1
   refine AW.exit ?_
   refine SQ.exit <| AW.out <| LU.exit <| BQ.exit ?_
   refine SQ.normal ?_
   refine AW.seq' ?_
   refine AW.region ?_
   refine AO.c ?_
   refine AO.nil ?_
   refine SQ.normal ?_
   refine AW.ret ?_
   refine Fin.ret (Gh.refl) noid1 ?_
   unfold relsB; rw [hx4, List.drop_of_length_le (by omega), decide_eq_true (by omega)]; unfold relsG; rfl
theorem ref_section (o : ObjD) (n : Int) (ho : o.ok) (hg : GSmall o.groups) (hn : 1 ≤ n ∧ n ≤ o.secs.length) : A0 Tryz.prog 93 [.agg (objA o), .v (.int .i64 (n))] (fun ret => ret = .v (.bool (sectionB o n))) := by
 have hl := ho.1
 rw [maxLen_eq] at hl
 have hi : (n - 1).toNat < o.secs.length := by omega
 have hs := secOk_at ho.2.1 hi
 refine A0.body 85 Tryz.func93 rfl rfl Tryz.ntmps93 fun base n0 => ?_
 refine AW.seq' ?_
 refine AW.region ?_
 refine AO.ww ?_
 refine AO.c ?_
 refine AO.nil ?_
 refine SQ.normal ?_
 refine AW.seq' ?_
 refine AW.region ?_
 iterate 3 refine AO.c ?_
 iterate 2 refine AO.oo ?_
 refine AO.c ?_
 refine AO.ww ?_
 refine AO.sst ?_
 refine AO.nil ?_
 refine SQ.normal ?_
 refine AW.seq' ?_
 refine AW.region ?_
 iterate 2 refine AO.c ?_
 refine AO.call1 Tryz.func133 rfl rfl (ref_Name _ hs.1) ?_
 refine AO.c ?_
 refine AO.nil ?_
 refine SQ.normal ?_
 refine AW.seq' ?_
 refine AW.region ?_
 refine AO.c ?_
 refine AO.call1 Tryz.func134 rfl rfl (ref_kind _ hs) ?_
 refine AO.c ?_
 refine AO.nil ?_
 refine SQ.normal ?_
 refine AW.seq' ?_
 refine AW.region ?_
 iterate 2 refine AO.c ?_
 refine AO.call1 Tryz.func135 rfl rfl (ref_rels _ _ ho.2.2.1 hs) ?_
 refine AO.c ?_
 refine AO.nil ?_
 refine SQ.normal ?_
 refine AW.seq' ?_
 refine AW.seq' ?_
 refine AW.region ?_
 iterate 3 refine AO.c ?_
 iterate 2 refine AO.gx ?_
 iterate 2 refine AO.c ?_
 iterate 2 refine AO.gx ?_
 refine AO.c ?_
 refine AO.nil ?_
 refine SQ.normal ?_
 refine AW.iteB (GL.ev _) (fun h0 => ?_) (fun h0 => ?_)
 ·
  skip
  refine AW.seq' ?_
  refine AW.region ?_
  refine AO.c ?_
  refine AO.nil ?_
  refine SQ.normal ?_
  refine AW.ret ?_
  refine SQ.ret ?_
  refine Fin.ret (Gh.refl) noid1 ?_
  unfold sectionB; simp only [*, cond_true, cond_false]; rfl
 ·
  skip
  refine AW.skip ?_
  refine SQ.normal ?_
  refine AW.seq' ?_
  refine AW.region ?_
  refine AO.c ?_
  refine AO.call1 Tryz.func63 rfl rfl (ref_Has _ _ hs (by omega)) ?_
  refine AO.c ?_
  refine AO.nil ?_
  refine SQ.normal ?_
  refine AW.seq' ?_
  refine AW.seq' ?_
  refine AW.region ?_
  iterate 2 refine AO.c ?_
  iterate 17 refine AO.gx ?_
  iterate 2 refine AO.c ?_
  iterate 7 refine AO.gx ?_
  refine AO.c ?_
  refine AO.nil ?_
  refine SQ.normal ?_
  refine AW.iteB (GL.ev _) (fun h1 => ?_) (fun h1 => ?_)
  ·
   skip
   refine AW.seq' ?_
   refine AW.region ?_
   refine AO.c ?_
   refine AO.nil ?_
   refine SQ.normal ?_
   refine AW.ret ?_
   refine SQ.ret ?_
   refine Fin.ret (Gh.refl) noid1 ?_
   unfold sectionB; simp only [*, cond_true, cond_false]; rfl
  ·
   skip
   refine AW.skip ?_
   refine SQ.normal ?_
   refine AW.seq' ?_
   refine AW.region ?_
   refine AO.c ?_
   refine AO.call1 Tryz.func63 rfl rfl (ref_Has _ _ hs (by omega)) ?_
   refine AO.c ?_
   refine AO.nil ?_
   refine SQ.normal ?_
   refine AW.seq' ?_
   refine AW.region ?_
   iterate 2 refine AO.c ?_
   refine AO.call1 Tryz.func136 rfl rfl (ref_member _ _ hg) ?_
   refine AO.c ?_
   refine AO.nil ?_
   refine SQ.normal ?_
   refine AW.seq' ?_
   refine AW.region ?_
   iterate 3 refine AO.c ?_
   iterate 2 refine AO.gx ?_
   iterate 2 refine AO.c ?_
   iterate 5 refine AO.gx ?_
   iterate 2 refine AO.c ?_
   refine AO.nil ?_
   refine SQ.normal ?_
   refine AW.ret ?_
   refine Fin.ret (Gh.refl) noid1 ?_
   unfold sectionB; simp only [*, cond_true, cond_false]; rfl
end Go.Proofs.YtdniaamhbfadnaaGreat.AL
