/- What functions of the program compute, each by its own contract; the conditions stand with each. -/
import Derived.Test.YtbaibjhkmajplaaFSym
namespace Go.Proofs.Ytbaibjhkmajplaa.AL
open Go Go.RowKit Go.Proofs.Ytbaibjhkmajplaa.Base
set_option linter.unusedVariables false
set_option linter.unusedSimpArgs false
set_option maxRecDepth 4000
set_option synthInstance.maxSize 1000

structure HdD where
  at_ : Int
  many : Int
  names : Int
  deriving Inhabited, DecidableEq
@[reducible] def hdA (h : HdD) : List AV := [.v (.int .i64 h.at_), .v (.int .i64 h.many), .v (.int .i64 h.names)]
@[reducible] def pairA (p : Int × Int) : List AV := [.v (.int .u64 p.1), .v (.int .i64 p.2)]
def HdD.ok (h : HdD) : Prop := I64 h.at_ ∧ I64 h.many ∧ I64 h.names
def HdD.may (h : HdD) : Prop := MayHd h.at_ h.many h.names
instance (h : HdD) : Decidable h.may := by unfold HdD.may; infer_instance
def HdD.bytes (h : HdD) : List Int := Hd h.at_ h.many h.names
def mayHB (h : HdD) : Bool := decide (h.at_ ≥ 0) && decide (h.at_ ≤ 2147483647) && decide (h.many ≥ 1) && decide (h.many ≤ 65535) && decide (h.names ≥ 1) && decide (h.names < h.many)
theorem mayHB_eq (h : HdD) : mayHB h = decide h.may := by
  rw [Bool.eq_iff_iff, decide_eq_true_eq]
  unfold mayHB HdD.may MayHd
  simp only [Bool.and_eq_true, decide_eq_true_eq]
  omega
def zeroHd : HdD := ⟨0, 0, 0⟩
def hdOf (b : List Int) : HdD := ⟨numAt b 40 8, numAt b 60 2, numAt b 62 2⟩
def HdOk (b : List Int) : Prop := 64 ≤ b.length ∧ (hdOf b).may ∧ b.take 64 = (hdOf b).bytes
instance (b : List Int) : Decidable (HdOk b) := by unfold HdOk; infer_instance
def numG (b : List Int) (at_ n : Int) : Int := if HasB b at_ n then numAt b at_ n else 0
theorem le_GetG (b : List Int) (at_ n : Int) (hB : Bytes b) (hb : b.length ≤ 9223372036854775807) (ha : -9223372036854775808 ≤ at_ ∧ at_ ≤ 9223372036854775807) (hn : -9223372036854775808 ≤ n ∧ n ≤ 9223372036854775807) : A0 Try.prog 29 [.rd 1 (bys b), .v (.int .i64 at_), .v (.int .i64 n)] (fun ret => ret = .tup [.v (.int .u64 (numG b at_ n)), .v (.bool (decide (HasB b at_ n)))]) := le_Get b at_ n hB hb ha hn
theorem numG_range {b : List Int} (hB : Bytes b) (at_ n : Int) : 0 ≤ numG b at_ n ∧ numG b at_ n < 256 ^ n.toNat := by
  unfold numG
  split
  · exact numAt_range hB at_ n
  · have : (0 : Int) < 256 ^ n.toNat := Int.pow_pos (by decide)
    omega
def identL : List Int := [127, 69, 76, 70, 2, 1, 1, 0, 0, 0, 0, 0, 0, 0, 0, 0]
def layL (h : HdD) : List (Int × Int) := [(1, 2), (62, 2), (1, 4), (0, 8), (0, 8), (h.at_, 8), (0, 4), (64, 2), (0, 2), (0, 2), (64, 2), (h.many, 2), (h.names, 2)]
def digsP : List (Int × Int) → List Int
  | [] => []
  | p :: r => dig p.1 p.2.toNat ++ digsP r
theorem digsP_append (a b : List (Int × Int)) : digsP (a ++ b) = digsP a ++ digsP b := by
  induction a with
  | nil => rfl
  | cons p r ih => simp only [List.cons_append, digsP, ih, List.append_assoc]
theorem digsP_step {l : List (Int × Int)} {i : Nat} (h : i < l.length) : digsP (l.take (i + 1)) = digsP (l.take i) ++ dig (l.getD i default).1 (l.getD i default).2.toNat := by
  have : l.getD i default = l[i] := by simp [h]
  rw [this, List.take_succ_eq_append_getElem h, digsP_append]
  simp [digsP]
theorem layL_at {h : HdD} (hm : h.may) {i : Nat} (hi : i < 13) : Wide ((layL h).getD i default).2 ∧ 0 ≤ ((layL h).getD i default).1 ∧ ((layL h).getD i default).1 ≤ 18446744073709551615 ∧ -9223372036854775808 ≤ ((layL h).getD i default).2 ∧ ((layL h).getD i default).2 ≤ 9223372036854775807 := by
  unfold HdD.may MayHd at hm
  have hc : i = 0 ∨ i = 1 ∨ i = 2 ∨ i = 3 ∨ i = 4 ∨ i = 5 ∨ i = 6 ∨ i = 7 ∨ i = 8 ∨ i = 9 ∨ i = 10 ∨ i = 11 ∨ i = 12 := by omega
  rcases hc with rfl | rfl | rfl | rfl | rfl | rfl | rfl | rfl | rfl | rfl | rfl | rfl | rfl <;> simp only [layL, List.getD_cons_zero, List.getD_cons_succ] <;> refine ⟨by decide, ?_, ?_, by decide, by decide⟩ <;> omega
theorem lay_all (h : HdD) : identL ++ digsP (layL h) = h.bytes := by
  simp [layL, digsP, HdD.bytes, Hd, identL]

theorem ehdr_may (h : HdD) : A0 Try.prog 97 [.agg (hdA h)] (fun ret => ret = .v (.bool (mayHB h))) := by
  refine A0.body 33 Try.func97 rfl rfl Try.ntmps97 fun base n0 => ?_
  refine AW.seq' ?_
  refine AW.region ?_
  refine AO.ww ?_
  refine AO.c ?_
  refine AO.nil ?_
  refine SQ.normal ?_
  refine AW.seq' ?_
  refine AW.region ?_
  refine AO.c ?_
  refine AO.c ?_
  refine AO.c ?_
  refine AO.c ?_
  refine AO.gx ?_
  refine AO.gx ?_
  refine AO.gx ?_
  refine AO.c ?_
  refine AO.c ?_
  refine AO.gx ?_
  refine AO.gx ?_
  refine AO.gx ?_
  refine AO.c ?_
  refine AO.c ?_
  refine AO.gx ?_
  refine AO.gx ?_
  refine AO.gx ?_
  refine AO.c ?_
  refine AO.c ?_
  refine AO.gx ?_
  refine AO.gx ?_
  refine AO.gx ?_
  refine AO.c ?_
  refine AO.c ?_
  refine AO.gx ?_
  refine AO.gx ?_
  refine AO.gx ?_
  refine AO.gx ?_
  refine AO.gx ?_
  refine AO.c ?_
  refine AO.c ?_
  refine AO.nil ?_
  refine SQ.normal ?_
  refine AW.ret ?_
  refine Fin.ret (Gh.refl) noid1 ?_
  rfl
theorem bytes_Equal (x y : List Int) : A0 Try.prog 98 [.rd 1 (bys x), .rd 1 (bys y)] (fun ret => ret = .v (.bool (decide ((strOfNums x).toList = (strOfNums y).toList)))) := by
  refine A0.body 10 Try.func98 rfl rfl Try.ntmps98 fun base n0 => ?_
  refine AW.seq' ?_
  refine AW.region ?_
  refine AO.c ?_
  refine AO.nil ?_
  refine SQ.normal ?_
  refine AW.seq' ?_
  refine AW.region ?_
  refine AO.c ?_
  refine AO.c ?_
  refine AO.c ?_
  refine AO.c ?_
  refine AO.c ?_
  refine AO.c ?_
  refine AO.nil ?_
  refine SQ.normal ?_
  refine AW.ret ?_
  refine Fin.ret (Gh.refl) noid1 ?_
  rfl
theorem ehdr_lay (h : HdD) (hm : h.may) : A1 Try.prog 99 [.agg (hdA h)] 5 1 (bys h.bytes) := by
  have hm2 := hm
  unfold HdD.may MayHd at hm2
  have hl13 : (layL h).length = 13 := rfl
  refine A1.body 44 (NIr.h) Try.func99 rfl rfl Try.ntmps99 fun base n0 => ?_
  refine AW.seq' ?_
  refine AW.region ?_
  refine AO.ww ?_
  refine AO.c ?_
  refine AO.nil ?_
  refine SQ.normal ?_
  refine AW.seq' ?_
  refine AW.region ?_
  refine AO.ww ?_
  refine AO.c ?_
  refine AO.nil ?_
  refine SQ.normal ?_
  refine AW.seq' ?_
  refine AW.seq' ?_
  refine AW.region ?_
  refine AO.c ?_
  refine AO.c ?_
  refine AO.c ?_
  refine AO.c ?_
  refine AO.c ?_
  refine AO.c ?_
  refine AO.c ?_
  refine AO.oo ?_
  refine AO.c ?_
  refine AO.c ?_
  refine AO.c ?_
  refine AO.c ?_
  refine AO.c ?_
  refine AO.c ?_
  refine AO.c ?_
  refine AO.c ?_
  refine AO.oo ?_
  refine AO.c ?_
  refine AO.c ?_
  refine AO.c ?_
  refine AO.oo ?_
  refine AO.c ?_
  refine AO.rr ?_
  refine AO.eq 29 (av' := .rd 2 ((layL h).map pairA)) rfl ?_
  refine AO.c ?_
  refine AO.c ?_
  refine AO.nil ?_
  refine SQ.normal ?_
  refine AW.block' ?_
  refine AW.loopU4 [.f, .f, .f, .k, .F, .F, .F, .f, .k, .k, .k, .F, .f, .f, .f, .f] (fun (i ep : Nat) (out : List Int) (j : Nat) => [(3, .own (n0 + 1) ep 0 out.length), (31, .v (.int .i64 (i)))]) (fun i ep out j => Hn n0 (([some (.box 99 (hdA h)), some (.row 5 1 ep (bys out))] ++ List.replicate j none) ++ [])) (fun m i ep out j => i ≤ 13 ∧ m = 13 - i ∧ out.length ≤ 16 + 8 * i ∧ out = identL ++ digsP ((layL h).take i)) (13) (0) (0) (identL) (0) ⟨by omega, by omega, by decide, by simp [digsP]⟩ (by first | rfl | (simp; done)) (by first | rfl | (simp; done)) ?_
  rintro m0 i ep out j ⟨hx1, hx2, hx3, hx4⟩
  refine AW.seq' ?_
  refine AW.region ?_
  refine AO.c ?_
  refine AO.nil ?_
  refine SQ.normal ?_
  refine AW.seq' ?_
  refine AW.iteB (GL.ev _) (fun h0 => ?_) (fun h0 => ?_)
  · skip
    rw [decide_eq_true_eq] at h0
    have hi : i < 13 := by omega
    have hla := layL_at hm hi
    have hpl := put8_len ((layL h).getD i default).1 ((layL h).getD i default).2
    refine AW.skip ?_
    refine SQ.normal ?_
    refine AW.seq' ?_
    refine AW.block' ?_
    refine AW.seq' ?_
    refine AW.region ?_
    refine AO.oo ?_
    refine AO.c ?_
    refine AO.ww ?_
    refine AO.sst ?_
    refine AO.nil ?_
    refine SQ.normal ?_
    refine AW.region ?_
    refine AO.c ?_
    refine AO.c ?_
    refine AO.c ?_
    refine AO.c ?_
    refine AO.c ?_
    refine AO.call1 Try.func33 rfl rfl ((le_PutR ((layL h).getD i default).1 ((layL h).getD i default).2 ⟨hla.2.1, hla.2.2.1⟩ hla.2.2.2).a0 (by rw [bys_length]; exact Nat.le_trans (put8_len _ _) (by decide))) ?_
    refine AO.ww ?_
    refine AO.c ?_
    refine AO.nil ?_
    refine BQ.normal ?_
    refine SQ.normal ?_
    refine AW.region ?_
    refine AO.oo ?_
    refine AO.c ?_
    refine AO.nil ?_
    exact AW.backD [.f, .f, .f, .k, .F, .F, .F, .f, .k, .k, .k, .F, .f, .f, .f, .f] ([some (.box 99 (hdA h)), some (.row 5 1 (ep + 1) (bys (out ++ (if Wide ((layL h).getD i default).2 then dig ((layL h).getD i default).1 ((layL h).getD i default).2.toNat else []))))]) (j) (m0 - 1) (i + 1, ep + 1, out ++ (if Wide ((layL h).getD i default).2 then dig ((layL h).getD i default).1 ((layL h).getD i default).2.toNat else []), j + 1) (by omega) (by (try dsimp only); exact ⟨by omega, by omega, by rw [List.length_append]; omega, by rw [if_pos hla.1, digsP_step (by rw [hl13]; exact hi), hx4, List.append_assoc]⟩) (by (try dsimp only); rw [List.length_append] <;> rfl) (by first | rfl | (simp; done))
  · skip
    rw [decide_eq_false_iff_not] at h0
    refine AW.exit ?_
    refine SQ.exit <| AW.out <| LU.exit <| BQ.exit ?_
    refine SQ.normal ?_
    refine AW.seq' ?_
    refine AW.region ?_
    refine AO.c ?_
    refine AO.c ?_
    refine AO.nil ?_
    refine SQ.normal ?_
    refine AW.ret ?_
    have hfin : out = h.bytes := by
      have : i = 13 := by omega
      rw [hx4, this, List.take_of_length_le (by rw [hl13]; omega), lay_all]
    refine FinO.ret 2 (Gh.refl) rfl ?_ ?_ (.inr rfl)
    · rw [hfin]
    · rw [hfin, bys_length]

theorem hdB_len (h : HdD) : h.bytes.length = 64 := hd_length _ _ _
theorem hdB_bytes (h : HdD) : Bytes h.bytes := hd_bytes _ _ _
theorem hdI_len (h : HdD) : (if h.may then h.bytes else []).length ≤ 64 := by
  split
  · rw [hdB_len]; omega
  · simp
theorem nums_digs : ∀ l : List (Int × Int), (∀ p ∈ l, Wide p.2 ∧ 0 ≤ p.1 ∧ p.1 ≤ 2147483647) → numsF (l.flatMap fun p => [p.1, p.2]) = digsP l := by
  intro l
  induction l with
  | nil => intro _; rfl
  | cons p r ih =>
    intro h
    have hp := h p List.mem_cons_self
    show (if Wide p.2 then dig (IntKind.u64.wrap p.1) p.2.toNat else []) ++ numsF (r.flatMap fun p => [p.1, p.2]) = _
    rw [if_pos hp.1, wu64n hp.2.1 hp.2.2, ih fun q hq => h q (List.mem_cons_of_mem _ hq)]
    rfl
theorem layL_mem {h : HdD} (hm : h.may) : ∀ p ∈ layL h, Wide p.2 ∧ 0 ≤ p.1 ∧ p.1 ≤ 2147483647 := by
  unfold HdD.may MayHd at hm
  intro p hp
  simp only [layL, List.mem_cons, List.not_mem_nil, or_false] at hp
  rcases hp with rfl | rfl | rfl | rfl | rfl | rfl | rfl | rfl | rfl | rfl | rfl | rfl | rfl <;> refine ⟨?_, ?_, ?_⟩ <;> simp only <;> first | decide | omega
@[reducible] def numL (h : HdD) : List Int := [1, 2, 62, 2, 1, 4, 0, 8, 0, 8, h.at_, 8, 0, 4, 64, 2, 0, 2, 0, 2, 64, 2, h.many, 2, h.names, 2]
theorem nums_hd {h : HdD} (hm : h.may) : identL ++ numsF (numL h) = h.bytes := by
  rw [show numL h = (layL h).flatMap fun p => [p.1, p.2] from rfl, nums_digs _ (layL_mem hm), lay_all]
theorem numL_64 {h : HdD} (hh : h.ok) : ∀ x ∈ numL h, I64 x := by
  obtain ⟨q1, q2, q3⟩ := hh
  intro x hx
  simp only [numL, List.mem_cons, List.not_mem_nil, or_false] at hx
  rcases hx with rfl | rfl | rfl | rfl | rfl | rfl | rfl | rfl | rfl | rfl | rfl | rfl | rfl | rfl | rfl | rfl | rfl | rfl | rfl | rfl | rfl | rfl | rfl | rfl | rfl | rfl <;> first | assumption | decide

theorem ehdr_Get (b : List Int) (hB : Bytes b) (hb : b.length ≤ 1000000000000) : A0 Try.prog 76 [.rd 1 (bys b)] (fun ret => ret = .tup [.agg (hdA (if HdOk b then hdOf b else zeroHd)), .v (.bool (decide (HdOk b)))]) := by
  have g0 := numG_range hB 40 8
  have g1 := numG_range hB 60 2
  have g2 := numG_range hB 62 2
  simp only [show (2 : Int).toNat = 2 from rfl] at g1 g2
  refine A0.body 57 Try.func76 rfl rfl Try.ntmps76 fun base n0 => ?_
  refine AW.seq' ?_
  refine AW.region ?_
  refine AO.ww ?_
  refine AO.c ?_
  refine AO.nil ?_
  refine SQ.normal ?_
  refine AW.seq' ?_
  refine AW.region ?_
  refine AO.c ?_
  refine AO.call1 Try.func29 rfl rfl (le_GetG b 40 8 hB (by omega) (by decide) (by decide)) ?_
  refine AO.c ?_
  refine AO.c ?_
  refine AO.c ?_
  refine AO.c ?_
  refine AO.c ?_
  refine AO.nil ?_
  refine SQ.normal ?_
  refine AW.seq' ?_
  refine AW.region ?_
  refine AO.c ?_
  refine AO.call1 Try.func29 rfl rfl (le_GetG b 60 2 hB (by omega) (by decide) (by decide)) ?_
  refine AO.c ?_
  refine AO.c ?_
  refine AO.c ?_
  refine AO.c ?_
  refine AO.c ?_
  refine AO.nil ?_
  refine SQ.normal ?_
  refine AW.seq' ?_
  refine AW.region ?_
  refine AO.c ?_
  refine AO.call1 Try.func29 rfl rfl (le_GetG b 62 2 hB (by omega) (by decide) (by decide)) ?_
  refine AO.c ?_
  refine AO.c ?_
  refine AO.c ?_
  refine AO.c ?_
  refine AO.c ?_
  refine AO.nil ?_
  refine SQ.normal ?_
  refine AW.seq' ?_
  refine AW.seq' ?_
  refine AW.region ?_
  refine AO.c ?_
  refine AO.c ?_
  refine AO.c ?_
  refine AO.gx ?_
  refine AO.gx ?_
  refine AO.c ?_
  refine AO.c ?_
  refine AO.gx ?_
  refine AO.gx ?_
  refine AO.c ?_
  refine AO.nil ?_
  refine SQ.normal ?_
  refine AW.iteB (GL.ev _) (fun h0 => ?_) (fun h0 => ?_)
  · skip
    simp only [Bool.or_eq_true, Bool.not_eq_true', decide_eq_false_iff_not, decide_eq_true_eq] at h0
    have hno : ¬ HdOk b := by
      rintro ⟨hl, hm, _⟩
      unfold HdD.may MayHd hdOf at hm
      simp only at hm
      rcases h0 with (h0 | h0) | h0
      · exact h0 ⟨by decide, by decide, by omega⟩
      · exact h0 ⟨by decide, by decide, by omega⟩
      · rw [show numG b 40 8 = numAt b 40 8 from if_pos ⟨by decide, by decide, by omega⟩] at h0; omega
    refine AW.seq' ?_
    refine AW.region ?_
    refine AO.c ?_
    refine AO.sst ?_
    refine AO.c ?_
    refine AO.nil ?_
    refine SQ.normal ?_
    refine AW.ret ?_
    refine SQ.ret ?_
    refine Fin.ret (Gh.refl) noid2 ?_
    show AV.tup _ = AV.tup _
    first | (rw [if_neg hno, decide_eq_false hno]; rfl) | (rw [if_pos hyes, decide_eq_true hyes]; rfl)
  · skip
    simp only [Bool.or_eq_false_iff, Bool.not_eq_false', decide_eq_true_eq, decide_eq_false_iff_not] at h0
    have hl : 64 ≤ b.length := by have := h0.1.2.2.2; omega
    rw [show numG b 40 8 = numAt b 40 8 from if_pos ⟨by decide, by decide, by omega⟩] at g0 h0 ⊢
    rw [show numG b 60 2 = numAt b 60 2 from if_pos ⟨by decide, by decide, by omega⟩] at g1 ⊢
    rw [show numG b 62 2 = numAt b 62 2 from if_pos ⟨by decide, by decide, by omega⟩] at g2 ⊢
    refine AW.skip ?_
    refine SQ.normal ?_
    refine AW.seq' ?_
    refine AW.region ?_
    refine AO.c ?_
    refine AO.oo ?_
    refine AO.c ?_
    refine AO.oo ?_
    refine AO.c ?_
    refine AO.oo ?_
    refine AO.c ?_
    refine AO.ww ?_
    refine AO.sst ?_
    refine AO.nil ?_
    refine SQ.normal ?_
    refine AW.seq' ?_
    refine AW.seq' ?_
    refine AW.drawsZ [] (.one 0 false (.one 1 true (.one 2 false (.one 3 false (.one 4 false (.one 6 false (.one 7 false (.one 5 true (.one 8 true (.one 9 false (.one 10 false .nil))))))))))) (by kernel_rfl) rfl (by kernel_rfl) ?_
    refine AZ.c rfl ?_
    refine AZ.call1 rfl Try.func97 rfl rfl (ehdr_may (hdOf b)) ?_
    refine AZ.c rfl ?_
    refine AZ.c rfl ?_
    refine AZ.gx rfl ?_
    refine AZ.gx rfl ?_
    refine AZ.gxoo rfl ?_
    refine AZ.gxcall1 rfl Try.func99 rfl rfl (fun hgd => (ehdr_lay (hdOf b) (by simpa [mayHB_eq] using hgd)).a0 (by rw [bys_length, hdB_len]; decide)) ?_
    refine AZ.gxcall1 rfl Try.func98 rfl rfl (fun hgd => bytes_Equal _ _) ?_
    refine AZ.gx rfl ?_
    refine AZ.c rfl ?_
    refine AZ.done ?_
    refine SQ.normal ?_
    refine AW.iteB (GL.ev _) (fun h1 => ?_) (fun h1 => ?_)
    · skip
      simp only [Bool.or_eq_true, Bool.not_eq_true', decide_eq_false_iff_not] at h1
      have hno : ¬ HdOk b := by
        rintro ⟨_, hm, he⟩
        rcases h1 with h1 | h1
        · rw [mayHB_eq, decide_eq_true hm] at h1; cases h1
        · apply h1; rw [← he]; rfl
      refine AW.seq' ?_
      refine AW.region ?_
      refine AO.c ?_
      refine AO.sst ?_
      refine AO.c ?_
      refine AO.nil ?_
      refine SQ.normal ?_
      refine AW.ret ?_
      refine SQ.ret ?_
      refine Fin.ret (Gh.refl) noid2 ?_
      show AV.tup _ = AV.tup _
      first | (rw [if_neg hno, decide_eq_false hno]; rfl) | (rw [if_pos hyes, decide_eq_true hyes]; rfl)
    · skip
      simp only [Bool.or_eq_false_iff, Bool.not_eq_false', decide_eq_true_eq] at h1
      have hyes : HdOk b := ⟨hl, by simpa [mayHB_eq] using h1.1, ((strOfNums_inj (hdB_bytes _) (hB.take 64)).1 (show (strOfNums (hdOf b).bytes).toList = (strOfNums (b.take 64)).toList from h1.2)).symm⟩
      refine AW.skip ?_
      refine SQ.normal ?_
      refine AW.seq' ?_
      refine AW.region ?_
      refine AO.c ?_
      refine AO.sst ?_
      refine AO.c ?_
      refine AO.nil ?_
      refine SQ.normal ?_
      refine AW.ret ?_
      refine Fin.ret (Gh.refl) noid2 ?_
      show AV.tup _ = AV.tup _
      first | (rw [if_neg hno, decide_eq_false hno]; rfl) | (rw [if_pos hyes, decide_eq_true hyes]; rfl)
theorem ehdr_Put (h : HdD) : A1 Try.prog 78 [.agg (hdA h)] 5 1 (bys (if h.may then h.bytes else [])) := by
  refine A1.body 8 (NIr.h) Try.func78 rfl rfl Try.ntmps78 fun base n0 => ?_
  refine AW.seq' ?_
  refine AW.region ?_
  refine AO.ww ?_
  refine AO.c ?_
  refine AO.nil ?_
  refine SQ.normal ?_
  refine AW.seq' ?_
  refine AW.seq' ?_
  refine AW.region ?_
  refine AO.c ?_
  refine AO.call1 Try.func97 rfl rfl (ehdr_may _) ?_
  refine AO.c ?_
  refine AO.nil ?_
  refine SQ.normal ?_
  refine AW.iteB (GL.ev _) (fun h0 => ?_) (fun h0 => ?_)
  · skip
    rw [mayHB_eq, Bool.not_eq_true', decide_eq_false_iff_not] at h0
    refine AW.seq' ?_
    refine AW.region ?_
    refine AO.c ?_
    refine AO.nil ?_
    refine SQ.normal ?_
    refine AW.ret ?_
    refine SQ.ret ?_
    refine FinO.ret 2 (Gh.adoptB 2 5) rfl ?_ ?_ (.inr rfl)
    · rw [if_neg h0]
    · rw [if_neg h0]; rfl
  · skip
    rw [mayHB_eq, Bool.not_eq_false', decide_eq_true_eq] at h0
    refine AW.skip ?_
    refine SQ.normal ?_
    refine AW.seq' ?_
    refine AW.region ?_
    refine AO.c ?_
    refine AO.callR Try.func99 rfl rfl (ehdr_lay h h0) (by rw [bys_length, hdB_len]) ?_
    refine AO.c ?_
    refine AO.nil ?_
    refine SQ.normal ?_
    refine AW.ret ?_
    refine FinO.ret 2 (Gh.refl) rfl ?_ ?_ (.inr rfl)
    · rw [if_pos h0]
    · rw [if_pos h0, bys_length, hdB_len]
theorem ref_Begin (h : HdD) (hh : h.ok) : A0 Try.prog 79 [.v (.int .i64 (h.at_)), .v (.int .i64 (h.many)), .v (.int .i64 (h.names))] (fun ret => ret = .rd 1 (bys (if h.may then h.bytes else []))) := by
  have hh0 := hh.1
  refine A0.body 38 Try.func79 rfl rfl Try.ntmps79 fun base n0 => ?_
  refine AW.seq' ?_
  refine AW.region ?_
  refine AO.c ?_
  refine AO.nil ?_
  refine SQ.normal ?_
  refine AW.seq' ?_
  refine AW.region ?_
  refine AO.c ?_
  refine AO.call1 Try.func100 rfl rfl (ref_fits _ (by assumption)) ?_
  refine AO.c ?_
  refine AO.nil ?_
  refine SQ.normal ?_
  refine AW.seq' ?_
  refine AW.seq' ?_
  refine AW.region ?_
  refine AO.c ?_
  refine AO.c ?_
  refine AO.c ?_
  refine AO.gx ?_
  refine AO.gx ?_
  refine AO.c ?_
  refine AO.c ?_
  refine AO.gx ?_
  refine AO.gx ?_
  refine AO.c ?_
  refine AO.c ?_
  refine AO.gx ?_
  refine AO.gx ?_
  refine AO.c ?_
  refine AO.c ?_
  refine AO.gx ?_
  refine AO.gx ?_
  refine AO.gx ?_
  refine AO.c ?_
  refine AO.nil ?_
  refine SQ.normal ?_
  refine AW.iteB (GL.ev _) (fun h0 => ?_) (fun h0 => ?_)
  · skip
    simp only [Bool.or_eq_true, Bool.not_eq_true', decide_eq_true_eq] at h0
    have hno : ¬ h.may := by
      intro hm
      unfold HdD.may MayHd at hm
      rcases h0 with (((h0 | h0) | h0) | h0) | h0
      · unfold fitsB at h0; simp at h0; omega
      all_goals omega
    refine AW.seq' ?_
    refine AW.region ?_
    refine AO.c ?_
    refine AO.nil ?_
    refine SQ.normal ?_
    refine AW.ret ?_
    refine SQ.ret ?_
    refine Fin.ret (Gh.nilB 6) noid1 ?_
    rw [if_neg hno]; rfl
  · skip
    simp only [Bool.or_eq_false_iff, Bool.not_eq_false', decide_eq_false_iff_not] at h0
    have hm : h.may := by
      have h1 := h0.1.1.1.1
      unfold fitsB at h1
      simp only [Bool.and_eq_true, decide_eq_true_eq] at h1
      unfold HdD.may MayHd
      omega
    have hnu := nums_hd hm
    have h64 := numL_64 hh
    have hnl : (numsF (numL h)).length = 48 := by
      have h1 := congrArg List.length hnu
      rw [List.length_append, hdB_len] at h1
      have h2 : identL.length = 16 := rfl
      omega
    refine AW.skip ?_
    refine SQ.normal ?_
    refine AW.seq' ?_
    refine AW.region ?_
    refine AO.ww ?_
    refine AO.c ?_
    refine AO.nil ?_
    refine SQ.normal ?_
    refine AW.seq' ?_
    refine AW.region ?_
    refine AO.c ?_
    refine AO.c ?_
    refine AO.c ?_
    refine AO.c ?_
    refine AO.rr ?_
    refine AO.eq 35 (av' := .rd 1 ((numL h).map iA)) rfl ?_
    refine AO.call1 Try.func91 rfl rfl (ref_Nums _ (by simp) h64) ?_
    refine AO.ww ?_
    refine AO.c ?_
    refine AO.nil ?_
    refine SQ.normal ?_
    refine AW.ret ?_
    refine Fin.ret (Gh.freezeE 6 (li' := h.bytes) (by rw [← hnu]; rfl) (by rw [hdB_len, hnl]) (by rw [hdB_len]; decide)) noid1 ?_
    rw [if_pos hm]; rfl
theorem ref_Begun (b : List Int) (hB : Bytes b) (hb : b.length ≤ 1000000000000) : A0 Try.prog 77 [.rd 1 (bys b)] (fun ret => ret = .tup [.v (.int .i64 ((if HdOk b then hdOf b else zeroHd).at_)), .v (.int .i64 ((if HdOk b then hdOf b else zeroHd).many)), .v (.int .i64 ((if HdOk b then hdOf b else zeroHd).names)), .v (.bool (decide (HdOk b)))]) := by
  have g0 := numAt_range hB 40 8
  have g1 := numAt_range hB 60 2
  have g2 := numAt_range hB 62 2
  simp only [show (2 : Int).toNat = 2 from rfl] at g1 g2
  refine A0.body 46 Try.func77 rfl rfl Try.ntmps77 fun base n0 => ?_
  refine AW.seq' ?_
  refine AW.region ?_
  refine AO.c ?_
  refine AO.c ?_
  refine AO.c ?_
  refine AO.c ?_
  refine AO.nil ?_
  refine SQ.normal ?_
  refine AW.seq' ?_
  refine AW.seq' ?_
  refine AW.region ?_
  refine AO.c ?_
  refine AO.c ?_
  refine AO.c ?_
  refine AO.nil ?_
  refine SQ.normal ?_
  refine AW.iteB (GL.ev _) (fun h0 => ?_) (fun h0 => ?_)
  · skip
    rw [decide_eq_true_eq] at h0
    have hno : ¬ HdOk b := fun h => by have := h.1; omega
    refine AW.seq' ?_
    refine AW.region ?_
    refine AO.c ?_
    refine AO.c ?_
    refine AO.c ?_
    refine AO.c ?_
    refine AO.nil ?_
    refine SQ.normal ?_
    refine AW.ret ?_
    refine SQ.ret ?_
    refine Fin.ret (Gh.refl) noid4 ?_
    show AV.tup _ = AV.tup _
    first | (rw [if_neg hno, decide_eq_false hno]; rfl) | (rw [if_pos hyes, decide_eq_true hyes]; rfl)
  · skip
    rw [decide_eq_false_iff_not] at h0
    have hl : 64 ≤ b.length := by omega
    refine AW.skip ?_
    refine SQ.normal ?_
    refine AW.seq' ?_
    refine AW.region ?_
    refine AO.c ?_
    refine AO.o (by first | omega | (simp; omega)) ?_
    refine AO.eq 14 (av' := .rd 1 (bys ((b.drop 40).take 8))) (by show AV.rd 1 (bys ((b.take 48).drop 40)) = _; rw [List.drop_take]) ?_
    refine AO.call1 Try.func83 rfl rfl ((show A0 Try.prog 83 [.rd 1 (bys ((b.drop 40).take 8))] (fun r => r = .v (.int .u64 (numAt b 40 8))) from ref_Num _ ((hB.drop _).take _) (by rw [List.length_take]; omega))) ?_
    refine AO.c ?_
    refine AO.nil ?_
    refine SQ.normal ?_
    refine AW.seq' ?_
    refine AW.region ?_
    refine AO.c ?_
    refine AO.o (by first | omega | (simp; omega)) ?_
    refine AO.eq 17 (av' := .rd 1 (bys ((b.drop 60).take 2))) (by show AV.rd 1 (bys ((b.take 62).drop 60)) = _; rw [List.drop_take]) ?_
    refine AO.call1 Try.func83 rfl rfl ((show A0 Try.prog 83 [.rd 1 (bys ((b.drop 60).take 2))] (fun r => r = .v (.int .u64 (numAt b 60 2))) from ref_Num _ ((hB.drop _).take _) (by rw [List.length_take]; omega))) ?_
    refine AO.oo ?_
    refine AO.c ?_
    refine AO.nil ?_
    refine SQ.normal ?_
    refine AW.seq' ?_
    refine AW.region ?_
    refine AO.c ?_
    refine AO.o (by first | omega | (simp; omega)) ?_
    refine AO.eq 21 (av' := .rd 1 (bys ((b.drop 62).take 2))) (by show AV.rd 1 (bys ((b.take 64).drop 62)) = _; rw [List.drop_take]) ?_
    refine AO.call1 Try.func83 rfl rfl ((show A0 Try.prog 83 [.rd 1 (bys ((b.drop 62).take 2))] (fun r => r = .v (.int .u64 (numAt b 62 2))) from ref_Num _ ((hB.drop _).take _) (by rw [List.length_take]; omega))) ?_
    refine AO.oo ?_
    refine AO.c ?_
    refine AO.nil ?_
    refine SQ.normal ?_
    refine AW.seq' ?_
    refine AW.seq' ?_
    refine AW.region ?_
    refine AO.c ?_
    refine AO.c ?_
    refine AO.nil ?_
    refine SQ.normal ?_
    refine AW.iteB (GL.ev _) (fun h1 => ?_) (fun h1 => ?_)
    · skip
      rw [decide_eq_true_eq] at h1
      have hno : ¬ HdOk b := by
        rintro ⟨_, hm, _⟩
        unfold HdD.may MayHd hdOf at hm
        simp only at hm
        omega
      refine AW.seq' ?_
      refine AW.region ?_
      refine AO.c ?_
      refine AO.c ?_
      refine AO.c ?_
      refine AO.c ?_
      refine AO.nil ?_
      refine SQ.normal ?_
      refine AW.ret ?_
      refine SQ.ret ?_
      refine Fin.ret (Gh.refl) noid4 ?_
      show AV.tup _ = AV.tup _
      first | (rw [if_neg hno, decide_eq_false hno]; rfl) | (rw [if_pos hyes, decide_eq_true hyes]; rfl)
    · skip
      rw [decide_eq_false_iff_not] at h1
      have hok : (hdOf b).ok := by
        unfold HdD.ok hdOf I64
        simp only
        omega
      refine AW.skip ?_
      refine SQ.normal ?_
      refine AW.seq' ?_
      refine AW.region ?_
      refine AO.c ?_
      refine AO.oo ?_
      refine AO.c ?_
      refine AO.c ?_
      refine AO.call1 Try.func79 rfl rfl (ref_Begin (hdOf b) hok) ?_
      refine AO.c ?_
      refine AO.nil ?_
      refine SQ.normal ?_
      refine AW.seq' ?_
      refine AW.seq' ?_
      refine AW.drawsZ [] (.one 0 false (.one 1 false (.one 2 false (.one 3 false (.one 4 false (.one 5 false (.one 6 false (.one 7 false (.one 8 false (.one 9 false (.one 10 false .nil))))))))))) (by kernel_rfl) rfl (by kernel_rfl) ?_
      refine AZ.c rfl ?_
      refine AZ.c rfl ?_
      refine AZ.c rfl ?_
      refine AZ.c rfl ?_
      refine AZ.gx rfl ?_
      refine AZ.gx rfl ?_
      refine AZ.gx rfl ?_
      refine AZ.gxoo rfl ?_
      refine AZ.gx rfl ?_
      refine AZ.gx rfl ?_
      refine AZ.c rfl ?_
      refine AZ.done ?_
      refine SQ.normal ?_
      refine AW.iteB (GL.ev _) (fun h2 => ?_) (fun h2 => ?_)
      · skip
        simp only [Bool.or_eq_true, decide_eq_true_eq] at h2
        have hno : ¬ HdOk b := by
          rintro ⟨_, hm, he⟩
          rw [if_pos hm] at h2
          rcases h2 with h2 | h2
          · rw [hdB_len] at h2; omega
          · apply h2; rw [← he]; rfl
        refine AW.seq' ?_
        refine AW.region ?_
        refine AO.c ?_
        refine AO.c ?_
        refine AO.c ?_
        refine AO.c ?_
        refine AO.nil ?_
        refine SQ.normal ?_
        refine AW.ret ?_
        refine SQ.ret ?_
        refine Fin.ret (Gh.refl) noid4 ?_
        show AV.tup _ = AV.tup _
        first | (rw [if_neg hno, decide_eq_false hno]; rfl) | (rw [if_pos hyes, decide_eq_true hyes]; rfl)
      · skip
        simp only [Bool.or_eq_false_iff, decide_eq_false_iff_not, Decidable.not_not] at h2
        have hm : (hdOf b).may := by
          rcases Decidable.em (hdOf b).may with h | h
          · exact h
          · exfalso; rw [if_neg h] at h2; exact h2.1 rfl
        rw [if_pos hm] at h2
        have hyes : HdOk b := ⟨hl, hm, ((strOfNums_inj (hdB_bytes _) (hB.take 64)).1 (show (strOfNums (hdOf b).bytes).toList = (strOfNums (b.take 64)).toList from h2.2)).symm⟩
        refine AW.skip ?_
        refine SQ.normal ?_
        refine AW.seq' ?_
        refine AW.region ?_
        refine AO.c ?_
        refine AO.oo ?_
        refine AO.c ?_
        refine AO.c ?_
        refine AO.c ?_
        refine AO.c ?_
        refine AO.c ?_
        refine AO.c ?_
        refine AO.nil ?_
        refine SQ.normal ?_
        refine AW.ret ?_
        refine Fin.ret (Gh.refl) noid4 ?_
        show AV.tup _ = AV.tup _
        first | (rw [if_neg hno, decide_eq_false hno]; rfl) | (rw [if_pos hyes, decide_eq_true hyes]; rfl)

end Go.Proofs.Ytbaibjhkmajplaa.AL
