/- What functions of the program compute, each by its own contract; the conditions stand with each. -/
import Derived.Test.YtlapfdfbgckfcaaFLe2
import Derived.Test.YtlapfdfbgckfcaaFFits
namespace Go.Proofs.Ytlapfdfbgckfcaa.AL
open Go Go.RowKit Go.Proofs.Ytlapfdfbgckfcaa.Base
set_option linter.unusedVariables false
set_option linter.unusedSimpArgs false
set_option maxRecDepth 4000
set_option synthInstance.maxSize 1000
set_option synthInstance.maxHeartbeats 200000

structure EntD where
  name : Int
  bind : Int
  typ : Int
  idx : Int
  val : Int
  size : Int
  deriving Inhabited, DecidableEq
@[reducible] def entA (e : EntD) : List AV := [.v (.int .i64 e.name), .v (.int .i64 e.bind), .v (.int .i64 e.typ), .v (.int .i64 e.idx), .v (.int .i64 e.val), .v (.int .i64 e.size)]
def EntD.ok (e : EntD) : Prop := I64 e.name ∧ I64 e.bind ∧ I64 e.typ ∧ I64 e.idx ∧ I64 e.val ∧ I64 e.size
def withinB (n most : Int) : Bool := decide (n ≥ 0) && decide (n ≤ most)
def mayE (e : EntD) : Bool := (withinB e.name 2147483647 && withinB e.val 2147483647 && withinB e.size 2147483647) && withinB e.bind 2 && withinB e.typ 3 && withinB e.idx 65535
def mayR (e : EntD) : Bool := fitsB e.name && fitsB e.val && fitsB e.size && decide (e.bind ≥ 0) && decide (e.bind ≤ 2) && decide (e.typ ≥ 0) && decide (e.typ ≤ 3) && decide (e.idx ≥ 0) && decide (e.idx ≤ 65535)
def MayE (e : EntD) : Prop := (0 ≤ e.name ∧ e.name ≤ 2147483647) ∧ (0 ≤ e.bind ∧ e.bind ≤ 2) ∧ (0 ≤ e.typ ∧ e.typ ≤ 3) ∧ (0 ≤ e.idx ∧ e.idx ≤ 65535) ∧ (0 ≤ e.val ∧ e.val ≤ 2147483647) ∧ 0 ≤ e.size ∧ e.size ≤ 2147483647
instance (e : EntD) : Decidable (MayE e) := by unfold MayE; infer_instance
theorem mayE_eq (e : EntD) : mayE e = decide (MayE e) := by
  rw [Bool.eq_iff_iff, decide_eq_true_eq]
  unfold mayE MayE withinB
  simp only [Bool.and_eq_true, decide_eq_true_eq]
  omega
theorem mayR_eq (e : EntD) : mayR e = decide (MayE e) := by
  rw [Bool.eq_iff_iff, decide_eq_true_eq]
  unfold mayR MayE fitsB
  simp only [Bool.and_eq_true, decide_eq_true_eq]
  omega
def zeroEnt : EntD := ⟨0, 0, 0, 0, 0, 0⟩
def entOf (b : List Int) (a : Int) : EntD := ⟨numAt b a 4, b.getD (a + 4).toNat 0 / 16, b.getD (a + 4).toNat 0 % 16, numAt b (a + 6) 2, numAt b (a + 8) 8, numAt b (a + 16) 8⟩
def SymOk (b : List Int) (a : Int) : Prop := 0 ≤ a ∧ a + 24 ≤ b.length ∧ b.getD (a + 5).toNat 0 = 0 ∧ MayE (entOf b a)
instance (b : List Int) (a : Int) : Decidable (SymOk b a) := by unfold SymOk; infer_instance
def entB (e : EntD) : List Int := dig e.name 4 ++ [16 * e.bind + e.typ, 0] ++ dig e.idx 2 ++ dig e.val 8 ++ dig e.size 8
/-- The document's numbers: too large ones are -1. -/
def capN (n : Int) : Int := if n > 2147483647 then -1 else n
def numE (b : List Int) (a : Int) : EntD := ⟨capN (numAt b a 4), b.getD (a + 4).toNat 0 / 16, b.getD (a + 4).toNat 0 % 16, capN (numAt b (a + 6) 2), capN (numAt b (a + 8) 8), capN (numAt b (a + 16) 8)⟩
theorem capN_fit {n : Int} (h : 0 ≤ n) (m : Int) (hm : m ≤ 2147483647) : (0 ≤ capN n ∧ capN n ≤ m) ↔ (0 ≤ n ∧ n ≤ m) := by unfold capN; split <;> omega
theorem numE_may {b : List Int} {a : Int} (h1 : 0 ≤ numAt b a 4) (h2 : 0 ≤ numAt b (a + 6) 2) (h3 : 0 ≤ numAt b (a + 8) 8) (h4 : 0 ≤ numAt b (a + 16) 8) : MayE (numE b a) ↔ MayE (entOf b a) := by
  unfold MayE numE entOf
  simp only
  rw [capN_fit h1 _ (by omega), capN_fit h2 _ (by omega), capN_fit h3 _ (by omega), capN_fit h4 _ (by omega)]
theorem numE_same {b : List Int} {a : Int} (h : MayE (entOf b a)) : numE b a = entOf b a := by
  unfold MayE entOf at h
  simp only at h
  unfold numE entOf capN
  rw [if_neg (by omega), if_neg (by omega), if_neg (by omega), if_neg (by omega)]
theorem capN_64 (n : Int) (h : 0 ≤ n) : I64 (capN n) := by unfold capN I64; split <;> omega
theorem numE_ok {b : List Int} (hB : Bytes b) (a : Int) : (numE b a).ok := by
  have rb := bytes_getD hB (a + 4).toNat
  refine ⟨capN_64 _ (numAt_range hB _ _).1, ?_, ?_, capN_64 _ (numAt_range hB _ _).1, capN_64 _ (numAt_range hB _ _).1, capN_64 _ (numAt_range hB _ _).1⟩
  · show I64 (_ / 16); unfold I64; omega
  · show I64 (_ % 16); unfold I64; omega
theorem dig_one (x : Int) (h0 : 0 ≤ x) (h1 : x < 256) : dig x 1 = [x] := by
  show [x % 256] = [x]
  rw [Int.emod_eq_of_lt h0 h1]
theorem wu64n {x : Int} (h0 : 0 ≤ x) (h1 : x ≤ 2147483647) : IntKind.u64.wrap x = x := wu64 h0 (by omega)
theorem nums_ent {e : EntD} (h : MayE e) : numsF [e.name, 4, 16 * e.bind + e.typ, 1, 0, 1, e.idx, 2, e.val, 8, e.size, 8] = entB e := by
  unfold MayE at h
  simp only [numsF, List.append_nil]
  rw [if_pos (by decide), if_pos (by decide), if_pos (by decide), if_pos (by decide), if_pos (by decide), if_pos (by decide), wu64n (by omega) (by omega), wu64n (by omega) (by omega), wu64n (by omega) (by omega), wu64n (by omega) (by omega), wu64n (by omega) (by omega), wu64n (by omega) (by omega)]
  show dig e.name 4 ++ (dig (16 * e.bind + e.typ) 1 ++ (dig 0 1 ++ (dig e.idx 2 ++ (dig e.val 8 ++ dig e.size 8)))) = entB e
  rw [dig_one _ (by omega) (by omega)]
  unfold entB
  simp [dig]
theorem entB_len (e : EntD) : (entB e).length = 24 := by unfold entB; simp [dig_length]
theorem ent_nums64 {e : EntD} (h : e.ok) (h1 : 0 ≤ e.bind ∧ e.bind ≤ 2) (h2 : 0 ≤ e.typ ∧ e.typ ≤ 3) : ∀ x ∈ [e.name, 4, 16 * e.bind + e.typ, 1, 0, 1, e.idx, 2, e.val, 8, e.size, 8], I64 x := by
  obtain ⟨q1, q2, q3, q4, q5, q6⟩ := h
  intro x hx
  simp only [List.mem_cons, List.not_mem_nil, or_false] at hx
  rcases hx with rfl | rfl | rfl | rfl | rfl | rfl | rfl | rfl | rfl | rfl | rfl | rfl <;> first | assumption | decide | (unfold I64; omega)
theorem hasB_in {b : List Int} {a : Int} (h0 : 0 ≤ a) (h1 : a + 24 ≤ b.length) (o n : Int) (ho : 0 ≤ o) (hon : o + n ≤ 24) (hw : Wide n) : HasB b (a + o) n := ⟨hw, by omega, by omega⟩

theorem sym_within (n most : Int) : A0 Try.prog 164 [.v (.int .i64 (n)), .v (.int .i64 (most))] (fun ret => ret = .v (.bool (withinB n most))) := by
  refine A0.body 12 Try.func164 rfl rfl Try.ntmps164 fun base n0 => ?_
  refine AW.seq' ?_
  refine AW.region ?_
  refine AO.c ?_
  refine AO.nil ?_
  refine SQ.normal ?_
  refine AW.seq' ?_
  refine AW.region ?_
  refine AO.c ?_
  refine AO.c ?_
  refine AO.c ?_
  refine AO.gx ?_
  refine AO.gx ?_
  refine AO.gx ?_
  refine AO.c ?_
  refine AO.c ?_
  refine AO.nil ?_
  refine SQ.normal ?_
  refine AW.ret ?_
  refine Fin.ret (Gh.refl) noid1 ?_
  rfl
theorem sym_may (e : EntD) : A0 Try.prog 142 [.agg (entA e)] (fun ret => ret = .v (.bool (mayE e))) := by
  refine A0.body 33 Try.func142 rfl rfl Try.ntmps142 fun base n0 => ?_
  refine AW.seq' ?_
  refine AW.region ?_
  refine AO.ww ?_
  refine AO.c ?_
  refine AO.nil ?_
  refine SQ.normal ?_
  refine AW.seq' ?_
  refine AW.region ?_
  refine AO.c ?_
  refine AO.c ?_
  refine AO.call1 Try.func164 rfl rfl (sym_within _ _) ?_
  refine AO.c ?_
  refine AO.gx ?_
  refine AO.gx ?_
  refine AO.gxcall1 Try.func164 rfl rfl (fun hgd => sym_within _ _) ?_
  refine AO.c ?_
  refine AO.c ?_
  refine AO.gx ?_
  refine AO.gx ?_
  refine AO.gxcall1 Try.func164 rfl rfl (fun hgd => sym_within _ _) ?_
  refine AO.c ?_
  refine AO.c ?_
  refine AO.nil ?_
  refine SQ.normal ?_
  refine AW.seq' ?_
  refine AW.region ?_
  refine AO.c ?_
  refine AO.c ?_
  refine AO.gx ?_
  refine AO.gx ?_
  refine AO.gxcall1 Try.func164 rfl rfl (fun hgd => sym_within _ _) ?_
  refine AO.c ?_
  refine AO.c ?_
  refine AO.gx ?_
  refine AO.gx ?_
  refine AO.gxcall1 Try.func164 rfl rfl (fun hgd => sym_within _ _) ?_
  refine AO.c ?_
  refine AO.c ?_
  refine AO.gx ?_
  refine AO.gx ?_
  refine AO.gxcall1 Try.func164 rfl rfl (fun hgd => sym_within _ _) ?_
  refine AO.c ?_
  refine AO.c ?_
  refine AO.nil ?_
  refine SQ.normal ?_
  refine AW.ret ?_
  refine Fin.ret (Gh.refl) noid1 ?_
  rfl
theorem ref_MayEntry (e : EntD) (h : e.ok) : A0 Try.prog 140 [.agg (entA e)] (fun ret => ret = .v (.bool (mayR e))) := by
  obtain ⟨q1, q2, q3, q4, q5, q6⟩ := h
  refine A0.body 52 Try.func140 rfl rfl Try.ntmps140 fun base n0 => ?_
  refine AW.seq' ?_
  refine AW.region ?_
  refine AO.ww ?_
  refine AO.c ?_
  refine AO.nil ?_
  refine SQ.normal ?_
  refine AW.seq' ?_
  refine AW.region ?_
  refine AO.c ?_
  refine AO.c ?_
  refine AO.call1 Try.func90 rfl rfl (ref_fits _ (by assumption)) ?_
  refine AO.c ?_
  refine AO.nil ?_
  refine SQ.normal ?_
  refine AW.seq' ?_
  refine AW.region ?_
  refine AO.c ?_
  refine AO.c ?_
  refine AO.call1 Try.func90 rfl rfl (ref_fits _ (by assumption)) ?_
  refine AO.c ?_
  refine AO.nil ?_
  refine SQ.normal ?_
  refine AW.seq' ?_
  refine AW.region ?_
  refine AO.c ?_
  refine AO.c ?_
  refine AO.call1 Try.func90 rfl rfl (ref_fits _ (by assumption)) ?_
  refine AO.c ?_
  refine AO.nil ?_
  refine SQ.normal ?_
  refine AW.seq' ?_
  refine AW.region ?_
  refine AO.c ?_
  refine AO.c ?_
  refine AO.gx ?_
  refine AO.c ?_
  refine AO.c ?_
  refine AO.gx ?_
  refine AO.c ?_
  refine AO.c ?_
  refine AO.gx ?_
  refine AO.gx ?_
  refine AO.gx ?_
  refine AO.c ?_
  refine AO.c ?_
  refine AO.gx ?_
  refine AO.gx ?_
  refine AO.gx ?_
  refine AO.c ?_
  refine AO.c ?_
  refine AO.gx ?_
  refine AO.gx ?_
  refine AO.gx ?_
  refine AO.c ?_
  refine AO.c ?_
  refine AO.gx ?_
  refine AO.gx ?_
  refine AO.gx ?_
  refine AO.c ?_
  refine AO.c ?_
  refine AO.gx ?_
  refine AO.gx ?_
  refine AO.gx ?_
  refine AO.c ?_
  refine AO.c ?_
  refine AO.gx ?_
  refine AO.gx ?_
  refine AO.gx ?_
  refine AO.c ?_
  refine AO.c ?_
  refine AO.nil ?_
  refine SQ.normal ?_
  refine AW.ret ?_
  refine Fin.ret (Gh.refl) noid1 ?_
  rfl
theorem sym_Get (b : List Int) (a : Int) (hB : Bytes b) (hb : b.length ≤ 1000000000000) (ha : I64 a) : A0 Try.prog 98 [.rd 1 (bys b), .v (.int .i64 (a))] (fun ret => ret = .tup [.agg (entA (if SymOk b a then entOf b a else zeroEnt)), .v (.bool (decide (SymOk b a)))]) := by
  have ha0 := ha
  unfold I64 at ha
  refine A0.body 95 Try.func98 rfl rfl Try.ntmps98 fun base n0 => ?_
  refine AW.seq' ?_
  refine AW.region ?_
  refine AO.ww ?_
  refine AO.c ?_
  refine AO.nil ?_
  refine SQ.normal ?_
  refine AW.seq' ?_
  refine AW.seq' ?_
  refine AW.region ?_
  refine AO.c ?_
  refine AO.c ?_
  refine AO.c ?_
  refine AO.gx ?_
  refine AO.gx ?_
  refine AO.gx ?_
  refine AO.gxoo ?_
  refine AO.gx ?_
  refine AO.c ?_
  refine AO.nil ?_
  refine SQ.normal ?_
  refine AW.iteB (GL.ev _) (fun h0 => ?_) (fun h0 => ?_)
  · skip
    simp only [Bool.or_eq_true, decide_eq_true_eq] at h0
    have hno : ¬ SymOk b a := fun h => by unfold SymOk at h; omega
    refine AW.seq' ?_
    refine AW.region ?_
    refine AO.c ?_
    refine AO.sst ?_
    refine AO.c ?_
    refine AO.nil ?_
    refine SQ.normal ?_
    refine AW.ret ?_
    refine SQ.ret ?_
    refine Fin.ret (Gh.refl) noid2 ?_
    show AV.tup _ = AV.tup _
    first | (rw [if_neg hno, decide_eq_false hno]; rfl) | (rw [if_pos hyes, decide_eq_true hyes]; rfl)
  · skip
    simp only [Bool.or_eq_false_iff, decide_eq_false_iff_not] at h0
    have ha1 : 0 ≤ a := by omega
    have ha2 : a + 24 ≤ b.length := by omega
    have k0 := hasB_in ha1 ha2 0 4 (by omega) (by omega) (by decide)
    rw [Int.add_zero] at k0
    have k6 := hasB_in ha1 ha2 6 2 (by omega) (by omega) (by decide)
    have k8 := hasB_in ha1 ha2 8 8 (by omega) (by omega) (by decide)
    have k16 := hasB_in ha1 ha2 16 8 (by omega) (by omega) (by decide)
    have r0 := numAt_range hB a 4
    have r6 := numAt_range hB (a + 6) 2
    have r8 := numAt_range hB (a + 8) 8
    have r16 := numAt_range hB (a + 16) 8
    have rb := bytes_getD hB (a + 4).toNat
    simp only [show (4 : Int).toNat = 4 from rfl, show (2 : Int).toNat = 2 from rfl, show (8 : Int).toNat = 8 from rfl] at r0 r6 r8 r16
    refine AW.skip ?_
    refine SQ.normal ?_
    refine AW.seq' ?_
    refine AW.region ?_
    refine AO.c ?_
    refine AO.c ?_
    refine AO.call1 Try.func33 rfl rfl (le_GetT b a 4 hB (by omega) k0) ?_
    refine AO.c ?_
    refine AO.c ?_
    refine AO.c ?_
    refine AO.c ?_
    refine AO.c ?_
    refine AO.nil ?_
    refine SQ.normal ?_
    refine AW.seq' ?_
    refine AW.region ?_
    refine AO.c ?_
    refine AO.c ?_
    refine AO.oo ?_
    refine AO.call1 Try.func33 rfl rfl (le_GetT b (a + 6) 2 hB (by omega) k6) ?_
    refine AO.c ?_
    refine AO.c ?_
    refine AO.c ?_
    refine AO.c ?_
    refine AO.c ?_
    refine AO.nil ?_
    refine SQ.normal ?_
    refine AW.seq' ?_
    refine AW.region ?_
    refine AO.c ?_
    refine AO.c ?_
    refine AO.oo ?_
    refine AO.call1 Try.func33 rfl rfl (le_GetT b (a + 8) 8 hB (by omega) k8) ?_
    refine AO.c ?_
    refine AO.c ?_
    refine AO.c ?_
    refine AO.c ?_
    refine AO.c ?_
    refine AO.nil ?_
    refine SQ.normal ?_
    refine AW.seq' ?_
    refine AW.region ?_
    refine AO.c ?_
    refine AO.c ?_
    refine AO.oo ?_
    refine AO.call1 Try.func33 rfl rfl (le_GetT b (a + 16) 8 hB (by omega) k16) ?_
    refine AO.c ?_
    refine AO.c ?_
    refine AO.c ?_
    refine AO.c ?_
    refine AO.c ?_
    refine AO.nil ?_
    refine SQ.normal ?_
    refine AW.seq' ?_
    refine AW.seq' ?_
    refine AW.region ?_
    refine AO.c ?_
    refine AO.c ?_
    refine AO.oo ?_
    refine AO.oo ?_
    refine AO.c ?_
    refine AO.c ?_
    refine AO.c ?_
    refine AO.gx ?_
    refine AO.gx ?_
    refine AO.c ?_
    refine AO.c ?_
    refine AO.gx ?_
    refine AO.gx ?_
    refine AO.c ?_
    refine AO.nil ?_
    refine SQ.normal ?_
    refine AW.iteB (GL.ev _) (fun h1 => ?_) (fun h1 => ?_)
    · skip
      simp only [Bool.or_eq_true, decide_eq_true_eq] at h1
      have hno : ¬ SymOk b a := fun h => by
        obtain ⟨_, _, g1, _, _, _, _, g2, g3⟩ := h
        simp only [entOf] at g2 g3
        omega
      refine AW.seq' ?_
      refine AW.region ?_
      refine AO.c ?_
      refine AO.sst ?_
      refine AO.c ?_
      refine AO.nil ?_
      refine SQ.normal ?_
      refine AW.ret ?_
      refine SQ.ret ?_
      refine Fin.ret (Gh.refl) noid2 ?_
      show AV.tup _ = AV.tup _
      first | (rw [if_neg hno, decide_eq_false hno]; rfl) | (rw [if_pos hyes, decide_eq_true hyes]; rfl)
    · skip
      simp only [Bool.or_eq_false_iff, decide_eq_false_iff_not] at h1
      have hz5 : b.getD (a + 5).toNat 0 = 0 := by omega
      refine AW.skip ?_
      refine SQ.normal ?_
      refine AW.seq' ?_
      refine AW.drawsZ [24] (.one 0 false (.one 1 false (.one 2 false (.one 3 false (.one 4 false (.one 5 false (.one 6 false (.one 7 false (.one 8 false (.one 9 false (.one 10 false (.one 11 false (.one 12 false (.one 13 false (.one 14 false (.one 15 false (.one 16 false (.one 17 false (.one 18 false (.one 19 false (.one 20 false (.one 21 false (.one 22 false (.one 23 true (.one 24 true .nil))))))))))))))))))))))))) (by kernel_rfl) rfl (by kernel_rfl) ?_
      refine AZ.c rfl ?_
      refine AZ.oo rfl ?_
      refine AZ.c rfl ?_
      refine AZ.c rfl ?_
      refine AZ.oo rfl ?_
      refine AZ.oo rfl ?_
      refine AZ.c rfl ?_
      refine AZ.o rfl (by omega) ?_
      refine AZ.oo rfl ?_
      refine AZ.c rfl ?_
      refine AZ.c rfl ?_
      refine AZ.oo rfl ?_
      refine AZ.oo rfl ?_
      refine AZ.c rfl ?_
      refine AZ.oo rfl ?_
      refine AZ.oo rfl ?_
      refine AZ.c rfl ?_
      refine AZ.oo rfl ?_
      refine AZ.c rfl ?_
      refine AZ.oo rfl ?_
      refine AZ.c rfl ?_
      refine AZ.oo rfl ?_
      refine AZ.c rfl ?_
      refine AZ.mkk rfl ?_
      refine AZ.sst rfl rfl ?_
      refine AZ.done ?_
      refine SQ.normal ?_
      refine AW.seq' ?_
      refine AW.seq' ?_
      refine AW.region ?_
      refine AO.c ?_
      refine AO.call1 Try.func142 rfl rfl (sym_may (entOf b a)) ?_
      refine AO.c ?_
      refine AO.nil ?_
      refine SQ.normal ?_
      refine AW.iteB (GL.ev _) (fun h2 => ?_) (fun h2 => ?_)
      · skip
        rw [mayE_eq, Bool.not_eq_true', decide_eq_false_iff_not] at h2
        have hno : ¬ SymOk b a := fun h => h2 h.2.2.2
        refine AW.seq' ?_
        refine AW.region ?_
        refine AO.c ?_
        refine AO.sst ?_
        refine AO.c ?_
        refine AO.nil ?_
        refine SQ.normal ?_
        refine AW.ret ?_
        refine SQ.ret ?_
        refine Fin.ret (Gh.refl) noid2 ?_
        show AV.tup _ = AV.tup _
        first | (rw [if_neg hno, decide_eq_false hno]; rfl) | (rw [if_pos hyes, decide_eq_true hyes]; rfl)
      · skip
        rw [mayE_eq, Bool.not_eq_false', decide_eq_true_eq] at h2
        have hyes : SymOk b a := ⟨ha1, ha2, hz5, h2⟩
        refine AW.skip ?_
        refine SQ.normal ?_
        refine AW.seq' ?_
        refine AW.region ?_
        refine AO.c ?_
        refine AO.sst ?_
        refine AO.c ?_
        refine AO.nil ?_
        refine SQ.normal ?_
        refine AW.ret ?_
        refine Fin.ret (Gh.refl) noid2 ?_
        show AV.tup _ = AV.tup _
        first | (rw [if_neg hno, decide_eq_false hno]; rfl) | (rw [if_pos hyes, decide_eq_true hyes]; rfl)
theorem sym_Put (e : EntD) (he : e.ok) : A0 Try.prog 158 [.agg (entA e)] (fun ret => ret = .rd 1 (bys (if MayE e then entB e else []))) := by
  refine A0.body 38 Try.func158 rfl rfl Try.ntmps158 fun base n0 => ?_
  refine AW.seq' ?_
  refine AW.region ?_
  refine AO.ww ?_
  refine AO.c ?_
  refine AO.nil ?_
  refine SQ.normal ?_
  refine AW.seq' ?_
  refine AW.seq' ?_
  refine AW.region ?_
  refine AO.c ?_
  refine AO.call1 Try.func142 rfl rfl (sym_may _) ?_
  refine AO.c ?_
  refine AO.nil ?_
  refine SQ.normal ?_
  refine AW.iteB (GL.ev _) (fun h0 => ?_) (fun h0 => ?_)
  · skip
    rw [mayE_eq, Bool.not_eq_true', decide_eq_false_iff_not] at h0
    refine AW.seq' ?_
    refine AW.region ?_
    refine AO.c ?_
    refine AO.nil ?_
    refine SQ.normal ?_
    refine AW.ret ?_
    refine SQ.ret ?_
    refine Fin.ret (Gh.nilB 2) noid1 ?_
    rw [if_neg h0]; rfl
  · skip
    rw [mayE_eq, Bool.not_eq_false', decide_eq_true_eq] at h0
    have hm := h0
    unfold MayE at hm
    have l2 : (if Wide 2 then dig e.idx 2 else []).length ≤ 8 := put8_len e.idx 2
    have l8 : (if Wide 8 then dig e.val 8 else []).length ≤ 8 := put8_len e.val 8
    have l9 : (if Wide 8 then dig e.size 8 else []).length ≤ 8 := put8_len e.size 8
    refine AW.skip ?_
    refine SQ.normal ?_
    refine AW.seq' ?_
    apply AW.mid
    case h =>
      refine AW.drawsZ [12] (.one 0 false (.one 1 false (.one 2 false (.one 4 false (.one 5 false (.one 6 false (.one 7 false (.one 8 false (.one 9 false (.one 10 false (.two 3 11 (.one 11 true (.one 12 true (.one 13 false .nil))) (.one 3 true (.one 12 true (.one 13 false .nil)))))))))))))) (by kernel_rfl) rfl (by kernel_rfl) ?_
      refine AZ.c rfl ?_
      refine AZ.c rfl ?_
      refine AZ.oo rfl ?_
      refine AZ.c rfl ?_
      refine AZ.c rfl ?_
      refine AZ.oo rfl ?_
      refine AZ.c rfl ?_
      refine AZ.c rfl ?_
      refine AZ.oo rfl ?_
      refine AZ.oo rfl ?_
      refine AZ.two ?_ ?_
      · refine AZi.callR rfl Try.func39 rfl rfl (le_PutR e.name 4 (by omega) (by omega)) (by rw [bys_length, if_pos (by decide), dig_length]) ?_
        refine AZ.rr rfl ?_
        refine AZ.ww rfl rfl ?_
        refine AZ.c rfl ?_
        exact AZ.done ⟨rfl, rfl⟩
      · refine AZi.rr rfl ?_
        refine AZ.callR rfl Try.func39 rfl rfl (le_PutR e.name 4 (by omega) (by omega)) (by rw [bys_length, if_pos (by decide), dig_length]) ?_
        refine AZ.ww rfl rfl ?_
        refine AZ.c rfl ?_
        exact AZ.done ⟨rfl, rfl⟩
    refine SQ.normal ?_
    refine AW.seq' ?_
    refine AW.region ?_
    refine AO.c ?_
    refine AO.c ?_
    refine AO.c ?_
    refine AO.oo ?_
    refine AO.call1 Try.func39 rfl rfl ((le_PutR _ 2 (by omega) (by omega)).a0 (by rw [bys_length]; exact Nat.le_trans (put8_len _ _) (by decide))) ?_
    refine AO.ww ?_
    refine AO.c ?_
    refine AO.nil ?_
    refine SQ.normal ?_
    refine AW.seq' ?_
    refine AW.region ?_
    refine AO.c ?_
    refine AO.c ?_
    refine AO.c ?_
    refine AO.oo ?_
    refine AO.call1 Try.func39 rfl rfl ((le_PutR _ 8 (by omega) (by omega)).a0 (by rw [bys_length]; exact Nat.le_trans (put8_len _ _) (by decide))) ?_
    refine AO.ww ?_
    refine AO.c ?_
    refine AO.nil ?_
    refine SQ.normal ?_
    refine AW.seq' ?_
    refine AW.region ?_
    refine AO.c ?_
    refine AO.c ?_
    refine AO.c ?_
    refine AO.oo ?_
    refine AO.call1 Try.func39 rfl rfl ((le_PutR _ 8 (by omega) (by omega)).a0 (by rw [bys_length]; exact Nat.le_trans (put8_len _ _) (by decide))) ?_
    refine AO.ww ?_
    refine AO.c ?_
    refine AO.nil ?_
    refine SQ.normal ?_
    refine AW.ret ?_
    refine Fin.ret (Gh.freezeE 2 (li' := entB e) ?_ ?_ ?_) noid1 ?_
    · rw [if_pos (show Wide 4 by decide), if_pos (show Wide 2 by decide), if_pos (show Wide 8 by decide), if_pos (show Wide 8 by decide)]; rfl
    · rw [entB_len, if_pos (show Wide 2 by decide), if_pos (show Wide 8 by decide), if_pos (show Wide 8 by decide), dig_length, dig_length, dig_length]; rfl
    · rw [entB_len]; decide
    · rw [if_pos h0]; rfl
theorem ref_EntryBytes (e : EntD) (he : e.ok) : A0 Try.prog 88 [.agg (entA e)] (fun ret => ret = .rd 1 (bys (if MayE e then entB e else []))) := by
  have he0 := he
  refine A0.body 24 Try.func88 rfl rfl Try.ntmps88 fun base n0 => ?_
  refine AW.seq' ?_
  refine AW.region ?_
  refine AO.ww ?_
  refine AO.c ?_
  refine AO.nil ?_
  refine SQ.normal ?_
  refine AW.seq' ?_
  refine AW.region ?_
  refine AO.c ?_
  refine AO.call1 Try.func140 rfl rfl (ref_MayEntry _ (by assumption)) ?_
  refine AO.c ?_
  refine AO.nil ?_
  refine SQ.normal ?_
  refine AW.seq' ?_
  refine AW.seq' ?_
  refine AW.region ?_
  refine AO.c ?_
  refine AO.c ?_
  refine AO.nil ?_
  refine SQ.normal ?_
  refine AW.iteB (GL.ev _) (fun h0 => ?_) (fun h0 => ?_)
  · skip
    rw [mayR_eq, Bool.not_eq_true', decide_eq_false_iff_not] at h0
    refine AW.seq' ?_
    refine AW.region ?_
    refine AO.c ?_
    refine AO.nil ?_
    refine SQ.normal ?_
    refine AW.ret ?_
    refine SQ.ret ?_
    refine Fin.ret (Gh.nilB 2) noid1 ?_
    rw [if_neg h0]; rfl
  · skip
    rw [mayR_eq, Bool.not_eq_false', decide_eq_true_eq] at h0
    have hm := h0
    unfold MayE at hm
    have hnu := nums_ent h0
    have h64 := ent_nums64 he0 hm.2.1 hm.2.2.1
    refine AW.skip ?_
    refine SQ.normal ?_
    refine AW.seq' ?_
    refine AW.region ?_
    refine AO.c ?_
    refine AO.c ?_
    refine AO.c ?_
    refine AO.c ?_
    refine AO.oo ?_
    refine AO.c ?_
    refine AO.c ?_
    refine AO.oo ?_
    refine AO.c ?_
    refine AO.c ?_
    refine AO.c ?_
    refine AO.c ?_
    refine AO.c ?_
    refine AO.c ?_
    refine AO.rr ?_
    refine AO.eq 22 (av' := .rd 1 (([e.name, 4, 16 * e.bind + e.typ, 1, 0, 1, e.idx, 2, e.val, 8, e.size, 8] : List Int).map iA)) rfl ?_
    refine AO.call1 Try.func65 rfl rfl (ref_Nums _ (by simp) h64) ?_
    refine AO.c ?_
    refine AO.nil ?_
    refine SQ.normal ?_
    refine AW.ret ?_
    refine Fin.ret (Gh.refl) noid1 ?_
    rw [if_pos h0, ← hnu]; rfl

end Go.Proofs.Ytlapfdfbgckfcaa.AL
