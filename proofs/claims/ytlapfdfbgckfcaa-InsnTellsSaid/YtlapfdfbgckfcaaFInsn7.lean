/- What functions of the program compute, each by its own contract; the conditions stand with each. -/
import Derived.Test.YtlapfdfbgckfcaaFInsn6
namespace Go.Proofs.Ytlapfdfbgckfcaa.AL
open Go Go.RowKit Go.Proofs.Ytlapfdfbgckfcaa.Base
set_option linter.unusedVariables false
set_option linter.unusedSimpArgs false
set_option maxRecDepth 4000
set_option synthInstance.maxSize 1000
set_option synthInstance.maxHeartbeats 200000

theorem wrap_byte (a b c : Int) : IntKind.u8.wrap (IntKind.i64.wrap (IntKind.i64.wrap (a + IntKind.i64.wrap (8 * b)) + c)) = (a + 8 * b + c) % 256 := by
  have h8 : ∀ x : Int, IntKind.u8.wrap x = x % 256 := fun x => by simp [IntKind.wrap, IntKind.bits, IntKind.signed]
  rw [wi64_eq, wi64_eq, wi64_eq, h8]
  unfold wrap64
  omega
@[reducible] def eqI (a b : InsD) : Bool := decide (a.op = b.op) && (decide (a.r = b.r) && (decide (a.m = b.m) && (decide (a.len = b.len) && (decide (a.field = b.field) && (decide (a.width = b.width) && (decide (a.imm = b.imm) && true))))))
theorem eqI_iff {a b : InsD} : eqI a b = decide (a = b) := by
  rw [Bool.eq_iff_iff]
  cases a; cases b
  simp [eqI]
theorem eq_dec {o : Option InsD} {x : InsD} : (o.isSome && eqI x (o.getD noIns)) = decide (o = some x) := by
  cases o with
  | none => rfl
  | some z =>
    rw [eqI_iff, Bool.eq_iff_iff]
    simp [eq_comm]
theorem wide_084 {w : Int} (hw : w = 0 ∨ w = 4 ∨ w = 8) : Wide w ↔ w = 4 ∨ w = 8 := by unfold Wide; omega
theorem bld_p {f : FormD} {x : InsD} (hf : FormOk f) (h : 0 ≤ f.low) : ([] ++ f.head ++ [IntKind.u8.wrap (IntKind.i64.wrap (IntKind.i64.wrap (f.low + IntKind.i64.wrap (8 * x.r)) + x.m))] ++ (if Wide f.width then dig (IntKind.u64.wrap x.imm) f.width.toNat else [])) = bldF f x := by
  have hw := wide_084 hf.2.2.2.2
  unfold bldF
  rw [if_pos h, wrap_byte, wu64_mod]
  simp only [hw, List.nil_append]
theorem bld_n {f : FormD} {x : InsD} (hf : FormOk f) (h : ¬ f.low ≥ 0) : ([] ++ f.head ++ (if Wide f.width then dig (IntKind.u64.wrap x.imm) f.width.toNat else [])) = bldF f x := by
  have hw := wide_084 hf.2.2.2.2
  unfold bldF
  rw [if_neg h, wu64_mod]
  simp only [hw, List.nil_append, List.append_nil]

set_option maxHeartbeats 1000000 in
theorem insn_Encode (x : InsD) : A0 Try.prog 16 [.agg (insA x)] (fun ret => ret = .rd 1 (bys (encP x))) := by
  have hf20 : formsL.length = 20 := rfl
  refine A0.body 60 Try.func16 rfl rfl Try.ntmps16 fun base n0 => ?_
  refine AW.seq' ?_
  refine AW.region ?_
  refine AO.ww ?_
  refine AO.c ?_
  refine AO.nil ?_
  refine SQ.normal ?_
  refine AW.seq' ?_
  refine AW.seq' ?_
  refine AW.region ?_
  refine AO.call1 Try.func35 rfl rfl (insn_forms) ?_
  refine AO.c ?_
  refine AO.c ?_
  refine AO.nil ?_
  refine SQ.normal ?_
  refine AW.block' ?_
  refine AW.loopU2 [.f, .k, .f, .f, .f, .f, .f, .f, .k, .k, .k, .F, .F, .F, .F, .F, .F, .f] (fun (i j : Nat) => [(10, .v (.int .i64 (i)))]) (fun i j => Hn n0 (([some (.box 36 (insA x))] ++ List.replicate j none) ++ [])) (fun m i j => i ≤ 20 ∧ m = 20 - i ∧ encP x = ((formsL.drop i).findSome? (fun f => if f.op = x.op ∧ decR (bldF f x) = some x then some (bldF f x) else none)).getD []) (20) (0) (0) ⟨by omega, by omega, rfl⟩ (by first | rfl | (simp; done)) (by first | rfl | (simp; done)) ?_
  rintro m0 i j ⟨hx1, hx2, hx3⟩
  refine AW.seq' ?_
  refine AW.region ?_
  refine AO.c ?_
  refine AO.nil ?_
  refine SQ.normal ?_
  refine AW.seq' ?_
  refine AW.iteB (GL.ev _) (fun h0 => ?_) (fun h0 => ?_)
  · skip
    rw [decide_eq_true_eq] at h0
    have hi : i < 20 := by omega
    have hfa := form_at hi
    have hst := find_step hi (g := (fun f => if f.op = x.op ∧ decR (bldF f x) = some x then some (bldF f x) else none))
    generalize hfe : formsL.getD i default = f at hfa hst
    obtain ⟨g1, g2, g3, g4, g5⟩ := hfa.2
    have hu : 0 ≤ IntKind.u64.wrap x.imm ∧ IntKind.u64.wrap x.imm ≤ 18446744073709551615 := by rw [wu64_mod]; omega
    have hw : -9223372036854775808 ≤ f.width ∧ f.width ≤ 9223372036854775807 := by omega
    have hpl := put8_len (IntKind.u64.wrap x.imm) f.width
    have hBy := bld_bytes hfa.1 x
    have hbl := bld_len hfa.1 x
    refine AW.skip ?_
    refine SQ.normal ?_
    refine AW.seq' ?_
    refine AW.block' ?_
    refine AW.seq' ?_
    refine AW.region ?_
    refine AO.oo ?_
    refine AO.c ?_
    refine AO.eq 13 (av' := .agg (formA f)) (by rw [hfe]) ?_
    refine AO.ww ?_
    refine AO.sst ?_
    refine AO.nil ?_
    refine SQ.normal ?_
    refine AW.seq' ?_
    refine AW.seq' ?_
    refine AW.region ?_
    refine AO.c ?_
    refine AO.c ?_
    refine AO.c ?_
    refine AO.c ?_
    refine AO.c ?_
    refine AO.nil ?_
    refine SQ.normal ?_
    refine AW.iteB (GL.ev _) (fun h1 => ?_) (fun h1 => ?_)
    · skip
      rw [decide_eq_true_eq] at h1
      have e : encP x = ((formsL.drop (i + 1)).findSome? (fun f => if f.op = x.op ∧ decR (bldF f x) = some x then some (bldF f x) else none)).getD [] := by
        rw [hx3, hst, if_neg (fun h => h1 h.1)]
      refine AW.exit ?_
      refine SQ.exit <| BQ.exit ?_
      refine SQ.normal ?_
      refine AW.region ?_
      refine AO.oo ?_
      refine AO.c ?_
      refine AO.nil ?_
      exact AW.backD [.f, .k, .f, .f, .f, .f, .f, .f, .k, .k, .k, .F, .F, .F, .F, .F, .F, .f] ([some (.box 36 (insA x))]) (j) (m0 - 1) (i + 1, j + 1) (by omega) (by (try dsimp only); exact ⟨by omega, by omega, e⟩) (by first | rfl | (simp; done)) (by first | rfl | (simp; done))
    · skip
      rw [decide_eq_false_iff_not, Decidable.not_not] at h1
      refine AW.skip ?_
      refine SQ.normal ?_
      refine AW.seq' ?_
      refine AW.region ?_
      refine AO.ww ?_
      refine AO.c ?_
      refine AO.c ?_
      refine AO.ww ?_
      refine AO.c ?_
      refine AO.nil ?_
      refine SQ.normal ?_
      refine AW.seq' ?_
      refine AW.seq' ?_
      refine AW.region ?_
      refine AO.c ?_
      refine AO.c ?_
      refine AO.c ?_
      refine AO.nil ?_
      refine SQ.normal ?_
      refine AW.iteB (GL.ev _) (fun h2 => ?_) (fun h2 => ?_)
      · skip
        rw [decide_eq_true_eq] at h2
        refine AW.region ?_
        refine AO.c ?_
        refine AO.c ?_
        refine AO.c ?_
        refine AO.c ?_
        refine AO.c ?_
        refine AO.pw ?_
        refine AO.pw ?_
        refine AO.c ?_
        refine AO.c ?_
        refine AO.pw ?_
        refine AO.pw ?_
        refine AO.rr ?_
        refine AO.ww ?_
        refine AO.c ?_
        refine AO.nil ?_
        refine SQ.normal ?_
        refine AW.seq' ?_
        refine AW.region ?_
        refine AO.c ?_
        refine AO.c ?_
        refine AO.c ?_
        refine AO.pw ?_
        refine AO.c ?_
        refine AO.c ?_
        refine AO.call1 Try.func39 rfl rfl ((le_PutR (IntKind.u64.wrap x.imm) f.width hu hw).a0 (by rw [bys_length]; exact Nat.le_trans (put8_len _ _) (by decide))) ?_
        refine AO.ww ?_
        refine AO.c ?_
        refine AO.nil ?_
        refine SQ.normal ?_
        refine AW.seq' ?_
        refine AW.ghost (Gh.freezeE 5 (li' := bldF f x) (by first | exact bld_p hfa.2 h2 | exact bld_n hfa.2 h2) (by rw [← (by first | exact bld_p hfa.2 h2 | exact bld_n hfa.2 h2 : _ = bldF f x)]; first | (simp; omega) | (simp; done)) (by omega)) ?_
        refine AW.region ?_
        refine AO.c ?_
        refine AO.call1 Try.func13 rfl rfl (insn_Decode _ hBy (by omega)) ?_
        refine AO.c ?_
        refine AO.c ?_
        refine AO.c ?_
        refine AO.ww ?_
        refine AO.sst ?_
        refine AO.c ?_
        refine AO.nil ?_
        refine SQ.normal ?_
        refine AW.seq' ?_
        refine AW.region ?_
        refine AO.c ?_
        refine AO.c ?_
        refine AO.gx ?_
        refine AO.gx ?_
        refine AO.gx ?_
        refine AO.c ?_
        refine AO.nil ?_
        refine SQ.normal ?_
        refine AW.iteB (GL.ev _) (fun h3 => ?_) (fun h3 => ?_)
        · skip
          have h4 := of_decide_eq_true ((eq_dec (o := decP (bldF f x)) (x := x)).symm.trans h3)
          rw [decP_eq hBy] at h4
          have e : encP x = bldF f x := by
            rw [hx3, hst, if_pos ⟨h1, h4⟩]; rfl
          refine AW.seq' ?_
          refine AW.region ?_
          refine AO.c ?_
          refine AO.c ?_
          refine AO.nil ?_
          refine SQ.normal ?_
          refine AW.ret ?_
          refine BQ.ret <| SQ.ret <| AW.out <| LU.ret <| BQ.ret <| SQ.ret ?_
          refine Fin.ret (Gh.refl) noid1 ?_
          rw [e]; rfl
        · skip
          have h4 := of_decide_eq_false ((eq_dec (o := decP (bldF f x)) (x := x)).symm.trans h3)
          rw [decP_eq hBy] at h4
          have e : encP x = ((formsL.drop (i + 1)).findSome? (fun f => if f.op = x.op ∧ decR (bldF f x) = some x then some (bldF f x) else none)).getD [] := by
            rw [hx3, hst, if_neg (fun h => h4 h.2)]
          refine AW.skip ?_
          refine BQ.normal ?_
          refine SQ.normal ?_
          refine AW.region ?_
          refine AO.oo ?_
          refine AO.c ?_
          refine AO.nil ?_
          exact AW.backD [.f, .k, .f, .f, .f, .f, .f, .f, .k, .k, .k, .F, .F, .F, .F, .F, .F, .f] ([some (.box 36 (insA x))]) (j) (m0 - 1) (i + 1, j + 3) (by omega) (by (try dsimp only); exact ⟨by omega, by omega, e⟩) (by first | rfl | (simp; done)) (by first | rfl | (simp; done))
      · skip
        rw [decide_eq_false_iff_not] at h2
        refine AW.skip ?_
        refine SQ.normal ?_
        refine AW.seq' ?_
        refine AW.region ?_
        refine AO.c ?_
        refine AO.c ?_
        refine AO.c ?_
        refine AO.pw ?_
        refine AO.c ?_
        refine AO.c ?_
        refine AO.call1 Try.func39 rfl rfl ((le_PutR (IntKind.u64.wrap x.imm) f.width hu hw).a0 (by rw [bys_length]; exact Nat.le_trans (put8_len _ _) (by decide))) ?_
        refine AO.ww ?_
        refine AO.c ?_
        refine AO.nil ?_
        refine SQ.normal ?_
        refine AW.seq' ?_
        refine AW.ghost (Gh.freezeE 5 (li' := bldF f x) (by first | exact bld_p hfa.2 h2 | exact bld_n hfa.2 h2) (by rw [← (by first | exact bld_p hfa.2 h2 | exact bld_n hfa.2 h2 : _ = bldF f x)]; first | (simp; omega) | (simp; done)) (by omega)) ?_
        refine AW.region ?_
        refine AO.c ?_
        refine AO.call1 Try.func13 rfl rfl (insn_Decode _ hBy (by omega)) ?_
        refine AO.c ?_
        refine AO.c ?_
        refine AO.c ?_
        refine AO.ww ?_
        refine AO.sst ?_
        refine AO.c ?_
        refine AO.nil ?_
        refine SQ.normal ?_
        refine AW.seq' ?_
        refine AW.region ?_
        refine AO.c ?_
        refine AO.c ?_
        refine AO.gx ?_
        refine AO.gx ?_
        refine AO.gx ?_
        refine AO.c ?_
        refine AO.nil ?_
        refine SQ.normal ?_
        refine AW.iteB (GL.ev _) (fun h3 => ?_) (fun h3 => ?_)
        · skip
          have h4 := of_decide_eq_true ((eq_dec (o := decP (bldF f x)) (x := x)).symm.trans h3)
          rw [decP_eq hBy] at h4
          have e : encP x = bldF f x := by
            rw [hx3, hst, if_pos ⟨h1, h4⟩]; rfl
          refine AW.seq' ?_
          refine AW.region ?_
          refine AO.c ?_
          refine AO.c ?_
          refine AO.nil ?_
          refine SQ.normal ?_
          refine AW.ret ?_
          refine BQ.ret <| SQ.ret <| AW.out <| LU.ret <| BQ.ret <| SQ.ret ?_
          refine Fin.ret (Gh.refl) noid1 ?_
          rw [e]; rfl
        · skip
          have h4 := of_decide_eq_false ((eq_dec (o := decP (bldF f x)) (x := x)).symm.trans h3)
          rw [decP_eq hBy] at h4
          have e : encP x = ((formsL.drop (i + 1)).findSome? (fun f => if f.op = x.op ∧ decR (bldF f x) = some x then some (bldF f x) else none)).getD [] := by
            rw [hx3, hst, if_neg (fun h => h4 h.2)]
          refine AW.skip ?_
          refine BQ.normal ?_
          refine SQ.normal ?_
          refine AW.region ?_
          refine AO.oo ?_
          refine AO.c ?_
          refine AO.nil ?_
          exact AW.backD [.f, .k, .f, .f, .f, .f, .f, .f, .k, .k, .k, .F, .F, .F, .F, .F, .F, .f] ([some (.box 36 (insA x))]) (j) (m0 - 1) (i + 1, j + 3) (by omega) (by (try dsimp only); exact ⟨by omega, by omega, e⟩) (by first | rfl | (simp; done)) (by first | rfl | (simp; done))
  · skip
    rw [decide_eq_false_iff_not] at h0
    have e : encP x = [] := by
      rw [hx3, List.drop_of_length_le (by omega)]; rfl
    refine AW.exit ?_
    refine SQ.exit <| AW.out <| LU.exit <| BQ.exit ?_
    refine SQ.normal ?_
    refine AW.seq' ?_
    refine AW.region ?_
    refine AO.c ?_
    refine AO.nil ?_
    refine SQ.normal ?_
    refine AW.ret ?_
    refine Fin.ret (Gh.nilB 2) noid1 ?_
    rw [e]; rfl

end Go.Proofs.Ytlapfdfbgckfcaa.AL
