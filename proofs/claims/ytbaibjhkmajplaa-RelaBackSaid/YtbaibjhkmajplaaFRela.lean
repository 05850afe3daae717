/- What functions of the program compute, each by its own contract; the conditions stand with each. -/
import Derived.Test.YtbaibjhkmajplaaFSym
namespace Go.Proofs.Ytbaibjhkmajplaa.AL
open Go Go.RowKit Go.Proofs.Ytbaibjhkmajplaa.Base
set_option linter.unusedVariables false
set_option linter.unusedSimpArgs false
set_option maxRecDepth 4000
set_option synthInstance.maxSize 1000

theorem i64_u64 {x : Int} (h : I64 x) : IntKind.i64.wrap (IntKind.u64.wrap x) = x := by
  rw [wi64_eq, wu64_mod]; unfold wrap64; unfold I64 at h; omega
theorem u64_i64 {x : Int} (h0 : 0 ≤ x) (h1 : x < 18446744073709551616) : IntKind.u64.wrap (IntKind.i64.wrap x) = x := by
  rw [wi64_eq, wu64_mod]; unfold wrap64; omega
theorem i64_wr (x : Int) : I64 (IntKind.i64.wrap x) := by
  rw [wi64_eq]; unfold wrap64 I64; omega
def mayF (r : RelD) : Bool := decide (r.off ≥ 0) && decide (r.off ≤ 2147483647) && decide (r.sym ≥ 0) && decide (r.sym ≤ 2147483647) && decide (widthF r.typ > 0)
theorem mayF_eq (r : RelD) : mayF r = mayRelB r := by
  rw [Bool.eq_iff_iff]
  unfold mayF mayRelB fitsB
  simp only [Bool.and_eq_true, decide_eq_true_eq]
  omega
theorem mayRel_all {r : RelD} (h : mayRelB r = true) : (0 ≤ r.off ∧ r.off ≤ 2147483647) ∧ (0 ≤ r.sym ∧ r.sym ≤ 2147483647) ∧ 0 < widthF r.typ ∧ 0 ≤ r.typ ∧ r.typ ≤ 11 := by
  unfold mayRelB fitsB at h
  simp only [Bool.and_eq_true, decide_eq_true_eq] at h
  refine ⟨h.1.1, h.1.2, h.2, ?_⟩
  have h2 := h.2
  unfold widthF at h2
  split at h2
  · omega
  · split at h2 <;> omega
def zeroRel : RelD := ⟨0, 0, 0, 0⟩
def relOf (b : List Int) (a : Int) : RelD := ⟨numAt b a 8, numAt b (a + 8) 4, numAt b (a + 12) 4, IntKind.i64.wrap (numAt b (a + 16) 8)⟩
def RelOk (b : List Int) (a : Int) : Prop := 0 ≤ a ∧ a + 24 ≤ b.length ∧ mayRelB (relOf b a) = true
instance (b : List Int) (a : Int) : Decidable (RelOk b a) := by unfold RelOk; infer_instance
def relB (r : RelD) : List Int := dig r.off 8 ++ dig r.typ 4 ++ dig r.sym 4 ++ dig (IntKind.u64.wrap r.add) 8
theorem relB_len (r : RelD) : (relB r).length = 24 := by unfold relB; simp [dig_length]
theorem relB_bytes (r : RelD) : Bytes (relB r) := (((dig_bytes _ _).append (dig_bytes _ _)).append (dig_bytes _ _)).append (dig_bytes _ _)
/-- The document's numbers: too large ones are -1. -/
def numR (b : List Int) (a : Int) : RelD := ⟨capN (numAt b a 8), capN (numAt b (a + 8) 4), capN (numAt b (a + 12) 4), IntKind.i64.wrap (numAt b (a + 16) 8)⟩
theorem numR_may {b : List Int} {a : Int} (h1 : 0 ≤ numAt b a 8) (h2 : 0 ≤ numAt b (a + 8) 4) (h3 : 0 ≤ numAt b (a + 12) 4) : mayRelB (numR b a) = mayRelB (relOf b a) := by
  unfold mayRelB numR relOf
  have e : ∀ n : Int, 0 ≤ n → fitsB (capN n) = fitsB n := fun n h => by
    unfold fitsB capN
    rw [Bool.eq_iff_iff]
    simp only [Bool.and_eq_true, decide_eq_true_eq]
    split <;> omega
  have e2 : ∀ n : Int, 0 ≤ n → widthF (capN n) = widthF n := fun n h => by
    unfold capN
    split
    · unfold widthF
      rw [if_neg (by omega), if_neg (by omega), if_neg (by omega), if_neg (by omega)]
    · rfl
  simp only
  rw [e _ h1, e _ h3, e2 _ h2]
theorem numR_same {b : List Int} {a : Int} (h : mayRelB (relOf b a) = true) : numR b a = relOf b a := by
  have h := mayRel_all h
  unfold relOf at h
  simp only at h
  unfold numR relOf capN
  rw [if_neg (by omega), if_neg (by omega), if_neg (by omega)]
theorem numR_ok {b : List Int} (hB : Bytes b) (a : Int) : (numR b a).ok :=
  ⟨capN_64 _ (numAt_range hB _ _).1, capN_64 _ (numAt_range hB _ _).1, capN_64 _ (numAt_range hB _ _).1, i64_wr _⟩
theorem nums_rel {r : RelD} (h : mayRelB r = true) : numsF [r.off, 8, r.typ, 4, r.sym, 4, r.add, 8] = relB r := by
  have h := mayRel_all h
  simp only [numsF, List.append_nil]
  rw [if_pos (by decide), if_pos (by decide), if_pos (by decide), if_pos (by decide), wu64n (by omega) (by omega), wu64n (by omega) (by omega), wu64n (by omega) (by omega)]
  unfold relB
  simp [List.append_assoc]
theorem rel_nums64 {r : RelD} (h : r.ok) : ∀ x ∈ [r.off, 8, r.typ, 4, r.sym, 4, r.add, 8], I64 x := by
  obtain ⟨q1, q2, q3, q4⟩ := h
  intro x hx
  simp only [List.mem_cons, List.not_mem_nil, or_false] at hx
  rcases hx with rfl | rfl | rfl | rfl | rfl | rfl | rfl | rfl <;> first | assumption | decide
def RelW : List Nat := [8, 4, 4, 8]
theorem rel_split {b : List Int} {a : Int} (h0 : 0 ≤ a) (h1 : a + 24 ≤ b.length) : splitW RelW (b.drop a.toNat) = [numAt b a 8, numAt b (a + 8) 4, numAt b (a + 12) 4, numAt b (a + 16) 8] := by
  have e8 : (a + 8).toNat = a.toNat + 8 := by omega
  have e12 : (a + 12).toNat = a.toNat + 8 + 4 := by omega
  have e16 : (a + 16).toNat = a.toNat + 8 + 4 + 4 := by omega
  simp only [RelW, splitW, List.drop_drop, numAt, e8, e12, e16]
  rfl
theorem relB_join (r : RelD) : relB r = joinW RelW [r.off, r.typ, r.sym, IntKind.u64.wrap r.add] := by
  show _ = dig r.off 8 ++ (dig r.typ 4 ++ (dig r.sym 4 ++ (dig (IntKind.u64.wrap r.add) 8 ++ [])))
  unfold relB
  simp
theorem rel_back {b : List Int} {a : Int} (hB : Bytes b) (h : RelOk b a) : relB (relOf b a) = (b.take (a + 24).toNat).drop a.toNat := by
  obtain ⟨h0, h1, h2⟩ := h
  have hs := rel_split h0 h1
  have hj := join_split RelW (b.drop a.toNat) (hB.drop _) (by simp [RelW]; omega)
  have hr := numAt_range hB (a + 16) 8
  simp only [show (8 : Int).toNat = 8 from rfl] at hr
  rw [hs] at hj
  rw [relB_join, show (a + 24).toNat = a.toNat + 24 by omega, List.drop_take, Nat.add_sub_cancel_left]
  rw [show IntKind.u64.wrap (relOf b a).add = numAt b (a + 16) 8 from u64_i64 hr.1 (by omega)]
  exact hj
theorem rel_forth (b c : List Int) {r : RelD} (hr : r.ok) (h : mayRelB r = true) : RelOk (b ++ relB r ++ c) (b.length : Int) ∧ relOf (b ++ relB r ++ c) (b.length : Int) = r := by
  have hl : (b.length : Int) + 24 ≤ ((b ++ relB r ++ c).length : Nat) := by rw [List.length_append, List.length_append, relB_len]; omega
  have hs := rel_split (b := b ++ relB r ++ c) (a := (b.length : Int)) (by omega) hl
  have hm := mayRel_all h
  have hu := u64_range r.add
  have hj := split_join RelW [r.off, r.typ, r.sym, IntKind.u64.wrap r.add] c rfl (by
    intro p hp
    simp [RelW] at hp
    rcases hp with rfl | rfl | rfl | rfl <;> simp <;> omega)
  rw [← relB_join r] at hj
  rw [List.append_assoc, Int.toNat_natCast, List.drop_left, hj] at hs
  rw [← List.append_assoc] at hs
  simp only [List.cons.injEq, and_true] at hs
  obtain ⟨a1, a2, a3, a4⟩ := hs
  have he : relOf (b ++ relB r ++ c) (b.length : Int) = r := by
    unfold relOf
    rw [← a1, ← a2, ← a3, ← a4, i64_u64 hr.2.2.2]
  exact ⟨⟨by omega, hl, by rw [he]; exact h⟩, he⟩

theorem rela_Width (t : Int) : A0 Try.prog 71 [.v (.int .i64 (t))] (fun ret => ret = .v (.int .i64 (widthF t))) := by
  refine A0.body 11 Try.func71 rfl rfl Try.ntmps71 fun base n0 => ?_
  refine AW.seq' ?_
  refine AW.region ?_
  refine AO.c ?_
  refine AO.nil ?_
  refine SQ.normal ?_
  refine AW.seq' ?_
  refine AW.seq' ?_
  refine AW.region ?_
  refine AO.c ?_
  refine AO.nil ?_
  refine SQ.normal ?_
  refine AW.block' ?_
  refine AW.seq' ?_
  refine AW.region ?_
  refine AO.c ?_
  refine AO.c ?_
  refine AO.nil ?_
  refine SQ.normal ?_
  refine AW.iteB (GL.ev _) (fun h0 => ?_) (fun h0 => ?_)
  · skip
    try simp only [Bool.and_eq_true, Bool.or_eq_true, Bool.not_eq_true', Bool.and_eq_false_iff, Bool.or_eq_false_iff, decide_eq_true_eq, decide_eq_false_iff_not, bys_length] at h0
    refine AW.seq' ?_
    refine AW.region ?_
    refine AO.c ?_
    refine AO.nil ?_
    refine SQ.normal ?_
    refine AW.ret ?_
    refine BQ.ret <| SQ.ret ?_
    refine Fin.ret (Gh.refl) noid1 ?_
    show AV.v (.int .i64 _) = AV.v (.int .i64 (widthF t))
    congr 2
    unfold widthF
    split
    · omega
    · first | omega | (split <;> omega)
  · skip
    try simp only [Bool.and_eq_true, Bool.or_eq_true, Bool.not_eq_true', Bool.and_eq_false_iff, Bool.or_eq_false_iff, decide_eq_true_eq, decide_eq_false_iff_not, bys_length] at h0
    refine AW.seq' ?_
    refine AW.seq' ?_
    refine AW.region ?_
    refine AO.c ?_
    refine AO.c ?_
    refine AO.nil ?_
    refine SQ.normal ?_
    refine AW.iteB (GL.ev _) (fun h1 => ?_) (fun h1 => ?_)
    · skip
      try simp only [Bool.and_eq_true, Bool.or_eq_true, Bool.not_eq_true', Bool.and_eq_false_iff, Bool.or_eq_false_iff, decide_eq_true_eq, decide_eq_false_iff_not, bys_length] at h1
      refine AW.skip ?_
      refine SQ.normal ?_
      refine AW.iteB (GL.ev _) (fun h4 => ?_) (fun h4 => ?_)
      · skip
        try simp only [Bool.and_eq_true, Bool.or_eq_true, Bool.not_eq_true', Bool.and_eq_false_iff, Bool.or_eq_false_iff, decide_eq_true_eq, decide_eq_false_iff_not, bys_length] at h4
        refine AW.seq' ?_
        refine AW.region ?_
        refine AO.c ?_
        refine AO.nil ?_
        refine SQ.normal ?_
        refine AW.ret ?_
        refine BQ.ret <| SQ.ret ?_
        refine Fin.ret (Gh.refl) noid1 ?_
        show AV.v (.int .i64 _) = AV.v (.int .i64 (widthF t))
        congr 2
        unfold widthF
        split
        · omega
        · first | omega | (split <;> omega)
      · skip
        try simp only [Bool.and_eq_true, Bool.or_eq_true, Bool.not_eq_true', Bool.and_eq_false_iff, Bool.or_eq_false_iff, decide_eq_true_eq, decide_eq_false_iff_not, bys_length] at h4
        refine AW.skip ?_
        refine BQ.normal ?_
        refine SQ.normal ?_
        refine AW.seq' ?_
        refine AW.region ?_
        refine AO.c ?_
        refine AO.nil ?_
        refine SQ.normal ?_
        refine AW.ret ?_
        refine Fin.ret (Gh.refl) noid1 ?_
        show AV.v (.int .i64 _) = AV.v (.int .i64 (widthF t))
        congr 2
        unfold widthF
        split
        · omega
        · first | omega | (split <;> omega)
    · skip
      try simp only [Bool.and_eq_true, Bool.or_eq_true, Bool.not_eq_true', Bool.and_eq_false_iff, Bool.or_eq_false_iff, decide_eq_true_eq, decide_eq_false_iff_not, bys_length] at h1
      refine AW.seq' ?_
      refine AW.region ?_
      refine AO.c ?_
      refine AO.c ?_
      refine AO.nil ?_
      refine SQ.normal ?_
      refine AW.iteB (GL.ev _) (fun h2 => ?_) (fun h2 => ?_)
      · skip
        try simp only [Bool.and_eq_true, Bool.or_eq_true, Bool.not_eq_true', Bool.and_eq_false_iff, Bool.or_eq_false_iff, decide_eq_true_eq, decide_eq_false_iff_not, bys_length] at h2
        refine AW.skip ?_
        refine SQ.normal ?_
        refine AW.iteB (GL.ev _) (fun h4 => ?_) (fun h4 => ?_)
        · skip
          try simp only [Bool.and_eq_true, Bool.or_eq_true, Bool.not_eq_true', Bool.and_eq_false_iff, Bool.or_eq_false_iff, decide_eq_true_eq, decide_eq_false_iff_not, bys_length] at h4
          refine AW.seq' ?_
          refine AW.region ?_
          refine AO.c ?_
          refine AO.nil ?_
          refine SQ.normal ?_
          refine AW.ret ?_
          refine BQ.ret <| SQ.ret ?_
          refine Fin.ret (Gh.refl) noid1 ?_
          show AV.v (.int .i64 _) = AV.v (.int .i64 (widthF t))
          congr 2
          unfold widthF
          split
          · omega
          · first | omega | (split <;> omega)
        · skip
          try simp only [Bool.and_eq_true, Bool.or_eq_true, Bool.not_eq_true', Bool.and_eq_false_iff, Bool.or_eq_false_iff, decide_eq_true_eq, decide_eq_false_iff_not, bys_length] at h4
          refine AW.skip ?_
          refine BQ.normal ?_
          refine SQ.normal ?_
          refine AW.seq' ?_
          refine AW.region ?_
          refine AO.c ?_
          refine AO.nil ?_
          refine SQ.normal ?_
          refine AW.ret ?_
          refine Fin.ret (Gh.refl) noid1 ?_
          show AV.v (.int .i64 _) = AV.v (.int .i64 (widthF t))
          congr 2
          unfold widthF
          split
          · omega
          · first | omega | (split <;> omega)
      · skip
        try simp only [Bool.and_eq_true, Bool.or_eq_true, Bool.not_eq_true', Bool.and_eq_false_iff, Bool.or_eq_false_iff, decide_eq_true_eq, decide_eq_false_iff_not, bys_length] at h2
        refine AW.seq' ?_
        refine AW.region ?_
        refine AO.c ?_
        refine AO.c ?_
        refine AO.nil ?_
        refine SQ.normal ?_
        refine AW.iteB (GL.ev _) (fun h3 => ?_) (fun h3 => ?_)
        · skip
          try simp only [Bool.and_eq_true, Bool.or_eq_true, Bool.not_eq_true', Bool.and_eq_false_iff, Bool.or_eq_false_iff, decide_eq_true_eq, decide_eq_false_iff_not, bys_length] at h3
          refine AW.skip ?_
          refine SQ.normal ?_
          refine AW.iteB (GL.ev _) (fun h4 => ?_) (fun h4 => ?_)
          · skip
            try simp only [Bool.and_eq_true, Bool.or_eq_true, Bool.not_eq_true', Bool.and_eq_false_iff, Bool.or_eq_false_iff, decide_eq_true_eq, decide_eq_false_iff_not, bys_length] at h4
            refine AW.seq' ?_
            refine AW.region ?_
            refine AO.c ?_
            refine AO.nil ?_
            refine SQ.normal ?_
            refine AW.ret ?_
            refine BQ.ret <| SQ.ret ?_
            refine Fin.ret (Gh.refl) noid1 ?_
            show AV.v (.int .i64 _) = AV.v (.int .i64 (widthF t))
            congr 2
            unfold widthF
            split
            · omega
            · first | omega | (split <;> omega)
          · skip
            try simp only [Bool.and_eq_true, Bool.or_eq_true, Bool.not_eq_true', Bool.and_eq_false_iff, Bool.or_eq_false_iff, decide_eq_true_eq, decide_eq_false_iff_not, bys_length] at h4
            refine AW.skip ?_
            refine BQ.normal ?_
            refine SQ.normal ?_
            refine AW.seq' ?_
            refine AW.region ?_
            refine AO.c ?_
            refine AO.nil ?_
            refine SQ.normal ?_
            refine AW.ret ?_
            refine Fin.ret (Gh.refl) noid1 ?_
            show AV.v (.int .i64 _) = AV.v (.int .i64 (widthF t))
            congr 2
            unfold widthF
            split
            · omega
            · first | omega | (split <;> omega)
        · skip
          try simp only [Bool.and_eq_true, Bool.or_eq_true, Bool.not_eq_true', Bool.and_eq_false_iff, Bool.or_eq_false_iff, decide_eq_true_eq, decide_eq_false_iff_not, bys_length] at h3
          refine AW.region ?_
          refine AO.c ?_
          refine AO.c ?_
          refine AO.nil ?_
          refine SQ.normal ?_
          refine AW.iteB (GL.ev _) (fun h4 => ?_) (fun h4 => ?_)
          · skip
            try simp only [Bool.and_eq_true, Bool.or_eq_true, Bool.not_eq_true', Bool.and_eq_false_iff, Bool.or_eq_false_iff, decide_eq_true_eq, decide_eq_false_iff_not, bys_length] at h4
            refine AW.seq' ?_
            refine AW.region ?_
            refine AO.c ?_
            refine AO.nil ?_
            refine SQ.normal ?_
            refine AW.ret ?_
            refine BQ.ret <| SQ.ret ?_
            refine Fin.ret (Gh.refl) noid1 ?_
            show AV.v (.int .i64 _) = AV.v (.int .i64 (widthF t))
            congr 2
            unfold widthF
            split
            · omega
            · first | omega | (split <;> omega)
          · skip
            try simp only [Bool.and_eq_true, Bool.or_eq_true, Bool.not_eq_true', Bool.and_eq_false_iff, Bool.or_eq_false_iff, decide_eq_true_eq, decide_eq_false_iff_not, bys_length] at h4
            refine AW.skip ?_
            refine BQ.normal ?_
            refine SQ.normal ?_
            refine AW.seq' ?_
            refine AW.region ?_
            refine AO.c ?_
            refine AO.nil ?_
            refine SQ.normal ?_
            refine AW.ret ?_
            refine Fin.ret (Gh.refl) noid1 ?_
            show AV.v (.int .i64 _) = AV.v (.int .i64 (widthF t))
            congr 2
            unfold widthF
            split
            · omega
            · first | omega | (split <;> omega)
theorem rela_may (r : RelD) : A0 Try.prog 95 [.agg (relA r)] (fun ret => ret = .v (.bool (mayF r))) := by
  refine A0.body 27 Try.func95 rfl rfl Try.ntmps95 fun base n0 => ?_
  refine AW.seq' ?_
  refine AW.region ?_
  refine AO.ww ?_
  refine AO.c ?_
  refine AO.nil ?_
  refine SQ.normal ?_
  refine AW.seq' ?_
  refine AW.region ?_
  refine AO.c ?_
  refine AO.c ?_
  refine AO.c ?_
  refine AO.c ?_
  refine AO.gx ?_
  refine AO.gx ?_
  refine AO.gx ?_
  refine AO.c ?_
  refine AO.c ?_
  refine AO.gx ?_
  refine AO.gx ?_
  refine AO.gx ?_
  refine AO.c ?_
  refine AO.c ?_
  refine AO.gx ?_
  refine AO.gx ?_
  refine AO.gx ?_
  refine AO.c ?_
  refine AO.c ?_
  refine AO.gx ?_
  refine AO.gx ?_
  refine AO.gxcall1 Try.func71 rfl rfl (fun hgd => rela_Width _) ?_
  refine AO.gx ?_
  refine AO.c ?_
  refine AO.c ?_
  refine AO.nil ?_
  refine SQ.normal ?_
  refine AW.ret ?_
  refine Fin.ret (Gh.refl) noid1 ?_
  rfl
theorem rela_Get (b : List Int) (a : Int) (hB : Bytes b) (hb : b.length ≤ 1000000000000) (ha : I64 a) : A0 Try.prog 69 [.rd 1 (bys b), .v (.int .i64 (a))] (fun ret => ret = .tup [.agg (relA (if RelOk b a then relOf b a else zeroRel)), .v (.bool (decide (RelOk b a)))]) := by
  have ha0 := ha
  unfold I64 at ha
  refine A0.body 69 Try.func69 rfl rfl Try.ntmps69 fun base n0 => ?_
  refine AW.seq' ?_
  refine AW.region ?_
  refine AO.ww ?_
  refine AO.c ?_
  refine AO.nil ?_
  refine SQ.normal ?_
  refine AW.seq' ?_
  refine AW.seq' ?_
  refine AW.region ?_
  refine AO.c ?_
  refine AO.c ?_
  refine AO.c ?_
  refine AO.gx ?_
  refine AO.gx ?_
  refine AO.gx ?_
  refine AO.gxoo ?_
  refine AO.gx ?_
  refine AO.c ?_
  refine AO.nil ?_
  refine SQ.normal ?_
  refine AW.iteB (GL.ev _) (fun h0 => ?_) (fun h0 => ?_)
  · skip
    simp only [Bool.or_eq_true, decide_eq_true_eq] at h0
    have hno : ¬ RelOk b a := fun h => by unfold RelOk at h; omega
    refine AW.seq' ?_
    refine AW.region ?_
    refine AO.c ?_
    refine AO.sst ?_
    refine AO.c ?_
    refine AO.nil ?_
    refine SQ.normal ?_
    refine AW.ret ?_
    refine SQ.ret ?_
    refine Fin.ret (Gh.refl) noid2 ?_
    show AV.tup _ = AV.tup _
    first | (rw [if_neg hno, decide_eq_false hno]; rfl) | (rw [if_pos hyes, decide_eq_true hyes]; rfl)
  · skip
    simp only [Bool.or_eq_false_iff, decide_eq_false_iff_not] at h0
    have ha1 : 0 ≤ a := by omega
    have ha2 : a + 24 ≤ b.length := by omega
    have k0 := hasB_in ha1 ha2 0 8 (by omega) (by omega) (by decide)
    rw [Int.add_zero] at k0
    have k8 := hasB_in ha1 ha2 8 4 (by omega) (by omega) (by decide)
    have k12 := hasB_in ha1 ha2 12 4 (by omega) (by omega) (by decide)
    have k16 := hasB_in ha1 ha2 16 8 (by omega) (by omega) (by decide)
    have r0 := numAt_range hB a 8
    have r8 := numAt_range hB (a + 8) 4
    have r12 := numAt_range hB (a + 12) 4
    have r16 := numAt_range hB (a + 16) 8
    simp only [show (4 : Int).toNat = 4 from rfl, show (8 : Int).toNat = 8 from rfl] at r0 r8 r12 r16
    refine AW.skip ?_
    refine SQ.normal ?_
    refine AW.seq' ?_
    refine AW.region ?_
    refine AO.c ?_
    refine AO.c ?_
    refine AO.call1 Try.func29 rfl rfl (le_GetT b a 8 hB (by omega) k0) ?_
    refine AO.c ?_
    refine AO.c ?_
    refine AO.c ?_
    refine AO.c ?_
    refine AO.c ?_
    refine AO.nil ?_
    refine SQ.normal ?_
    refine AW.seq' ?_
    refine AW.region ?_
    refine AO.c ?_
    refine AO.c ?_
    refine AO.oo ?_
    refine AO.call1 Try.func29 rfl rfl (le_GetT b (a + 8) 4 hB (by omega) k8) ?_
    refine AO.c ?_
    refine AO.c ?_
    refine AO.c ?_
    refine AO.c ?_
    refine AO.c ?_
    refine AO.nil ?_
    refine SQ.normal ?_
    refine AW.seq' ?_
    refine AW.region ?_
    refine AO.c ?_
    refine AO.c ?_
    refine AO.oo ?_
    refine AO.call1 Try.func29 rfl rfl (le_GetT b (a + 12) 4 hB (by omega) k12) ?_
    refine AO.c ?_
    refine AO.c ?_
    refine AO.c ?_
    refine AO.c ?_
    refine AO.c ?_
    refine AO.nil ?_
    refine SQ.normal ?_
    refine AW.seq' ?_
    refine AW.region ?_
    refine AO.c ?_
    refine AO.c ?_
    refine AO.oo ?_
    refine AO.call1 Try.func29 rfl rfl (le_GetT b (a + 16) 8 hB (by omega) k16) ?_
    refine AO.c ?_
    refine AO.c ?_
    refine AO.c ?_
    refine AO.c ?_
    refine AO.c ?_
    refine AO.nil ?_
    refine SQ.normal ?_
    refine AW.seq' ?_
    refine AW.seq' ?_
    refine AW.region ?_
    refine AO.c ?_
    refine AO.c ?_
    refine AO.nil ?_
    refine SQ.normal ?_
    refine AW.iteB (GL.ev _) (fun h1 => ?_) (fun h1 => ?_)
    · skip
      rw [decide_eq_true_eq] at h1
      have hno : ¬ RelOk b a := fun h => by
        have := (mayRel_all h.2.2).1
        unfold relOf at this
        simp only at this
        omega
      refine AW.seq' ?_
      refine AW.region ?_
      refine AO.c ?_
      refine AO.sst ?_
      refine AO.c ?_
      refine AO.nil ?_
      refine SQ.normal ?_
      refine AW.ret ?_
      refine SQ.ret ?_
      refine Fin.ret (Gh.refl) noid2 ?_
      show AV.tup _ = AV.tup _
      first | (rw [if_neg hno, decide_eq_false hno]; rfl) | (rw [if_pos hyes, decide_eq_true hyes]; rfl)
    · skip
      rw [decide_eq_false_iff_not] at h1
      refine AW.skip ?_
      refine SQ.normal ?_
      refine AW.seq' ?_
      refine AW.region ?_
      refine AO.c ?_
      refine AO.oo ?_
      refine AO.c ?_
      refine AO.oo ?_
      refine AO.c ?_
      refine AO.oo ?_
      refine AO.c ?_
      refine AO.pw ?_
      refine AO.c ?_
      refine AO.ww ?_
      refine AO.sst ?_
      refine AO.nil ?_
      refine SQ.normal ?_
      refine AW.seq' ?_
      refine AW.seq' ?_
      refine AW.region ?_
      refine AO.c ?_
      refine AO.call1 Try.func95 rfl rfl (rela_may (relOf b a)) ?_
      refine AO.c ?_
      refine AO.nil ?_
      refine SQ.normal ?_
      refine AW.iteB (GL.ev _) (fun h2 => ?_) (fun h2 => ?_)
      · skip
        rw [mayF_eq] at h2
        have hno : ¬ RelOk b a := fun h => by rw [h.2.2] at h2; cases h2
        refine AW.seq' ?_
        refine AW.region ?_
        refine AO.c ?_
        refine AO.sst ?_
        refine AO.c ?_
        refine AO.nil ?_
        refine SQ.normal ?_
        refine AW.ret ?_
        refine SQ.ret ?_
        refine Fin.ret (Gh.refl) noid2 ?_
        show AV.tup _ = AV.tup _
        first | (rw [if_neg hno, decide_eq_false hno]; rfl) | (rw [if_pos hyes, decide_eq_true hyes]; rfl)
      · skip
        rw [mayF_eq, Bool.not_eq_false'] at h2
        have hyes : RelOk b a := ⟨ha1, ha2, h2⟩
        refine AW.skip ?_
        refine SQ.normal ?_
        refine AW.seq' ?_
        refine AW.region ?_
        refine AO.c ?_
        refine AO.sst ?_
        refine AO.c ?_
        refine AO.nil ?_
        refine SQ.normal ?_
        refine AW.ret ?_
        refine Fin.ret (Gh.refl) noid2 ?_
        show AV.tup _ = AV.tup _
        first | (rw [if_neg hno, decide_eq_false hno]; rfl) | (rw [if_pos hyes, decide_eq_true hyes]; rfl)
theorem ref_Rel (b : List Int) (a : Int) (hB : Bytes b) (hb : b.length ≤ 1000000000000) (ha : I64 a) : A0 Try.prog 70 [.rd 1 (bys b), .v (.int .i64 (a))] (fun ret => ret = .tup [.agg (relA (if RelOk b a then relOf b a else zeroRel)), .v (.bool (decide (RelOk b a)))]) := by
  have ha0 := ha
  unfold I64 at ha
  refine A0.body 50 Try.func70 rfl rfl Try.ntmps70 fun base n0 => ?_
  refine AW.seq' ?_
  refine AW.region ?_
  refine AO.ww ?_
  refine AO.c ?_
  refine AO.nil ?_
  refine SQ.normal ?_
  refine AW.seq' ?_
  refine AW.seq' ?_
  refine AW.region ?_
  refine AO.c ?_
  refine AO.c ?_
  refine AO.c ?_
  refine AO.gx ?_
  refine AO.gx ?_
  refine AO.gx ?_
  refine AO.gx ?_
  refine AO.c ?_
  refine AO.c ?_
  refine AO.gx ?_
  refine AO.gx ?_
  refine AO.gx ?_
  refine AO.gxoo ?_
  refine AO.gx ?_
  refine AO.c ?_
  refine AO.nil ?_
  refine SQ.normal ?_
  refine AW.iteB (GL.ev _) (fun h0 => ?_) (fun h0 => ?_)
  · skip
    simp only [Bool.or_eq_true, decide_eq_true_eq] at h0
    have hno : ¬ RelOk b a := fun h => by unfold RelOk at h; omega
    refine AW.seq' ?_
    refine AW.region ?_
    refine AO.c ?_
    refine AO.sst ?_
    refine AO.c ?_
    refine AO.nil ?_
    refine SQ.normal ?_
    refine AW.ret ?_
    refine SQ.ret ?_
    refine Fin.ret (Gh.refl) noid2 ?_
    show AV.tup _ = AV.tup _
    rw [if_neg hno, decide_eq_false hno]; rfl
  · skip
    simp only [Bool.or_eq_false_iff, decide_eq_false_iff_not] at h0
    have ha1 : 0 ≤ a := by omega
    have ha2 : a + 24 ≤ b.length := by omega
    have k0 := hasB_in ha1 ha2 0 8 (by omega) (by omega) (by decide)
    rw [Int.add_zero] at k0
    have k8 := hasB_in ha1 ha2 8 4 (by omega) (by omega) (by decide)
    have k12 := hasB_in ha1 ha2 12 4 (by omega) (by omega) (by decide)
    have k16 := hasB_in ha1 ha2 16 8 (by omega) (by omega) (by decide)
    have r0 := numAt_range hB a 8
    have r8 := numAt_range hB (a + 8) 4
    have r12 := numAt_range hB (a + 12) 4
    have r16 := numAt_range hB (a + 16) 8
    simp only [show (4 : Int).toNat = 4 from rfl, show (8 : Int).toNat = 8 from rfl] at r0 r8 r12 r16
    have hmay := numR_may r0.1 r8.1 r12.1
    have hnok := numR_ok hB a
    have e16 : (b.take (a + 24).toNat).drop (a + 16).toNat = (b.drop (a + 16).toNat).take 8 := by
      rw [List.drop_take]; congr 1; omega
    refine AW.skip ?_
    refine SQ.normal ?_
    refine AW.seq' ?_
    apply AW.mid
    case h =>
      refine AW.drawsZ [21] (.one 0 false (.one 1 false (.one 3 false (.one 4 false (.one 5 false (.one 7 false (.one 8 false (.one 9 false (.one 11 false (.one 12 false (.one 13 false (.one 14 false (.one 15 false (.one 16 false (.two 2 20 (.two 6 20 (.two 10 20 (.two 17 20 (.one 18 false (.one 19 false (.one 20 true (.one 21 true .nil)))) (.one 17 true (.one 18 false (.one 19 false (.one 21 true .nil))))) (.one 10 true (.one 17 true (.one 18 false (.one 19 false (.one 21 true .nil)))))) (.one 6 true (.one 10 true (.one 17 true (.one 18 false (.one 19 false (.one 21 true .nil))))))) (.one 2 true (.one 6 true (.one 10 true (.one 17 true (.one 18 false (.one 19 false (.one 21 true .nil)))))))))))))))))))))) (by kernel_rfl) rfl (by kernel_rfl) ?_
      refine AZ.c rfl ?_
      refine AZ.c rfl ?_
      refine AZ.c rfl ?_
      refine AZ.c rfl ?_
      refine AZ.oo rfl ?_
      refine AZ.c rfl ?_
      refine AZ.c rfl ?_
      refine AZ.oo rfl ?_
      refine AZ.c rfl ?_
      refine AZ.c rfl ?_
      refine AZ.oo rfl ?_
      refine AZ.c rfl ?_
      refine AZ.oo rfl ?_
      refine AZ.o rfl (by first | omega | (simp; omega)) ?_
      refine AZ.eq 40 (av' := .rd 1 (bys ((b.drop (a + 16).toNat).take 8))) (by simp only [Option.getD_some, e16]) ?_
      refine AZ.two ?_ ?_
      · refine AZi.call1 rfl Try.func89 rfl rfl (ref_num b a 8 hB (by omega) k0) ?_
        refine AZ.two ?_ ?_
        · refine AZi.call1 rfl Try.func89 rfl rfl (ref_num b (a + 8) 4 hB (by omega) k8) ?_
          refine AZ.two ?_ ?_
          · refine AZi.call1 rfl Try.func89 rfl rfl (ref_num b (a + 12) 4 hB (by omega) k12) ?_
            refine AZ.two ?_ ?_
            · refine AZi.call1 rfl Try.func83 rfl rfl (ref_Num _ ((hB.drop _).take _) (by rw [List.length_take]; omega)) ?_
              refine AZ.pw rfl ?_
              refine AZ.c rfl ?_
              refine AZ.mkk rfl ?_
              refine AZ.sst rfl rfl ?_
              exact AZ.done ⟨rfl, rfl⟩
            · refine AZi.mkk rfl ?_
              refine AZ.call1 rfl Try.func83 rfl rfl (ref_Num _ ((hB.drop _).take _) (by rw [List.length_take]; omega)) ?_
              refine AZ.pw rfl ?_
              refine AZ.c rfl ?_
              refine AZ.sst rfl rfl ?_
              exact AZ.done ⟨rfl, rfl⟩
          · refine AZi.mkk rfl ?_
            refine AZ.call1 rfl Try.func89 rfl rfl (ref_num b (a + 12) 4 hB (by omega) k12) ?_
            refine AZ.call1 rfl Try.func83 rfl rfl (ref_Num _ ((hB.drop _).take _) (by rw [List.length_take]; omega)) ?_
            refine AZ.pw rfl ?_
            refine AZ.c rfl ?_
            refine AZ.sst rfl rfl ?_
            exact AZ.done ⟨rfl, rfl⟩
        · refine AZi.mkk rfl ?_
          refine AZ.call1 rfl Try.func89 rfl rfl (ref_num b (a + 8) 4 hB (by omega) k8) ?_
          refine AZ.call1 rfl Try.func89 rfl rfl (ref_num b (a + 12) 4 hB (by omega) k12) ?_
          refine AZ.call1 rfl Try.func83 rfl rfl (ref_Num _ ((hB.drop _).take _) (by rw [List.length_take]; omega)) ?_
          refine AZ.pw rfl ?_
          refine AZ.c rfl ?_
          refine AZ.sst rfl rfl ?_
          exact AZ.done ⟨rfl, rfl⟩
      · refine AZi.mkk rfl ?_
        refine AZ.call1 rfl Try.func89 rfl rfl (ref_num b a 8 hB (by omega) k0) ?_
        refine AZ.call1 rfl Try.func89 rfl rfl (ref_num b (a + 8) 4 hB (by omega) k8) ?_
        refine AZ.call1 rfl Try.func89 rfl rfl (ref_num b (a + 12) 4 hB (by omega) k12) ?_
        refine AZ.call1 rfl Try.func83 rfl rfl (ref_Num _ ((hB.drop _).take _) (by rw [List.length_take]; omega)) ?_
        refine AZ.pw rfl ?_
        refine AZ.c rfl ?_
        refine AZ.sst rfl rfl ?_
        exact AZ.done ⟨rfl, rfl⟩
    refine SQ.normal ?_
    refine AW.seq' ?_
    refine AW.region ?_
    refine AO.c ?_
    refine AO.call1 Try.func96 rfl rfl (ref_MayRel (numR b a) hnok) ?_
    refine AO.c ?_
    refine AO.nil ?_
    refine SQ.normal ?_
    refine AW.seq' ?_
    refine AW.seq' ?_
    refine AW.region ?_
    refine AO.c ?_
    refine AO.c ?_
    refine AO.nil ?_
    refine SQ.normal ?_
    refine AW.iteB (GL.ev _) (fun h1 => ?_) (fun h1 => ?_)
    · skip
      rw [hmay] at h1
      have hno : ¬ RelOk b a := fun h => by rw [h.2.2] at h1; cases h1
      refine AW.seq' ?_
      refine AW.region ?_
      refine AO.c ?_
      refine AO.sst ?_
      refine AO.c ?_
      refine AO.nil ?_
      refine SQ.normal ?_
      refine AW.ret ?_
      refine SQ.ret ?_
      refine Fin.ret (Gh.refl) noid2 ?_
      show AV.tup _ = AV.tup _
      rw [if_neg hno, decide_eq_false hno]; rfl
    · skip
      rw [hmay, Bool.not_eq_false'] at h1
      have hyes : RelOk b a := ⟨ha1, ha2, h1⟩
      have hsame := numR_same h1
      refine AW.skip ?_
      refine SQ.normal ?_
      refine AW.seq' ?_
      refine AW.region ?_
      refine AO.c ?_
      refine AO.sst ?_
      refine AO.c ?_
      refine AO.nil ?_
      refine SQ.normal ?_
      refine AW.ret ?_
      refine Fin.ret (Gh.refl) noid2 ?_
      show AV.tup [AV.agg (relA (numR b a)), _] = AV.tup _
      rw [if_pos hyes, decide_eq_true hyes, hsame]
theorem rela_Put (r : RelD) (hr : r.ok) : A0 Try.prog 73 [.agg (relA r)] (fun ret => ret = .rd 1 (bys (if mayRelB r = true then relB r else []))) := by
  refine A0.body 29 Try.func73 rfl rfl Try.ntmps73 fun base n0 => ?_
  refine AW.seq' ?_
  refine AW.region ?_
  refine AO.ww ?_
  refine AO.c ?_
  refine AO.nil ?_
  refine SQ.normal ?_
  refine AW.seq' ?_
  refine AW.seq' ?_
  refine AW.region ?_
  refine AO.c ?_
  refine AO.call1 Try.func95 rfl rfl (rela_may _) ?_
  refine AO.c ?_
  refine AO.nil ?_
  refine SQ.normal ?_
  refine AW.iteB (GL.ev _) (fun h0 => ?_) (fun h0 => ?_)
  · skip
    rw [mayF_eq, Bool.not_eq_true'] at h0
    have hno : ¬ mayRelB r = true := by rw [h0]; decide
    refine AW.seq' ?_
    refine AW.region ?_
    refine AO.c ?_
    refine AO.nil ?_
    refine SQ.normal ?_
    refine AW.ret ?_
    refine SQ.ret ?_
    refine Fin.ret (Gh.nilB 2) noid1 ?_
    rw [if_neg hno]; rfl
  · skip
    rw [mayF_eq, Bool.not_eq_false'] at h0
    have hm := mayRel_all h0
    have l4 : (if Wide 4 then dig r.typ 4 else []).length ≤ 8 := put8_len r.typ 4
    have l5 : (if Wide 4 then dig r.sym 4 else []).length ≤ 8 := put8_len r.sym 4
    have l8 : (if Wide 8 then dig (IntKind.u64.wrap r.add) 8 else []).length ≤ 8 := put8_len _ 8
    refine AW.skip ?_
    refine SQ.normal ?_
    refine AW.seq' ?_
    refine AW.region ?_
    refine AO.c ?_
    refine AO.c ?_
    refine AO.oo ?_
    refine AO.callR Try.func33 rfl rfl (le_PutR r.off 8 (by omega) (by omega)) (by rw [bys_length, if_pos (by decide), dig_length]) ?_
    refine AO.c ?_
    refine AO.nil ?_
    refine SQ.normal ?_
    refine AW.seq' ?_
    refine AW.region ?_
    refine AO.c ?_
    refine AO.c ?_
    refine AO.c ?_
    refine AO.oo ?_
    refine AO.call1 Try.func33 rfl rfl ((le_PutR _ 4 (by omega) (by omega)).a0 (by rw [bys_length]; exact Nat.le_trans (put8_len _ _) (by decide))) ?_
    refine AO.ww ?_
    refine AO.c ?_
    refine AO.nil ?_
    refine SQ.normal ?_
    refine AW.seq' ?_
    refine AW.region ?_
    refine AO.c ?_
    refine AO.c ?_
    refine AO.c ?_
    refine AO.oo ?_
    refine AO.call1 Try.func33 rfl rfl ((le_PutR _ 4 (by omega) (by omega)).a0 (by rw [bys_length]; exact Nat.le_trans (put8_len _ _) (by decide))) ?_
    refine AO.ww ?_
    refine AO.c ?_
    refine AO.nil ?_
    refine SQ.normal ?_
    refine AW.seq' ?_
    refine AW.region ?_
    refine AO.c ?_
    refine AO.c ?_
    refine AO.c ?_
    refine AO.pw ?_
    refine AO.call1 Try.func33 rfl rfl ((le_PutR _ 8 (u64_range _) (by omega)).a0 (by rw [bys_length]; exact Nat.le_trans (put8_len _ _) (by decide))) ?_
    refine AO.ww ?_
    refine AO.c ?_
    refine AO.nil ?_
    refine SQ.normal ?_
    refine AW.ret ?_
    refine Fin.ret (Gh.freezeE 2 (li' := relB r) ?_ ?_ ?_) noid1 ?_
    · rw [if_pos (show Wide 8 by decide), if_pos (show Wide 4 by decide), if_pos (show Wide 4 by decide), if_pos (show Wide 8 by decide)]; rfl
    · rw [relB_len, if_pos (show Wide 4 by decide), if_pos (show Wide 4 by decide), if_pos (show Wide 8 by decide), dig_length, dig_length, dig_length]; rfl
    · rw [relB_len]; decide
    · rw [if_pos h0]; rfl
theorem ref_RelBytes (r : RelD) (hr : r.ok) : A0 Try.prog 74 [.agg (relA r)] (fun ret => ret = .rd 1 (bys (if mayRelB r = true then relB r else []))) := by
  refine A0.body 18 Try.func74 rfl rfl Try.ntmps74 fun base n0 => ?_
  refine AW.seq' ?_
  refine AW.region ?_
  refine AO.ww ?_
  refine AO.c ?_
  refine AO.nil ?_
  refine SQ.normal ?_
  refine AW.seq' ?_
  refine AW.region ?_
  refine AO.c ?_
  refine AO.call1 Try.func96 rfl rfl (ref_MayRel _ (by assumption)) ?_
  refine AO.c ?_
  refine AO.nil ?_
  refine SQ.normal ?_
  refine AW.seq' ?_
  refine AW.seq' ?_
  refine AW.region ?_
  refine AO.c ?_
  refine AO.c ?_
  refine AO.nil ?_
  refine SQ.normal ?_
  refine AW.iteB (GL.ev _) (fun h0 => ?_) (fun h0 => ?_)
  · skip
    rw [Bool.not_eq_true'] at h0
    have hno : ¬ mayRelB r = true := by rw [h0]; decide
    refine AW.seq' ?_
    refine AW.region ?_
    refine AO.c ?_
    refine AO.nil ?_
    refine SQ.normal ?_
    refine AW.ret ?_
    refine SQ.ret ?_
    refine Fin.ret (Gh.nilB 2) noid1 ?_
    rw [if_neg hno]; rfl
  · skip
    rw [Bool.not_eq_false'] at h0
    have hnu := nums_rel h0
    have h64 := rel_nums64 hr
    refine AW.skip ?_
    refine SQ.normal ?_
    refine AW.seq' ?_
    refine AW.region ?_
    refine AO.c ?_
    refine AO.c ?_
    refine AO.c ?_
    refine AO.c ?_
    refine AO.c ?_
    refine AO.c ?_
    refine AO.c ?_
    refine AO.c ?_
    refine AO.rr ?_
    refine AO.eq 16 (av' := .rd 1 (([r.off, 8, r.typ, 4, r.sym, 4, r.add, 8] : List Int).map iA)) rfl ?_
    refine AO.call1 Try.func91 rfl rfl (ref_Nums _ (by simp) h64) ?_
    refine AO.c ?_
    refine AO.nil ?_
    refine SQ.normal ?_
    refine AW.ret ?_
    refine Fin.ret (Gh.refl) noid1 ?_
    rw [if_pos h0, ← hnu]; rfl

end Go.Proofs.Ytbaibjhkmajplaa.AL
