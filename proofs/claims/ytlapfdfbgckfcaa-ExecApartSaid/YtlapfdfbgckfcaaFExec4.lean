/- What functions of the program compute, each by its own contract; the conditions stand with each. -/
import Derived.Test.YtlapfdfbgckfcaaFExec3
namespace Go.Proofs.Ytlapfdfbgckfcaa.AL
open Go Go.RowKit Go.Proofs.Ytlapfdfbgckfcaa.Base
set_option linter.unusedVariables false
set_option linter.unusedSimpArgs false
set_option maxRecDepth 4000
set_option synthInstance.maxSize 1000
set_option synthInstance.maxHeartbeats 200000

structure OutD where
  addr : Int
  off : Int
  size : Int
  align : Int
  deriving Inhabited, DecidableEq
structure PlanD where
  addr : List Int
  outs : List OutD
  entry : Int
  fin : Int
  deriving Inhabited, DecidableEq
def PlanD.o (p : PlanD) (i : Nat) : OutD := p.outs.getD i default
@[reducible] def outA (o : OutD) : List AV := [.v (.int .i64 o.addr), .v (.int .i64 o.off), .v (.int .i64 o.size), .v (.int .i64 o.align)]
@[reducible] def planA (p : PlanD) : List AV := [.rd 1 (p.addr.map iA),
  .v (.int .i64 (p.o 0).addr), .v (.int .i64 (p.o 0).off), .v (.int .i64 (p.o 0).size), .v (.int .i64 (p.o 0).align), .v (.int .i64 (p.o 1).addr), .v (.int .i64 (p.o 1).off), .v (.int .i64 (p.o 1).size), .v (.int .i64 (p.o 1).align),
  .v (.int .i64 (p.o 2).addr), .v (.int .i64 (p.o 2).off), .v (.int .i64 (p.o 2).size), .v (.int .i64 (p.o 2).align), .v (.int .i64 (p.o 3).addr), .v (.int .i64 (p.o 3).off), .v (.int .i64 (p.o 3).size), .v (.int .i64 (p.o 3).align),
  .v (.int .i64 (p.o 4).addr), .v (.int .i64 (p.o 4).off), .v (.int .i64 (p.o 4).size), .v (.int .i64 (p.o 4).align), .v (.int .i64 (p.o 5).addr), .v (.int .i64 (p.o 5).off), .v (.int .i64 (p.o 5).size), .v (.int .i64 (p.o 5).align),
  .v (.int .i64 (p.o 6).addr), .v (.int .i64 (p.o 6).off), .v (.int .i64 (p.o 6).size), .v (.int .i64 (p.o 6).align), .v (.int .i64 (p.o 7).addr), .v (.int .i64 (p.o 7).off), .v (.int .i64 (p.o 7).size), .v (.int .i64 (p.o 7).align),
  .v (.int .i64 p.entry), .v (.int .i64 p.fin)]
theorem plan_size (p : PlanD) {i : Nat} (h : i < 8) : (planA p)[1 + (i : Int).toNat * 4 + 2]? = some (.v (.int .i64 (p.o i).size)) := by
  have h : i = 0 ∨ i = 1 ∨ i = 2 ∨ i = 3 ∨ i = 4 ∨ i = 5 ∨ i = 6 ∨ i = 7 := by omega
  rcases h with rfl | rfl | rfl | rfl | rfl | rfl | rfl | rfl <;> rfl
def segNo (i : Nat) : Int := if i = 5 then 1 else if 5 < i then 2 else 0
def fullB (p : PlanD) (s : Int) : Bool := (List.range 8).any fun i => decide (segNo i = s) && decide ((p.o i).size > 0)
theorem any_range_succ {q : Nat → Bool} {i : Nat} : (List.range (i + 1)).any q = ((List.range i).any q || q i) := by
  rw [List.range_succ, List.any_append]; simp
theorem any_range_true {q : Nat → Bool} {n i : Nat} (h : i < n) (hq : q i = true) : (List.range n).any q = true := List.any_eq_true.2 ⟨i, List.mem_range.2 h, hq⟩

theorem ref_Segment (i : Nat) (hi : i < 8) : A0 Try.prog 152 [.v (.int .i64 ((i : Int)))] (fun ret => ret = .v (.int .i64 (segNo i))) := by
  refine A0.body 7 Try.func152 rfl rfl Try.ntmps152 fun base n0 => ?_
  refine AW.seq' ?_
  refine AW.region ?_
  refine AO.c ?_
  refine AO.nil ?_
  refine SQ.normal ?_
  refine AW.seq' ?_
  refine AW.seq' ?_
  refine AW.region ?_
  refine AO.c ?_
  refine AO.c ?_
  refine AO.nil ?_
  refine SQ.normal ?_
  refine AW.iteB (GL.ev _) (fun h0 => ?_) (fun h0 => ?_)
  · skip
    try simp only [Bool.and_eq_true, Bool.or_eq_true, Bool.not_eq_true', Bool.and_eq_false_iff, Bool.or_eq_false_iff, decide_eq_true_eq, decide_eq_false_iff_not, bys_length] at h0
    refine AW.seq' ?_
    refine AW.region ?_
    refine AO.c ?_
    refine AO.nil ?_
    refine SQ.normal ?_
    refine AW.ret ?_
    refine SQ.ret ?_
    refine Fin.ret (Gh.refl) noid1 ?_
    show AV.v _ = AV.v _
    unfold segNo
    repeat (first | rw [if_pos (by omega)] | rw [if_neg (by omega)])
  · skip
    try simp only [Bool.and_eq_true, Bool.or_eq_true, Bool.not_eq_true', Bool.and_eq_false_iff, Bool.or_eq_false_iff, decide_eq_true_eq, decide_eq_false_iff_not, bys_length] at h0
    refine AW.skip ?_
    refine SQ.normal ?_
    refine AW.seq' ?_
    refine AW.seq' ?_
    refine AW.region ?_
    refine AO.c ?_
    refine AO.c ?_
    refine AO.nil ?_
    refine SQ.normal ?_
    refine AW.iteB (GL.ev _) (fun h1 => ?_) (fun h1 => ?_)
    · skip
      try simp only [Bool.and_eq_true, Bool.or_eq_true, Bool.not_eq_true', Bool.and_eq_false_iff, Bool.or_eq_false_iff, decide_eq_true_eq, decide_eq_false_iff_not, bys_length] at h1
      refine AW.seq' ?_
      refine AW.region ?_
      refine AO.c ?_
      refine AO.nil ?_
      refine SQ.normal ?_
      refine AW.ret ?_
      refine SQ.ret ?_
      refine Fin.ret (Gh.refl) noid1 ?_
      show AV.v _ = AV.v _
      unfold segNo
      repeat (first | rw [if_pos (by omega)] | rw [if_neg (by omega)])
    · skip
      try simp only [Bool.and_eq_true, Bool.or_eq_true, Bool.not_eq_true', Bool.and_eq_false_iff, Bool.or_eq_false_iff, decide_eq_true_eq, decide_eq_false_iff_not, bys_length] at h1
      refine AW.skip ?_
      refine SQ.normal ?_
      refine AW.seq' ?_
      refine AW.region ?_
      refine AO.c ?_
      refine AO.nil ?_
      refine SQ.normal ?_
      refine AW.ret ?_
      refine Fin.ret (Gh.refl) noid1 ?_
      show AV.v _ = AV.v _
      unfold segNo
      repeat (first | rw [if_pos (by omega)] | rw [if_neg (by omega)])
set_option maxHeartbeats 1000000 in
theorem ref_Full (p : PlanD) (s : Int) : A0 Try.prog 112 [.agg (planA p), .v (.int .i64 (s))] (fun ret => ret = .v (.bool (fullB p s))) := by
  refine A0.body 22 Try.func112 rfl rfl Try.ntmps112 fun base n0 => ?_
  refine AW.seq' ?_
  refine AW.region ?_
  refine AO.ww ?_
  refine AO.c ?_
  refine AO.nil ?_
  refine SQ.normal ?_
  refine AW.seq' ?_
  refine AW.seq' ?_
  refine AW.region ?_
  refine AO.c ?_
  refine AO.nil ?_
  refine SQ.normal ?_
  refine AW.block' ?_
  refine AW.loopU [.f, .k, .k, .f, .f, .k, .F, .F] (fun (i : Nat) => [(5, .v (.int .i64 (i)))]) (fun i => Hn n0 [some (.box 90 (planA p))]) (fun m i => i ≤ 8 ∧ m = 8 - i ∧ (List.range i).any (fun i => decide (segNo i = s) && decide ((p.o i).size > 0)) = false) (8) (0) ⟨by omega, by omega, rfl⟩ (by first | rfl | (simp; done)) (by first | rfl | (simp; done)) ?_
  rintro m0 i ⟨hx1, hx2, hx3⟩
  refine AW.seq' ?_
  refine AW.seq' ?_
  refine AW.region ?_
  refine AO.c ?_
  refine AO.c ?_
  refine AO.nil ?_
  refine SQ.normal ?_
  refine AW.iteB (GL.ev _) (fun h0 => ?_) (fun h0 => ?_)
  · skip
    rw [decide_eq_true_eq] at h0
    have hi : i < 8 := by omega
    refine AW.skip ?_
    refine SQ.normal ?_
    refine AW.seq' ?_
    refine AW.block' ?_
    refine AW.seq' ?_
    refine AW.region ?_
    refine AO.c ?_
    refine AO.call1 Try.func152 rfl rfl (ref_Segment i hi) ?_
    refine AO.c ?_
    refine AO.c ?_
    refine AO.c ?_
    refine AO.gx ?_
    refine AO.gx ?_
    refine AO.gxo (fun _ => by omega) ?_
    refine AO.gx ?_
    refine AO.gxldB (.v (.int .i64 (p.o i).size)) (fun _ => plan_size p hi) ?_
    refine AO.gx ?_
    refine AO.c ?_
    refine AO.nil ?_
    refine SQ.normal ?_
    refine AW.iteB (GL.ev _) (fun h1 => ?_) (fun h1 => ?_)
    · skip
      have e : fullB p s = true := any_range_true hi h1
      refine AW.seq' ?_
      refine AW.region ?_
      refine AO.c ?_
      refine AO.nil ?_
      refine SQ.normal ?_
      refine AW.ret ?_
      refine BQ.ret <| SQ.ret <| AW.out <| LU.ret <| BQ.ret <| SQ.ret ?_
      refine Fin.ret (Gh.refl) noid1 ?_
      rw [e]; rfl
    · skip
      have e : (List.range (i + 1)).any (fun i => decide (segNo i = s) && decide ((p.o i).size > 0)) = false := by
        rw [any_range_succ, hx3, h1]; rfl
      refine AW.skip ?_
      refine BQ.normal ?_
      refine SQ.normal ?_
      refine AW.region ?_
      refine AO.c ?_
      refine AO.oo ?_
      refine AO.c ?_
      refine AO.nil ?_
      exact AW.backU [.f, .k, .k, .f, .f, .k, .F, .F] (m0 - 1) (i + 1) (by omega) (by (try dsimp only); exact ⟨by omega, by omega, e⟩) (by first | rfl | (simp; done)) (by first | rfl | (simp; done))
  · skip
    rw [decide_eq_false_iff_not] at h0
    have e : fullB p s = false := by
      unfold fullB
      rw [show i = 8 by omega] at hx3; exact hx3
    refine AW.exit ?_
    refine SQ.exit <| AW.out <| LU.exit <| BQ.exit ?_
    refine SQ.normal ?_
    refine AW.seq' ?_
    refine AW.region ?_
    refine AO.c ?_
    refine AO.nil ?_
    refine SQ.normal ?_
    refine AW.ret ?_
    refine Fin.ret (Gh.refl) noid1 ?_
    rw [e]; rfl

end Go.Proofs.Ytlapfdfbgckfcaa.AL
