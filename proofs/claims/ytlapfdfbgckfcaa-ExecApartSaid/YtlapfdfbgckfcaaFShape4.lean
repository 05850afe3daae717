/- What functions of the program compute, each by its own contract; the conditions stand with each. -/
import Derived.Test.YtlapfdfbgckfcaaFShape3
namespace Go.Proofs.Ytlapfdfbgckfcaa.AL
open Go Go.RowKit Go.Proofs.Ytlapfdfbgckfcaa.Base
set_option linter.unusedVariables false
set_option linter.unusedSimpArgs false
set_option maxRecDepth 4000
set_option synthInstance.maxSize 1000
set_option synthInstance.maxHeartbeats 200000

@[reducible] def emptyS : ByteArray := { data := #[] }
def symbolB (o : ObjD) (n : Int) : Bool :=
  bif decide (n = 0) then decide ((o.syms.getD n.toNat default).name.toList = emptyS.toList) && decide ((o.syms.getD n.toNat default).bind = 0) && decide ((o.syms.getD n.toNat default).typ = 0) && decide ((o.syms.getD n.toNat default).sec = 0) && decide ((o.syms.getD n.toNat default).val = 0) && decide ((o.syms.getD n.toNat default).size = 0)
  else bif !nameB (o.syms.getD n.toNat default).name || decide ((o.syms.getD n.toNat default).bind < 0) || decide ((o.syms.getD n.toNat default).bind > 2) || decide ((o.syms.getD n.toNat default).typ < 0) || decide ((o.syms.getD n.toNat default).typ > 3) || decide ((o.syms.getD n.toNat default).size < 0) || decide ((o.syms.getD n.toNat default).size > 2147483647) then false
  else bif decide ((o.syms.getD n.toNat default).sec < -1) || decide ((o.syms.getD n.toNat default).sec > o.secs.length) || decide ((o.syms.getD n.toNat default).val < 0) || decide ((o.syms.getD n.toNat default).val > 2147483647) then false
  else bif decide ((o.syms.getD n.toNat default).sec = 0) && decide ((o.syms.getD n.toNat default).val > 0) || decide ((o.syms.getD n.toNat default).sec > 0) && decide ((o.syms.getD n.toNat default).val > (o.secs.getD ((o.syms.getD n.toNat default).sec - 1).toNat default).size) then false
  else bif decide ((o.syms.getD n.toNat default).bind = 0) then decide ((o.syms.getD n.toNat default).sec ≠ 0) && decide ((o.syms.getD (n - 1).toNat default).bind = 0)
  else decide ((o.syms.getD n.toNat default).name.toList ≠ emptyS.toList)
def memB (N : Int) (l : List Int) (k : Nat) : Bool := decide (l.getD k default < 1) || decide (l.getD k default > N) || (decide ((k : Int) > 0) && decide (l.getD k default ≤ l.getD ((k : Int) - 1).toNat default))
def grpB (o : ObjD) (g : GrpD) : Bool := (decide (1 ≤ g.sym) && decide (g.sym < o.syms.length) && decide (g.mem.length ≠ 0)) && (List.range g.mem.length).all fun k => !memB o.secs.length g.mem k
def shapeB (o : ObjD) : Bool :=
  !(decide ((o.secs.length : Int) > 32) || decide ((o.syms.length : Int) < 1) || decide ((o.syms.length : Int) > 128) || (!o.hasSig && decide ((o.sig.length : Int) > 0))) && o.groups.all (grpB o) &&
  ((List.range o.secs.length).all fun k => sectionB o ((k : Int) + 1)) && ((List.range o.syms.length).all fun k => symbolB o k) && o.sig.all fun x => decide (0 ≤ x) && decide (x < o.syms.length)
theorem all_take_succ {α : Type} [Inhabited α] {p : α → Bool} {l : List α} {i : Nat} (h : i < l.length) : (l.take (i + 1)).all p = ((l.take i).all p && p (l.getD i default)) := by
  rw [List.take_add_one, List.all_append]; simp [h]
theorem all_false_at {α : Type} [Inhabited α] {p : α → Bool} {l : List α} {i : Nat} (h : i < l.length) (hp : p (l.getD i default) = false) : l.all p = false := by
  rw [List.all_eq_false]
  refine ⟨l[i], List.getElem_mem h, ?_⟩
  have : l.getD i default = l[i] := by simp [h]
  rw [← this, hp]; simp
theorem range_all_succ {p : Nat → Bool} {i : Nat} : (List.range (i + 1)).all p = ((List.range i).all p && p i) := by
  rw [List.range_succ, List.all_append]; simp
theorem range_all_false {p : Nat → Bool} {n i : Nat} (h : i < n) (hp : p i = false) : (List.range n).all p = false := by
  rw [List.all_eq_false]
  exact ⟨i, List.mem_range.2 h, by rw [hp]; simp⟩

set_option maxHeartbeats 1000000 in
theorem ref_symbol (o : ObjD) (n : Int) (ho : o.ok) (hn : 0 ≤ n ∧ n < o.syms.length) : A0 Try.prog 76 [.agg (objA o), .v (.int .i64 (n))] (fun ret => ret = .v (.bool (symbolB o n))) := by
  have hl := ho.2.2.1
  rw [maxLen_eq] at hl
  have hl0 := ho.1
  rw [maxLen_eq] at hl0
  have hi : n.toNat < o.syms.length := by omega
  have hs := symOk_at ho.2.2.2.1 hi
  have hsec := hs.2.2.2.1
  unfold I64 at hsec
  refine A0.body 143 Try.func76 rfl rfl Try.ntmps76 fun base n0 => ?_
  refine AW.seq' ?_
  refine AW.region ?_
  refine AO.ww ?_
  refine AO.c ?_
  refine AO.nil ?_
  refine SQ.normal ?_
  refine AW.seq' ?_
  refine AW.region ?_
  refine AO.c ?_
  refine AO.c ?_
  refine AO.c ?_
  refine AO.oo ?_
  refine AO.c ?_
  refine AO.ww ?_
  refine AO.sst ?_
  refine AO.nil ?_
  refine SQ.normal ?_
  refine AW.seq' ?_
  refine AW.seq' ?_
  refine AW.region ?_
  refine AO.c ?_
  refine AO.c ?_
  refine AO.nil ?_
  refine SQ.normal ?_
  refine AW.iteB (GL.ev _) (fun h0 => ?_) (fun h0 => ?_)
  · skip
    skip
    refine AW.seq' ?_
    refine AW.region ?_
    refine AO.c ?_
    refine AO.c ?_
    refine AO.c ?_
    refine AO.c ?_
    refine AO.gx ?_
    refine AO.gx ?_
    refine AO.gx ?_
    refine AO.c ?_
    refine AO.c ?_
    refine AO.gx ?_
    refine AO.gx ?_
    refine AO.gx ?_
    refine AO.c ?_
    refine AO.c ?_
    refine AO.gx ?_
    refine AO.gx ?_
    refine AO.gx ?_
    refine AO.c ?_
    refine AO.c ?_
    refine AO.gx ?_
    refine AO.gx ?_
    refine AO.gx ?_
    refine AO.c ?_
    refine AO.c ?_
    refine AO.gx ?_
    refine AO.gx ?_
    refine AO.gx ?_
    refine AO.c ?_
    refine AO.c ?_
    refine AO.nil ?_
    refine SQ.normal ?_
    refine AW.ret ?_
    refine SQ.ret ?_
    refine Fin.ret (Gh.refl) noid1 ?_
    unfold symbolB; simp only [*, cond_true, cond_false]; rfl
  · skip
    skip
    refine AW.skip ?_
    refine SQ.normal ?_
    refine AW.seq' ?_
    refine AW.region ?_
    refine AO.c ?_
    refine AO.c ?_
    refine AO.call1 Try.func119 rfl rfl (ref_Name _ hs.1) ?_
    refine AO.c ?_
    refine AO.nil ?_
    refine SQ.normal ?_
    refine AW.seq' ?_
    refine AW.seq' ?_
    refine AW.region ?_
    refine AO.c ?_
    refine AO.c ?_
    refine AO.c ?_
    refine AO.gx ?_
    refine AO.gx ?_
    refine AO.gx ?_
    refine AO.c ?_
    refine AO.c ?_
    refine AO.gx ?_
    refine AO.gx ?_
    refine AO.gx ?_
    refine AO.c ?_
    refine AO.c ?_
    refine AO.gx ?_
    refine AO.gx ?_
    refine AO.gx ?_
    refine AO.c ?_
    refine AO.c ?_
    refine AO.gx ?_
    refine AO.gx ?_
    refine AO.gx ?_
    refine AO.c ?_
    refine AO.c ?_
    refine AO.gx ?_
    refine AO.gx ?_
    refine AO.gx ?_
    refine AO.c ?_
    refine AO.c ?_
    refine AO.gx ?_
    refine AO.gx ?_
    refine AO.gx ?_
    refine AO.c ?_
    refine AO.nil ?_
    refine SQ.normal ?_
    refine AW.iteB (GL.ev _) (fun h1 => ?_) (fun h1 => ?_)
    · skip
      skip
      refine AW.seq' ?_
      refine AW.region ?_
      refine AO.c ?_
      refine AO.nil ?_
      refine SQ.normal ?_
      refine AW.ret ?_
      refine SQ.ret ?_
      refine Fin.ret (Gh.refl) noid1 ?_
      unfold symbolB; simp only [*, cond_true, cond_false]; rfl
    · skip
      skip
      refine AW.skip ?_
      refine SQ.normal ?_
      refine AW.seq' ?_
      refine AW.seq' ?_
      refine AW.region ?_
      refine AO.c ?_
      refine AO.c ?_
      refine AO.c ?_
      refine AO.c ?_
      refine AO.gx ?_
      refine AO.gx ?_
      refine AO.gx ?_
      refine AO.gx ?_
      refine AO.gx ?_
      refine AO.gx ?_
      refine AO.c ?_
      refine AO.c ?_
      refine AO.gx ?_
      refine AO.gx ?_
      refine AO.gx ?_
      refine AO.c ?_
      refine AO.c ?_
      refine AO.gx ?_
      refine AO.gx ?_
      refine AO.gx ?_
      refine AO.c ?_
      refine AO.nil ?_
      refine SQ.normal ?_
      refine AW.iteB (GL.ev _) (fun h2 => ?_) (fun h2 => ?_)
      · skip
        skip
        refine AW.seq' ?_
        refine AW.region ?_
        refine AO.c ?_
        refine AO.nil ?_
        refine SQ.normal ?_
        refine AW.ret ?_
        refine SQ.ret ?_
        refine Fin.ret (Gh.refl) noid1 ?_
        unfold symbolB; simp only [*, cond_true, cond_false]; rfl
      · skip
        skip
        refine AW.skip ?_
        refine SQ.normal ?_
        refine AW.seq' ?_
        refine AW.seq' ?_
        refine AW.drawsZ [] (.one 0 false (.one 1 false (.one 2 false (.one 3 false (.one 4 false (.one 5 false (.one 6 false (.one 7 false (.one 8 false (.one 9 false (.one 10 false (.one 11 false (.one 12 false (.one 13 false (.one 14 false (.one 15 false (.one 16 false (.one 17 false (.one 18 false (.one 19 false (.one 20 false (.one 21 false (.one 22 false (.one 23 false (.one 24 false (.one 25 false .nil)))))))))))))))))))))))))) (by kernel_rfl) rfl (by kernel_rfl) ?_
        refine AZ.c rfl ?_
        refine AZ.c rfl ?_
        refine AZ.c rfl ?_
        refine AZ.c rfl ?_
        refine AZ.gx rfl ?_
        refine AZ.gx rfl ?_
        refine AZ.gx rfl ?_
        refine AZ.c rfl ?_
        refine AZ.c rfl ?_
        refine AZ.gx rfl ?_
        refine AZ.gx rfl ?_
        refine AZ.gx rfl ?_
        refine AZ.gx rfl ?_
        refine AZ.gx rfl ?_
        refine AZ.gx rfl ?_
        refine AZ.gx rfl ?_
        refine AZ.gx rfl ?_
        refine AZ.gx rfl ?_
        refine AZ.gx rfl ?_
        refine AZ.gxo rfl (fun h => by simp only [Bool.and_eq_true, decide_eq_true_eq] at h; omega) ?_
        refine AZ.gxo rfl (fun h => by simp only [Bool.and_eq_true, decide_eq_true_eq] at h; simp only [Bool.or_eq_false_iff, decide_eq_false_iff_not] at h2; omega) ?_
        refine AZ.gx rfl ?_
        refine AZ.gx rfl ?_
        refine AZ.gx rfl ?_
        refine AZ.gx rfl ?_
        refine AZ.c rfl ?_
        refine AZ.done ?_
        refine SQ.normal ?_
        refine AW.iteB (GL.ev _) (fun h3 => ?_) (fun h3 => ?_)
        · skip
          skip
          refine AW.seq' ?_
          refine AW.region ?_
          refine AO.c ?_
          refine AO.nil ?_
          refine SQ.normal ?_
          refine AW.ret ?_
          refine SQ.ret ?_
          refine Fin.ret (Gh.refl) noid1 ?_
          unfold symbolB; simp only [*, cond_true, cond_false]; rfl
        · skip
          skip
          refine AW.skip ?_
          refine SQ.normal ?_
          refine AW.seq' ?_
          refine AW.seq' ?_
          refine AW.region ?_
          refine AO.c ?_
          refine AO.c ?_
          refine AO.c ?_
          refine AO.nil ?_
          refine SQ.normal ?_
          refine AW.iteB (GL.ev _) (fun h4 => ?_) (fun h4 => ?_)
          · skip
            skip
            refine AW.seq' ?_
            refine AW.region ?_
            refine AO.c ?_
            refine AO.c ?_
            refine AO.c ?_
            refine AO.c ?_
            refine AO.gx ?_
            refine AO.gx ?_
            refine AO.gx ?_
            refine AO.gxo (fun h => by simp only [decide_eq_false_iff_not] at h0; omega) ?_
            refine AO.gxo (fun h => by simp only [decide_eq_false_iff_not] at h0; omega) ?_
            refine AO.gx ?_
            refine AO.gx ?_
            refine AO.gx ?_
            refine AO.c ?_
            refine AO.c ?_
            refine AO.nil ?_
            refine SQ.normal ?_
            refine AW.ret ?_
            refine SQ.ret ?_
            refine Fin.ret (Gh.refl) noid1 ?_
            unfold symbolB; simp only [*, cond_true, cond_false]; rfl
          · skip
            skip
            refine AW.skip ?_
            refine SQ.normal ?_
            refine AW.seq' ?_
            refine AW.region ?_
            refine AO.c ?_
            refine AO.c ?_
            refine AO.c ?_
            refine AO.c ?_
            refine AO.nil ?_
            refine SQ.normal ?_
            refine AW.ret ?_
            refine Fin.ret (Gh.refl) noid1 ?_
            unfold symbolB; simp only [*, cond_true, cond_false]; rfl
set_option maxHeartbeats 1000000 in
theorem ref_Shape (o : ObjD) (ho : o.ok) (hg : GSmall o.groups) : A0 Try.prog 42 [.agg (objA o)] (fun ret => ret = .v (.bool (shapeB o))) := by
  have ho0 := ho
  obtain ⟨q1, q2, q3, q4, q5, q6, q7, q8⟩ := ho
  rw [maxLen_eq] at q1 q3 q5 q7
  have hg1 := hg.1
  refine A0.body 157 Try.func42 rfl rfl Try.ntmps42 fun base n0 => ?_
  refine AW.seq' ?_
  refine AW.region ?_
  refine AO.ww ?_
  refine AO.c ?_
  refine AO.nil ?_
  refine SQ.normal ?_
  refine AW.seq' ?_
  refine AW.seq' ?_
  refine AW.region ?_
  refine AO.c ?_
  refine AO.c ?_
  refine AO.c ?_
  refine AO.c ?_
  refine AO.c ?_
  refine AO.gx ?_
  refine AO.gx ?_
  refine AO.gx ?_
  refine AO.gx ?_
  refine AO.c ?_
  refine AO.c ?_
  refine AO.gx ?_
  refine AO.gx ?_
  refine AO.gx ?_
  refine AO.gx ?_
  refine AO.c ?_
  refine AO.c ?_
  refine AO.gx ?_
  refine AO.gx ?_
  refine AO.gx ?_
  refine AO.gx ?_
  refine AO.gx ?_
  refine AO.gx ?_
  refine AO.gx ?_
  refine AO.gx ?_
  refine AO.gx ?_
  refine AO.c ?_
  refine AO.nil ?_
  refine SQ.normal ?_
  refine AW.iteB (GL.ev _) (fun h0 => ?_) (fun h0 => ?_)
  · skip
    skip
    refine AW.seq' ?_
    refine AW.region ?_
    refine AO.c ?_
    refine AO.nil ?_
    refine SQ.normal ?_
    refine AW.ret ?_
    refine SQ.ret ?_
    refine Fin.ret (Gh.refl) noid1 ?_
    unfold shapeB; rw [h0]; rfl
  · skip
    have hs32 : o.secs.length ≤ 32 := by
      have h := h0
      simp only [Bool.or_eq_false_iff, decide_eq_false_iff_not] at h
      omega
    refine AW.skip ?_
    refine SQ.normal ?_
    refine AW.seq' ?_
    refine AW.seq' ?_
    refine AW.region ?_
    refine AO.c ?_
    refine AO.nil ?_
    refine SQ.normal ?_
    refine AW.block' ?_
    refine AW.loopU2 [.f, .k, .f, .k, .F, .F, .F, .F, .F, .F, .F, .F, .F, .F, .F, .F, .F, .F, .F, .F, .F, .F, .F, .f] (fun (i j : Nat) => [(3, .v (.int .i64 (i)))]) (fun i j => Hn n0 (([some (.box 52 (objA o))] ++ List.replicate j none) ++ [])) (fun m i j => i ≤ o.groups.length ∧ m = o.groups.length - i ∧ (o.groups.take i).all (grpB o) = true) (o.groups.length) (0) (0) ⟨by omega, by omega, rfl⟩ (by first | rfl | (simp; done)) (by first | rfl | (simp; done)) ?_
    rintro m0 i j ⟨hx1, hx2, hx3⟩
    refine AW.seq' ?_
    refine AW.seq' ?_
    refine AW.region ?_
    refine AO.c ?_
    refine AO.c ?_
    refine AO.c ?_
    refine AO.c ?_
    refine AO.c ?_
    refine AO.nil ?_
    refine SQ.normal ?_
    refine AW.iteB (GL.ev _) (fun h1 => ?_) (fun h1 => ?_)
    · skip
      have hlt : i < o.groups.length := by simpa using h1
      have hm := gsm_at hg hlt
      refine AW.skip ?_
      refine SQ.normal ?_
      refine AW.seq' ?_
      refine AW.block' ?_
      refine AW.seq' ?_
      refine AW.region ?_
      refine AO.c ?_
      refine AO.c ?_
      refine AO.c ?_
      refine AO.oo ?_
      refine AO.c ?_
      refine AO.ww ?_
      refine AO.sst ?_
      refine AO.nil ?_
      refine SQ.normal ?_
      refine AW.seq' ?_
      refine AW.seq' ?_
      refine AW.region ?_
      refine AO.c ?_
      refine AO.c ?_
      refine AO.c ?_
      refine AO.c ?_
      refine AO.gx ?_
      refine AO.gx ?_
      refine AO.gx ?_
      refine AO.gx ?_
      refine AO.gx ?_
      refine AO.gx ?_
      refine AO.c ?_
      refine AO.c ?_
      refine AO.gx ?_
      refine AO.gx ?_
      refine AO.gx ?_
      refine AO.gx ?_
      refine AO.c ?_
      refine AO.nil ?_
      refine SQ.normal ?_
      refine AW.iteB (GL.ev _) (fun h2 => ?_) (fun h2 => ?_)
      · skip
        skip
        refine AW.seq' ?_
        refine AW.region ?_
        refine AO.c ?_
        refine AO.nil ?_
        refine SQ.normal ?_
        refine AW.ret ?_
        refine SQ.ret <| BQ.ret <| SQ.ret <| AW.out <| LU.ret <| BQ.ret <| SQ.ret ?_
        refine Fin.ret (Gh.refl) noid1 ?_
        have : o.groups.all (grpB o) = false := by
          refine all_false_at hlt ?_
          unfold grpB
          have : (decide (1 ≤ (o.groups.getD i default).sym) && decide ((o.groups.getD i default).sym < o.syms.length) && decide ((o.groups.getD i default).mem.length ≠ 0)) = false := by
            rw [← Bool.not_eq_true]
            simp only [Bool.or_eq_true, Bool.and_eq_true, decide_eq_true_eq] at h2 ⊢
            omega
          rw [this]; rfl
        unfold shapeB; rw [this, Bool.and_false]; rfl
      · skip
        simp only [Bool.or_eq_false_iff, decide_eq_false_iff_not] at h2
        refine AW.skip ?_
        refine SQ.normal ?_
        refine AW.seq' ?_
        refine AW.region ?_
        refine AO.c ?_
        refine AO.nil ?_
        refine SQ.normal ?_
        refine AW.block' ?_
        refine AW.loopU2 [.f, .k, .f, .k, .k, .k, .F, .F, .F, .F, .F, .F, .F, .F, .F, .F, .F, .F, .F, .F, .F, .F, .F, .F, .f, .f, .f, .f, .f, .f, .f] (fun (k jj : Nat) => [(5, .v (.int .i64 (k)))]) (fun k jj => Hn n0 ((([some (.box 52 (objA o))] ++ List.replicate j none ++ [some (.box 107 (grpA (o.groups.getD i default)))]) ++ List.replicate jj none) ++ [])) (fun m k jj => k ≤ (o.groups.getD i default).mem.length ∧ m = (o.groups.getD i default).mem.length - k ∧ ((List.range k).all fun k => !memB o.secs.length (o.groups.getD i default).mem k) = true) ((o.groups.getD i default).mem.length) (0) (0) ⟨by omega, by omega, rfl⟩ (by first | rfl | (simp; done)) (by first | rfl | (simp; done)) ?_
        rintro m1 k jj ⟨hk1, hk2, hk3⟩
        refine AW.seq' ?_
        refine AW.seq' ?_
        refine AW.region ?_
        refine AO.c ?_
        refine AO.c ?_
        refine AO.c ?_
        refine AO.c ?_
        refine AO.c ?_
        refine AO.nil ?_
        refine SQ.normal ?_
        refine AW.iteB (GL.ev _) (fun h3 => ?_) (fun h3 => ?_)
        · skip
          have hk : k < (o.groups.getD i default).mem.length := by simpa using h3
          refine AW.skip ?_
          refine SQ.normal ?_
          refine AW.seq' ?_
          refine AW.block' ?_
          refine AW.seq' ?_
          refine AW.drawsZ [] (.one 0 false (.one 1 false (.one 2 false (.one 3 false (.one 4 false (.one 5 false (.one 6 false (.one 7 false (.one 8 false (.one 9 false (.one 10 false (.one 11 false (.one 12 false (.one 13 false (.one 14 false (.one 15 false (.one 16 false (.one 17 false (.one 18 false (.one 19 false (.one 20 false (.one 21 false (.one 22 false (.one 23 false (.one 24 false (.one 25 false (.one 26 false (.one 27 false (.one 28 false (.one 29 false (.one 30 false (.one 31 false (.one 32 false (.one 33 false (.one 34 false .nil))))))))))))))))))))))))))))))))))) (by kernel_rfl) rfl (by kernel_rfl) ?_
          refine AZ.c rfl ?_
          refine AZ.c rfl ?_
          refine AZ.c rfl ?_
          refine AZ.oo rfl ?_
          refine AZ.c rfl ?_
          refine AZ.c rfl ?_
          refine AZ.c rfl ?_
          refine AZ.gx rfl ?_
          refine AZ.gx rfl ?_
          refine AZ.gx rfl ?_
          refine AZ.gxoo rfl ?_
          refine AZ.gx rfl ?_
          refine AZ.gx rfl ?_
          refine AZ.gx rfl ?_
          refine AZ.gx rfl ?_
          refine AZ.gx rfl ?_
          refine AZ.c rfl ?_
          refine AZ.c rfl ?_
          refine AZ.gx rfl ?_
          refine AZ.gx rfl ?_
          refine AZ.gx rfl ?_
          refine AZ.gx rfl ?_
          refine AZ.gx rfl ?_
          refine AZ.gx rfl ?_
          refine AZ.gxoo rfl ?_
          refine AZ.gx rfl ?_
          refine AZ.gx rfl ?_
          refine AZ.gx rfl ?_
          refine AZ.gx rfl ?_
          refine AZ.gxoo rfl ?_
          refine AZ.gxoo rfl ?_
          refine AZ.gx rfl ?_
          refine AZ.gx rfl ?_
          refine AZ.gx rfl ?_
          refine AZ.c rfl ?_
          refine AZ.done ?_
          refine SQ.normal ?_
          refine AW.iteB (GL.ev _) (fun h4 => ?_) (fun h4 => ?_)
          · skip
            skip
            refine AW.seq' ?_
            refine AW.region ?_
            refine AO.c ?_
            refine AO.nil ?_
            refine SQ.normal ?_
            refine AW.ret ?_
            refine BQ.ret <| SQ.ret <| AW.out <| LU.ret <| BQ.ret <| BQ.ret <| SQ.ret <| AW.out <| LU.ret <| BQ.ret <| SQ.ret ?_
            refine Fin.ret (Gh.refl) noid1 ?_
            have : o.groups.all (grpB o) = false := by
              refine all_false_at hlt ?_
              unfold grpB
              rw [range_all_false hk (by unfold memB; rw [h4]; rfl), Bool.and_false]
            unfold shapeB; rw [this, Bool.and_false]; rfl
          · skip
            have hk4 : ((List.range (k + 1)).all fun k => !memB o.secs.length (o.groups.getD i default).mem k) = true := by
              rw [range_all_succ, hk3]
              unfold memB
              rw [h4]; rfl
            refine AW.skip ?_
            refine BQ.normal ?_
            refine SQ.normal ?_
            refine AW.region ?_
            refine AO.c ?_
            refine AO.oo ?_
            refine AO.c ?_
            refine AO.nil ?_
            exact AW.backU [.f, .k, .f, .k, .k, .k, .F, .F, .F, .F, .F, .F, .F, .F, .F, .F, .F, .F, .F, .F, .F, .F, .F, .F, .f, .f, .f, .f, .f, .f, .f] (m1 - 1) (k + 1, jj) (by omega) (by (try dsimp only); exact ⟨by omega, by omega, hk4⟩) (by first | rfl | (simp; done)) (by first | rfl | (simp; done))
        · skip
          have hgi : (o.groups.take (i + 1)).all (grpB o) = true := by
            rw [all_take_succ hlt, hx3]
            have e : k = (o.groups.getD i default).mem.length := by simp only [decide_eq_false_iff_not] at h3; omega
            rw [e] at hk3
            unfold grpB
            rw [hk3, decide_eq_true (by omega), decide_eq_true (by omega), decide_eq_true (by omega)]; rfl
          refine AW.exit ?_
          refine SQ.exit <| AW.out <| LU.exit <| BQ.exit ?_
          refine BQ.normal ?_
          refine SQ.normal ?_
          refine AW.region ?_
          refine AO.c ?_
          refine AO.oo ?_
          refine AO.c ?_
          refine AO.nil ?_
          exact AW.backD [.f, .k, .f, .k, .F, .F, .F, .F, .F, .F, .F, .F, .F, .F, .F, .F, .F, .F, .F, .F, .F, .F, .F, .f] ([some (.box 52 (objA o))]) (j) (m0 - 1) (i + 1, j + jj + 1) (by omega) (by (try dsimp only); exact ⟨by omega, by omega, hgi⟩) (by first | rfl | (simp; done)) (by simp [Nat.add_assoc, Nat.add_comm])
    · skip
      have hgs : o.groups.all (grpB o) = true := by
        rw [← hx3, List.take_of_length_le]
        simp at h1; omega
      refine AW.exit ?_
      refine SQ.exit <| AW.out <| LU.exit <| BQ.exit ?_
      refine SQ.normal ?_
      refine AW.seq' ?_
      refine AW.seq' ?_
      refine AW.region ?_
      refine AO.c ?_
      refine AO.nil ?_
      refine SQ.normal ?_
      refine AW.block' ?_
      refine AW.loopU2 [.f, .k, .f, .f, .f, .f, .k, .F, .F, .F, .F, .F, .F, .F, .F, .F, .F, .F, .F, .F, .F, .F, .F, .F, .F, .f, .f, .f, .f, .f, .f] (fun (i j : Nat) => [(6, .v (.int .i64 ((i : Int) + 1)))]) (fun i j => Hn n0 (([some (.box 52 (objA o))] ++ List.replicate j none) ++ [])) (fun m i j => i ≤ o.secs.length ∧ m = o.secs.length - i ∧ ((List.range i).all fun k => sectionB o ((k : Int) + 1)) = true) (o.secs.length) (0) (j) ⟨by omega, by omega, rfl⟩ (by first | rfl | (simp; done)) (by first | rfl | (simp; done)) ?_
      rintro m2 i j ⟨hx1, hx2, hx3⟩
      refine AW.seq' ?_
      refine AW.seq' ?_
      refine AW.region ?_
      refine AO.c ?_
      refine AO.c ?_
      refine AO.c ?_
      refine AO.c ?_
      refine AO.c ?_
      refine AO.nil ?_
      refine SQ.normal ?_
      refine AW.iteB (GL.ev _) (fun h5 => ?_) (fun h5 => ?_)
      · skip
        have hlt : i < o.secs.length := by simp only [decide_eq_true_eq] at h5; omega
        refine AW.skip ?_
        refine SQ.normal ?_
        refine AW.seq' ?_
        refine AW.block' ?_
        refine AW.seq' ?_
        refine AW.region ?_
        refine AO.c ?_
        refine AO.c ?_
        refine AO.call1 Try.func75 rfl rfl (ref_section _ _ (by assumption) (by assumption) ⟨by omega, by omega⟩) ?_
        refine AO.c ?_
        refine AO.nil ?_
        refine SQ.normal ?_
        refine AW.seq' ?_
        refine AW.region ?_
        refine AO.c ?_
        refine AO.c ?_
        refine AO.nil ?_
        refine SQ.normal ?_
        refine AW.iteB (GL.ev _) (fun h6 => ?_) (fun h6 => ?_)
        · skip
          skip
          refine AW.seq' ?_
          refine AW.region ?_
          refine AO.c ?_
          refine AO.nil ?_
          refine SQ.normal ?_
          refine AW.ret ?_
          refine BQ.ret <| SQ.ret <| AW.out <| LU.ret <| BQ.ret <| SQ.ret ?_
          refine Fin.ret (Gh.refl) noid1 ?_
          have : ((List.range o.secs.length).all fun k => sectionB o ((k : Int) + 1)) = false := range_all_false hlt (by simpa using h6)
          unfold shapeB; rw [this, Bool.and_false]; rfl
        · skip
          have hi : ((List.range (i + 1)).all fun k => sectionB o ((k : Int) + 1)) = true := by
            rw [range_all_succ, hx3]
            simpa using h6
          refine AW.skip ?_
          refine BQ.normal ?_
          refine SQ.normal ?_
          refine AW.region ?_
          refine AO.c ?_
          refine AO.oo ?_
          refine AO.c ?_
          refine AO.nil ?_
          exact AW.backU [.f, .k, .f, .f, .f, .f, .k, .F, .F, .F, .F, .F, .F, .F, .F, .F, .F, .F, .F, .F, .F, .F, .F, .F, .F, .f, .f, .f, .f, .f, .f] (m2 - 1) (i + 1, j) (by omega) (by (try dsimp only); exact ⟨by omega, by omega, hi⟩) (by first | rfl | (simp; done)) (by first | rfl | (simp; done))
      · skip
        have hss : ((List.range o.secs.length).all fun k => sectionB o ((k : Int) + 1)) = true := by
          rw [← hx3, show i = o.secs.length by simp only [decide_eq_false_iff_not] at h5; omega]
        refine AW.exit ?_
        refine SQ.exit <| AW.out <| LU.exit <| BQ.exit ?_
        refine SQ.normal ?_
        refine AW.seq' ?_
        refine AW.seq' ?_
        refine AW.region ?_
        refine AO.c ?_
        refine AO.nil ?_
        refine SQ.normal ?_
        refine AW.block' ?_
        refine AW.loopU2 [.f, .k, .f, .f, .f, .f, .f, .f, .k, .F, .F, .F, .F, .F, .F, .F, .F, .F, .F, .F, .F, .F, .F, .F, .F, .F, .F, .f, .f, .f, .f] (fun (i j : Nat) => [(8, .v (.int .i64 (i)))]) (fun i j => Hn n0 (([some (.box 52 (objA o))] ++ List.replicate j none) ++ [])) (fun m i j => i ≤ o.syms.length ∧ m = o.syms.length - i ∧ ((List.range i).all fun k => symbolB o k) = true) (o.syms.length) (0) (j) ⟨by omega, by omega, rfl⟩ (by first | rfl | (simp; done)) (by first | rfl | (simp; done)) ?_
        rintro m3 i j ⟨hx1, hx2, hx3⟩
        refine AW.seq' ?_
        refine AW.seq' ?_
        refine AW.region ?_
        refine AO.c ?_
        refine AO.c ?_
        refine AO.c ?_
        refine AO.c ?_
        refine AO.c ?_
        refine AO.nil ?_
        refine SQ.normal ?_
        refine AW.iteB (GL.ev _) (fun h7 => ?_) (fun h7 => ?_)
        · skip
          have hlt : i < o.syms.length := by simp only [decide_eq_true_eq] at h7; omega
          refine AW.skip ?_
          refine SQ.normal ?_
          refine AW.seq' ?_
          refine AW.block' ?_
          refine AW.seq' ?_
          refine AW.region ?_
          refine AO.c ?_
          refine AO.c ?_
          refine AO.call1 Try.func76 rfl rfl (ref_symbol _ _ (by assumption) ⟨by omega, by omega⟩) ?_
          refine AO.c ?_
          refine AO.nil ?_
          refine SQ.normal ?_
          refine AW.seq' ?_
          refine AW.region ?_
          refine AO.c ?_
          refine AO.c ?_
          refine AO.nil ?_
          refine SQ.normal ?_
          refine AW.iteB (GL.ev _) (fun h8 => ?_) (fun h8 => ?_)
          · skip
            skip
            refine AW.seq' ?_
            refine AW.region ?_
            refine AO.c ?_
            refine AO.nil ?_
            refine SQ.normal ?_
            refine AW.ret ?_
            refine BQ.ret <| SQ.ret <| AW.out <| LU.ret <| BQ.ret <| SQ.ret ?_
            refine Fin.ret (Gh.refl) noid1 ?_
            have : ((List.range o.syms.length).all fun k => symbolB o k) = false := range_all_false hlt (by simpa using h8)
            unfold shapeB; rw [this, Bool.and_false]; rfl
          · skip
            have hi : ((List.range (i + 1)).all fun k => symbolB o k) = true := by
              rw [range_all_succ, hx3]
              simpa using h8
            refine AW.skip ?_
            refine BQ.normal ?_
            refine SQ.normal ?_
            refine AW.region ?_
            refine AO.c ?_
            refine AO.oo ?_
            refine AO.c ?_
            refine AO.nil ?_
            exact AW.backU [.f, .k, .f, .f, .f, .f, .f, .f, .k, .F, .F, .F, .F, .F, .F, .F, .F, .F, .F, .F, .F, .F, .F, .F, .F, .F, .F, .f, .f, .f, .f] (m3 - 1) (i + 1, j) (by omega) (by (try dsimp only); exact ⟨by omega, by omega, hi⟩) (by first | rfl | (simp; done)) (by first | rfl | (simp; done))
        · skip
          have hys : ((List.range o.syms.length).all fun k => symbolB o k) = true := by
            rw [← hx3, show i = o.syms.length by simp only [decide_eq_false_iff_not] at h7; omega]
          refine AW.exit ?_
          refine SQ.exit <| AW.out <| LU.exit <| BQ.exit ?_
          refine SQ.normal ?_
          refine AW.seq' ?_
          refine AW.seq' ?_
          refine AW.region ?_
          refine AO.c ?_
          refine AO.nil ?_
          refine SQ.normal ?_
          refine AW.block' ?_
          refine AW.loopU2 [.f, .k, .F, .k, .F, .F, .F, .F, .F, .F, .F, .F, .F, .F, .F, .F, .F, .F, .F, .F, .F, .F, .f, .f] (fun (i j : Nat) => [(10, .v (.int .i64 (i)))]) (fun i j => Hn n0 (([some (.box 52 (objA o))] ++ List.replicate j none) ++ [])) (fun m i j => i ≤ o.sig.length ∧ m = o.sig.length - i ∧ ((o.sig.take i).all fun x => decide (0 ≤ x) && decide (x < o.syms.length)) = true) (o.sig.length) (0) (j) ⟨by omega, by omega, rfl⟩ (by first | rfl | (simp; done)) (by first | rfl | (simp; done)) ?_
          rintro m4 i j ⟨hx1, hx2, hx3⟩
          refine AW.seq' ?_
          refine AW.seq' ?_
          refine AW.region ?_
          refine AO.c ?_
          refine AO.c ?_
          refine AO.c ?_
          refine AO.c ?_
          refine AO.c ?_
          refine AO.nil ?_
          refine SQ.normal ?_
          refine AW.iteB (GL.ev _) (fun h9 => ?_) (fun h9 => ?_)
          · skip
            have hlt : i < o.sig.length := by simp only [decide_eq_true_eq] at h9; omega
            refine AW.skip ?_
            refine SQ.normal ?_
            refine AW.seq' ?_
            refine AW.block' ?_
            refine AW.seq' ?_
            refine AW.drawsZ [] (.one 0 false (.one 1 false (.one 2 false (.one 3 false (.one 4 false (.one 5 false (.one 6 false (.one 7 false (.one 8 false (.one 9 false (.one 10 false (.one 11 false (.one 12 false (.one 13 false (.one 14 false (.one 15 false (.one 16 false .nil))))))))))))))))) (by kernel_rfl) rfl (by kernel_rfl) ?_
            refine AZ.c rfl ?_
            refine AZ.c rfl ?_
            refine AZ.c rfl ?_
            refine AZ.oo rfl ?_
            refine AZ.c rfl ?_
            refine AZ.c rfl ?_
            refine AZ.c rfl ?_
            refine AZ.gx rfl ?_
            refine AZ.gx rfl ?_
            refine AZ.gx rfl ?_
            refine AZ.gxoo rfl ?_
            refine AZ.gx rfl ?_
            refine AZ.gx rfl ?_
            refine AZ.gx rfl ?_
            refine AZ.gx rfl ?_
            refine AZ.gx rfl ?_
            refine AZ.c rfl ?_
            refine AZ.done ?_
            refine SQ.normal ?_
            refine AW.iteB (GL.ev _) (fun h10 => ?_) (fun h10 => ?_)
            · skip
              skip
              refine AW.seq' ?_
              refine AW.region ?_
              refine AO.c ?_
              refine AO.nil ?_
              refine SQ.normal ?_
              refine AW.ret ?_
              refine BQ.ret <| SQ.ret <| AW.out <| LU.ret <| BQ.ret <| SQ.ret ?_
              refine Fin.ret (Gh.refl) noid1 ?_
              have : (o.sig.all fun x => decide (0 ≤ x) && decide (x < o.syms.length)) = false := by
                refine all_false_at hlt ?_
                rw [← Bool.not_eq_true]
                simp only [Bool.or_eq_true, Bool.and_eq_true, decide_eq_true_eq] at h10 ⊢
                omega
              unfold shapeB; rw [this, Bool.and_false]; rfl
            · skip
              have hi : ((o.sig.take (i + 1)).all fun x => decide (0 ≤ x) && decide (x < o.syms.length)) = true := by
                rw [all_take_succ hlt, hx3]
                simp only [Bool.or_eq_false_iff, decide_eq_false_iff_not] at h10
                rw [decide_eq_true (by omega), decide_eq_true (by omega)]; rfl
              refine AW.skip ?_
              refine BQ.normal ?_
              refine SQ.normal ?_
              refine AW.region ?_
              refine AO.c ?_
              refine AO.oo ?_
              refine AO.c ?_
              refine AO.nil ?_
              exact AW.backU [.f, .k, .F, .k, .F, .F, .F, .F, .F, .F, .F, .F, .F, .F, .F, .F, .F, .F, .F, .F, .F, .F, .f, .f] (m4 - 1) (i + 1, j) (by omega) (by (try dsimp only); exact ⟨by omega, by omega, hi⟩) (by first | rfl | (simp; done)) (by first | rfl | (simp; done))
          · skip
            have hsg : (o.sig.all fun x => decide (0 ≤ x) && decide (x < o.syms.length)) = true := by
              rw [← hx3, List.take_of_length_le]
              simp only [decide_eq_false_iff_not] at h9; omega
            refine AW.exit ?_
            refine SQ.exit <| AW.out <| LU.exit <| BQ.exit ?_
            refine SQ.normal ?_
            refine AW.seq' ?_
            refine AW.region ?_
            refine AO.c ?_
            refine AO.nil ?_
            refine SQ.normal ?_
            refine AW.ret ?_
            refine Fin.ret (Gh.refl) noid1 ?_
            unfold shapeB; rw [h0, hgs, hss, hys, hsg]; rfl

end Go.Proofs.Ytlapfdfbgckfcaa.AL
