/- A part of the proof: rules of an own logic over blocks, and what functions of the program compute, each by its own contract; the conditions stand with each. -/
import Derived.Test.YtdniaamhbfadnaaGreatCg
import Derived.Test.YtdniaamhbfadnaaGreatCe
import Derived.Test.YtdniaamhbfadnaaGreatCf
namespace Go.Proofs.YtdniaamhbfadnaaGreat.AL
open Go Go.RowKit Go.Proofs.YtdniaamhbfadnaaGreat.Base
set_option linter.unusedVariables false
set_option linter.unusedSimpArgs false
set_option maxRecDepth 4000
set_option synthInstance.maxSize 1000
set_option synthInstance.maxHeartbeats 200000
@[reducible] def emptyS : ByteArray := { data := #[] }
def symbolB (o : ObjD) (n : Int) : Bool :=
 bif decide (n = 0) then decide ((o.syms.getD n.toNat default).name.toList = emptyS.toList) && decide ((o.syms.getD n.toNat default).bind = 0) && decide ((o.syms.getD n.toNat default).typ = 0) && decide ((o.syms.getD n.toNat default).sec = 0) && decide ((o.syms.getD n.toNat default).val = 0) && decide ((o.syms.getD n.toNat default).size = 0)
 else bif !nameB (o.syms.getD n.toNat default).name || decide ((o.syms.getD n.toNat default).bind < 0) || decide ((o.syms.getD n.toNat default).bind > 2) || decide ((o.syms.getD n.toNat default).typ < 0) || decide ((o.syms.getD n.toNat default).typ > 3) || decide ((o.syms.getD n.toNat default).size < 0) || decide ((o.syms.getD n.toNat default).size > 2147483647) then false
 else bif decide ((o.syms.getD n.toNat default).sec < -1) || decide ((o.syms.getD n.toNat default).sec > o.secs.length) || decide ((o.syms.getD n.toNat default).val < 0) || decide ((o.syms.getD n.toNat default).val > 2147483647) then false
 else bif decide ((o.syms.getD n.toNat default).sec = 0) && decide ((o.syms.getD n.toNat default).val > 0) || decide ((o.syms.getD n.toNat default).sec > 0) && decide ((o.syms.getD n.toNat default).val > (o.secs.getD ((o.syms.getD n.toNat default).sec - 1).toNat default).size) then false
 else bif decide ((o.syms.getD n.toNat default).bind = 0) then decide ((o.syms.getD n.toNat default).sec ≠ 0) && decide ((o.syms.getD (n - 1).toNat default).bind = 0)
 else decide ((o.syms.getD n.toNat default).name.toList ≠ emptyS.toList)
def memB (N : Int) (l : List Int) (k : Nat) : Bool := decide (l.getD k default < 1) || decide (l.getD k default > N) || (decide ((k : Int) > 0) && decide (l.getD k default ≤ l.getD ((k : Int) - 1).toNat default))
def grpB (o : ObjD) (g : GrpD) : Bool := (decide (1 ≤ g.sym) && decide (g.sym < o.syms.length) && decide (g.mem.length ≠ 0)) && (List.range g.mem.length).all fun k => !memB o.secs.length g.mem k
def shapeB (o : ObjD) : Bool :=
 !(decide ((o.secs.length : Int) > 32) || decide ((o.syms.length : Int) < 1) || decide ((o.syms.length : Int) > 128) || (!o.hasSig && decide ((o.sig.length : Int) > 0))) && o.groups.all (grpB o) &&
 ((List.range o.secs.length).all fun k => sectionB o ((k : Int) + 1)) && ((List.range o.syms.length).all fun k => symbolB o k) && o.sig.all fun x => decide (0 ≤ x) && decide (x < o.syms.length)
theorem all_take_succ {α : Type} [Inhabited α] {p : α → Bool} {l : List α} {i : Nat} (h : i < l.length) : (l.take (i + 1)).all p = ((l.take i).all p && p (l.getD i default)) := by
 rw [List.take_add_one, List.all_append]; simp [h]
theorem all_false_at {α : Type} [Inhabited α] {p : α → Bool} {l : List α} {i : Nat} (h : i < l.length) (hp : p (l.getD i default) = false) : l.all p = false := by
 rw [List.all_eq_false]
 refine ⟨l[i], List.getElem_mem h, ?_⟩
 have : l.getD i default = l[i] := by simp [h]
 rw [← this, hp]; simp
theorem range_all_succ {p : Nat → Bool} {i : Nat} : (List.range (i + 1)).all p = ((List.range i).all p && p i) := by
 rw [List.range_succ, List.all_append]; simp
theorem range_all_false {p : Nat → Bool} {n i : Nat} (h : i < n) (hp : p i = false) : (List.range n).all p = false := by
 rw [List.all_eq_false]
 exact ⟨i, List.mem_range.2 h, by rw [hp]; simp⟩
set_option maxHeartbeats 1000000 in
theorem ref_symbol (o : ObjD) (n : Int) (ho : o.ok) (hn : 0 ≤ n ∧ n < o.syms.length) : A0 Tryz.prog 94 [.agg (objA o), .v (.int .i64 (n))] (fun ret => ret = .v (.bool (symbolB o n))) := by
 have hl := ho.2.2.1
 rw [maxLen_eq] at hl
 have hl0 := ho.1
 rw [maxLen_eq] at hl0
 have hi : n.toNat < o.syms.length := by omega
 have hs := symOk_at ho.2.2.2.1 hi
 have hsec := hs.2.2.2.1
 unfold I64 at hsec
 refine A0.body 143 Tryz.func94 rfl rfl Tryz.ntmps94 fun base n0 => ?_
 refine AW.seq' ?_
 refine AW.region ?_
 refine AO.ww ?_
 refine AO.c ?_
 refine AO.nil ?_
 refine SQ.normal ?_
 refine AW.seq' ?_
 refine AW.region ?_
 iterate 3 refine AO.c ?_
 refine AO.oo ?_
 refine AO.c ?_
 refine AO.ww ?_
 refine AO.sst ?_
 refine AO.nil ?_
 refine SQ.normal ?_
 refine AW.seq' ?_
 refine AW.seq' ?_
 refine AW.region ?_
 iterate 2 refine AO.c ?_
 refine AO.nil ?_
 refine SQ.normal ?_
 refine AW.iteB (GL.ev _) (fun h0 => ?_) (fun h0 => ?_)
 ·
  skip
  refine AW.seq' ?_
  refine AW.region ?_
  iterate 4 refine AO.c ?_
  iterate 3 refine AO.gx ?_
  iterate 2 refine AO.c ?_
  iterate 3 refine AO.gx ?_
  iterate 2 refine AO.c ?_
  iterate 3 refine AO.gx ?_
  iterate 2 refine AO.c ?_
  iterate 3 refine AO.gx ?_
  iterate 2 refine AO.c ?_
  iterate 3 refine AO.gx ?_
  iterate 2 refine AO.c ?_
  refine AO.nil ?_
  refine SQ.normal ?_
  refine AW.ret ?_
  refine SQ.ret ?_
  refine Fin.ret (Gh.refl) noid1 ?_
  unfold symbolB; simp only [*, cond_true, cond_false]; rfl
 ·
  skip
  refine AW.skip ?_
  refine SQ.normal ?_
  refine AW.seq' ?_
  refine AW.region ?_
  iterate 2 refine AO.c ?_
  refine AO.call1 Tryz.func133 rfl rfl (ref_Name _ hs.1) ?_
  refine AO.c ?_
  refine AO.nil ?_
  refine SQ.normal ?_
  refine AW.seq' ?_
  refine AW.seq' ?_
  refine AW.region ?_
  iterate 3 refine AO.c ?_
  iterate 3 refine AO.gx ?_
  iterate 2 refine AO.c ?_
  iterate 3 refine AO.gx ?_
  iterate 2 refine AO.c ?_
  iterate 3 refine AO.gx ?_
  iterate 2 refine AO.c ?_
  iterate 3 refine AO.gx ?_
  iterate 2 refine AO.c ?_
  iterate 3 refine AO.gx ?_
  iterate 2 refine AO.c ?_
  iterate 3 refine AO.gx ?_
  refine AO.c ?_
  refine AO.nil ?_
  refine SQ.normal ?_
  refine AW.iteB (GL.ev _) (fun h1 => ?_) (fun h1 => ?_)
  ·
   skip
   refine AW.seq' ?_
   refine AW.region ?_
   refine AO.c ?_
   refine AO.nil ?_
   refine SQ.normal ?_
   refine AW.ret ?_
   refine SQ.ret ?_
   refine Fin.ret (Gh.refl) noid1 ?_
   unfold symbolB; simp only [*, cond_true, cond_false]; rfl
  ·
   skip
   refine AW.skip ?_
   refine SQ.normal ?_
   refine AW.seq' ?_
   refine AW.seq' ?_
   refine AW.region ?_
   iterate 4 refine AO.c ?_
   iterate 6 refine AO.gx ?_
   iterate 2 refine AO.c ?_
   iterate 3 refine AO.gx ?_
   iterate 2 refine AO.c ?_
   iterate 3 refine AO.gx ?_
   refine AO.c ?_
   refine AO.nil ?_
   refine SQ.normal ?_
   refine AW.iteB (GL.ev _) (fun h2 => ?_) (fun h2 => ?_)
   ·
    skip
    refine AW.seq' ?_
    refine AW.region ?_
    refine AO.c ?_
    refine AO.nil ?_
    refine SQ.normal ?_
    refine AW.ret ?_
    refine SQ.ret ?_
    refine Fin.ret (Gh.refl) noid1 ?_
    unfold symbolB; simp only [*, cond_true, cond_false]; rfl
   ·
    skip
    refine AW.skip ?_
    refine SQ.normal ?_
    refine AW.seq' ?_
    refine AW.seq' ?_
    refine AW.drawsZ [] (.one 0 false (.one 1 false (.one 2 false (.one 3 false (.one 4 false (.one 5 false (.one 6 false (.one 7 false (.one 8 false (.one 9 false (.one 10 false (.one 11 false (.one 12 false (.one 13 false (.one 14 false (.one 15 false (.one 16 false (.one 17 false (.one 18 false (.one 19 false (.one 20 false (.one 21 false (.one 22 false (.one 23 false (.one 24 false (.one 25 false .nil)))))))))))))))))))))))))) (by kernel_rfl) rfl (by kernel_rfl) ?_
    iterate 4 refine AZ.c rfl ?_
    iterate 3 refine AZ.gx rfl ?_
    iterate 2 refine AZ.c rfl ?_
    iterate 10 refine AZ.gx rfl ?_
    refine AZ.gxo rfl (fun h => by simp only [Bool.and_eq_true, decide_eq_true_eq] at h; omega) ?_
    refine AZ.gxo rfl (fun h => by simp only [Bool.and_eq_true, decide_eq_true_eq] at h; simp only [Bool.or_eq_false_iff, decide_eq_false_iff_not] at h2; omega) ?_
    iterate 4 refine AZ.gx rfl ?_
    refine AZ.c rfl ?_
    refine AZ.done ?_
    refine SQ.normal ?_
    refine AW.iteB (GL.ev _) (fun h3 => ?_) (fun h3 => ?_)
    ·
     skip
     refine AW.seq' ?_
     refine AW.region ?_
     refine AO.c ?_
     refine AO.nil ?_
     refine SQ.normal ?_
     refine AW.ret ?_
     refine SQ.ret ?_
     refine Fin.ret (Gh.refl) noid1 ?_
     unfold symbolB; simp only [*, cond_true, cond_false]; rfl
    ·
     skip
     refine AW.skip ?_
     refine SQ.normal ?_
     refine AW.seq' ?_
     refine AW.seq' ?_
     refine AW.region ?_
     iterate 3 refine AO.c ?_
     refine AO.nil ?_
     refine SQ.normal ?_
     refine AW.iteB (GL.ev _) (fun h4 => ?_) (fun h4 => ?_)
     ·
      skip
      refine AW.seq' ?_
      refine AW.region ?_
      iterate 4 refine AO.c ?_
      iterate 3 refine AO.gx ?_
      refine AO.gxo (fun h => by simp only [decide_eq_false_iff_not] at h0; omega) ?_
      refine AO.gxo (fun h => by simp only [decide_eq_false_iff_not] at h0; omega) ?_
      iterate 3 refine AO.gx ?_
      iterate 2 refine AO.c ?_
      refine AO.nil ?_
      refine SQ.normal ?_
      refine AW.ret ?_
      refine SQ.ret ?_
      refine Fin.ret (Gh.refl) noid1 ?_
      unfold symbolB; simp only [*, cond_true, cond_false]; rfl
     ·
      skip
      refine AW.skip ?_
      refine SQ.normal ?_
      refine AW.seq' ?_
      refine AW.region ?_
      iterate 4 refine AO.c ?_
      refine AO.nil ?_
      refine SQ.normal ?_
      refine AW.ret ?_
      refine Fin.ret (Gh.refl) noid1 ?_
      unfold symbolB; simp only [*, cond_true, cond_false]; rfl
set_option maxHeartbeats 1000000 in
theorem ref_Shape (o : ObjD) (ho : o.ok) (hg : GSmall o.groups) : A0 Tryz.prog 39 [.agg (objA o)] (fun ret => ret = .v (.bool (shapeB o))) := by
 have ho0 := ho
 obtain ⟨q1, q2, q3, q4, q5, q6, q7, q8⟩ := ho
 rw [maxLen_eq] at q1 q3 q5 q7
 have hg1 := hg.1
 refine A0.body 157 Tryz.func39 rfl rfl Tryz.ntmps39 fun base n0 => ?_
 refine AW.seq' ?_
 refine AW.region ?_
 refine AO.ww ?_
 refine AO.c ?_
 refine AO.nil ?_
 refine SQ.normal ?_
 refine AW.seq' ?_
 refine AW.seq' ?_
 refine AW.region ?_
 iterate 5 refine AO.c ?_
 iterate 4 refine AO.gx ?_
 iterate 2 refine AO.c ?_
 iterate 4 refine AO.gx ?_
 iterate 2 refine AO.c ?_
 iterate 9 refine AO.gx ?_
 refine AO.c ?_
 refine AO.nil ?_
 refine SQ.normal ?_
 refine AW.iteB (GL.ev _) (fun h0 => ?_) (fun h0 => ?_)
 ·
  skip
  refine AW.seq' ?_
  refine AW.region ?_
  refine AO.c ?_
  refine AO.nil ?_
  refine SQ.normal ?_
  refine AW.ret ?_
  refine SQ.ret ?_
  refine Fin.ret (Gh.refl) noid1 ?_
  unfold shapeB; rw [h0]; rfl
 ·
  have hs32 : o.secs.length ≤ 32 := by
   have h := h0
   simp only [Bool.or_eq_false_iff, decide_eq_false_iff_not] at h
   omega
  refine AW.skip ?_
  refine SQ.normal ?_
  refine AW.seq' ?_
  refine AW.seq' ?_
  refine AW.region ?_
  refine AO.c ?_
  refine AO.nil ?_
  refine SQ.normal ?_
  refine AW.block' ?_
  refine AW.loopU2 [.f, .k, .f, .k, .F, .F, .F, .F, .F, .F, .F, .F, .F, .F, .F, .F, .F, .F, .F, .F, .F, .F, .F, .f] (fun (i j : Nat) => [(3, .v (.int .i64 (i)))]) (fun i j => Hn n0 (([some (.box 29 (objA o))] ++ List.replicate j none) ++ [])) (fun m i j => i ≤ o.groups.length ∧ m = o.groups.length - i ∧ (o.groups.take i).all (grpB o) = true) (o.groups.length) (0) (0) ⟨by omega, by omega, rfl⟩ (by first | rfl | (simp; done)) (by first | rfl | (simp; done)) ?_
  rintro m0 i j ⟨hx1, hx2, hx3⟩
  refine AW.seq' ?_
  refine AW.seq' ?_
  refine AW.region ?_
  iterate 5 refine AO.c ?_
  refine AO.nil ?_
  refine SQ.normal ?_
  refine AW.iteB (GL.ev _) (fun h1 => ?_) (fun h1 => ?_)
  ·
   have hlt : i < o.groups.length := by simpa using h1
   have hm := gsm_at hg hlt
   refine AW.skip ?_
   refine SQ.normal ?_
   refine AW.seq' ?_
   refine AW.block' ?_
   refine AW.seq' ?_
   refine AW.region ?_
   iterate 3 refine AO.c ?_
   refine AO.oo ?_
   refine AO.c ?_
   refine AO.ww ?_
   refine AO.sst ?_
   refine AO.nil ?_
   refine SQ.normal ?_
   refine AW.seq' ?_
   refine AW.seq' ?_
   refine AW.region ?_
   iterate 4 refine AO.c ?_
   iterate 6 refine AO.gx ?_
   iterate 2 refine AO.c ?_
   iterate 4 refine AO.gx ?_
   refine AO.c ?_
   refine AO.nil ?_
   refine SQ.normal ?_
   refine AW.iteB (GL.ev _) (fun h2 => ?_) (fun h2 => ?_)
   ·
    skip
    refine AW.seq' ?_
    refine AW.region ?_
    refine AO.c ?_
    refine AO.nil ?_
    refine SQ.normal ?_
    refine AW.ret ?_
    refine SQ.ret <| BQ.ret <| SQ.ret <| AW.out <| LU.ret <| BQ.ret <| SQ.ret ?_
    refine Fin.ret (Gh.refl) noid1 ?_
    have : o.groups.all (grpB o) = false := by
     refine all_false_at hlt ?_
     unfold grpB
     have : (decide (1 ≤ (o.groups.getD i default).sym) && decide ((o.groups.getD i default).sym < o.syms.length) && decide ((o.groups.getD i default).mem.length ≠ 0)) = false := by
      rw [← Bool.not_eq_true]
      simp only [Bool.or_eq_true, Bool.and_eq_true, decide_eq_true_eq] at h2 ⊢
      omega
     rw [this]; rfl
    unfold shapeB; rw [this, Bool.and_false]; rfl
   ·
    simp only [Bool.or_eq_false_iff, decide_eq_false_iff_not] at h2
    refine AW.skip ?_
    refine SQ.normal ?_
    refine AW.seq' ?_
    refine AW.region ?_
    refine AO.c ?_
    refine AO.nil ?_
    refine SQ.normal ?_
    refine AW.block' ?_
    refine AW.loopU2 [.f, .k, .f, .k, .k, .k, .F, .F, .F, .F, .F, .F, .F, .F, .F, .F, .F, .F, .F, .F, .F, .F, .F, .F, .f, .f, .f, .f, .f, .f, .f] (fun (k jj : Nat) => [(5, .v (.int .i64 (k)))]) (fun k jj => Hn n0 ((([some (.box 29 (objA o))] ++ List.replicate j none ++ [some (.box 107 (grpA (o.groups.getD i default)))]) ++ List.replicate jj none) ++ [])) (fun m k jj => k ≤ (o.groups.getD i default).mem.length ∧ m = (o.groups.getD i default).mem.length - k ∧ ((List.range k).all fun k => !memB o.secs.length (o.groups.getD i default).mem k) = true) ((o.groups.getD i default).mem.length) (0) (0) ⟨by omega, by omega, rfl⟩ (by first | rfl | (simp; done)) (by first | rfl | (simp; done)) ?_
    rintro m1 k jj ⟨hk1, hk2, hk3⟩
    refine AW.seq' ?_
    refine AW.seq' ?_
    refine AW.region ?_
    iterate 5 refine AO.c ?_
    refine AO.nil ?_
    refine SQ.normal ?_
    refine AW.iteB (GL.ev _) (fun h3 => ?_) (fun h3 => ?_)
    ·
     have hk : k < (o.groups.getD i default).mem.length := by simpa using h3
     refine AW.skip ?_
     refine SQ.normal ?_
     refine AW.seq' ?_
     refine AW.block' ?_
     refine AW.seq' ?_
     refine AW.drawsZ [] (.one 0 false (.one 1 false (.one 2 false (.one 3 false (.one 4 false (.one 5 false (.one 6 false (.one 7 false (.one 8 false (.one 9 false (.one 10 false (.one 11 false (.one 12 false (.one 13 false (.one 14 false (.one 15 false (.one 16 false (.one 17 false (.one 18 false (.one 19 false (.one 20 false (.one 21 false (.one 22 false (.one 23 false (.one 24 false (.one 25 false (.one 26 false (.one 27 false (.one 28 false (.one 29 false (.one 30 false (.one 31 false (.one 32 false (.one 33 false (.one 34 false .nil))))))))))))))))))))))))))))))))))) (by kernel_rfl) rfl (by kernel_rfl) ?_
     iterate 3 refine AZ.c rfl ?_
     refine AZ.oo rfl ?_
     iterate 3 refine AZ.c rfl ?_
     iterate 3 refine AZ.gx rfl ?_
     refine AZ.gxoo rfl ?_
     iterate 5 refine AZ.gx rfl ?_
     iterate 2 refine AZ.c rfl ?_
     iterate 6 refine AZ.gx rfl ?_
     refine AZ.gxoo rfl ?_
     iterate 4 refine AZ.gx rfl ?_
     iterate 2 refine AZ.gxoo rfl ?_
     iterate 3 refine AZ.gx rfl ?_
     refine AZ.c rfl ?_
     refine AZ.done ?_
     refine SQ.normal ?_
     refine AW.iteB (GL.ev _) (fun h4 => ?_) (fun h4 => ?_)
     ·
      skip
      refine AW.seq' ?_
      refine AW.region ?_
      refine AO.c ?_
      refine AO.nil ?_
      refine SQ.normal ?_
      refine AW.ret ?_
      refine BQ.ret <| SQ.ret <| AW.out <| LU.ret <| BQ.ret <| BQ.ret <| SQ.ret <| AW.out <| LU.ret <| BQ.ret <| SQ.ret ?_
      refine Fin.ret (Gh.refl) noid1 ?_
      have : o.groups.all (grpB o) = false := by
       refine all_false_at hlt ?_
       unfold grpB
       rw [range_all_false hk (by unfold memB; rw [h4]; rfl), Bool.and_false]
      unfold shapeB; rw [this, Bool.and_false]; rfl
     ·
      have hk4 : ((List.range (k + 1)).all fun k => !memB o.secs.length (o.groups.getD i default).mem k) = true := by
       rw [range_all_succ, hk3]
       unfold memB
       rw [h4]; rfl
      refine AW.skip ?_
      refine BQ.normal ?_
      refine SQ.normal ?_
      refine AW.region ?_
      refine AO.c ?_
      refine AO.oo ?_
      refine AO.c ?_
      refine AO.nil ?_
      exact AW.backU [.f, .k, .f, .k, .k, .k, .F, .F, .F, .F, .F, .F, .F, .F, .F, .F, .F, .F, .F, .F, .F, .F, .F, .F, .f, .f, .f, .f, .f, .f, .f] (m1 - 1) (k + 1, jj) (by omega) (by (try dsimp only); exact ⟨by omega, by omega, hk4⟩) (by first | rfl | (simp; done)) (by first | rfl | (simp; done))
    ·
     have hgi : (o.groups.take (i + 1)).all (grpB o) = true := by
      rw [all_take_succ hlt, hx3]
      have e : k = (o.groups.getD i default).mem.length := by simp only [decide_eq_false_iff_not] at h3; omega
      rw [e] at hk3
      unfold grpB
      rw [hk3, decide_eq_true (by omega), decide_eq_true (by omega), decide_eq_true (by omega)]; rfl
     refine AW.exit ?_
     refine SQ.exit <| AW.out <| LU.exit <| BQ.exit ?_
     refine BQ.normal ?_
     refine SQ.normal ?_
     refine AW.region ?_
     refine AO.c ?_
     refine AO.oo ?_
     refine AO.c ?_
     refine AO.nil ?_
     exact AW.backD [.f, .k, .f, .k, .F, .F, .F, .F, .F, .F, .F, .F, .F, .F, .F, .F, .F, .F, .F, .F, .F, .F, .F, .f] ([some (.box 29 (objA o))]) (j) (m0 - 1) (i + 1, j + jj + 1) (by omega) (by (try dsimp only); exact ⟨by omega, by omega, hgi⟩) (by first | rfl | (simp; done)) (by simp [Nat.add_assoc, Nat.add_comm])
  ·
   have hgs : o.groups.all (grpB o) = true := by
    rw [← hx3, List.take_of_length_le]
    simp at h1; omega
   refine AW.exit ?_
   refine SQ.exit <| AW.out <| LU.exit <| BQ.exit ?_
   refine SQ.normal ?_
   refine AW.seq' ?_
   refine AW.seq' ?_
   refine AW.region ?_
   refine AO.c ?_
   refine AO.nil ?_
   refine SQ.normal ?_
   refine AW.block' ?_
   refine AW.loopU2 [.f, .k, .f, .f, .f, .f, .k, .F, .F, .F, .F, .F, .F, .F, .F, .F, .F, .F, .F, .F, .F, .F, .F, .F, .F, .f, .f, .f, .f, .f, .f] (fun (i j : Nat) => [(6, .v (.int .i64 ((i : Int) + 1)))]) (fun i j => Hn n0 (([some (.box 29 (objA o))] ++ List.replicate j none) ++ [])) (fun m i j => i ≤ o.secs.length ∧ m = o.secs.length - i ∧ ((List.range i).all fun k => sectionB o ((k : Int) + 1)) = true) (o.secs.length) (0) (j) ⟨by omega, by omega, rfl⟩ (by first | rfl | (simp; done)) (by first | rfl | (simp; done)) ?_
   rintro m2 i j ⟨hx1, hx2, hx3⟩
   refine AW.seq' ?_
   refine AW.seq' ?_
   refine AW.region ?_
   iterate 5 refine AO.c ?_
   refine AO.nil ?_
   refine SQ.normal ?_
   refine AW.iteB (GL.ev _) (fun h5 => ?_) (fun h5 => ?_)
   ·
    have hlt : i < o.secs.length := by simp only [decide_eq_true_eq] at h5; omega
    refine AW.skip ?_
    refine SQ.normal ?_
    refine AW.seq' ?_
    refine AW.block' ?_
    refine AW.seq' ?_
    refine AW.region ?_
    iterate 2 refine AO.c ?_
    refine AO.call1 Tryz.func93 rfl rfl (ref_section _ _ (by assumption) (by assumption) ⟨by omega, by omega⟩) ?_
    refine AO.c ?_
    refine AO.nil ?_
    refine SQ.normal ?_
    refine AW.seq' ?_
    refine AW.region ?_
    iterate 2 refine AO.c ?_
    refine AO.nil ?_
    refine SQ.normal ?_
    refine AW.iteB (GL.ev _) (fun h6 => ?_) (fun h6 => ?_)
    ·
     skip
     refine AW.seq' ?_
     refine AW.region ?_
     refine AO.c ?_
     refine AO.nil ?_
     refine SQ.normal ?_
     refine AW.ret ?_
     refine BQ.ret <| SQ.ret <| AW.out <| LU.ret <| BQ.ret <| SQ.ret ?_
     refine Fin.ret (Gh.refl) noid1 ?_
     have : ((List.range o.secs.length).all fun k => sectionB o ((k : Int) + 1)) = false := range_all_false hlt (by simpa using h6)
     unfold shapeB; rw [this, Bool.and_false]; rfl
    ·
     have hi : ((List.range (i + 1)).all fun k => sectionB o ((k : Int) + 1)) = true := by
      rw [range_all_succ, hx3]
      simpa using h6
     refine AW.skip ?_
     refine BQ.normal ?_
     refine SQ.normal ?_
     refine AW.region ?_
     refine AO.c ?_
     refine AO.oo ?_
     refine AO.c ?_
     refine AO.nil ?_
     exact AW.backU [.f, .k, .f, .f, .f, .f, .k, .F, .F, .F, .F, .F, .F, .F, .F, .F, .F, .F, .F, .F, .F, .F, .F, .F, .F, .f, .f, .f, .f, .f, .f] (m2 - 1) (i + 1, j) (by omega) (by (try dsimp only); exact ⟨by omega, by omega, hi⟩) (by first | rfl | (simp; done)) (by first | rfl | (simp; done))
   ·
    have hss : ((List.range o.secs.length).all fun k => sectionB o ((k : Int) + 1)) = true := by
     rw [← hx3, show i = o.secs.length by simp only [decide_eq_false_iff_not] at h5; omega]
    refine AW.exit ?_
    refine SQ.exit <| AW.out <| LU.exit <| BQ.exit ?_
    refine SQ.normal ?_
    refine AW.seq' ?_
    refine AW.seq' ?_
    refine AW.region ?_
    refine AO.c ?_
    refine AO.nil ?_
    refine SQ.normal ?_
    refine AW.block' ?_
    refine AW.loopU2 [.f, .k, .f, .f, .f, .f, .f, .f, .k, .F, .F, .F, .F, .F, .F, .F, .F, .F, .F, .F, .F, .F, .F, .F, .F, .F, .F, .f, .f, .f, .f] (fun (i j : Nat) => [(8, .v (.int .i64 (i)))]) (fun i j => Hn n0 (([some (.box 29 (objA o))] ++ List.replicate j none) ++ [])) (fun m i j => i ≤ o.syms.length ∧ m = o.syms.length - i ∧ ((List.range i).all fun k => symbolB o k) = true) (o.syms.length) (0) (j) ⟨by omega, by omega, rfl⟩ (by first | rfl | (simp; done)) (by first | rfl | (simp; done)) ?_
    rintro m3 i j ⟨hx1, hx2, hx3⟩
    refine AW.seq' ?_
    refine AW.seq' ?_
    refine AW.region ?_
    iterate 5 refine AO.c ?_
    refine AO.nil ?_
    refine SQ.normal ?_
    refine AW.iteB (GL.ev _) (fun h7 => ?_) (fun h7 => ?_)
    ·
     have hlt : i < o.syms.length := by simp only [decide_eq_true_eq] at h7; omega
     refine AW.skip ?_
     refine SQ.normal ?_
     refine AW.seq' ?_
     refine AW.block' ?_
     refine AW.seq' ?_
     refine AW.region ?_
     iterate 2 refine AO.c ?_
     refine AO.call1 Tryz.func94 rfl rfl (ref_symbol _ _ (by assumption) ⟨by omega, by omega⟩) ?_
     refine AO.c ?_
     refine AO.nil ?_
     refine SQ.normal ?_
     refine AW.seq' ?_
     refine AW.region ?_
     iterate 2 refine AO.c ?_
     refine AO.nil ?_
     refine SQ.normal ?_
     refine AW.iteB (GL.ev _) (fun h8 => ?_) (fun h8 => ?_)
     ·
      skip
      refine AW.seq' ?_
      refine AW.region ?_
      refine AO.c ?_
      refine AO.nil ?_
      refine SQ.normal ?_
      refine AW.ret ?_
      refine BQ.ret <| SQ.ret <| AW.out <| LU.ret <| BQ.ret <| SQ.ret ?_
      refine Fin.ret (Gh.refl) noid1 ?_
      have : ((List.range o.syms.length).all fun k => symbolB o k) = false := range_all_false hlt (by simpa using h8)
      unfold shapeB; rw [this, Bool.and_false]; rfl
     ·
      have hi : ((List.range (i + 1)).all fun k => symbolB o k) = true := by
       rw [range_all_succ, hx3]
       simpa using h8
      refine AW.skip ?_
      refine BQ.normal ?_
      refine SQ.normal ?_
      refine AW.region ?_
      refine AO.c ?_
      refine AO.oo ?_
      refine AO.c ?_
      refine AO.nil ?_
      exact AW.backU [.f, .k, .f, .f, .f, .f, .f, .f, .k, .F, .F, .F, .F, .F, .F, .F, .F, .F, .F, .F, .F, .F, .F, .F, .F, .F, .F, .f, .f, .f, .f] (m3 - 1) (i + 1, j) (by omega) (by (try dsimp only); exact ⟨by omega, by omega, hi⟩) (by first | rfl | (simp; done)) (by first | rfl | (simp; done))
    ·
     have hys : ((List.range o.syms.length).all fun k => symbolB o k) = true := by
      rw [← hx3, show i = o.syms.length by simp only [decide_eq_false_iff_not] at h7; omega]
     refine AW.exit ?_
     refine SQ.exit <| AW.out <| LU.exit <| BQ.exit ?_
     refine SQ.normal ?_
     refine AW.seq' ?_
     refine AW.seq' ?_
     refine AW.region ?_
     refine AO.c ?_
     refine AO.nil ?_
     refine SQ.normal ?_
     refine AW.block' ?_
     refine AW.loopU2 [.f, .k, .F, .k, .F, .F, .F, .F, .F, .F, .F, .F, .F, .F, .F, .F, .F, .F, .F, .F, .F, .F, .f, .f] (fun (i j : Nat) => [(10, .v (.int .i64 (i)))]) (fun i j => Hn n0 (([some (.box 29 (objA o))] ++ List.replicate j none) ++ [])) (fun m i j => i ≤ o.sig.length ∧ m = o.sig.length - i ∧ ((o.sig.take i).all fun x => decide (0 ≤ x) && decide (x < o.syms.length)) = true) (o.sig.length) (0) (j) ⟨by omega, by omega, rfl⟩ (by first | rfl | (simp; done)) (by first | rfl | (simp; done)) ?_
     rintro m4 i j ⟨hx1, hx2, hx3⟩
     refine AW.seq' ?_
     refine AW.seq' ?_
     refine AW.region ?_
     iterate 5 refine AO.c ?_
     refine AO.nil ?_
     refine SQ.normal ?_
     refine AW.iteB (GL.ev _) (fun h9 => ?_) (fun h9 => ?_)
     ·
      have hlt : i < o.sig.length := by simp only [decide_eq_true_eq] at h9; omega
      refine AW.skip ?_
      refine SQ.normal ?_
      refine AW.seq' ?_
      refine AW.block' ?_
      refine AW.seq' ?_
      refine AW.drawsZ [] (.one 0 false (.one 1 false (.one 2 false (.one 3 false (.one 4 false (.one 5 false (.one 6 false (.one 7 false (.one 8 false (.one 9 false (.one 10 false (.one 11 false (.one 12 false (.one 13 false (.one 14 false (.one 15 false (.one 16 false .nil))))))))))))))))) (by kernel_rfl) rfl (by kernel_rfl) ?_
      iterate 3 refine AZ.c rfl ?_
      refine AZ.oo rfl ?_
      iterate 3 refine AZ.c rfl ?_
      iterate 3 refine AZ.gx rfl ?_
      refine AZ.gxoo rfl ?_
      iterate 5 refine AZ.gx rfl ?_
      refine AZ.c rfl ?_
      refine AZ.done ?_
      refine SQ.normal ?_
      refine AW.iteB (GL.ev _) (fun h10 => ?_) (fun h10 => ?_)
      ·
       skip
       refine AW.seq' ?_
       refine AW.region ?_
       refine AO.c ?_
       refine AO.nil ?_
       refine SQ.normal ?_
       refine AW.ret ?_
       refine BQ.ret <| SQ.ret <| AW.out <| LU.ret <| BQ.ret <| SQ.ret ?_
       refine Fin.ret (Gh.refl) noid1 ?_
       have : (o.sig.all fun x => decide (0 ≤ x) && decide (x < o.syms.length)) = false := by
        refine all_false_at hlt ?_
        rw [← Bool.not_eq_true]
        simp only [Bool.or_eq_true, Bool.and_eq_true, decide_eq_true_eq] at h10 ⊢
        omega
       unfold shapeB; rw [this, Bool.and_false]; rfl
      ·
       have hi : ((o.sig.take (i + 1)).all fun x => decide (0 ≤ x) && decide (x < o.syms.length)) = true := by
        rw [all_take_succ hlt, hx3]
        simp only [Bool.or_eq_false_iff, decide_eq_false_iff_not] at h10
        rw [decide_eq_true (by omega), decide_eq_true (by omega)]; rfl
       refine AW.skip ?_
       refine BQ.normal ?_
       refine SQ.normal ?_
       refine AW.region ?_
       refine AO.c ?_
       refine AO.oo ?_
       refine AO.c ?_
       refine AO.nil ?_
       exact AW.backU [.f, .k, .F, .k, .F, .F, .F, .F, .F, .F, .F, .F, .F, .F, .F, .F, .F, .F, .F, .F, .F, .F, .f, .f] (m4 - 1) (i + 1, j) (by omega) (by (try dsimp only); exact ⟨by omega, by omega, hi⟩) (by first | rfl | (simp; done)) (by first | rfl | (simp; done))
     ·
      have hsg : (o.sig.all fun x => decide (0 ≤ x) && decide (x < o.syms.length)) = true := by
       rw [← hx3, List.take_of_length_le]
       simp only [decide_eq_false_iff_not] at h9; omega
      refine AW.exit ?_
      refine SQ.exit <| AW.out <| LU.exit <| BQ.exit ?_
      refine SQ.normal ?_
      refine AW.seq' ?_
      refine AW.region ?_
      refine AO.c ?_
      refine AO.nil ?_
      refine SQ.normal ?_
      refine AW.ret ?_
      refine Fin.ret (Gh.refl) noid1 ?_
      unfold shapeB; rw [h0, hgs, hss, hys, hsg]; rfl
end Go.Proofs.YtdniaamhbfadnaaGreat.AL
namespace Go.Proofs.YtdniaamhbfadnaaGreat.AL
open Go Go.RowKit Go.Proofs.YtdniaamhbfadnaaGreat.Base
set_option linter.unusedVariables false
set_option linter.unusedSimpArgs false
set_option maxRecDepth 4000
set_option synthInstance.maxSize 1000
set_option synthInstance.maxHeartbeats 200000
theorem and_pow {n : Int} (k : Nat) (h0 : 0 ≤ n) (h1 : n ≤ 9223372036854775807) (hk : k < 63) : IntKind.i64.wrap (BitVec.ofInt IntKind.i64.bits n &&& BitVec.ofInt IntKind.i64.bits (2 ^ k : Nat)).toNat = if n / (2 ^ k : Nat) % 2 = 1 then (2 ^ k : Nat) else 0 := by
 obtain ⟨m, rfl⟩ := Int.eq_ofNat_of_zero_le h0
 have hp : (2 : Nat) ^ k < 2 ^ 63 := Nat.pow_lt_pow_right (by decide) hk
 have e1 : (BitVec.ofInt IntKind.i64.bits (m : Int)).toNat = m := by
  simp only [IntKind.bits, BitVec.ofInt_natCast, BitVec.toNat_ofNat]
  exact Nat.mod_eq_of_lt (by omega)
 have e2 : (BitVec.ofInt IntKind.i64.bits ((2 ^ k : Nat) : Int)).toNat = 2 ^ k := by
  simp only [IntKind.bits, BitVec.ofInt_natCast, BitVec.toNat_ofNat]
  exact Nat.mod_eq_of_lt (by omega)
 have e3 : m &&& 2 ^ k = if m / 2 ^ k % 2 = 1 then 2 ^ k else 0 := by
  have hb : m.testBit k = decide (m / 2 ^ k % 2 = 1) := by rw [Nat.testBit_eq_decide_div_mod_eq]
  apply Nat.eq_of_testBit_eq
  intro i
  rw [Nat.testBit_and, Nat.testBit_two_pow]
  by_cases hi : k = i
  · subst hi
    rw [hb]
    by_cases h : m / 2 ^ k % 2 = 1 <;> simp [h, Nat.testBit_two_pow]
  · split <;> simp [hi, Nat.testBit_two_pow]
 rw [BitVec.toNat_and, e1, e2, e3]
 have hc : ((m : Int) / ((2 ^ k : Nat) : Int) % 2 = 1) ↔ (m / 2 ^ k % 2 = 1) := by
  rw [← Int.natCast_ediv]; omega
 by_cases h : m / 2 ^ k % 2 = 1
 · rw [if_pos h, if_pos (hc.2 h)]
   exact wi64' (by omega)
 · rw [if_neg h, if_neg (fun h' => h (hc.1 h'))]
   exact wi64' (by omega)
end Go.Proofs.YtdniaamhbfadnaaGreat.AL
namespace Go.Proofs.YtdniaamhbfadnaaGreat.AL
open Go Go.RowKit Go.Proofs.YtdniaamhbfadnaaGreat.Base
set_option linter.unusedVariables false
set_option linter.unusedSimpArgs false
set_option maxRecDepth 4000
set_option synthInstance.maxSize 1000
set_option synthInstance.maxHeartbeats 200000
@[reducible] def band (p q : Int) : Int := IntKind.i64.wrap ((BitVec.ofInt IntKind.i64.bits p &&& BitVec.ofInt IntKind.i64.bits q).toNat)
def hasP (f k : Int) : Bool := decide (band f k = k)
theorem ofInt_nat {m : Nat} (h : m < 2 ^ 63) : (BitVec.ofInt IntKind.i64.bits (m : Int)).toNat = m := by
 simp only [IntKind.bits, BitVec.ofInt_natCast, BitVec.toNat_ofNat]
 exact Nat.mod_eq_of_lt (by omega)
theorem band_nat {m k : Nat} (hm : m < 2 ^ 63) (hk : k < 2 ^ 63) : band (m : Int) (k : Int) = ((m &&& k : Nat) : Int) := by
 unfold band
 rw [BitVec.toNat_and, ofInt_nat hm, ofInt_nat hk]
 have : m &&& k ≤ m := Nat.and_le_left
 exact wi64' (by omega)
theorem andNot_nat {m k : Nat} (hm : m < 2 ^ 63) (hk : k < 2 ^ 63) : (Go.bits .andNot .i64 (m : Int) (k : Int) = 0) ↔ m &&& k = m := by
 have hb : ∀ a b : BitVec 64, a &&& ~~~b = 0#64 ↔ a &&& b = a := by
  intro a b
  constructor
  · intro h
    apply BitVec.eq_of_getLsbD_eq
    intro i hi
    have := congrArg (fun z => z.getLsbD i) h
    simp only [BitVec.getLsbD_and, BitVec.getLsbD_not, hi, decide_true, Bool.true_and, BitVec.getLsbD_zero] at this ⊢
    cases ha : a.getLsbD i <;> cases hb : b.getLsbD i <;> simp_all
  · intro h
    apply BitVec.eq_of_getLsbD_eq
    intro i hi
    have := congrArg (fun z => z.getLsbD i) h
    simp only [BitVec.getLsbD_and, BitVec.getLsbD_not, hi, decide_true, Bool.true_and, BitVec.getLsbD_zero] at this ⊢
    cases ha : a.getLsbD i <;> cases hb : b.getLsbD i <;> simp_all
 have e0 : Go.bits .andNot .i64 (m : Int) (k : Int) = IntKind.i64.wrap ((BitVec.ofInt 64 (m : Int) &&& ~~~ BitVec.ofInt 64 (k : Int)).toNat : Int) := rfl
 have hle : (BitVec.ofInt 64 (m : Int) &&& ~~~ BitVec.ofInt 64 (k : Int)).toNat ≤ m := by
  rw [BitVec.toNat_and, show (BitVec.ofInt 64 (m : Int)).toNat = m from ofInt_nat hm]
  exact Nat.and_le_left
 rw [e0, wi64' (by omega)]
 have h1 := hb (BitVec.ofInt 64 (m : Int)) (BitVec.ofInt 64 (k : Int))
 constructor
 · intro h
   have h2 := h1.1 (BitVec.eq_of_toNat_eq (by simpa using h))
   have := congrArg BitVec.toNat h2
   rw [BitVec.toNat_and, show (BitVec.ofInt 64 (m : Int)).toNat = m from ofInt_nat hm, show (BitVec.ofInt 64 (k : Int)).toNat = k from ofInt_nat hk] at this
   exact this
 · intro h
   have h2 := h1.2 (BitVec.eq_of_toNat_eq (by rw [BitVec.toNat_and, show (BitVec.ofInt 64 (m : Int)).toNat = m from ofInt_nat hm, show (BitVec.ofInt 64 (k : Int)).toNat = k from ofInt_nat hk]; exact h))
   rw [h2]; rfl
/-- A bit that is put out. -/
theorem clear_bit {m j : Nat} (h : m / 2 ^ j % 2 = 1) (i : Nat) : (m - 2 ^ j).testBit i = (m.testBit i && decide (i ≠ j)) := by
 have hp : 0 < 2 ^ j := Nat.pow_pos (by decide)
 obtain ⟨q, hq⟩ : ∃ q, m / 2 ^ j = 2 * q + 1 := ⟨m / 2 ^ j / 2, by omega⟩
 have hr : m % 2 ^ j < 2 ^ j := Nat.mod_lt _ hp
 have hm : m = 2 ^ j * (2 * q + 1) + m % 2 ^ j := by rw [← hq]; exact (Nat.div_add_mod m (2 ^ j)).symm
 have hm2 : m - 2 ^ j = 2 ^ j * (2 * q) + m % 2 ^ j := by
  have : 2 ^ j * (2 * q + 1) = 2 ^ j * (2 * q) + 2 ^ j := by rw [Nat.mul_add, Nat.mul_one]
  omega
 rw [hm2]
 have e1 := Nat.testBit_two_pow_mul_add (2 * q) hr i
 have e2 := Nat.testBit_two_pow_mul_add (2 * q + 1) hr i
 rw [← hm] at e2
 rw [e1, e2]
 by_cases hi : i < j
 · rw [if_pos hi, if_pos hi]
   have : i ≠ j := by omega
   simp [this]
 · rw [if_neg hi, if_neg hi]
   by_cases hij : i = j
   · subst hij
     rw [Nat.sub_self]
     have : (2 * q).testBit 0 = false := by rw [Nat.testBit_zero]; simp
     rw [this]; simp
   · obtain ⟨k, hk⟩ : ∃ k, i - j = k + 1 := ⟨i - j - 1, by omega⟩
     rw [hk, Nat.testBit_succ, Nat.testBit_succ]
     have a1 : 2 * q / 2 = q := by omega
     have a2 : (2 * q + 1) / 2 = q := by omega
     rw [a1, a2]; simp [hij]
def clr (m j : Nat) : Nat := if m / 2 ^ j % 2 = 1 then m - 2 ^ j else m
theorem clr_bit (m j i : Nat) : (clr m j).testBit i = (m.testBit i && decide (i ≠ j)) := by
 unfold clr
 split
 · rename_i h; exact clear_bit h i
 · rename_i h
   by_cases hij : i = j
   · subst hij
     rw [Nat.testBit_eq_decide_div_mod_eq, decide_eq_false h]; rfl
   · simp [hij]
theorem flagStep_nat (m j : Nat) : flagStep (m : Int) ((2 ^ j : Nat) : Int) = ((clr m j : Nat) : Int) := by
 unfold flagStep clr
 have e : ((m : Int) / ((2 ^ j : Nat) : Int) % 2 = 1) ↔ (m / 2 ^ j % 2 = 1) := by
  rw [← Int.natCast_ediv]; omega
 by_cases h : m / 2 ^ j % 2 = 1
 · rw [if_pos ⟨by omega, e.2 h⟩, if_pos h]
   have : 2 ^ j ≤ m := by
    rcases Nat.lt_or_ge m (2 ^ j) with h2 | h2
    · rw [Nat.div_eq_of_lt h2] at h; cases h
    · exact h2
   omega
 · rw [if_neg (fun h2 => h (e.1 h2.2)), if_neg h]
def bitL : List Nat := [0, 1, 2, 4, 5, 7, 9, 21]
theorem fold_nat : ∀ (l : List Nat) (m : Nat), (l.map fun j => ((2 ^ j : Nat) : Int)).foldl flagStep (m : Int) = ((l.foldl clr m : Nat) : Int)
 | [], _ => rfl
 | j :: l, m => by
  simp only [List.map_cons, List.foldl_cons]
  rw [flagStep_nat]; exact fold_nat l _
theorem clrs_bit : ∀ (l : List Nat) (m i : Nat), (l.foldl clr m).testBit i = (m.testBit i && !l.contains i)
 | [], m, i => by simp
 | j :: l, m, i => by
  rw [List.foldl_cons, clrs_bit l, clr_bit, List.contains_cons, Bool.and_assoc]
  congr 1
  by_cases h : i = j <;> simp [h]
theorem all_bit (i : Nat) : (2097847 : Nat).testBit i = bitL.contains i := by
 by_cases h : i < 22
 · have : ∀ i, i < 22 → (2097847 : Nat).testBit i = bitL.contains i := by decide
   exact this i h
 · rw [Nat.testBit_lt_two_pow (Nat.lt_of_lt_of_le (show 2097847 < 2 ^ 22 by decide) (Nat.pow_le_pow_right (by decide) (by omega)))]
   symm
   rw [← Bool.not_eq_true, List.contains_iff_mem]
   unfold bitL
   simp
   omega
theorem flagsB_nat {m : Nat} : flagsB (m : Int) = decide (m &&& 2097847 = m) := by
 unfold flagsB
 have e : flagL = bitL.map fun j => ((2 ^ j : Nat) : Int) := rfl
 rw [e, fold_nat, Bool.eq_iff_iff, decide_eq_true_eq, decide_eq_true_eq]
 constructor
 · intro h
   have h : bitL.foldl clr m = 0 := by omega
   apply Nat.eq_of_testBit_eq
   intro i
   have h1 := clrs_bit bitL m i
   rw [h, Nat.zero_testBit] at h1
   rw [Nat.testBit_and, all_bit]
   cases hm : m.testBit i <;> cases hc : bitL.contains i <;> simp_all
 · intro h
   have : bitL.foldl clr m = 0 := by
    apply Nat.eq_of_testBit_eq
    intro i
    rw [clrs_bit, Nat.zero_testBit]
    have h1 := congrArg (fun z => z.testBit i) h
    simp only [Nat.testBit_and, all_bit] at h1
    cases hm : m.testBit i <;> cases hc : bitL.contains i <;> simp_all
   omega
theorem flagsB_neg {f : Int} (h : f < 0) : flagsB f = false := by
 have key : ∀ l : List Int, l.foldl flagStep f = f := by
  intro l
  induction l with
  | nil => rfl
  | cons a l ih =>
   rw [List.foldl_cons]
   have : flagStep f a = f := by unfold flagStep; rw [if_neg (by omega)]
   rw [this]; exact ih
 unfold flagsB
 rw [key]; exact decide_eq_false (by omega)
/-- The masks that a section's flags must pass. -/
theorem flagsB_eq {f : Int} (hf : I64 f) : (!(decide (Go.bits .andNot .i64 f 2097847 ≠ 0) || decide (f < 0))) = flagsB f := by
 rcases Int.lt_or_le f 0 with h | h
 · rw [flagsB_neg h, decide_eq_true h, Bool.or_true]; rfl
 · obtain ⟨m, rfl⟩ := Int.eq_ofNat_of_zero_le h
   have hm : m < 2 ^ 63 := by unfold I64 at hf; omega
   have h2 := andNot_nat hm (show 2097847 < 2 ^ 63 by decide)
   rw [flagsB_nat, decide_eq_false (by omega : ¬ (m : Int) < 0), Bool.or_false, Bool.eq_iff_iff]
   simp only [Bool.not_eq_true', decide_eq_false_iff_not, Decidable.not_not, decide_eq_true_eq]
   exact h2
theorem hasP_pow {f : Int} (h0 : 0 ≤ f) (h1 : f ≤ 9223372036854775807) {k : Nat} (hk : k < 63) : hasP f ((2 ^ k : Nat) : Int) = hasF f ((2 ^ k : Nat) : Int) := by
 unfold hasP hasF band
 rw [and_pow k h0 h1 hk]
 have hp : 0 < 2 ^ k := Nat.pow_pos (by decide)
 by_cases h : f / ((2 ^ k : Nat) : Int) % 2 = 1
 · rw [if_pos h, decide_eq_true (rfl : (((2 ^ k : Nat) : Int)) = _), decide_eq_true h0, decide_eq_true h]; rfl
 · rw [if_neg h]
   have : ¬ (((0 : Nat) : Int) = ((2 ^ k : Nat) : Int)) := by omega
   rw [decide_eq_false this, decide_eq_false h, Bool.and_false]
theorem hasP_5 {f : Int} (h0 : 0 ≤ f) (h1 : f ≤ 9223372036854775807) : hasP f 5 = (hasF f 1 && hasF f 4) := by
 obtain ⟨m, rfl⟩ := Int.eq_ofNat_of_zero_le h0
 have hm : m < 2 ^ 63 := by omega
 unfold hasP
 have e := band_nat hm (show 5 < 2 ^ 63 by decide)
 rw [show band (m : Int) 5 = ((m &&& 5 : Nat) : Int) from e]
 have f1 : hasF (m : Int) 1 = m.testBit 0 := by
  unfold hasF; rw [Nat.testBit_eq_decide_div_mod_eq, Bool.eq_iff_iff]; simp; omega
 have f4 : hasF (m : Int) 4 = m.testBit 2 := by
  unfold hasF; rw [Nat.testBit_eq_decide_div_mod_eq, Bool.eq_iff_iff]; simp; omega
 rw [f1, f4, Bool.eq_iff_iff, decide_eq_true_eq, Bool.and_eq_true]
 have hb : ∀ i, (5 : Nat).testBit i = (decide (i = 0) || decide (i = 2)) := by
  intro i
  by_cases h : i < 3
  · have : ∀ i, i < 3 → (5 : Nat).testBit i = (decide (i = 0) || decide (i = 2)) := by decide
    exact this i h
  · rw [Nat.testBit_lt_two_pow (Nat.lt_of_lt_of_le (show 5 < 2 ^ 3 by decide) (Nat.pow_le_pow_right (by decide) (by omega)))]
    symm; simp; omega
 constructor
 · intro h
   have h : m &&& 5 = 5 := by omega
   have h2 := congrArg (fun z => z.testBit 0) h
   have h3 := congrArg (fun z => z.testBit 2) h
   simp only [Nat.testBit_and, hb] at h2 h3
   simpa using And.intro h2 h3
 · rintro ⟨h2, h3⟩
   have : m &&& 5 = 5 := by
    apply Nat.eq_of_testBit_eq
    intro i
    rw [Nat.testBit_and, hb]
    by_cases hi : i = 0
    · subst hi; simp [h2]
    · by_cases hi2 : i = 2
      · subst hi2; simp [h3]
      · simp [hi, hi2]
   omega
end Go.Proofs.YtdniaamhbfadnaaGreat.AL
namespace Go.Proofs.YtdniaamhbfadnaaGreat.AL
open Go Go.RowKit Go.Proofs.YtdniaamhbfadnaaGreat.Base
set_option linter.unusedVariables false
set_option linter.unusedSimpArgs false
set_option maxRecDepth 4000
set_option synthInstance.maxSize 1000
set_option synthInstance.maxHeartbeats 200000
def typedP (s : SecD) : Bool :=
 bif decide (s.typ = 1) then decide (s.size = s.data.length) && decide (s.size ≤ 16384)
 else bif decide (s.typ = 8) then decide ((s.data.length : Int) = 0) && withinB s.size 2147483647 && hasP s.flags 1 && !hasP s.flags 16 else false
def mergedP (s : SecD) : Bool :=
 bif !hasP s.flags 16 then decide (s.ent = 0) && !hasP s.flags 32
 else bif hasP s.flags 1 || hasP s.flags 4 || decide ((s.rels.length : Int) > 0) then false
 else bif hasP s.flags 32 then decide (s.ent = 1) && decide (s.align = 1) && (decide ((s.data.length : Int) = 0) || decide (s.data.getD ((s.data.length : Int) - 1).toNat 0 = 0))
 else (decide (s.ent = 4) || decide (s.ent = 8) || decide (s.ent = 16)) && decide (s.align ≤ s.ent) && decide (s.size % s.ent = 0)
theorem typed_size {s : SecD} (h : typedP s = true) : 0 ≤ s.size := by
 unfold typedP withinB at h
 by_cases h1 : s.typ = 1
 · rw [decide_eq_true h1, cond_true] at h
   simp only [Bool.and_eq_true, decide_eq_true_eq] at h
   omega
 · rw [decide_eq_false h1, cond_false] at h
   by_cases h8 : s.typ = 8
   · rw [decide_eq_true h8, cond_true] at h
     simp only [Bool.and_eq_true, decide_eq_true_eq] at h
     omega
   · rw [decide_eq_false h8] at h; cases h
def relGP (many len : Int) : Int → List RelD → Bool
 | _, [] => true
 | e, r :: rs => bif !mayRelB r || decide (r.sym ≥ many) || decide (r.off < e) || decide (r.off > len - widthF r.typ) then false else relGP many len (r.off + widthF r.typ) rs
def relatedP (s : SecD) (many : Int) : Bool := decide ((s.rels.length : Int) ≤ 64) && relGP many s.data.length 0 s.rels
theorem put_len0 (r : RelD) : decide ((((if mayRelB r = true then relB r else []).length : Nat) : Int) = 0) = !mayRelB r := by
 cases h : mayRelB r with
 | true => rw [if_pos rfl, relB_len]; rfl
 | false => rfl
def sectionP (o : ObjD) (i : Int) : Bool :=
 bif !mayS (o.secs.getD (i - 1).toNat default).name || decide (Go.bits .andNot .i64 (o.secs.getD (i - 1).toNat default).flags 2097847 ≠ 0) || decide ((o.secs.getD (i - 1).toNat default).flags < 0) || hasP (o.secs.getD (i - 1).toNat default).flags 5 then false
 else bif decide ((o.secs.getD (i - 1).toNat default).align < 1) || decide ((o.secs.getD (i - 1).toNat default).align > 4096) || decide (band (o.secs.getD (i - 1).toNat default).align ((o.secs.getD (i - 1).toNat default).align - 1) ≠ 0) || !typedP (o.secs.getD (i - 1).toNat default) || !mergedP (o.secs.getD (i - 1).toNat default) then false
 else bif (!(hasP (o.secs.getD (i - 1).toNat default).flags 128 == decide ((o.secs.getD (i - 1).toNat default).link ≠ 0))) || !withinB (o.secs.getD (i - 1).toNat default).link o.secs.length || decide ((o.secs.getD (i - 1).toNat default).link = i) then false
 else (o.groups.any (fun g => g.mem.any fun x => decide (i = x)) == hasP (o.secs.getD (i - 1).toNat default).flags 512) && relatedP (o.secs.getD (i - 1).toNat default) o.syms.length
def symbolP (o : ObjD) (i : Int) : Bool :=
 bif decide (i = 0) then decide ((o.syms.getD i.toNat default).name.toList = emptyS.toList) && (decide ((o.syms.getD i.toNat default).bind = 0) && (decide ((o.syms.getD i.toNat default).typ = 0) && (decide ((o.syms.getD i.toNat default).sec = 0) && (decide ((o.syms.getD i.toNat default).val = 0) && (decide ((o.syms.getD i.toNat default).size = 0) && true)))))
 else bif !mayS (o.syms.getD i.toNat default).name || !withinB (o.syms.getD i.toNat default).bind 2 || !withinB (o.syms.getD i.toNat default).typ 3 || !withinB (o.syms.getD i.toNat default).size 2147483647 || !withinB (o.syms.getD i.toNat default).val 2147483647 then false
 else bif decide ((o.syms.getD i.toNat default).sec < -1) || decide ((o.syms.getD i.toNat default).sec > o.secs.length) then false
 else bif decide ((o.syms.getD i.toNat default).sec > 0) && decide ((o.syms.getD i.toNat default).val > (o.secs.getD ((o.syms.getD i.toNat default).sec - 1).toNat default).size) || decide ((o.syms.getD i.toNat default).sec = 0) && decide ((o.syms.getD i.toNat default).val ≠ 0) then false
 else bif decide ((o.syms.getD i.toNat default).bind = 0) then decide ((o.syms.getD i.toNat default).sec ≠ 0) && decide ((o.syms.getD (i - 1).toNat default).bind = 0)
 else decide ((o.syms.getD i.toNat default).name.toList ≠ emptyS.toList)
theorem obj_has (s : SecD) (k : Int) : A0 Tryz.prog 120 [.agg (secA s), .v (.int .i64 (k))] (fun ret => ret = .v (.bool (hasP s.flags k))) := by
 refine A0.body 11 Tryz.func120 rfl rfl Tryz.ntmps120 fun base n0 => ?_
 refine AW.seq' ?_
 refine AW.region ?_
 refine AO.ww ?_
 refine AO.c ?_
 refine AO.nil ?_
 refine SQ.normal ?_
 refine AW.seq' ?_
 refine AW.region ?_
 iterate 7 refine AO.c ?_
 refine AO.nil ?_
 refine SQ.normal ?_
 refine AW.ret ?_
 refine Fin.ret (Gh.refl) noid1 ?_
 rfl
theorem obj_within (n m : Int) : A0 Tryz.prog 83 [.v (.int .i64 (n)), .v (.int .i64 (m))] (fun ret => ret = .v (.bool (withinB n m))) := by
 refine A0.body 12 Tryz.func83 rfl rfl Tryz.ntmps83 fun base n0 => ?_
 refine AW.seq' ?_
 refine AW.region ?_
 refine AO.c ?_
 refine AO.nil ?_
 refine SQ.normal ?_
 refine AW.seq' ?_
 refine AW.region ?_
 iterate 3 refine AO.c ?_
 iterate 3 refine AO.gx ?_
 iterate 2 refine AO.c ?_
 refine AO.nil ?_
 refine SQ.normal ?_
 refine AW.ret ?_
 refine Fin.ret (Gh.refl) noid1 ?_
 rfl
theorem obj_typed (s : SecD) : A0 Tryz.prog 121 [.agg (secA s)] (fun ret => ret = .v (.bool (typedP s))) := by
 refine A0.body 38 Tryz.func121 rfl rfl Tryz.ntmps121 fun base n0 => ?_
 refine AW.seq' ?_
 refine AW.region ?_
 refine AO.ww ?_
 refine AO.c ?_
 refine AO.nil ?_
 refine SQ.normal ?_
 refine AW.seq' ?_
 refine AW.seq' ?_
 refine AW.region ?_
 iterate 2 refine AO.c ?_
 refine AO.nil ?_
 refine SQ.normal ?_
 refine AW.block' ?_
 refine AW.seq' ?_
 refine AW.region ?_
 iterate 2 refine AO.c ?_
 refine AO.nil ?_
 refine SQ.normal ?_
 refine AW.iteB (GL.ev _) (fun h0 => ?_) (fun h0 => ?_)
 ·
  skip
  refine AW.seq' ?_
  refine AW.region ?_
  iterate 7 refine AO.c ?_
  iterate 3 refine AO.gx ?_
  iterate 2 refine AO.c ?_
  refine AO.nil ?_
  refine SQ.normal ?_
  refine AW.ret ?_
  refine BQ.ret <| SQ.ret ?_
  refine Fin.ret (Gh.refl) noid1 ?_
  unfold typedP; simp only [*, cond_true, cond_false]; rfl
 ·
  skip
  refine AW.seq' ?_
  refine AW.region ?_
  iterate 2 refine AO.c ?_
  refine AO.nil ?_
  refine SQ.normal ?_
  refine AW.iteB (GL.ev _) (fun h1 => ?_) (fun h1 => ?_)
  ·
   skip
   refine AW.seq' ?_
   refine AW.region ?_
   iterate 5 refine AO.c ?_
   iterate 2 refine AO.gx ?_
   refine AO.gxcall1 Tryz.func83 rfl rfl (fun hgd => obj_within _ _) ?_
   iterate 2 refine AO.c ?_
   refine AO.gx ?_
   refine AO.gxcall1 Tryz.func120 rfl rfl (fun hgd => obj_has _ _) ?_
   iterate 2 refine AO.c ?_
   refine AO.gx ?_
   refine AO.gxcall1 Tryz.func120 rfl rfl (fun hgd => obj_has _ _) ?_
   refine AO.gx ?_
   iterate 2 refine AO.c ?_
   refine AO.nil ?_
   refine SQ.normal ?_
   refine AW.ret ?_
   refine BQ.ret <| SQ.ret ?_
   refine Fin.ret (Gh.refl) noid1 ?_
   unfold typedP; simp only [*, cond_true, cond_false]; rfl
  ·
   skip
   refine AW.skip ?_
   refine BQ.normal ?_
   refine SQ.normal ?_
   refine AW.seq' ?_
   refine AW.region ?_
   refine AO.c ?_
   refine AO.nil ?_
   refine SQ.normal ?_
   refine AW.ret ?_
   refine Fin.ret (Gh.refl) noid1 ?_
   unfold typedP; simp only [*, cond_true, cond_false]; rfl
set_option maxHeartbeats 1000000 in
theorem obj_merged (s : SecD) (hs : s.ok) (hsz : 0 ≤ s.size) : A0 Tryz.prog 122 [.agg (secA s)] (fun ret => ret = .v (.bool (mergedP s))) := by
 obtain ⟨q1, q2, q3, q4, q5, q6, q7, q8, q9, q10, q11⟩ := hs
 unfold I64 at q2 q5 q6 q7
 rw [maxLen_eq] at q8 q10
 refine A0.body 81 Tryz.func122 rfl rfl Tryz.ntmps122 fun base n0 => ?_
 refine AW.seq' ?_
 refine AW.region ?_
 refine AO.ww ?_
 refine AO.c ?_
 refine AO.nil ?_
 refine SQ.normal ?_
 refine AW.seq' ?_
 refine AW.seq' ?_
 refine AW.region ?_
 refine AO.c ?_
 refine AO.call1 Tryz.func120 rfl rfl (obj_has _ _) ?_
 refine AO.c ?_
 refine AO.nil ?_
 refine SQ.normal ?_
 refine AW.iteB (GL.ev _) (fun h0 => ?_) (fun h0 => ?_)
 ·
  skip
  refine AW.seq' ?_
  refine AW.region ?_
  iterate 4 refine AO.c ?_
  refine AO.gx ?_
  refine AO.gxcall1 Tryz.func120 rfl rfl (fun hgd => obj_has _ _) ?_
  refine AO.gx ?_
  iterate 2 refine AO.c ?_
  refine AO.nil ?_
  refine SQ.normal ?_
  refine AW.ret ?_
  refine SQ.ret ?_
  refine Fin.ret (Gh.refl) noid1 ?_
  unfold mergedP; simp only [*, cond_true, cond_false]; rfl
 ·
  skip
  refine AW.skip ?_
  refine SQ.normal ?_
  refine AW.seq' ?_
  refine AW.seq' ?_
  refine AW.region ?_
  refine AO.c ?_
  refine AO.call1 Tryz.func120 rfl rfl (obj_has _ _) ?_
  refine AO.c ?_
  refine AO.gx ?_
  refine AO.gxcall1 Tryz.func120 rfl rfl (fun hgd => obj_has _ _) ?_
  iterate 2 refine AO.c ?_
  iterate 4 refine AO.gx ?_
  refine AO.c ?_
  refine AO.nil ?_
  refine SQ.normal ?_
  refine AW.iteB (GL.ev _) (fun h1 => ?_) (fun h1 => ?_)
  ·
   skip
   refine AW.seq' ?_
   refine AW.region ?_
   refine AO.c ?_
   refine AO.nil ?_
   refine SQ.normal ?_
   refine AW.ret ?_
   refine SQ.ret ?_
   refine Fin.ret (Gh.refl) noid1 ?_
   unfold mergedP; simp only [*, cond_true, cond_false]; rfl
  ·
   skip
   refine AW.skip ?_
   refine SQ.normal ?_
   refine AW.seq' ?_
   refine AW.seq' ?_
   refine AW.region ?_
   refine AO.c ?_
   refine AO.call1 Tryz.func120 rfl rfl (obj_has _ _) ?_
   refine AO.nil ?_
   refine SQ.normal ?_
   refine AW.iteB (GL.ev _) (fun h2 => ?_) (fun h2 => ?_)
   ·
    skip
    refine AW.seq' ?_
    refine AW.region ?_
    iterate 4 refine AO.c ?_
    iterate 3 refine AO.gx ?_
    iterate 2 refine AO.c ?_
    iterate 10 refine AO.gx ?_
    refine AO.gxo (fun h => by omega) ?_
    refine AO.gxo (fun h => ?_) ?_
    · simp only [Bool.and_eq_true, Bool.not_eq_true', decide_eq_false_iff_not] at h
      omega
    iterate 3 refine AO.gx ?_
    iterate 2 refine AO.c ?_
    refine AO.nil ?_
    refine SQ.normal ?_
    refine AW.ret ?_
    refine SQ.ret ?_
    refine Fin.ret (Gh.refl) noid1 ?_
    unfold mergedP; simp only [*, cond_true, cond_false]; rfl
   ·
    skip
    refine AW.skip ?_
    refine SQ.normal ?_
    refine AW.seq' ?_
    refine AW.region ?_
    iterate 4 refine AO.c ?_
    iterate 3 refine AO.gx ?_
    iterate 2 refine AO.c ?_
    iterate 3 refine AO.gx ?_
    iterate 2 refine AO.c ?_
    iterate 5 refine AO.gx ?_
    iterate 2 refine AO.c ?_
    iterate 4 refine AO.gx ?_
    refine AO.gxo (fun h => ?_) ?_
    · simp only [Bool.and_eq_true, Bool.or_eq_true, decide_eq_true_eq] at h
      exact ⟨by omega, by omega⟩
    refine AO.gx ?_
    iterate 2 refine AO.c ?_
    refine AO.nil ?_
    refine SQ.normal ?_
    refine AW.ret ?_
    refine Fin.ret (Gh.refl) noid1 ?_
    unfold mergedP; simp only [*, cond_true, cond_false]; rfl
set_option maxHeartbeats 1000000 in
theorem obj_related (s : SecD) (many : Int) (hs : s.ok) (hm : I64 many) : A0 Tryz.prog 126 [.agg (secA s), .v (.int .i64 (many))] (fun ret => ret = .v (.bool (relatedP s many))) := by
 obtain ⟨q1, q2, q3, q4, q5, q6, q7, q8, q9, q10, q11⟩ := hs
 rw [maxLen_eq] at q8 q10
 refine A0.body 54 Tryz.func126 rfl rfl Tryz.ntmps126 fun base n0 => ?_
 refine AW.seq' ?_
 refine AW.region ?_
 refine AO.ww ?_
 refine AO.c ?_
 refine AO.nil ?_
 refine SQ.normal ?_
 refine AW.seq' ?_
 refine AW.seq' ?_
 refine AW.region ?_
 iterate 4 refine AO.c ?_
 refine AO.nil ?_
 refine SQ.normal ?_
 refine AW.iteB (GL.ev _) (fun h0 => ?_) (fun h0 => ?_)
 ·
  rw [decide_eq_true_eq] at h0
  refine AW.seq' ?_
  refine AW.region ?_
  refine AO.c ?_
  refine AO.nil ?_
  refine SQ.normal ?_
  refine AW.ret ?_
  refine SQ.ret ?_
  refine Fin.ret (Gh.refl) noid1 ?_
  unfold relatedP; rw [decide_eq_false (by omega)]; rfl
 ·
  rw [decide_eq_false_iff_not] at h0
  refine AW.skip ?_
  refine SQ.normal ?_
  refine AW.seq' ?_
  refine AW.region ?_
  refine AO.c ?_
  refine AO.nil ?_
  refine SQ.normal ?_
  refine AW.seq' ?_
  refine AW.seq' ?_
  refine AW.region ?_
  iterate 4 refine AO.c ?_
  refine AO.nil ?_
  refine SQ.normal ?_
  refine AW.block' ?_
  refine AW.loopU3 [.f, .k, .k, .f, .f, .k, .f, .f, .f, .f, .f, .f, .f, .k, .k, .k, .F, .F, .F, .F, .f, .f, .f, .f, .f, .f] (fun (i j : Nat) (e : Int) => [(5, .v (.int .i64 (e))), (15, .v (.int .i64 (i)))]) (fun i j e => Hn n0 (([some (.box 104 (secA s))] ++ List.replicate j none) ++ [])) (fun m i j e => i ≤ s.rels.length ∧ m = s.rels.length - i ∧ relGP many s.data.length 0 s.rels = relGP many s.data.length e (s.rels.drop i)) (s.rels.length) (0) (0) (0) ⟨by omega, by omega, rfl⟩ (by first | rfl | (simp; done)) (by first | rfl | (simp; done)) ?_
  rintro m0 i j e ⟨hx1, hx2, hx3⟩
  refine AW.seq' ?_
  refine AW.region ?_
  refine AO.c ?_
  refine AO.nil ?_
  refine SQ.normal ?_
  refine AW.seq' ?_
  refine AW.iteB (GL.ev _) (fun h1 => ?_) (fun h1 => ?_)
  ·
   rw [decide_eq_true_eq] at h1
   have hi : i < s.rels.length := by omega
   have hr := relOk_at q11 hi
   rw [drop_getD hi, relGP] at hx3
   have hw := widthF_range (s.rels.getD i default).typ
   generalize hre : s.rels.getD i default = r at hr hx3 hw
   have hr2 := hr.1
   unfold I64 at hr2
   have hp0 := put_len0 r
   refine AW.skip ?_
   refine SQ.normal ?_
   refine AW.seq' ?_
   refine AW.block' ?_
   refine AW.seq' ?_
   refine AW.region ?_
   refine AO.oo ?_
   refine AO.c ?_
   refine AO.eq 18 (av' := .agg (relA r)) (by rw [hre]) ?_
   refine AO.ww ?_
   refine AO.sst ?_
   refine AO.nil ?_
   refine SQ.normal ?_
   refine AW.seq' ?_
   refine AW.seq' ?_
   refine AW.drawsZ [] (.one 0 false (.one 1 true (.one 2 false (.one 3 false (.one 4 false (.one 5 false (.one 6 false (.one 7 false (.one 8 false (.one 9 false (.one 10 false (.one 11 false (.one 12 false (.one 13 false (.one 14 false (.one 15 false (.one 16 false (.one 17 false (.one 18 false (.one 19 false (.one 20 false (.one 21 false (.one 22 false (.one 23 false (.one 24 true (.one 25 false (.one 26 false (.one 27 false .nil)))))))))))))))))))))))))))) (by kernel_rfl) rfl (by kernel_rfl) ?_
   refine AZ.c rfl ?_
   refine AZ.call1 rfl Tryz.func158 rfl rfl (rela_Put r hr) ?_
   iterate 3 refine AZ.c rfl ?_
   iterate 4 refine AZ.gx rfl ?_
   iterate 2 refine AZ.c rfl ?_
   iterate 4 refine AZ.gx rfl ?_
   iterate 2 refine AZ.c rfl ?_
   iterate 7 refine AZ.gx rfl ?_
   refine AZ.gxcall1 rfl Tryz.func159 rfl rfl (fun hgd => rela_Width _) ?_
   refine AZ.gxoo rfl ?_
   refine AZ.gx rfl ?_
   refine AZ.c rfl ?_
   refine AZ.done ?_
   refine SQ.normal ?_
   refine AW.iteB (GL.ev _) (fun h2 => ?_) (fun h2 => ?_)
   ·
    rw [hp0] at h2
    rw [h2, cond_true] at hx3
    refine AW.seq' ?_
    refine AW.region ?_
    refine AO.c ?_
    refine AO.nil ?_
    refine SQ.normal ?_
    refine AW.ret ?_
    refine SQ.ret <| BQ.ret <| SQ.ret <| AW.out <| LU.ret <| BQ.ret <| SQ.ret ?_
    refine Fin.ret (Gh.refl) noid1 ?_
    unfold relatedP; rw [hx3, Bool.and_false]; rfl
   ·
    rw [hp0] at h2
    rw [h2, cond_false] at hx3
    simp only [Bool.or_eq_false_iff, Bool.not_eq_false', decide_eq_false_iff_not] at h2
    have hmo := mayRel_off h2.1.1.1
    refine AW.skip ?_
    refine SQ.normal ?_
    refine AW.drawsZ [] (.one 0 false (.one 1 false (.one 2 false (.one 3 false (.one 4 true (.one 5 false (.one 6 false .nil))))))) (by kernel_rfl) rfl (by kernel_rfl) ?_
    iterate 4 refine AZ.c rfl ?_
    refine AZ.call1 rfl Tryz.func159 rfl rfl (rela_Width _) ?_
    refine AZ.oo rfl ?_
    refine AZ.c rfl ?_
    refine AZ.done ?_
    refine BQ.normal ?_
    refine SQ.normal ?_
    refine AW.region ?_
    refine AO.oo ?_
    refine AO.c ?_
    refine AO.nil ?_
    exact AW.backD [.f, .k, .k, .f, .f, .k, .f, .f, .f, .f, .f, .f, .f, .k, .k, .k, .F, .F, .F, .F, .f, .f, .f, .f, .f, .f] ([some (.box 104 (secA s))]) (j) (m0 - 1) (i + 1, j + 1, r.off + widthF r.typ) (by omega) (by (try dsimp only); exact ⟨by omega, by omega, hx3⟩) (by first | rfl | (simp; done)) (by first | rfl | (simp; done))
  ·
   rw [decide_eq_false_iff_not] at h1
   refine AW.exit ?_
   refine SQ.exit <| AW.out <| LU.exit <| BQ.exit ?_
   refine SQ.normal ?_
   refine AW.seq' ?_
   refine AW.region ?_
   refine AO.c ?_
   refine AO.nil ?_
   refine SQ.normal ?_
   refine AW.ret ?_
   refine Fin.ret (Gh.refl) noid1 ?_
   unfold relatedP; rw [hx3, List.drop_of_length_le (by omega), decide_eq_true (by omega)]; rfl
theorem ints_Index (l : List Int) (v : Int) (hl : l.length ≤ 9223372036854775807) : A0 Tryz.prog 156 [.rd 1 (l.map iA), .v (.int .i64 (v))] (fun ret => ret = .v (.int .i64 (idxF (fun x => decide (v = x)) l))) := by
 refine A0.body 19 Tryz.func156 rfl rfl Tryz.ntmps156 fun base n0 => ?_
 refine AW.seq' ?_
 refine AW.region ?_
 refine AO.c ?_
 refine AO.nil ?_
 refine SQ.normal ?_
 refine AW.seq' ?_
 refine AW.seq' ?_
 refine AW.region ?_
 iterate 3 refine AO.c ?_
 refine AO.nil ?_
 refine SQ.normal ?_
 refine AW.block' ?_
 refine AW.loopU [.k, .k, .f, .f, .f, .f, .f, .k, .k, .F, .f, .f] (fun (i : Nat) => [(8, .v (.int .i64 (i)))]) (fun i => Hn n0 []) (fun m i => i ≤ l.length ∧ m = l.length - i ∧ ∀ j, j < i → (fun x => decide (v = x)) (l.getD j default) = false) (l.length) (0) ⟨by omega, rfl, fun j h => by omega⟩ (by first | rfl | (simp; done)) (by first | rfl | (simp; done)) ?_
 rintro m0 i ⟨hx1, hx2, hx3⟩
 refine AW.seq' ?_
 refine AW.region ?_
 refine AO.c ?_
 refine AO.nil ?_
 refine SQ.normal ?_
 refine AW.seq' ?_
 refine AW.iteB (GL.ev _) (fun h0 => ?_) (fun h0 => ?_)
 ·
  rw [decide_eq_true_eq] at h0
  have hi : i < l.length := by omega
  refine AW.skip ?_
  refine SQ.normal ?_
  refine AW.seq' ?_
  refine AW.block' ?_
  refine AW.seq' ?_
  refine AW.region ?_
  iterate 2 refine AO.c ?_
  refine AO.nil ?_
  refine SQ.normal ?_
  refine AW.seq' ?_
  refine AW.region ?_
  iterate 3 refine AO.c ?_
  refine AO.oo ?_
  iterate 2 refine AO.c ?_
  refine AO.nil ?_
  refine SQ.normal ?_
  refine AW.iteB (GL.ev _) (fun h1 => ?_) (fun h1 => ?_)
  ·
   skip
   refine AW.seq' ?_
   refine AW.region ?_
   iterate 2 refine AO.c ?_
   refine AO.nil ?_
   refine SQ.normal ?_
   refine AW.ret ?_
   refine BQ.ret <| SQ.ret <| AW.out <| LU.ret <| BQ.ret <| SQ.ret ?_
   refine Fin.ret (Gh.refl) noid1 ?_
   rw [idxF_at hi hx3 h1]; rfl
  ·
   skip
   refine AW.skip ?_
   refine BQ.normal ?_
   refine SQ.normal ?_
   refine AW.region ?_
   refine AO.oo ?_
   refine AO.c ?_
   refine AO.nil ?_
   exact AW.backU [.k, .k, .f, .f, .f, .f, .f, .k, .k, .F, .f, .f] (m0 - 1) (i + 1) (by omega) (by (try dsimp only); exact ⟨by omega, by omega, fun j hj => (Nat.lt_or_eq_of_le (Nat.le_of_lt_succ hj)).elim (hx3 j) (fun h => by rw [h]; exact h1)⟩) (by first | rfl | (simp; done)) (by first | rfl | (simp; done))
 ·
  rw [decide_eq_false_iff_not] at h0
  refine AW.exit ?_
  refine SQ.exit <| AW.out <| LU.exit <| BQ.exit ?_
  refine SQ.normal ?_
  refine AW.seq' ?_
  refine AW.region ?_
  refine AO.c ?_
  refine AO.nil ?_
  refine SQ.normal ?_
  refine AW.ret ?_
  refine Fin.ret (Gh.refl) noid1 ?_
  rw [idxF_none (fun j hj => hx3 j (by omega))]; rfl
theorem ints_Contains (l : List Int) (v : Int) (hl : l.length ≤ 9223372036854775807) : A0 Tryz.prog 124 [.rd 1 (l.map iA), .v (.int .i64 (v))] (fun ret => ret = .v (.bool (l.any fun x => decide (v = x)))) := by
 refine A0.body 9 Tryz.func124 rfl rfl Tryz.ntmps124 fun base n0 => ?_
 refine AW.seq' ?_
 refine AW.region ?_
 refine AO.c ?_
 refine AO.nil ?_
 refine SQ.normal ?_
 refine AW.seq' ?_
 refine AW.region ?_
 iterate 2 refine AO.c ?_
 refine AO.call1 Tryz.func156 rfl rfl (ints_Index _ _ (by omega)) ?_
 iterate 2 refine AO.c ?_
 refine AO.nil ?_
 refine SQ.normal ?_
 refine AW.ret ?_
 refine Fin.ret (Gh.refl) noid1 ?_
 rw [← idxF_ge]; rfl
theorem obj_section1 (g : GrpD) (i : Int) (hg : g.mem.length ≤ 9223372036854775807) : A0 Tryz.prog 123 [.agg (grpA g), .eptr [.v (.int .i64 (i))]] (fun ret => ret = .v (.bool (g.mem.any fun x => decide (i = x)))) := by
 refine A0.body 8 Tryz.func123 rfl rfl Tryz.ntmps123 fun base n0 => ?_
 refine AW.seq' ?_
 refine AW.region ?_
 refine AO.ww ?_
 refine AO.c ?_
 refine AO.nil ?_
 refine SQ.normal ?_
 refine AW.seq' ?_
 refine AW.region ?_
 iterate 3 refine AO.c ?_
 refine AO.call1 Tryz.func124 rfl rfl (ints_Contains _ _ (by omega)) ?_
 refine AO.c ?_
 refine AO.nil ?_
 refine SQ.normal ?_
 refine AW.ret ?_
 refine Fin.ret (Gh.refl) noid1 ?_
 rfl
theorem grps_IndexFunc (l : List GrpD) (f : FuncId) (cs : List AV) (q : GrpD → Bool) (fn : Func) (hl : l.length ≤ 9223372036854775807) (hgc : ∀ n, ∀ av ∈ cs, Gen n av) (hf : Tryz.prog.funcs[f]? = some fn) (hname : (fn.name == "runtime.NumGoroutine") = false) (hb : fn.body.isSome = true) (h : ∀ x ∈ l, A0 Tryz.prog f (.agg (grpA (x)) :: cs) (fun r => r = .v (.bool (q x)))) : A0 Tryz.prog 157 [.rd 2 (l.map grpA), .fn f cs] (fun ret => ret = .v (.int .i64 (idxF q l))) := by
 refine A0.body 19 Tryz.func157 rfl rfl Tryz.ntmps157 fun base n0 => ?_
 refine AW.seq' ?_
 refine AW.region ?_
 refine AO.c ?_
 refine AO.nil ?_
 refine SQ.normal ?_
 refine AW.seq' ?_
 refine AW.seq' ?_
 refine AW.region ?_
 iterate 3 refine AO.c ?_
 refine AO.nil ?_
 refine SQ.normal ?_
 refine AW.block' ?_
 refine AW.loopU [.k, .k, .f, .f, .f, .f, .f, .k, .k, .F, .f, .f] (fun (i : Nat) => [(8, .v (.int .i64 (i)))]) (fun i => Hn n0 []) (fun m i => i ≤ l.length ∧ m = l.length - i ∧ ∀ j, j < i → q (l.getD j default) = false) (l.length) (0) ⟨by omega, rfl, fun j h => by omega⟩ (by first | rfl | (simp; done)) (by first | rfl | (simp; done)) ?_
 rintro m0 i ⟨hx1, hx2, hx3⟩
 refine AW.seq' ?_
 refine AW.region ?_
 refine AO.c ?_
 refine AO.nil ?_
 refine SQ.normal ?_
 refine AW.seq' ?_
 refine AW.iteB (GL.ev _) (fun h0 => ?_) (fun h0 => ?_)
 ·
  rw [decide_eq_true_eq] at h0
  have hi : i < l.length := by omega
  refine AW.skip ?_
  refine SQ.normal ?_
  refine AW.seq' ?_
  refine AW.block' ?_
  refine AW.seq' ?_
  refine AW.region ?_
  iterate 2 refine AO.c ?_
  refine AO.nil ?_
  refine SQ.normal ?_
  refine AW.seq' ?_
  refine AW.region ?_
  iterate 3 refine AO.c ?_
  refine AO.oo ?_
  refine AO.c ?_
  refine AO.callF (args' := .agg (grpA ((l.getD i default))) :: cs) hgc hf hname hb (h _ (getD_in hi)) rfl ?_
  refine AO.nil ?_
  refine SQ.normal ?_
  refine AW.iteB (GL.ev _) (fun h1 => ?_) (fun h1 => ?_)
  ·
   skip
   refine AW.seq' ?_
   refine AW.region ?_
   iterate 2 refine AO.c ?_
   refine AO.nil ?_
   refine SQ.normal ?_
   refine AW.ret ?_
   refine BQ.ret <| SQ.ret <| AW.out <| LU.ret <| BQ.ret <| SQ.ret ?_
   refine Fin.ret (Gh.refl) noid1 ?_
   rw [idxF_at hi hx3 h1]; rfl
  ·
   skip
   refine AW.skip ?_
   refine BQ.normal ?_
   refine SQ.normal ?_
   refine AW.region ?_
   refine AO.oo ?_
   refine AO.c ?_
   refine AO.nil ?_
   exact AW.backU [.k, .k, .f, .f, .f, .f, .f, .k, .k, .F, .f, .f] (m0 - 1) (i + 1) (by omega) (by (try dsimp only); exact ⟨by omega, by omega, fun j hj => (Nat.lt_or_eq_of_le (Nat.le_of_lt_succ hj)).elim (hx3 j) (fun h => by rw [h]; exact h1)⟩) (by first | rfl | (simp; done)) (by first | rfl | (simp; done))
 ·
  rw [decide_eq_false_iff_not] at h0
  refine AW.exit ?_
  refine SQ.exit <| AW.out <| LU.exit <| BQ.exit ?_
  refine SQ.normal ?_
  refine AW.seq' ?_
  refine AW.region ?_
  refine AO.c ?_
  refine AO.nil ?_
  refine SQ.normal ?_
  refine AW.ret ?_
  refine Fin.ret (Gh.refl) noid1 ?_
  rw [idxF_none (fun j hj => hx3 j (by omega))]; rfl
theorem grps_ContainsFunc (l : List GrpD) (f : FuncId) (cs : List AV) (q : GrpD → Bool) (fn : Func) (hl : l.length ≤ 9223372036854775807) (hgc : ∀ n, ∀ av ∈ cs, Gen n av) (hf : Tryz.prog.funcs[f]? = some fn) (hname : (fn.name == "runtime.NumGoroutine") = false) (hb : fn.body.isSome = true) (h : ∀ x ∈ l, A0 Tryz.prog f (.agg (grpA (x)) :: cs) (fun r => r = .v (.bool (q x)))) : A0 Tryz.prog 125 [.rd 2 (l.map grpA), .fn f cs] (fun ret => ret = .v (.bool (l.any q))) := by
 haveI hga : ∀ n, GA n cs := fun n => ⟨hgc n⟩
 have hidx := grps_IndexFunc l f cs q fn hl hgc hf hname hb h
 refine A0.body 9 Tryz.func125 rfl rfl Tryz.ntmps125 fun base n0 => ?_
 refine AW.seq' ?_
 refine AW.region ?_
 refine AO.c ?_
 refine AO.nil ?_
 refine SQ.normal ?_
 refine AW.seq' ?_
 refine AW.region ?_
 iterate 2 refine AO.c ?_
 refine AO.call1 Tryz.func157 rfl rfl (hidx) ?_
 iterate 2 refine AO.c ?_
 refine AO.nil ?_
 refine SQ.normal ?_
 refine AW.ret ?_
 refine Fin.ret (Gh.refl) noid1 ?_
 rw [← idxF_ge]; rfl
theorem ints_IndexFunc (l : List Int) (f : FuncId) (cs : List AV) (q : Int → Bool) (fn : Func) (hl : l.length ≤ 9223372036854775807) (hgc : ∀ n, ∀ av ∈ cs, Gen n av) (hf : Tryz.prog.funcs[f]? = some fn) (hname : (fn.name == "runtime.NumGoroutine") = false) (hb : fn.body.isSome = true) (h : ∀ x ∈ l, A0 Tryz.prog f (.v (.int .i64 (x)) :: cs) (fun r => r = .v (.bool (q x)))) : A0 Tryz.prog 127 [.rd 1 (l.map iA), .fn f cs] (fun ret => ret = .v (.int .i64 (idxF q l))) := by
 refine A0.body 19 Tryz.func127 rfl rfl Tryz.ntmps127 fun base n0 => ?_
 refine AW.seq' ?_
 refine AW.region ?_
 refine AO.c ?_
 refine AO.nil ?_
 refine SQ.normal ?_
 refine AW.seq' ?_
 refine AW.seq' ?_
 refine AW.region ?_
 iterate 3 refine AO.c ?_
 refine AO.nil ?_
 refine SQ.normal ?_
 refine AW.block' ?_
 refine AW.loopU [.k, .k, .f, .f, .f, .f, .f, .k, .k, .F, .f, .f] (fun (i : Nat) => [(8, .v (.int .i64 (i)))]) (fun i => Hn n0 []) (fun m i => i ≤ l.length ∧ m = l.length - i ∧ ∀ j, j < i → q (l.getD j default) = false) (l.length) (0) ⟨by omega, rfl, fun j h => by omega⟩ (by first | rfl | (simp; done)) (by first | rfl | (simp; done)) ?_
 rintro m0 i ⟨hx1, hx2, hx3⟩
 refine AW.seq' ?_
 refine AW.region ?_
 refine AO.c ?_
 refine AO.nil ?_
 refine SQ.normal ?_
 refine AW.seq' ?_
 refine AW.iteB (GL.ev _) (fun h0 => ?_) (fun h0 => ?_)
 ·
  rw [decide_eq_true_eq] at h0
  have hi : i < l.length := by omega
  refine AW.skip ?_
  refine SQ.normal ?_
  refine AW.seq' ?_
  refine AW.block' ?_
  refine AW.seq' ?_
  refine AW.region ?_
  iterate 2 refine AO.c ?_
  refine AO.nil ?_
  refine SQ.normal ?_
  refine AW.seq' ?_
  refine AW.region ?_
  iterate 3 refine AO.c ?_
  refine AO.oo ?_
  refine AO.c ?_
  refine AO.callF (args' := .v (.int .i64 ((l.getD i default))) :: cs) hgc hf hname hb (h _ (getD_in hi)) rfl ?_
  refine AO.nil ?_
  refine SQ.normal ?_
  refine AW.iteB (GL.ev _) (fun h1 => ?_) (fun h1 => ?_)
  ·
   skip
   refine AW.seq' ?_
   refine AW.region ?_
   iterate 2 refine AO.c ?_
   refine AO.nil ?_
   refine SQ.normal ?_
   refine AW.ret ?_
   refine BQ.ret <| SQ.ret <| AW.out <| LU.ret <| BQ.ret <| SQ.ret ?_
   refine Fin.ret (Gh.refl) noid1 ?_
   rw [idxF_at hi hx3 h1]; rfl
  ·
   skip
   refine AW.skip ?_
   refine BQ.normal ?_
   refine SQ.normal ?_
   refine AW.region ?_
   refine AO.oo ?_
   refine AO.c ?_
   refine AO.nil ?_
   exact AW.backU [.k, .k, .f, .f, .f, .f, .f, .k, .k, .F, .f, .f] (m0 - 1) (i + 1) (by omega) (by (try dsimp only); exact ⟨by omega, by omega, fun j hj => (Nat.lt_or_eq_of_le (Nat.le_of_lt_succ hj)).elim (hx3 j) (fun h => by rw [h]; exact h1)⟩) (by first | rfl | (simp; done)) (by first | rfl | (simp; done))
 ·
  rw [decide_eq_false_iff_not] at h0
  refine AW.exit ?_
  refine SQ.exit <| AW.out <| LU.exit <| BQ.exit ?_
  refine SQ.normal ?_
  refine AW.seq' ?_
  refine AW.region ?_
  refine AO.c ?_
  refine AO.nil ?_
  refine SQ.normal ?_
  refine AW.ret ?_
  refine Fin.ret (Gh.refl) noid1 ?_
  rw [idxF_none (fun j hj => hx3 j (by omega))]; rfl
theorem ints_ContainsFunc (l : List Int) (f : FuncId) (cs : List AV) (q : Int → Bool) (fn : Func) (hl : l.length ≤ 9223372036854775807) (hgc : ∀ n, ∀ av ∈ cs, Gen n av) (hf : Tryz.prog.funcs[f]? = some fn) (hname : (fn.name == "runtime.NumGoroutine") = false) (hb : fn.body.isSome = true) (h : ∀ x ∈ l, A0 Tryz.prog f (.v (.int .i64 (x)) :: cs) (fun r => r = .v (.bool (q x)))) : A0 Tryz.prog 84 [.rd 1 (l.map iA), .fn f cs] (fun ret => ret = .v (.bool (l.any q))) := by
 haveI hga : ∀ n, GA n cs := fun n => ⟨hgc n⟩
 have hidx := ints_IndexFunc l f cs q fn hl hgc hf hname hb h
 refine A0.body 9 Tryz.func84 rfl rfl Tryz.ntmps84 fun base n0 => ?_
 refine AW.seq' ?_
 refine AW.region ?_
 refine AO.c ?_
 refine AO.nil ?_
 refine SQ.normal ?_
 refine AW.seq' ?_
 refine AW.region ?_
 iterate 2 refine AO.c ?_
 refine AO.call1 Tryz.func127 rfl rfl (hidx) ?_
 iterate 2 refine AO.c ?_
 refine AO.nil ?_
 refine SQ.normal ?_
 refine AW.ret ?_
 refine Fin.ret (Gh.refl) noid1 ?_
 rw [← idxF_ge]; rfl
set_option maxHeartbeats 2000000 in
theorem obj_section (o : ObjD) (i : Int) (ho : o.ok) (hi : 1 ≤ i ∧ i ≤ o.secs.length) : A0 Tryz.prog 80 [.agg (objA o), .v (.int .i64 (i))] (fun ret => ret = .v (.bool (sectionP o i))) := by
 have hl := ho.1
 have hly := ho.2.2.1
 rw [maxLen_eq] at hl hly
 have hii : (i - 1).toNat < o.secs.length := by omega
 have hs := secOk_at ho.2.1 hii
 have hal := hs.2.2.2.1
 unfold I64 at hal
 have hgl := ho.2.2.2.2.1
 rw [maxLen_eq] at hgl
 have hgm : ∀ g ∈ o.groups, g.mem.length ≤ 9223372036854775807 := fun g hg => by
  have := (ho.2.2.2.2.2.1 g hg).2.1
  rwa [maxLen_eq] at this
 have hcf := grps_ContainsFunc o.groups 123 [.eptr [.v (.int .i64 i)]] (fun g => g.mem.any fun x => decide (i = x)) _ hgl (fun n av h => by simp at h; subst h; exact .eptr fun j av hj => by cases j with | zero => simp at hj; subst hj; exact .v _ | succ j => simp at hj) Tryz.func123 rfl rfl (fun g h => obj_section1 g i (hgm g h))
 refine A0.body 95 Tryz.func80 rfl rfl Tryz.ntmps80 fun base n0 => ?_
 refine AW.seq' ?_
 refine AW.region ?_
 iterate 2 refine AO.ww ?_
 refine AO.c ?_
 refine AO.nil ?_
 refine SQ.normal ?_
 refine AW.seq' ?_
 refine AW.region ?_
 iterate 3 refine AO.c ?_
 iterate 2 refine AO.oo ?_
 refine AO.c ?_
 refine AO.ww ?_
 refine AO.sst ?_
 refine AO.nil ?_
 refine SQ.normal ?_
 refine AW.seq' ?_
 refine AW.seq' ?_
 refine AW.region ?_
 iterate 2 refine AO.c ?_
 refine AO.call1 Tryz.func119 rfl rfl (strtab_May _) ?_
 iterate 2 refine AO.c ?_
 iterate 4 refine AO.gx ?_
 iterate 2 refine AO.c ?_
 iterate 3 refine AO.gx ?_
 iterate 2 refine AO.c ?_
 refine AO.gx ?_
 refine AO.gxcall1 Tryz.func120 rfl rfl (fun hgd => obj_has _ 5) ?_
 refine AO.c ?_
 refine AO.nil ?_
 refine SQ.normal ?_
 refine AW.iteB (GL.ev _) (fun h0 => ?_) (fun h0 => ?_)
 ·
  skip
  refine AW.seq' ?_
  refine AW.region ?_
  refine AO.c ?_
  refine AO.nil ?_
  refine SQ.normal ?_
  refine AW.ret ?_
  refine SQ.ret ?_
  refine Fin.ret (Gh.refl) noid1 ?_
  unfold sectionP; simp only [*, cond_true, cond_false]; rfl
 ·
  skip
  refine AW.skip ?_
  refine SQ.normal ?_
  refine AW.seq' ?_
  refine AW.seq' ?_
  refine AW.region ?_
  iterate 4 refine AO.c ?_
  iterate 3 refine AO.gx ?_
  iterate 2 refine AO.c ?_
  iterate 4 refine AO.gx ?_
  refine AO.gxo (fun h => by simp only [Bool.not_eq_true', Bool.or_eq_false_iff, decide_eq_false_iff_not] at h; omega) ?_
  iterate 2 refine AO.gx ?_
  iterate 2 refine AO.c ?_
  refine AO.gx ?_
  refine AO.gxcall1 Tryz.func121 rfl rfl (fun hgd => obj_typed _) ?_
  refine AO.gx ?_
  iterate 2 refine AO.c ?_
  refine AO.gx ?_
  refine AO.gxcall1 Tryz.func122 rfl rfl (fun hgd => obj_merged _ hs (typed_size (by simp only [Bool.not_eq_true', Bool.or_eq_false_iff, Bool.not_eq_false'] at hgd; exact hgd.2))) ?_
  refine AO.gx ?_
  refine AO.c ?_
  refine AO.nil ?_
  refine SQ.normal ?_
  refine AW.iteB (GL.ev _) (fun h1 => ?_) (fun h1 => ?_)
  ·
   skip
   refine AW.seq' ?_
   refine AW.region ?_
   refine AO.c ?_
   refine AO.nil ?_
   refine SQ.normal ?_
   refine AW.ret ?_
   refine SQ.ret ?_
   refine Fin.ret (Gh.refl) noid1 ?_
   unfold sectionP; simp only [*, cond_true, cond_false]; rfl
  ·
   skip
   refine AW.skip ?_
   refine SQ.normal ?_
   refine AW.seq' ?_
   refine AW.seq' ?_
   refine AW.drawsZ [] (.one 0 false (.one 2 false (.one 3 false (.one 4 false (.one 1 true (.one 5 false (.one 6 false (.one 7 false (.one 8 false (.one 9 false (.one 10 false (.one 11 false (.one 12 true (.one 13 false (.one 14 false (.one 15 false (.one 16 false (.one 17 false (.one 18 false (.one 19 false (.one 20 false .nil))))))))))))))))))))) (by kernel_rfl) rfl (by kernel_rfl) ?_
   iterate 4 refine AZ.c rfl ?_
   refine AZ.call1 rfl Tryz.func120 rfl rfl (obj_has _ 128) ?_
   iterate 2 refine AZ.c rfl ?_
   iterate 5 refine AZ.gx rfl ?_
   refine AZ.gxcall1 rfl Tryz.func83 rfl rfl (fun hgd => obj_within _ _) ?_
   refine AZ.gx rfl ?_
   iterate 2 refine AZ.c rfl ?_
   iterate 4 refine AZ.gx rfl ?_
   refine AZ.c rfl ?_
   refine AZ.done ?_
   refine SQ.normal ?_
   refine AW.iteB (GL.ev _) (fun h2 => ?_) (fun h2 => ?_)
   ·
    skip
    refine AW.seq' ?_
    refine AW.region ?_
    refine AO.c ?_
    refine AO.nil ?_
    refine SQ.normal ?_
    refine AW.ret ?_
    refine SQ.ret ?_
    refine Fin.ret (Gh.refl) noid1 ?_
    unfold sectionP; simp only [*, cond_true, cond_false]; rfl
   ·
    skip
    refine AW.skip ?_
    refine SQ.normal ?_
    refine AW.seq' ?_
    refine AW.region ?_
    refine AO.ghost (Gh.freezeP 3) ?_
    iterate 2 refine AO.c ?_
    refine AO.nil ?_
    refine SQ.normal ?_
    refine AW.seq' ?_
    refine AW.drawsZ [] (.one 0 false (.one 1 false (.one 2 false (.one 4 false (.one 3 true (.one 5 true (.one 6 false (.one 7 false (.one 8 false (.one 9 false (.one 10 false (.one 11 false (.one 12 true (.one 13 false (.one 14 false .nil))))))))))))))) (by kernel_rfl) rfl (by kernel_rfl) ?_
    iterate 4 refine AZ.c rfl ?_
    refine AZ.call1 rfl Tryz.func125 rfl rfl (hcf) ?_
    refine AZ.call1 rfl Tryz.func120 rfl rfl (obj_has _ 512) ?_
    iterate 2 refine AZ.c rfl ?_
    iterate 4 refine AZ.gx rfl ?_
    refine AZ.gxcall1 rfl Tryz.func126 rfl rfl (fun hgd => obj_related _ _ hs (by unfold I64; omega)) ?_
    iterate 2 refine AZ.c rfl ?_
    refine AZ.done ?_
    refine SQ.normal ?_
    refine AW.ret ?_
    refine Fin.ret (Gh.refl) noid1 ?_
    unfold sectionP; simp only [*, cond_true, cond_false]; rfl
set_option maxHeartbeats 2000000 in
theorem obj_symbol (o : ObjD) (i : Int) (ho : o.ok) (hi : 0 ≤ i ∧ i < o.syms.length) : A0 Tryz.prog 81 [.agg (objA o), .v (.int .i64 (i))] (fun ret => ret = .v (.bool (symbolP o i))) := by
 have hl := ho.2.2.1
 rw [maxLen_eq] at hl
 have hl0 := ho.1
 rw [maxLen_eq] at hl0
 have hii : i.toNat < o.syms.length := by omega
 have hs := symOk_at ho.2.2.2.1 hii
 have hsec := hs.2.2.2.1
 unfold I64 at hsec
 refine A0.body 101 Tryz.func81 rfl rfl Tryz.ntmps81 fun base n0 => ?_
 refine AW.seq' ?_
 refine AW.region ?_
 refine AO.ww ?_
 refine AO.c ?_
 refine AO.nil ?_
 refine SQ.normal ?_
 refine AW.seq' ?_
 refine AW.region ?_
 iterate 3 refine AO.c ?_
 refine AO.oo ?_
 refine AO.c ?_
 refine AO.ww ?_
 refine AO.sst ?_
 refine AO.nil ?_
 refine SQ.normal ?_
 refine AW.seq' ?_
 refine AW.seq' ?_
 refine AW.region ?_
 iterate 2 refine AO.c ?_
 refine AO.nil ?_
 refine SQ.normal ?_
 refine AW.iteB (GL.ev _) (fun h0 => ?_) (fun h0 => ?_)
 ·
  skip
  refine AW.seq' ?_
  refine AW.region ?_
  iterate 4 refine AO.c ?_
  refine AO.nil ?_
  refine SQ.normal ?_
  refine AW.ret ?_
  refine SQ.ret ?_
  refine Fin.ret (Gh.refl) noid1 ?_
  first | (exfalso; rw [h3] at h4; cases h4; done) | (unfold symbolP; simp only [*, cond_true, cond_false]; rfl)
 ·
  skip
  refine AW.skip ?_
  refine SQ.normal ?_
  refine AW.seq' ?_
  refine AW.seq' ?_
  refine AW.region ?_
  iterate 2 refine AO.c ?_
  refine AO.call1 Tryz.func119 rfl rfl (strtab_May _) ?_
  iterate 2 refine AO.c ?_
  iterate 2 refine AO.gx ?_
  refine AO.gxcall1 Tryz.func83 rfl rfl (fun hgd => obj_within _ _) ?_
  refine AO.gx ?_
  iterate 2 refine AO.c ?_
  iterate 2 refine AO.gx ?_
  refine AO.gxcall1 Tryz.func83 rfl rfl (fun hgd => obj_within _ _) ?_
  refine AO.gx ?_
  iterate 2 refine AO.c ?_
  iterate 2 refine AO.gx ?_
  refine AO.gxcall1 Tryz.func83 rfl rfl (fun hgd => obj_within _ _) ?_
  refine AO.gx ?_
  iterate 2 refine AO.c ?_
  iterate 2 refine AO.gx ?_
  refine AO.gxcall1 Tryz.func83 rfl rfl (fun hgd => obj_within _ _) ?_
  refine AO.gx ?_
  refine AO.c ?_
  refine AO.nil ?_
  refine SQ.normal ?_
  refine AW.iteB (GL.ev _) (fun h1 => ?_) (fun h1 => ?_)
  ·
   skip
   refine AW.seq' ?_
   refine AW.region ?_
   refine AO.c ?_
   refine AO.nil ?_
   refine SQ.normal ?_
   refine AW.ret ?_
   refine SQ.ret ?_
   refine Fin.ret (Gh.refl) noid1 ?_
   first | (exfalso; rw [h3] at h4; cases h4; done) | (unfold symbolP; simp only [*, cond_true, cond_false]; rfl)
  ·
   skip
   refine AW.skip ?_
   refine SQ.normal ?_
   refine AW.seq' ?_
   refine AW.block' ?_
   refine AW.seq' ?_
   refine AW.region ?_
   iterate 4 refine AO.c ?_
   iterate 6 refine AO.gx ?_
   iterate 2 refine AO.c ?_
   refine AO.nil ?_
   refine SQ.normal ?_
   refine AW.iteB (GL.ev _) (fun h2 => ?_) (fun h2 => ?_)
   ·
    skip
    refine AW.seq' ?_
    refine AW.region ?_
    refine AO.c ?_
    refine AO.nil ?_
    refine SQ.normal ?_
    refine AW.ret ?_
    refine BQ.ret <| SQ.ret ?_
    refine Fin.ret (Gh.refl) noid1 ?_
    first | (exfalso; rw [h3] at h4; cases h4; done) | (unfold symbolP; simp only [*, cond_true, cond_false]; rfl)
   ·
    skip
    refine AW.seq' ?_
    refine AW.seq' ?_
    refine AW.drawsZ [] (.one 0 false (.one 1 false (.one 2 false (.one 3 false (.one 4 false (.one 5 false (.one 6 false (.one 7 false (.one 8 false (.one 9 false (.one 10 false (.one 11 false (.one 12 false (.one 13 false (.one 14 false (.one 15 false (.one 16 false .nil))))))))))))))))) (by kernel_rfl) rfl (by kernel_rfl) ?_
    iterate 4 refine AZ.c rfl ?_
    iterate 6 refine AZ.gx rfl ?_
    refine AZ.gxoo rfl ?_
    refine AZ.gxo rfl (fun h => by rw [decide_eq_true_eq] at h; simp only [Bool.or_eq_false_iff, decide_eq_false_iff_not] at h2; omega) ?_
    iterate 3 refine AZ.gx rfl ?_
    iterate 2 refine AZ.c rfl ?_
    refine AZ.done ?_
    refine SQ.normal ?_
    refine AW.iteB (GL.ev _) (fun h3 => ?_) (fun h3 => ?_)
    ·
     skip
     refine AW.skip ?_
     refine SQ.normal ?_
     refine AW.iteB (GL.ev _) (fun h4 => ?_) (fun h4 => ?_)
     ·
      skip
      refine AW.seq' ?_
      refine AW.region ?_
      refine AO.c ?_
      refine AO.nil ?_
      refine SQ.normal ?_
      refine AW.ret ?_
      refine BQ.ret <| SQ.ret ?_
      refine Fin.ret (Gh.refl) noid1 ?_
      first | (exfalso; rw [h3] at h4; cases h4; done) | (unfold symbolP; simp only [*, cond_true, cond_false]; rfl)
     ·
      skip
      refine AW.seq' ?_
      refine AW.region ?_
      iterate 4 refine AO.c ?_
      refine AO.nil ?_
      refine SQ.normal ?_
      refine AW.iteB (GL.ev _) (fun h5 => ?_) (fun h5 => ?_)
      ·
       skip
       refine AW.seq' ?_
       refine AW.region ?_
       iterate 4 refine AO.c ?_
       iterate 3 refine AO.gx ?_
       refine AO.gxoo ?_
       refine AO.gxo (fun h => by simp only [decide_eq_false_iff_not] at h0; omega) ?_
       iterate 3 refine AO.gx ?_
       iterate 2 refine AO.c ?_
       refine AO.nil ?_
       refine SQ.normal ?_
       refine AW.ret ?_
       refine BQ.ret <| SQ.ret ?_
       refine Fin.ret (Gh.refl) noid1 ?_
       first | (exfalso; rw [h3] at h4; cases h4; done) | (unfold symbolP; simp only [*, cond_true, cond_false]; rfl)
      ·
       skip
       refine AW.skip ?_
       refine BQ.normal ?_
       refine SQ.normal ?_
       refine AW.seq' ?_
       refine AW.region ?_
       iterate 4 refine AO.c ?_
       refine AO.nil ?_
       refine SQ.normal ?_
       refine AW.ret ?_
       refine Fin.ret (Gh.refl) noid1 ?_
       first | (exfalso; rw [h3] at h4; cases h4; done) | (unfold symbolP; simp only [*, cond_true, cond_false]; rfl)
    ·
     skip
     refine AW.region ?_
     iterate 4 refine AO.c ?_
     iterate 3 refine AO.gx ?_
     iterate 2 refine AO.c ?_
     refine AO.nil ?_
     refine SQ.normal ?_
     refine AW.iteB (GL.ev _) (fun h4 => ?_) (fun h4 => ?_)
     ·
      skip
      refine AW.seq' ?_
      refine AW.region ?_
      refine AO.c ?_
      refine AO.nil ?_
      refine SQ.normal ?_
      refine AW.ret ?_
      refine BQ.ret <| SQ.ret ?_
      refine Fin.ret (Gh.refl) noid1 ?_
      first | (exfalso; rw [h3] at h4; cases h4; done) | (unfold symbolP; simp only [*, cond_true, cond_false]; rfl)
     ·
      skip
      refine AW.seq' ?_
      refine AW.region ?_
      iterate 4 refine AO.c ?_
      refine AO.nil ?_
      refine SQ.normal ?_
      refine AW.iteB (GL.ev _) (fun h5 => ?_) (fun h5 => ?_)
      ·
       skip
       refine AW.seq' ?_
       refine AW.region ?_
       iterate 4 refine AO.c ?_
       iterate 3 refine AO.gx ?_
       refine AO.gxoo ?_
       refine AO.gxo (fun h => by simp only [decide_eq_false_iff_not] at h0; omega) ?_
       iterate 3 refine AO.gx ?_
       iterate 2 refine AO.c ?_
       refine AO.nil ?_
       refine SQ.normal ?_
       refine AW.ret ?_
       refine BQ.ret <| SQ.ret ?_
       refine Fin.ret (Gh.refl) noid1 ?_
       first | (exfalso; rw [h3] at h4; cases h4; done) | (unfold symbolP; simp only [*, cond_true, cond_false]; rfl)
      ·
       skip
       refine AW.skip ?_
       refine BQ.normal ?_
       refine SQ.normal ?_
       refine AW.seq' ?_
       refine AW.region ?_
       iterate 4 refine AO.c ?_
       refine AO.nil ?_
       refine SQ.normal ?_
       refine AW.ret ?_
       refine Fin.ret (Gh.refl) noid1 ?_
       first | (exfalso; rw [h3] at h4; cases h4; done) | (unfold symbolP; simp only [*, cond_true, cond_false]; rfl)
end Go.Proofs.YtdniaamhbfadnaaGreat.AL
namespace Go.Proofs.YtdniaamhbfadnaaGreat.AL
open Go Go.RowKit Go.Proofs.YtdniaamhbfadnaaGreat.Base
set_option linter.unusedVariables false
set_option linter.unusedSimpArgs false
set_option maxRecDepth 4000
set_option synthInstance.maxSize 1000
set_option synthInstance.maxHeartbeats 200000
def memsP (N : Int) : List Int → Int → List Int → Option (List Int)
 | seen, _, [] => some seen
 | seen, last, n :: r => if n ≤ last ∨ n > N ∨ n ∈ seen then none else memsP N (n :: seen) n r
def grpsP (N Y : Int) : List Int → List GrpD → Bool
 | _, [] => true
 | seen, g :: gs => if g.sym < 1 ∨ g.sym ≥ Y ∨ g.mem.length = 0 then false else match memsP N seen 0 g.mem with
  | none => false
  | some seen' => grpsP N Y seen' gs
def MapOk (es : List (Int × Int)) (sl : List Int) : Prop := ∀ n, (aget es n).getD 0 = if n ∈ sl then 1 else 0
theorem mapOk_put {es : List (Int × Int)} {sl : List Int} {k v : Int} (h : MapOk es sl) (hk : k ∉ sl) (hv : v = (aget es k).getD 0 + 1) : MapOk (aput es k v) (k :: sl) := by
 intro n
 have hk0 : (aget es k).getD 0 = 0 := by rw [h k, if_neg hk]
 rw [aget_aput]
 by_cases hn : n = k
 · subst hn
   rw [if_pos rfl, if_pos List.mem_cons_self, Option.getD_some]; omega
 · rw [if_neg (by first | exact hn | exact Ne.symm hn), h n]
   by_cases hm : n ∈ sl
   · rw [if_pos hm, if_pos (List.mem_cons_of_mem _ hm)]
   · rw [if_neg hm, if_neg (by simp [hn, hm])]
def shapeP (o : ObjD) : Bool :=
 !(decide ((o.secs.length : Int) > 32) || decide ((o.syms.length : Int) < 1) || decide ((o.syms.length : Int) > 128) || !grpsP o.secs.length o.syms.length [] o.groups) &&
 ((List.range o.secs.length).all fun k => sectionP o ((k : Int) + 1)) && ((List.range o.syms.length).all fun k => symbolP o k) && ((o.hasSig || decide ((o.sig.length : Int) = 0)) && !o.sig.any fun n => !withinB n (o.syms.length - 1))
set_option maxHeartbeats 2000000 in
theorem obj_groups (o : ObjD) (ho : o.ok) : A0 Tryz.prog 79 [.agg (objA o)] (fun ret => ret = .v (.bool (grpsP o.secs.length o.syms.length [] o.groups))) := by
 have hl := ho.2.2.1
 have hl0 := ho.1
 have hgl := ho.2.2.2.2.1
 have hgo := ho.2.2.2.2.2.1
 rw [maxLen_eq] at hl hl0 hgl
 refine A0.body 64 Tryz.func79 rfl rfl Tryz.ntmps79 fun base n0 => ?_
 refine AW.seq' ?_
 refine AW.region ?_
 refine AO.ww ?_
 refine AO.c ?_
 refine AO.nil ?_
 refine SQ.normal ?_
 refine AW.seq' ?_
 refine AW.region ?_
 refine AO.ww ?_
 refine AO.c ?_
 refine AO.nil ?_
 refine SQ.normal ?_
 refine AW.seq' ?_
 refine AW.seq' ?_
 refine AW.region ?_
 iterate 4 refine AO.c ?_
 refine AO.nil ?_
 refine SQ.normal ?_
 refine AW.block' ?_
 refine AW.ghost (Gh.mapM 1 kI vI) ?_
 refine AW.loopU4 [.f, .k, .f, .k, .f, .f, .f, .f, .f, .f, .f, .k, .k, .k, .F, .F, .F, .F, .F, .F, .f, .f] (fun (i j : Nat) (es : List (Int × Int)) (sl : List Int) => [(13, .v (.int .i64 (i)))]) (fun i j es sl => Hn n0 (([some (.box 29 (objA o)), some (.map ((es : List (Int × Int)).map (mE kI vI)))] ++ List.replicate j none) ++ [])) (fun m i j es sl => (i ≤ o.groups.length ∧ m = o.groups.length - i) ∧ MapOk es sl ∧ grpsP o.secs.length o.syms.length [] o.groups = grpsP o.secs.length o.syms.length sl (o.groups.drop i)) (o.groups.length) (0) (0) ([]) ([]) ⟨by omega, fun n => by simp [aget], rfl⟩ (by first | rfl | (simp; done)) (by first | rfl | (simp; done)) ?_
 rintro m0 i j es sl ⟨hx1, hx2, hx3⟩
 refine AW.seq' ?_
 refine AW.region ?_
 refine AO.c ?_
 refine AO.nil ?_
 refine SQ.normal ?_
 refine AW.seq' ?_
 refine AW.iteB (GL.ev _) (fun h0 => ?_) (fun h0 => ?_)
 ·
  rw [decide_eq_true_eq] at h0
  have hi : i < o.groups.length := by omega
  have hgm := (hgo _ (show o.groups.getD i default ∈ o.groups by rw [List.getD_eq_getElem?_getD, List.getElem?_eq_getElem hi]; exact List.getElem_mem hi)).2.1
  rw [maxLen_eq] at hgm
  rw [drop_getD hi, grpsP] at hx3
  generalize hge : o.groups.getD i default = g at hgm hx3
  refine AW.skip ?_
  refine SQ.normal ?_
  refine AW.seq' ?_
  refine AW.block' ?_
  refine AW.seq' ?_
  refine AW.region ?_
  refine AO.oo ?_
  refine AO.c ?_
  refine AO.eq 16 (av' := .agg (grpA g)) (by rw [hge]) ?_
  refine AO.ww ?_
  refine AO.sst ?_
  refine AO.nil ?_
  refine SQ.normal ?_
  refine AW.seq' ?_
  refine AW.seq' ?_
  refine AW.region ?_
  iterate 4 refine AO.c ?_
  iterate 6 refine AO.gx ?_
  iterate 2 refine AO.c ?_
  iterate 4 refine AO.gx ?_
  refine AO.c ?_
  refine AO.nil ?_
  refine SQ.normal ?_
  refine AW.iteB (GL.ev _) (fun h1 => ?_) (fun h1 => ?_)
  ·
   simp only [Bool.or_eq_true, decide_eq_true_eq] at h1
   rw [if_pos (by omega)] at hx3
   refine AW.seq' ?_
   refine AW.region ?_
   refine AO.c ?_
   refine AO.nil ?_
   refine SQ.normal ?_
   refine AW.ret ?_
   refine SQ.ret <| BQ.ret <| SQ.ret <| AW.out <| LU.ret <| BQ.ret <| SQ.ret ?_
   refine Fin.ret (Gh.refl) noid1 ?_
   rw [hx3]; rfl
  ·
   simp only [Bool.or_eq_false_iff, decide_eq_false_iff_not] at h1
   rw [if_neg (by omega)] at hx3
   refine AW.skip ?_
   refine SQ.normal ?_
   refine AW.seq' ?_
   refine AW.region ?_
   refine AO.c ?_
   refine AO.nil ?_
   refine SQ.normal ?_
   refine AW.seq' ?_
   refine AW.region ?_
   iterate 4 refine AO.c ?_
   refine AO.nil ?_
   refine SQ.normal ?_
   refine AW.block' ?_
   refine AW.loopU4 [.f, .k, .f, .k, .f, .f, .k, .f, .f, .f, .f, .k, .k, .k, .F, .F, .f, .f, .f, .f, .f, .k, .k, .k, .F, .F, .F, .f, .f] (fun (k : Nat) (last : Int) (es2 : List (Int × Int)) (sl2 : List Int) => [(6, .v (.int .i64 (last))), (37, .v (.int .i64 (k)))]) (fun k last es2 sl2 => Hn n0 ([some (.box 29 (objA o)), some (.map ((es2 : List (Int × Int)).map (mE kI vI)))] ++ List.replicate j none ++ [some (.box 107 (grpA g))])) (fun m k last es2 sl2 => (k ≤ g.mem.length ∧ m = g.mem.length - k) ∧ MapOk es2 sl2 ∧ memsP o.secs.length sl 0 g.mem = memsP o.secs.length sl2 last (g.mem.drop k)) (g.mem.length) (0) (0) (es) (sl) ⟨by omega, hx2, rfl⟩ (by first | rfl | (simp; done)) (by first | rfl | (simp; done)) ?_
   rintro m1 k last es2 sl2 ⟨hk1, hk2, hk3⟩
   refine AW.seq' ?_
   refine AW.region ?_
   refine AO.c ?_
   refine AO.nil ?_
   refine SQ.normal ?_
   refine AW.seq' ?_
   refine AW.iteB (GL.ev _) (fun h2 => ?_) (fun h2 => ?_)
   ·
    rw [decide_eq_true_eq] at h2
    have hk : k < g.mem.length := by omega
    rw [drop_getD hk, memsP] at hk3
    generalize hne : g.mem.getD k default = nn at hk3
    have hok := hk2 nn
    refine AW.skip ?_
    refine SQ.normal ?_
    refine AW.seq' ?_
    refine AW.block' ?_
    refine AW.seq' ?_
    refine AW.region ?_
    refine AO.oo ?_
    refine AO.c ?_
    refine AO.eq 40 (av' := .v (.int .i64 nn)) (by rw [hne]) ?_
    refine AO.c ?_
    refine AO.nil ?_
    refine SQ.normal ?_
    refine AW.seq' ?_
    refine AW.seq' ?_
    refine AW.region ?_
    iterate 4 refine AO.c ?_
    iterate 5 refine AO.gx ?_
    iterate 2 refine AO.c ?_
    iterate 4 refine AO.gx ?_
    refine AO.c ?_
    refine AO.nil ?_
    refine SQ.normal ?_
    refine AW.iteB (GL.ev _) (fun h3 => ?_) (fun h3 => ?_)
    ·
     rw [hok] at h3
     have h4 : nn ≤ last ∨ nn > o.secs.length ∨ nn ∈ sl2 := by
      simp only [Bool.or_eq_true, decide_eq_true_eq] at h3
      rcases h3 with (h3 | h3) | h3
      · exact .inl h3
      · exact .inr (.inl h3)
      · refine .inr (.inr ?_)
        rcases Decidable.em (nn ∈ sl2) with h | h
        · exact h
        · rw [if_neg h] at h3; omega
     rw [if_pos h4] at hk3
     rw [hk3] at hx3
     dsimp only at hx3
     refine AW.seq' ?_
     refine AW.region ?_
     refine AO.c ?_
     refine AO.nil ?_
     refine SQ.normal ?_
     refine AW.ret ?_
     refine SQ.ret <| BQ.ret <| SQ.ret <| AW.out <| LU.ret <| BQ.ret <| BQ.ret <| SQ.ret <| AW.out <| LU.ret <| BQ.ret <| SQ.ret ?_
     refine Fin.ret (Gh.refl) noid1 ?_
     rw [hx3]; rfl
    ·
     rw [hok] at h3
     simp only [Bool.or_eq_false_iff, decide_eq_false_iff_not] at h3
     have hnm : nn ∉ sl2 := fun h => by rw [if_pos h] at h3; exact h3.2 (by decide)
     rw [if_neg (by rintro (h | h | h); exact h3.1.1 h; exact h3.1.2 h; exact hnm h)] at hk3
     refine AW.skip ?_
     refine SQ.normal ?_
     refine AW.seq' ?_
     refine AW.region ?_
     iterate 3 refine AO.c ?_
     refine AO.o (by rw [hok]; split <;> omega) ?_
     refine AO.sst ?_
     refine AO.nil ?_
     refine SQ.normal ?_
     refine AW.region ?_
     iterate 2 refine AO.c ?_
     refine AO.nil ?_
     refine BQ.normal ?_
     refine SQ.normal ?_
     refine AW.region ?_
     refine AO.oo ?_
     refine AO.c ?_
     refine AO.nil ?_
     exact AW.backU [.f, .k, .f, .k, .f, .f, .k, .f, .f, .f, .f, .k, .k, .k, .F, .F, .f, .f, .f, .f, .f, .k, .k, .k, .F, .F, .F, .f, .f] (m1 - 1) (k + 1, nn, aput es2 nn ((aget es2 nn).getD 0 + 1), nn :: sl2) (by omega) (by (try dsimp only); exact ⟨by omega, mapOk_put hk2 hnm rfl, hk3⟩) (by first | rfl | (simp; done)) (by first | rfl | (simp; done))
   ·
    rw [decide_eq_false_iff_not] at h2
    rw [List.drop_of_length_le (by omega), memsP] at hk3
    rw [hk3] at hx3
    dsimp only at hx3
    refine AW.exit ?_
    refine SQ.exit <| AW.out <| LU.exit <| BQ.exit ?_
    refine BQ.normal ?_
    refine SQ.normal ?_
    refine AW.region ?_
    refine AO.oo ?_
    refine AO.c ?_
    refine AO.nil ?_
    exact AW.backD [.f, .k, .f, .k, .f, .f, .f, .f, .f, .f, .f, .k, .k, .k, .F, .F, .F, .F, .F, .F, .f, .f] ([some (.box 29 (objA o)), some (.map ((es2 : List (Int × Int)).map (mE kI vI)))]) (j) (m0 - 1) (i + 1, j + 1, es2, sl2) (by omega) (by (try dsimp only); exact ⟨by omega, hk2, hx3⟩) (by first | rfl | (simp; done)) (by first | rfl | (simp; done))
 ·
  rw [decide_eq_false_iff_not] at h0
  refine AW.exit ?_
  refine SQ.exit <| AW.out <| LU.exit <| BQ.exit ?_
  refine SQ.normal ?_
  refine AW.seq' ?_
  refine AW.region ?_
  refine AO.c ?_
  refine AO.nil ?_
  refine SQ.normal ?_
  refine AW.ret ?_
  refine Fin.ret (Gh.refl) noid1 ?_
  rw [hx3, List.drop_of_length_le (by omega)]; rfl
theorem obj_shape1 (n : Int) (o : ObjD) (ho : o.syms.length ≤ 9223372036854775807) : A0 Tryz.prog 82 [.v (.int .i64 (n)), .eptr (objA o)] (fun ret => ret = .v (.bool (!withinB n (o.syms.length - 1)))) := by
 refine A0.body 11 Tryz.func82 rfl rfl Tryz.ntmps82 fun base n0 => ?_
 refine AW.seq' ?_
 refine AW.region ?_
 refine AO.c ?_
 refine AO.nil ?_
 refine SQ.normal ?_
 refine AW.seq' ?_
 refine AW.region ?_
 iterate 4 refine AO.c ?_
 refine AO.oo ?_
 refine AO.call1 Tryz.func83 rfl rfl (obj_within _ _) ?_
 iterate 2 refine AO.c ?_
 refine AO.nil ?_
 refine SQ.normal ?_
 refine AW.ret ?_
 refine Fin.ret (Gh.refl) noid1 ?_
 rfl
set_option maxHeartbeats 2000000 in
theorem obj_shape (o : ObjD) (ho : o.ok) : A0 Tryz.prog 30 [.agg (objA o)] (fun ret => ret = .v (.bool (shapeP o))) := by
 have hl := ho.2.2.1
 have hl0 := ho.1
 have hsl := ho.2.2.2.2.2.2.1
 rw [maxLen_eq] at hl hl0 hsl
 have hcf := ints_ContainsFunc o.sig 82 [.eptr (objA o)] (fun n => !withinB n (o.syms.length - 1)) _ hsl (fun n => (inferInstance : GA n [.eptr (objA o)]).h) Tryz.func82 rfl rfl (fun n _ => obj_shape1 n o hl)
 refine A0.body 66 Tryz.func30 rfl rfl Tryz.ntmps30 fun base n0 => ?_
 refine AW.seq' ?_
 refine AW.region ?_
 refine AO.ww ?_
 refine AO.c ?_
 refine AO.nil ?_
 refine SQ.normal ?_
 refine AW.seq' ?_
 refine AW.seq' ?_
 refine AW.region ?_
 iterate 5 refine AO.c ?_
 iterate 4 refine AO.gx ?_
 iterate 2 refine AO.c ?_
 iterate 4 refine AO.gx ?_
 iterate 2 refine AO.c ?_
 refine AO.gx ?_
 refine AO.gxcall1 Tryz.func79 rfl rfl (fun hgd => obj_groups _ (by assumption)) ?_
 refine AO.gx ?_
 refine AO.c ?_
 refine AO.nil ?_
 refine SQ.normal ?_
 refine AW.iteB (GL.ev _) (fun h0 => ?_) (fun h0 => ?_)
 ·
  have e : shapeP o = false := by unfold shapeP; rw [h0]; rfl
  refine AW.seq' ?_
  refine AW.region ?_
  refine AO.c ?_
  refine AO.nil ?_
  refine SQ.normal ?_
  refine AW.ret ?_
  refine SQ.ret ?_
  refine Fin.ret (Gh.refl) noid1 ?_
  rw [e]; rfl
 ·
  skip
  refine AW.skip ?_
  refine SQ.normal ?_
  refine AW.seq' ?_
  refine AW.seq' ?_
  refine AW.region ?_
  iterate 4 refine AO.c ?_
  refine AO.nil ?_
  refine SQ.normal ?_
  refine AW.block' ?_
  refine AW.loopU [.f, .k, .F, .F, .F, .f, .f, .f, .k, .k, .F, .F, .F, .F, .f, .f, .f] (fun (i : Nat) => [(30, .v (.int .i64 (i)))]) (fun i => Hn n0 [some (.box 29 (objA o))]) (fun m i => i ≤ o.secs.length ∧ m = o.secs.length - i ∧ ((List.range i).all fun k => sectionP o ((k : Int) + 1)) = true) (o.secs.length) (0) ⟨by omega, by omega, rfl⟩ (by first | rfl | (simp; done)) (by first | rfl | (simp; done)) ?_
  rintro m0 i ⟨hx1, hx2, hx3⟩
  refine AW.seq' ?_
  refine AW.region ?_
  refine AO.c ?_
  refine AO.nil ?_
  refine SQ.normal ?_
  refine AW.seq' ?_
  refine AW.iteB (GL.ev _) (fun h1 => ?_) (fun h1 => ?_)
  ·
   rw [decide_eq_true_eq] at h1
   have hi : i < o.secs.length := by omega
   refine AW.skip ?_
   refine SQ.normal ?_
   refine AW.seq' ?_
   refine AW.block' ?_
   refine AW.seq' ?_
   refine AW.region ?_
   iterate 2 refine AO.c ?_
   refine AO.nil ?_
   refine SQ.normal ?_
   refine AW.seq' ?_
   refine AW.region ?_
   iterate 2 refine AO.c ?_
   refine AO.oo ?_
   refine AO.call1 Tryz.func80 rfl rfl (obj_section _ _ (by assumption) (by omega)) ?_
   refine AO.c ?_
   refine AO.nil ?_
   refine SQ.normal ?_
   refine AW.iteB (GL.ev _) (fun h2 => ?_) (fun h2 => ?_)
   ·
    have e : shapeP o = false := by
     have : ((List.range o.secs.length).all fun k => sectionP o ((k : Int) + 1)) = false := range_all_false hi (by simpa using h2)
     unfold shapeP; rw [this, Bool.and_false]; rfl
    refine AW.seq' ?_
    refine AW.region ?_
    refine AO.c ?_
    refine AO.nil ?_
    refine SQ.normal ?_
    refine AW.ret ?_
    refine BQ.ret <| SQ.ret <| AW.out <| LU.ret <| BQ.ret <| SQ.ret ?_
    refine Fin.ret (Gh.refl) noid1 ?_
    rw [e]; rfl
   ·
    have e : ((List.range (i + 1)).all fun k => sectionP o ((k : Int) + 1)) = true := by
     rw [range_all_succ, hx3]; simpa using h2
    refine AW.skip ?_
    refine BQ.normal ?_
    refine SQ.normal ?_
    refine AW.region ?_
    refine AO.oo ?_
    refine AO.c ?_
    refine AO.nil ?_
    exact AW.backU [.f, .k, .F, .F, .F, .f, .f, .f, .k, .k, .F, .F, .F, .F, .f, .f, .f] (m0 - 1) (i + 1) (by omega) (by (try dsimp only); exact ⟨by omega, by omega, e⟩) (by first | rfl | (simp; done)) (by first | rfl | (simp; done))
  ·
   rw [decide_eq_false_iff_not] at h1
   have hss : ((List.range o.secs.length).all fun k => sectionP o ((k : Int) + 1)) = true := by
    rw [← hx3, show i = o.secs.length by omega]
   refine AW.exit ?_
   refine SQ.exit <| AW.out <| LU.exit <| BQ.exit ?_
   refine SQ.normal ?_
   refine AW.seq' ?_
   refine AW.seq' ?_
   refine AW.region ?_
   iterate 4 refine AO.c ?_
   refine AO.nil ?_
   refine SQ.normal ?_
   refine AW.block' ?_
   refine AW.loopU [.f, .k, .F, .F, .F, .F, .f, .f, .f, .f, .f, .f, .f, .k, .k, .F, .F, .f, .f, .f, .f, .f, .f, .f] (fun (i : Nat) => [(42, .v (.int .i64 (i)))]) (fun i => Hn n0 [some (.box 29 (objA o))]) (fun m i => i ≤ o.syms.length ∧ m = o.syms.length - i ∧ ((List.range i).all fun k => symbolP o k) = true) (o.syms.length) (0) ⟨by omega, by omega, rfl⟩ (by first | rfl | (simp; done)) (by first | rfl | (simp; done)) ?_
   rintro m1 i ⟨hx1, hx2, hx3⟩
   refine AW.seq' ?_
   refine AW.region ?_
   refine AO.c ?_
   refine AO.nil ?_
   refine SQ.normal ?_
   refine AW.seq' ?_
   refine AW.iteB (GL.ev _) (fun h3 => ?_) (fun h3 => ?_)
   ·
    rw [decide_eq_true_eq] at h3
    have hi : i < o.syms.length := by omega
    refine AW.skip ?_
    refine SQ.normal ?_
    refine AW.seq' ?_
    refine AW.block' ?_
    refine AW.seq' ?_
    refine AW.region ?_
    iterate 2 refine AO.c ?_
    refine AO.nil ?_
    refine SQ.normal ?_
    refine AW.seq' ?_
    refine AW.region ?_
    iterate 2 refine AO.c ?_
    refine AO.call1 Tryz.func81 rfl rfl (obj_symbol _ _ (by assumption) ⟨by omega, by omega⟩) ?_
    refine AO.c ?_
    refine AO.nil ?_
    refine SQ.normal ?_
    refine AW.iteB (GL.ev _) (fun h4 => ?_) (fun h4 => ?_)
    ·
     have e : shapeP o = false := by
      have : ((List.range o.syms.length).all fun k => symbolP o k) = false := range_all_false hi (by simpa using h4)
      unfold shapeP; rw [this, Bool.and_false]; rfl
     refine AW.seq' ?_
     refine AW.region ?_
     refine AO.c ?_
     refine AO.nil ?_
     refine SQ.normal ?_
     refine AW.ret ?_
     refine BQ.ret <| SQ.ret <| AW.out <| LU.ret <| BQ.ret <| SQ.ret ?_
     refine Fin.ret (Gh.refl) noid1 ?_
     rw [e]; rfl
    ·
     have e : ((List.range (i + 1)).all fun k => symbolP o k) = true := by
      rw [range_all_succ, hx3]; simpa using h4
     refine AW.skip ?_
     refine BQ.normal ?_
     refine SQ.normal ?_
     refine AW.region ?_
     refine AO.oo ?_
     refine AO.c ?_
     refine AO.nil ?_
     exact AW.backU [.f, .k, .F, .F, .F, .F, .f, .f, .f, .f, .f, .f, .f, .k, .k, .F, .F, .f, .f, .f, .f, .f, .f, .f] (m1 - 1) (i + 1) (by omega) (by (try dsimp only); exact ⟨by omega, by omega, e⟩) (by first | rfl | (simp; done)) (by first | rfl | (simp; done))
   ·
    rw [decide_eq_false_iff_not] at h3
    have hys : ((List.range o.syms.length).all fun k => symbolP o k) = true := by
     rw [← hx3, show i = o.syms.length by omega]
    refine AW.exit ?_
    refine SQ.exit <| AW.out <| LU.exit <| BQ.exit ?_
    refine SQ.normal ?_
    refine AW.seq' ?_
    refine AW.region ?_
    refine AO.ghost (Gh.freezeP 1) ?_
    iterate 2 refine AO.c ?_
    refine AO.nil ?_
    refine SQ.normal ?_
    refine AW.seq' ?_
    refine AW.region ?_
    iterate 3 refine AO.c ?_
    iterate 4 refine AO.gx ?_
    iterate 2 refine AO.c ?_
    iterate 3 refine AO.gx ?_
    refine AO.gxcall1 Tryz.func84 rfl rfl (fun hgd => hcf) ?_
    refine AO.gx ?_
    iterate 2 refine AO.c ?_
    refine AO.nil ?_
    refine SQ.normal ?_
    refine AW.ret ?_
    refine Fin.ret (Gh.refl) noid1 ?_
    unfold shapeP; rw [h0, hss, hys]; rfl
end Go.Proofs.YtdniaamhbfadnaaGreat.AL
namespace Go.Proofs.YtdniaamhbfadnaaGreat.AL
open Go Go.RowKit Go.Proofs.YtdniaamhbfadnaaGreat.Base
set_option linter.unusedVariables false
set_option linter.unusedSimpArgs false
set_option maxRecDepth 4000
set_option synthInstance.maxSize 1000
set_option synthInstance.maxHeartbeats 200000
theorem mayS_nameB (s : ByteArray) : mayS s = nameB s := by
 by_cases hs : s.size ≤ 32
 · by_cases h0 : s.data.toList.all (· ≠ 0) = true
   · have h1 : nameB s = true := by unfold nameB; rw [decide_eq_true hs, h0]; rfl
     rw [h1]
     refine mayS_of hs fun j hj => ?_
     have hlt : j < s.data.toList.length := by simpa using hj
     have h2 := List.all_eq_true.1 h0 s.data.toList[j] (List.getElem_mem hlt)
     rw [List.getD_eq_getElem?_getD, List.getElem?_eq_getElem hlt, Option.getD_some]
     intro h3
     have : s.data.toList[j] = 0 := UInt8.toNat_inj.1 (by simpa using h3)
     rw [this] at h2; simp at h2
   · have h0 : s.data.toList.all (· ≠ 0) = false := by simpa using h0
     have h1 : nameB s = false := by unfold nameB; rw [h0, Bool.and_false]
     rw [h1]
     rw [List.all_eq_false] at h0
     obtain ⟨x, hx, hx0⟩ := h0
     obtain ⟨j, hj, rfl⟩ := List.getElem_of_mem hx
     refine mayS_no (j := j) (by simpa using hj) ?_
     rw [List.getD_eq_getElem?_getD, List.getElem?_eq_getElem hj, Option.getD_some]
     have : s.data.toList[j] = 0 := by simpa using hx0
     rw [this]; rfl
 · unfold mayS nameB
   rw [decide_eq_false (fun h => hs h.1), decide_eq_false hs, Bool.false_and]
theorem symbol_eq (o : ObjD) (i : Int) : symbolP o i = symbolB o i := by
 unfold symbolP symbolB withinB
 rw [mayS_nameB]
 generalize nameB (o.syms.getD i.toNat default).name = nb
 generalize (o.syms.getD i.toNat default).bind = b
 generalize (o.syms.getD i.toNat default).typ = t
 generalize (o.syms.getD i.toNat default).sec = c
 generalize (o.syms.getD i.toNat default).val = v
 generalize (o.syms.getD i.toNat default).size = z
 generalize (o.secs.getD (c - 1).toNat default).size = w
 generalize (o.syms.getD (i - 1).toNat default).bind = pb
 by_cases hi : i = 0
 · rw [decide_eq_true hi, cond_true, cond_true]; simp [Bool.and_assoc]
 · rw [decide_eq_false hi, cond_false, cond_false]
   cases nb with
   | false => rfl
   | true => grind
def inc : Int → List Int → Prop
 | _, [] => True
 | a, x :: r => a < x ∧ inc x r
theorem inc_gt : ∀ (l : List Int) (a : Int), inc a l → ∀ x ∈ l, a < x := by
 intro l
 induction l with
 | nil => intro a _ x hx; cases hx
 | cons y r ih =>
  intro a h x hx
  rcases List.mem_cons.1 hx with rfl | hx
  · exact h.1
  · exact Int.lt_trans h.1 (ih y h.2 x hx)
theorem inc_count : ∀ (l : List Int) (a : Int), inc a l → ∀ n, l.count n = if n ∈ l then 1 else 0 := by
 intro l
 induction l with
 | nil => intro a _ n; simp
 | cons y r ih =>
  intro a h n
  rw [List.count_cons, ih y h.2 n]
  by_cases hy : y = n
  · subst hy
    have : y ∉ r := fun hm => absurd (inc_gt r y h.2 y hm) (Int.lt_irrefl y)
    simp [this]
  · have : ¬ n = y := fun h => hy h.symm
    simp [hy, this]
theorem inc_index : ∀ (l : List Int) (a : Int), inc a l ↔ ∀ k, k < l.length → (if k = 0 then a else l.getD (k - 1) default) < l.getD k default := by
 intro l
 induction l with
 | nil => intro a; simp [inc]
 | cons y r ih =>
  intro a
  rw [inc, ih y]
  constructor
  · rintro ⟨h1, h2⟩ k hk
    cases k with
    | zero => simpa using h1
    | succ k =>
     have := h2 k (by simpa using hk)
     rw [if_neg (by omega)]
     cases k with
     | zero => simpa using this
     | succ k => rw [if_neg (by omega)] at this; simpa using this
  · intro h
    refine ⟨by simpa using h 0 (by simp), fun k hk => ?_⟩
    have := h (k + 1) (by simpa using hk)
    rw [if_neg (by omega)] at this
    cases k with
    | zero => simpa using this
    | succ k => rw [if_neg (by omega)]; simpa using this
theorem mem_iff {N : Int} {l : List Int} : ((List.range l.length).all fun k => !memB N l k) = true ↔ inc 0 l ∧ ∀ x ∈ l, x ≤ N := by
 rw [List.all_eq_true]
 constructor
 · intro h
   have h' : ∀ k, k < l.length → 1 ≤ l.getD k default ∧ l.getD k default ≤ N ∧ (0 < k → l.getD (k - 1) default < l.getD k default) := by
    intro k hk
    have := h k (List.mem_range.2 hk)
    unfold memB at this
    simp only [Bool.not_eq_true', Bool.or_eq_false_iff, Bool.and_eq_false_iff, decide_eq_false_iff_not] at this
    obtain ⟨⟨h1, h2⟩, h3⟩ := this
    refine ⟨by omega, by omega, fun h0 => ?_⟩
    rw [show ((k : Int) - 1).toNat = k - 1 by omega] at h3
    omega
   refine ⟨(inc_index l 0).2 fun k hk => ?_, fun x hx => ?_⟩
   · have := h' k hk
     split
     · omega
     · exact this.2.2 (by omega)
   · obtain ⟨k, hk, rfl⟩ := List.getElem_of_mem hx
     have := (h' k hk).2.1
     simpa [hk] using this
 · rintro ⟨h1, h2⟩ k hk
   have hk := List.mem_range.1 hk
   have h3 := (inc_index l 0).1 h1 k hk
   have hm : l.getD k default ∈ l := by rw [List.getD_eq_getElem?_getD, List.getElem?_eq_getElem hk]; exact List.getElem_mem hk
   have h4 := inc_gt l 0 h1 _ hm
   have h5 := h2 _ hm
   unfold memB
   simp only [Bool.not_eq_true', Bool.or_eq_false_iff, Bool.and_eq_false_iff, decide_eq_false_iff_not]
   refine ⟨⟨by omega, by omega⟩, ?_⟩
   by_cases h0 : k = 0
   · exact .inl (by omega)
   · right
     rw [if_neg h0] at h3
     rw [show ((k : Int) - 1).toNat = k - 1 by omega]
     omega
theorem memsP_spec {N : Int} : ∀ (l : List Int) (seen : List Int) (last : Int) (s' : List Int), memsP N seen last l = some s' ↔ inc last l ∧ (∀ x ∈ l, x ≤ N) ∧ (∀ x ∈ l, x ∉ seen) ∧ s' = l.reverse ++ seen := by
 intro l
 induction l with
 | nil => intro seen last s'; simp [memsP, inc, eq_comm]
 | cons n r ih =>
  intro seen last s'
  rw [memsP]
  split
  · rename_i h
    constructor
    · intro h2; cases h2
    · rintro ⟨h1, h2, h3, _⟩
      rcases h with h | h | h
      · have := h1.1; omega
      · have := h2 n List.mem_cons_self; omega
      · exact absurd h (h3 n List.mem_cons_self)
  · rename_i h
    have hn : ¬ n ≤ last ∧ ¬ n > N ∧ n ∉ seen := ⟨fun q => h (.inl q), fun q => h (.inr (.inl q)), fun q => h (.inr (.inr q))⟩
    rw [ih]
    constructor
    · rintro ⟨h1, h2, h3, h4⟩
      refine ⟨⟨by omega, h1⟩, fun x hx => ?_, fun x hx => ?_, by rw [h4]; simp⟩
      · rcases List.mem_cons.1 hx with rfl | hx
        · omega
        · exact h2 x hx
      · rcases List.mem_cons.1 hx with rfl | hx
        · exact hn.2.2
        · exact fun q => h3 x hx (List.mem_cons_of_mem _ q)
    · rintro ⟨h1, h2, h3, h4⟩
      refine ⟨h1.2, fun x hx => h2 x (List.mem_cons_of_mem _ hx), fun x hx q => ?_, by rw [h4]; simp⟩
      rcases List.mem_cons.1 q with rfl | q
      · exact absurd (inc_gt r x h1.2 x hx) (Int.lt_irrefl x)
      · exact h3 x (List.mem_cons_of_mem _ hx) q
theorem memberF_cons (g : GrpD) (gs : List GrpD) (n : Int) : memberF (g :: gs) n = (g.mem.count n : Int) + memberF gs n := by unfold memberF; simp
def GrpOk (N Y : Int) (g : GrpD) : Prop := 1 ≤ g.sym ∧ g.sym < Y ∧ g.mem.length ≠ 0 ∧ inc 0 g.mem ∧ ∀ x ∈ g.mem, x ≤ N
theorem grpsP_spec {N Y : Int} : ∀ (gs : List GrpD) (seen : List Int), grpsP N Y seen gs = true ↔ (∀ g ∈ gs, GrpOk N Y g) ∧ ∀ n, 1 ≤ n → n ≤ N → (if n ∈ seen then 1 else 0) + memberF gs n ≤ 1 := by
 intro gs
 induction gs with
 | nil =>
  intro seen
  rw [grpsP]
  refine ⟨fun _ => ⟨fun g hg => by simp at hg, fun n _ _ => ?_⟩, fun _ => rfl⟩
  unfold memberF; simp; split <;> omega
 | cons g gs ih =>
  intro seen
  rw [grpsP]
  split
  · rename_i h
    constructor
    · intro h2; cases h2
    · rintro ⟨h1, _⟩
      have := h1 g List.mem_cons_self
      unfold GrpOk at this
      omega
  · rename_i h
    cases hm : memsP N seen 0 g.mem with
    | none =>
     dsimp only
     constructor
     · intro h2; cases h2
     · rintro ⟨h1, h2⟩
       exfalso
       obtain ⟨_, _, _, g4, g5⟩ := h1 g List.mem_cons_self
       have : memsP N seen 0 g.mem = some (g.mem.reverse ++ seen) := by
        refine (memsP_spec _ _ _ _).2 ⟨g4, g5, fun x hx hs => ?_, rfl⟩
        have h3 := h2 x (by have := inc_gt _ _ g4 x hx; omega) (g5 x hx)
        rw [if_pos hs, memberF_cons, inc_count _ _ g4, if_pos hx] at h3
        have := memberF_range (l := gs) (n := x)
        omega
       rw [hm] at this; cases this
    | some s' =>
     dsimp only
     obtain ⟨m1, m2, m3, rfl⟩ := (memsP_spec _ _ _ _).1 hm
     rw [ih]
     constructor
     · rintro ⟨h1, h2⟩
       refine ⟨fun x hx => ?_, fun n hn1 hn2 => ?_⟩
       · rcases List.mem_cons.1 hx with rfl | hx
         · exact ⟨by omega, by omega, by omega, m1, m2⟩
         · exact h1 x hx
       · have := h2 n hn1 hn2
         rw [memberF_cons, inc_count _ _ m1]
         by_cases hg : n ∈ g.mem
         · have hs := m3 n hg
           rw [if_pos (by simp [hg])] at this
           rw [if_neg hs, if_pos hg]; omega
         · rw [if_neg hg]
           have e : (n ∈ g.mem.reverse ++ seen) ↔ n ∈ seen := by simp [hg]
           simp only [e] at this
           omega
     · rintro ⟨h1, h2⟩
       refine ⟨fun x hx => h1 x (List.mem_cons_of_mem _ hx), fun n hn1 hn2 => ?_⟩
       have := h2 n hn1 hn2
       rw [memberF_cons, inc_count _ _ m1] at this
       by_cases hg : n ∈ g.mem
       · have hs := m3 n hg
         rw [if_neg hs, if_pos hg] at this
         rw [if_pos (by simp [hg])]; omega
       · rw [if_neg hg] at this
         have e : (n ∈ g.mem.reverse ++ seen) ↔ n ∈ seen := by simp [hg]
         simp only [e]
         omega
theorem grpB_iff {o : ObjD} {g : GrpD} : grpB o g = true ↔ GrpOk o.secs.length o.syms.length g := by
 unfold grpB GrpOk
 rw [Bool.and_eq_true, mem_iff]
 simp only [Bool.and_eq_true, decide_eq_true_eq]
 constructor
 · rintro ⟨⟨⟨a, b⟩, c⟩, d, e⟩; exact ⟨a, b, c, d, e⟩
 · rintro ⟨a, b, c, d, e⟩; exact ⟨⟨⟨a, b⟩, c⟩, d, e⟩
theorem pow_all : ∀ a : Nat, a < 4097 → (decide (a ≠ 0) && decide (a &&& (a - 1) = 0)) = powL.contains (a : Int) := by decide +kernel
theorem align_eq {a : Int} (ha : I64 a) : (!(decide (a < 1) || decide (a > 4096) || decide (band a (a - 1) ≠ 0))) = alignB a := by
 by_cases h : 1 ≤ a ∧ a ≤ 4096
 · obtain ⟨m, rfl⟩ := Int.eq_ofNat_of_zero_le (by omega : 0 ≤ a)
   have h1 := pow_all m (by omega)
   have e : ((m : Int) - 1) = ((m - 1 : Nat) : Int) := by omega
   rw [e, band_nat (by omega) (by omega)]
   unfold alignB
   rw [← h1, decide_eq_false (by omega : ¬ (m : Int) < 1), decide_eq_false (by omega : ¬ (m : Int) > 4096), decide_eq_true (by omega : m ≠ 0), Bool.eq_iff_iff]
   simp
   try omega
 · have : alignB a = false := by
    unfold alignB
    rw [← Bool.not_eq_true, List.contains_iff_mem]
    unfold powL
    simp
    omega
   rw [this, Bool.not_eq_false']
   rcases (by omega : a < 1 ∨ a > 4096) with h | h
   · rw [decide_eq_true h]; rfl
   · rw [decide_eq_true h, Bool.or_true]; rfl
theorem rel_eq {many len : Int} : ∀ (l : List RelD) (prev : Option RelD) (e : Int), (∀ p, prev = some p → e = p.off + widthF p.typ) → (prev = none → e = 0) → relGP many len e l = relsG many len prev l := by
 intro l
 induction l with
 | nil => intro prev e _ _; cases prev <;> rfl
 | cons r rs ih =>
  intro prev e h1 h2
  rw [relGP, relsG_cons, ih (some r) (r.off + widthF r.typ) (fun p hp => by rw [Option.some.inj hp]) (fun h => by cases h)]
  cases hm : mayRelB r with
  | false => rfl
  | true =>
   have ho := mayRel_off hm
   have e1 : decide (r.off < e) = prevBad r prev := by
    cases prev with
    | none => rw [h2 rfl, decide_eq_false (by omega)]; rfl
    | some p => rw [h1 p rfl]; rfl
   have e2 : decide (r.off > len - widthF r.typ) = decide (r.off + widthF r.typ > len) := by rw [Bool.eq_iff_iff, decide_eq_true_eq, decide_eq_true_eq]; omega
   rw [e1, e2]
   cases decide (r.sym ≥ many) <;> cases prevBad r prev <;> cases decide (r.off + widthF r.typ > len) <;> rfl
theorem related_eq (o : ObjD) (s : SecD) : relatedP s o.syms.length = relsB o s := by
 unfold relatedP relsB
 rw [rel_eq s.rels none 0 (fun p h => by cases h) (fun _ => rfl)]
theorem hasP_F {f : Int} (h0 : 0 ≤ f) (h1 : f ≤ 9223372036854775807) : hasP f 1 = hasF f 1 ∧ hasP f 4 = hasF f 4 ∧ hasP f 16 = hasF f 16 ∧ hasP f 32 = hasF f 32 ∧ hasP f 128 = hasF f 128 ∧ hasP f 512 = hasF f 512 :=
 ⟨hasP_pow h0 h1 (k := 0) (by decide), hasP_pow h0 h1 (k := 2) (by decide), hasP_pow h0 h1 (k := 4) (by decide), hasP_pow h0 h1 (k := 5) (by decide), hasP_pow h0 h1 (k := 7) (by decide), hasP_pow h0 h1 (k := 9) (by decide)⟩
theorem kind_eq {s : SecD} (hs : s.ok) : (!(decide (Go.bits .andNot .i64 s.flags 2097847 ≠ 0) || decide (s.flags < 0) || hasP s.flags 5) && !(decide (s.align < 1) || decide (s.align > 4096) || decide (band s.align (s.align - 1) ≠ 0) || !typedP s || !mergedP s)) = kindB s := by
 have hf := hs.2.2.1
 have e1 := flagsB_eq hf
 have e2 := align_eq hs.2.2.2.1
 unfold kindB
 rw [← e1, ← e2]
 generalize hA : (decide (Go.bits .andNot .i64 s.flags 2097847 ≠ 0) || decide (s.flags < 0)) = A
 generalize hB : (decide (s.align < 1) || decide (s.align > 4096) || decide (band s.align (s.align - 1) ≠ 0)) = B
 cases A with
 | true => rfl
 | false =>
  have h0 : 0 ≤ s.flags := by
   simp only [Bool.or_eq_false_iff, decide_eq_false_iff_not] at hA
   omega
  unfold I64 at hf
  obtain ⟨f1, f4, f16, f32, f128, f512⟩ := hasP_F h0 hf.2
  rw [hasP_5 h0 hf.2]
  cases B with
  | true => cases hasF s.flags 1 <;> cases hasF s.flags 4 <;> rfl
  | false =>
   unfold typedP mergedP withinB
   rw [f1, f4, f16, f32]
   generalize hasF s.flags 1 = b1
   generalize hasF s.flags 4 = b4
   generalize hasF s.flags 16 = b16
   generalize hasF s.flags 32 = b32
   generalize s.data.getD ((s.data.length : Int) - 1).toNat 0 = lastb
   generalize s.size % s.ent = sm
   generalize s.data.length = dl
   generalize s.rels.length = rl
   generalize s.typ = ty
   generalize s.size = sz
   generalize s.ent = en
   generalize s.align = al
   cases b1 <;> cases b4 <;> cases b16 <;> cases b32 <;> grind
theorem section_eq {o : ObjD} (ho : o.ok) {i : Int} (hi : 1 ≤ i ∧ i ≤ o.secs.length) (hc : ∀ n : Int, 1 ≤ n → n ≤ o.secs.length → memberF o.groups n ≤ 1) : sectionP o i = sectionB o i := by
 have hii : (i - 1).toNat < o.secs.length := by omega
 have hs := secOk_at ho.2.1 hii
 have hk := kind_eq hs
 have hr := related_eq o (o.secs.getD (i - 1).toNat default)
 have hcm := hc i hi.1 hi.2
 have hcm0 := memberF_range (l := o.groups) (n := i)
 have hany : (o.groups.any fun g => g.mem.any fun x => decide (i = x)) = decide (memberF o.groups i = 1) := by
  have key : ∀ gs : List GrpD, (gs.any fun g => g.mem.any fun x => decide (i = x)) = decide (0 < memberF gs i) := by
   intro gs
   induction gs with
   | nil => rfl
   | cons g gs ih =>
    rw [List.any_cons, ih, memberF_cons, Bool.eq_iff_iff, Bool.or_eq_true, decide_eq_true_eq, decide_eq_true_eq, List.any_eq_true]
    have h0 := memberF_range (l := gs) (n := i)
    constructor
    · rintro (⟨x, hx, he⟩ | h)
      · have he := of_decide_eq_true he
        subst he
        have := List.count_pos_iff.2 hx
        omega
      · omega
    · intro h
      by_cases hm : i ∈ g.mem
      · exact .inl ⟨i, hm, by simp⟩
      · have := List.count_eq_zero.2 hm
        right; omega
  rw [key, Bool.eq_iff_iff]; simp; omega
 unfold sectionP sectionB
 rw [mayS_nameB, hr, hany, ← hk]
 have hf := hs.2.2.1
 generalize hse : o.secs.getD (i - 1).toNat default = s at hf
 generalize relsB o s = rb
 generalize memberF o.groups i = mf at hcm hcm0
 generalize o.secs.length = N
 have hfl : ∀ b : Bool, b = (decide (Go.bits .andNot .i64 s.flags 2097847 ≠ 0) || decide (s.flags < 0)) → b = false → hasP s.flags 128 = hasF s.flags 128 ∧ hasP s.flags 512 = hasF s.flags 512 := by
  intro b hb hb0
  rw [hb, Bool.or_eq_false_iff, decide_eq_false_iff_not, decide_eq_false_iff_not] at hb0
  unfold I64 at hf
  obtain ⟨_, _, _, _, f128, f512⟩ := hasP_F (f := s.flags) (by omega) hf.2
  exact ⟨f128, f512⟩
 generalize hA : (decide (Go.bits .andNot .i64 s.flags 2097847 ≠ 0) || decide (s.flags < 0)) = A at hfl
 generalize hB : (decide (s.align < 1) || decide (s.align > 4096) || decide (band s.align (s.align - 1) ≠ 0)) = B
 have hA' : (!nameB s.name || decide (Go.bits .andNot .i64 s.flags 2097847 ≠ 0) || decide (s.flags < 0) || hasP s.flags 5) = (!nameB s.name || A || hasP s.flags 5) := by
  rw [← hA]; cases nameB s.name <;> simp
 rw [hA']
 generalize nameB s.name = nb
 generalize hasP s.flags 5 = p5
 generalize typedP s = tp
 generalize mergedP s = mp
 cases A with
 | true => cases nb <;> rfl
 | false =>
  obtain ⟨f128, f512⟩ := hfl false rfl rfl
  rw [f128, f512]
  generalize hasF s.flags 128 = b128
  generalize hasF s.flags 512 = b512
  generalize s.link = lk
  unfold withinB
  cases nb <;> cases p5 <;> cases B <;> cases tp <;> cases mp <;> cases rb <;> try rfl
  all_goals (
   have hmf : mf = 0 ∨ mf = 1 := by omega
   clear hc hr hk hany hfl hA' hA hB f128 f512 hse hs hii hf ho
   have e1 : decide (lk < 1) = !decide (lk ≥ 1) := by rw [Bool.eq_iff_iff]; simp
   have e2 : decide (lk > (N : Int)) = !decide (lk ≤ (N : Int)) := by rw [Bool.eq_iff_iff]; simp
   have e3 : decide (lk ≠ 0) = !decide (lk = 0) := by rw [Bool.eq_iff_iff]; simp
   rw [e1, e2, e3]
   by_cases h1 : lk = 0
   · have q1 : ¬ lk ≥ 1 := by omega
     have q2 : lk ≥ 0 := by omega
     have q3 : lk ≤ (N : Int) := by omega
     have q4 : ¬ lk = i := by omega
     rw [decide_eq_true h1, decide_eq_false q1, decide_eq_true q2, decide_eq_true q3, decide_eq_false q4]
     rcases hmf with rfl | rfl <;> cases b128 <;> cases b512 <;> rfl
   · by_cases h2 : lk ≥ 0
     · have q1 : lk ≥ 1 := by omega
       rw [decide_eq_false h1, decide_eq_true q1, decide_eq_true h2]
       generalize decide (lk ≤ (N : Int)) = c3
       generalize decide (lk = i) = c4
       rcases hmf with rfl | rfl <;> cases c3 <;> cases c4 <;> cases b128 <;> cases b512 <;> rfl
     · have q1 : ¬ lk ≥ 1 := by omega
       rw [decide_eq_false h1, decide_eq_false q1, decide_eq_false h2]
       rcases hmf with rfl | rfl <;> cases b128 <;> cases b512 <;> rfl)
theorem shape_eq {o : ObjD} (ho : o.ok) : shapeP o = shapeB o := by
 rw [Bool.eq_iff_iff]
 have hsy : ((List.range o.syms.length).all fun k => symbolP o k) = ((List.range o.syms.length).all fun k => symbolB o k) := by
  congr 1; funext k; exact symbol_eq o k
 have hsig : (!o.sig.any fun n => !withinB n (o.syms.length - 1)) = o.sig.all fun x => decide (0 ≤ x) && decide (x < o.syms.length) := by
  rw [List.not_any_eq_all_not]
  congr 1; funext n
  unfold withinB
  rw [Bool.not_not, Bool.eq_iff_iff]; simp; omega
 have hsec : (∀ n : Int, 1 ≤ n → n ≤ o.secs.length → memberF o.groups n ≤ 1) → ((List.range o.secs.length).all fun k => sectionP o ((k : Int) + 1)) = ((List.range o.secs.length).all fun k => sectionB o ((k : Int) + 1)) := by
  intro hc
  rw [Bool.eq_iff_iff, List.all_eq_true, List.all_eq_true]
  constructor <;> intro h k hk <;> have := h k hk <;> have hk := List.mem_range.1 hk
  · rwa [section_eq ho (by omega) hc] at this
  · rwa [section_eq ho (by omega) hc]
 have hcnt : ((List.range o.secs.length).all fun k => sectionB o ((k : Int) + 1)) = true → ∀ n : Int, 1 ≤ n → n ≤ o.secs.length → memberF o.groups n ≤ 1 := by
  intro h n h1 h2
  have := List.all_eq_true.1 h (n - 1).toNat (List.mem_range.2 (by omega))
  rw [show (((n - 1).toNat : Nat) : Int) + 1 = n by omega] at this
  unfold sectionB at this
  generalize hm : memberF o.groups n = mf at this
  by_cases h3 : mf ≤ 1
  · exact h3
  · exfalso
    have e0 : decide (mf = 0) = false := decide_eq_false (by omega)
    have e1 : decide (mf = 1) = false := decide_eq_false (by omega)
    rw [e0, e1] at this
    simp only [Bool.false_and, Bool.or_false] at this
    revert this
    generalize (!nameB _ || _ || _) = x1
    generalize (_ && _ || _ && _) = x2
    cases x1 <;> cases x2 <;> simp
 have hg : o.groups.all (grpB o) = true ↔ ∀ g ∈ o.groups, GrpOk o.secs.length o.syms.length g := by
  rw [List.all_eq_true]
  exact ⟨fun h g hg => grpB_iff.1 (h g hg), fun h g hg => grpB_iff.2 (h g hg)⟩
 have hgp := grpsP_spec (N := o.secs.length) (Y := o.syms.length) o.groups []
 simp only [List.not_mem_nil, if_false, Int.zero_add] at hgp
 unfold shapeP shapeB
 rw [hsy, hsig]
 simp only [Bool.and_eq_true, Bool.not_eq_true', Bool.or_eq_false_iff, Bool.not_eq_false', hgp, hg]
 constructor
 · rintro ⟨⟨⟨⟨⟨⟨a1, a2⟩, a3⟩, a4, a5⟩, b⟩, c⟩, d, e⟩
   refine ⟨⟨⟨⟨⟨⟨⟨a1, a2⟩, a3⟩, ?_⟩, a4⟩, by rw [← hsec a5]; exact b⟩, c⟩, e⟩
   cases hh : o.hasSig
   · rw [hh] at d; simp at d ⊢; simp [d]
   · rfl
 · rintro ⟨⟨⟨⟨⟨⟨⟨a1, a2⟩, a3⟩, a6⟩, a4⟩, b⟩, c⟩, e⟩
   have a5 := hcnt b
   refine ⟨⟨⟨⟨⟨⟨a1, a2⟩, a3⟩, a4, a5⟩, by rw [hsec a5]; exact b⟩, c⟩, ?_, e⟩
   cases hh : o.hasSig
   · rw [hh] at a6; simp at a6 ⊢; simpa using a6
   · rfl
end Go.Proofs.YtdniaamhbfadnaaGreat.AL
namespace Go.Proofs.YtdniaamhbfadnaaGreat.AL
open Go Go.RowKit Go.Proofs.YtdniaamhbfadnaaGreat.Base
set_option linter.unusedVariables false
set_option linter.unusedSimpArgs false
set_option maxRecDepth 4000
set_option synthInstance.maxSize 1000
set_option synthInstance.maxHeartbeats 200000
structure PartD where
 h : ShD
 name : ByteArray
 b : List Int
 deriving Inhabited
@[reducible] def partA (p : PartD) : List AV := [.v (.int .i64 p.h.a0), .v (.int .i64 p.h.a1), .v (.int .i64 p.h.a2), .v (.int .i64 p.h.a3), .v (.int .i64 p.h.a4), .v (.int .i64 p.h.a5), .v (.int .i64 p.h.a6), .v (.int .i64 p.h.a7), .v (.int .i64 p.h.a8), .v (.int .i64 p.h.a9), .v (.string p.name), .rd 1 (bys p.b)]
def nRela : ByteArray := { data := #[46, 114, 101, 108, 97] }
def nGroup : ByteArray := { data := #[46, 103, 114, 111, 117, 112] }
def nSig : ByteArray := { data := #[46, 108, 108, 118, 109, 95, 97, 100, 100, 114, 115, 105, 103] }
def nSym : ByteArray := { data := #[46, 115, 121, 109, 116, 97, 98] }
def nStr : ByteArray := { data := #[46, 115, 116, 114, 116, 97, 98] }
def nShs : ByteArray := { data := #[46, 115, 104, 115, 116, 114, 116, 97, 98] }
def zPart : PartD := ⟨⟨0, 0, 0, 0, 0, 0, 0, 0, 0, 0⟩, { data := #[] }, []⟩
def secPart (s : SecD) : PartD := ⟨⟨0, s.typ, s.flags, 0, 0, s.size, s.link, 0, s.align, s.ent⟩, s.name, s.data⟩
def putR (r : RelD) : List Int := if mayRelB r = true then relB r else []
def putN (x : Int) : List Int := if Wide 4 then dig (IntKind.u64.wrap x) (Int.toNat 4) else []
def putE (e : EntD) : List Int := if MayE e then entB e else []
def putH (h : ShD) : List Int := if h.may then h.bytes else []
def relPart (at_ n : Int) (s : SecD) : List PartD := if s.rels.length = 0 then [] else [⟨⟨0, 4, 0, 0, 0, 0, at_, n, 8, 24⟩, nRela, s.rels.flatMap putR⟩]
def relPs (at_ : Int) : Int → List SecD → List PartD
 | _, [] => []
 | n, s :: r => relPart at_ n s ++ relPs at_ (n + 1) r
def grpPart (at_ : Int) (g : GrpD) : PartD := ⟨⟨0, 17, 0, 0, 0, 0, at_, g.sym, 4, 4⟩, nGroup, [1, 0, 0, 0] ++ g.mem.flatMap putN⟩
def sigPart (at_ : Int) (o : ObjD) : List PartD := if o.hasSig = true then [⟨⟨0, 1879002115, 0, 0, 0, 0, at_, 0, 1, 0⟩, nSig, o.sig.flatMap encB⟩] else []
def midF (o : ObjD) (at_ : Int) : List PartD := relPs at_ 1 o.secs ++ o.groups.map (grpPart at_) ++ sigPart at_ o
def idxY (s : SymD) : Int := if s.sec < 0 then 65521 else s.sec
def entY (s : SymD) (nm : Int) : EntD := ⟨nm, s.bind, s.typ, idxY s, s.val, s.size⟩
def namesOf (o : ObjD) : List ByteArray := o.syms.map (·.name)
def entB1 (o : ObjD) (pl : List Int) (i : Nat) : List Int := putE (entY (o.syms.getD i default) (pl.getD i 0))
def entsF (o : ObjD) (pl : List Int) (n : Nat) : List Int := (List.range n).flatMap (entB1 o pl)
def localF (l : List SymD) : Int := (l.countP fun s => decide (s.bind = 0) : Nat)
def symPt (o : ObjD) (at_ : Int) : PartD := ⟨⟨0, 2, 0, 0, 0, 0, at_ + 1, localF o.syms, 8, 24⟩, nSym, entsF o (tabOf (namesOf o)).2.1 o.syms.length⟩
def strPt (o : ObjD) : PartD := ⟨⟨0, 3, 0, 0, 0, 0, 0, 0, 1, 0⟩, nStr, (tabOf (namesOf o)).1⟩
def shsPt : PartD := ⟨⟨0, 3, 0, 0, 0, 0, 0, 0, 1, 0⟩, nShs, []⟩
def atF8 (o : ObjD) : Int := 1 + o.secs.length + (midF o 0).length
def preF (o : ObjD) : List PartD := (zPart :: o.secs.map secPart) ++ midF o (atF8 o) ++ [symPt o (atF8 o)] ++ [strPt o] ++ [shsPt]
def PartD.named (p : PartD) (n : Int) : PartD := ⟨⟨n, p.h.a1, p.h.a2, p.h.a3, p.h.a4, p.h.a5, p.h.a6, p.h.a7, p.h.a8, p.h.a9⟩, p.name, p.b⟩
def PartD.told (p : PartD) (b : List Int) : PartD := ⟨p.h, p.name, b⟩
def pNames (o : ObjD) : List ByteArray := (preF o).map (·.name)
def tblF (o : ObjD) : List PartD := (preF o).set ((preF o).length - 1) (shsPt.told (tabOf (pNames o)).1)
def nmF (pl : List Int) (l : List PartD) : Nat → List PartD
 | 0 => l
 | i + 1 => (nmF pl l i).set i (((nmF pl l i).getD i default).named (pl.getD i 0))
def finF (o : ObjD) : List PartD := nmF (tabOf (pNames o)).2.1 (tblF o) (preF o).length
def headOf (i : Nat) (body : List Int) (p : PartD) : ShD := if i = 0 then p.h else ⟨p.h.a0, p.h.a1, p.h.a2, p.h.a3, 64 + body.length, if p.h.a1 = 8 then p.h.a5 else p.b.length, p.h.a6, p.h.a7, p.h.a8, p.h.a9⟩
def layN (l : List PartD) : Nat → List Int × List Int
 | 0 => ([], [])
 | i + 1 => ((layN l i).1 ++ (l.getD i default).b, (layN l i).2 ++ putH (headOf i (layN l i).1 (l.getD i default)))
def putEh (h : HdD) : List Int := if h.may then h.bytes else []
def bytesF (o : ObjD) : List Int := putEh ⟨64 + (layN (finF o) (finF o).length).1.length, (finF o).length, (finF o).length - 1⟩ ++ (layN (finF o) (finF o).length).1 ++ (layN (finF o) (finF o).length).2
structure LayH (o : ObjD) : Prop where
 ok : o.ok
 sh : shapeB o = true
 gs : o.groups.length ≤ 900000
 sg : o.sig.length ≤ 1000000
structure LaySm (o : ObjD) : Prop where
 secs : o.secs.length ≤ 32
 syms : o.syms.length ≤ 128 ∧ 1 ≤ o.syms.length
 sec : ∀ s ∈ o.secs, s.ok ∧ (s.data.length : Int) ≤ 16384 ∧ (s.rels.length : Int) ≤ 64 ∧ (∀ r ∈ s.rels, mayRelB r = true) ∧ s.name.size ≤ 32
 grp : ∀ g ∈ o.groups, GrpOk o.secs.length o.syms.length g ∧ g.mem.length ≤ 32
 sym : ∀ s ∈ o.syms, s.ok ∧ s.name.size ≤ 32 ∧ -1 ≤ s.sec
 sig : ∀ x ∈ o.sig, I64 x
theorem inc_len : ∀ (l : List Int) (a N : Int), inc a l → (∀ x ∈ l, x ≤ N) → a ≤ N → a + l.length ≤ N := by
 intro l
 induction l with
 | nil => intro a N _ _ h; simpa using h
 | cons y r ih =>
  intro a N h h2 h3
  have := ih y N h.2 (fun x hx => h2 x (List.mem_cons_of_mem _ hx)) (h2 y List.mem_cons_self)
  have := h.1
  simp only [List.length_cons, Int.natCast_add]
  omega
theorem relsG_all {many len : Int} : ∀ (l : List RelD) (prev : Option RelD), relsG many len prev l = true → ∀ r ∈ l, mayRelB r = true := by
 intro l
 induction l with
 | nil => intro _ _ r hr; cases hr
 | cons y q ih =>
  intro prev h r hr
  rw [relsG_cons] at h
  have h2 : mayRelB y = true ∧ relsG many len (some y) q = true := by
   revert h
   cases mayRelB y <;> cases decide (y.sym ≥ many) <;> cases decide (y.off + widthF y.typ > len) <;> cases prevBad y prev <;> simp
  rcases List.mem_cons.1 hr with rfl | hr
  · exact h2.1
  · exact ih _ h2.2 r hr
theorem LayH.small {o : ObjD} (h : LayH o) : LaySm o := by
 have hs := h.sh
 unfold shapeB at hs
 simp only [Bool.and_eq_true, Bool.not_eq_true', Bool.or_eq_false_iff, decide_eq_false_iff_not] at hs
 obtain ⟨⟨⟨⟨⟨⟨⟨a1, a2⟩, a3⟩, _⟩, hg⟩, hsec⟩, hsym⟩, hsig⟩ := hs
 have a1' : o.secs.length ≤ 32 := by omega
 refine ⟨a1', by omega, fun s hsm => ?_, fun g hgm => ?_, fun s hsm => ?_, h.ok.2.2.2.2.2.2.2⟩
 · obtain ⟨i, hi, rfl⟩ := List.getElem_of_mem hsm
   have hok := h.ok.2.1 _ hsm
   have := List.all_eq_true.1 hsec i (List.mem_range.2 hi)
   unfold sectionB at this
   rw [show ((i : Int) + 1 - 1).toNat = i by omega] at this
   have e : o.secs.getD i default = o.secs[i] := by simp [hi]
   rw [e] at this
   have h3 : nameB o.secs[i].name = true ∧ kindB o.secs[i] = true ∧ relsB o o.secs[i] = true := by
    revert this
    cases nameB o.secs[i].name <;> cases kindB o.secs[i] <;> cases relsB o o.secs[i] <;> simp
   obtain ⟨h4, h5, h6⟩ := h3
   refine ⟨hok, ?_, ?_, ?_, ?_⟩
   · rw [← kind_eq hok] at h5
     simp only [Bool.and_eq_true, Bool.not_eq_true', Bool.or_eq_false_iff, Bool.not_eq_false'] at h5
     have ht := h5.2.1.2
     unfold typedP at ht
     by_cases q1 : o.secs[i].typ = 1
     · rw [decide_eq_true q1, cond_true] at ht
       simp only [Bool.and_eq_true, decide_eq_true_eq] at ht
       omega
     · rw [decide_eq_false q1, cond_false] at ht
       by_cases q8 : o.secs[i].typ = 8
       · rw [decide_eq_true q8, cond_true] at ht
         simp only [Bool.and_eq_true, decide_eq_true_eq] at ht
         omega
       · rw [decide_eq_false q8] at ht; cases ht
   · unfold relsB at h6
     simp only [Bool.and_eq_true, decide_eq_true_eq] at h6
     exact h6.1
   · unfold relsB at h6
     simp only [Bool.and_eq_true, decide_eq_true_eq] at h6
     exact relsG_all _ _ h6.2
   · unfold nameB at h4
     simp only [Bool.and_eq_true, decide_eq_true_eq] at h4
     exact h4.1
 · have hgo := grpB_iff.1 (List.all_eq_true.1 hg g hgm)
   refine ⟨hgo, ?_⟩
   have := inc_len g.mem 0 o.secs.length hgo.2.2.2.1 hgo.2.2.2.2 (by omega)
   omega
 · obtain ⟨i, hi, rfl⟩ := List.getElem_of_mem hsm
   have hok := h.ok.2.2.2.1 _ hsm
   have := List.all_eq_true.1 hsym i (List.mem_range.2 hi)
   unfold symbolB at this
   rw [show ((i : Int)).toNat = i by omega] at this
   have e : o.syms.getD i default = o.syms[i] := by simp [hi]
   rw [e] at this
   refine ⟨hok, ?_, ?_⟩
   · by_cases h0 : (i : Int) = 0
     · rw [decide_eq_true h0, cond_true] at this
       simp only [Bool.and_eq_true, decide_eq_true_eq] at this
       have h5 := this.1.1.1.1.1
       have : o.syms[i].name.size = 0 := by
        have h6 := congrArg List.length h5
        rw [ByteArray.toList_eq, ByteArray.toList_eq] at h6
        simpa using h6
       omega
     · rw [decide_eq_false h0, cond_false] at this
       have : nameB o.syms[i].name = true := by
        revert this
        cases nameB o.syms[i].name <;> simp
       unfold nameB at this
       simp only [Bool.and_eq_true, decide_eq_true_eq] at this
       exact this.1
   · by_cases h0 : (i : Int) = 0
     · rw [decide_eq_true h0, cond_true] at this
       simp only [Bool.and_eq_true, decide_eq_true_eq] at this
       omega
     · rw [decide_eq_false h0, cond_false] at this
       by_cases hc : o.syms[i].sec < -1
       · exfalso
         rw [decide_eq_true hc] at this
         revert this
         simp
       · omega
end Go.Proofs.YtdniaamhbfadnaaGreat.AL
namespace Go.Proofs.YtdniaamhbfadnaaGreat.AL
open Go Go.RowKit Go.Proofs.YtdniaamhbfadnaaGreat.Base
set_option linter.unusedVariables false
set_option linter.unusedSimpArgs false
set_option maxRecDepth 4000
set_option synthInstance.maxSize 1000
set_option synthInstance.maxHeartbeats 200000
theorem map_take_succ {α β : Type} [Inhabited α] (f : α → β) {l : List α} {i : Nat} (h : i < l.length) : (l.take (i + 1)).map f = (l.take i).map f ++ [f (l.getD i default)] := by
 rw [List.take_add_one, List.map_append]; simp [h]
theorem flatMap_take_succ {α β : Type} [Inhabited α] (f : α → List β) {l : List α} {i : Nat} (h : i < l.length) : (l.take (i + 1)).flatMap f = (l.take i).flatMap f ++ f (l.getD i default) := by
 rw [List.take_add_one, List.flatMap_append]; simp [h]
theorem entsF_succ (o : ObjD) (pl : List Int) (i : Nat) : entsF o pl (i + 1) = entsF o pl i ++ entB1 o pl i := by
 unfold entsF; rw [List.range_succ, List.flatMap_append]; simp
theorem putE_len (e : EntD) : (putE e).length ≤ 24 := by
 unfold putE; split
 · rw [entB_len]; omega
 · simp
theorem entsF_len (o : ObjD) (pl : List Int) : ∀ i, (entsF o pl i).length ≤ 24 * i := by
 intro i
 induction i with
 | zero => simp [entsF]
 | succ i ih => rw [entsF_succ, List.length_append]; have := putE_len (entY (o.syms.getD i default) (pl.getD i 0)); unfold entB1; omega
theorem localF_succ {l : List SymD} {i : Nat} (h : i < l.length) : localF (l.take (i + 1)) = localF (l.take i) + (if (l.getD i default).bind = 0 then 1 else 0) := by
 unfold localF
 rw [List.take_add_one, List.countP_append]
 simp only [List.getElem?_eq_getElem h, Option.toList_some, List.getD_eq_getElem?_getD, Option.getD_some, List.countP_cons, List.countP_nil]
 by_cases hc : l[i].bind = 0 <;> simp [hc]
theorem localF_le (l : List SymD) : 0 ≤ localF l ∧ localF l ≤ l.length := by
 unfold localF
 have := List.countP_le_length (p := fun s : SymD => decide (s.bind = 0)) (l := l)
 omega
theorem names_small {o : ObjD} (h : LayH o) : ∀ s ∈ namesOf o, s.size ≤ 1000000 := by
 intro s hs
 obtain ⟨y, hy, rfl⟩ := List.mem_map.1 hs
 have := (h.small.sym y hy).2.1; omega
theorem pl_range {l : List ByteArray} {k : Nat} (hk : k < l.length) : 0 ≤ (tabOf l).2.1.getD k 0 ∧ (tabOf l).2.1.getD k 0 < (tabOf l).1.length := by
 obtain ⟨h1, r, h2⟩ := (tab_inv l).at_ k hk
 refine ⟨h1, ?_⟩
 have := congrArg List.length h2
 rw [List.length_drop, List.length_append, List.length_cons] at this
 omega
theorem sym_in {o : ObjD} {i : Nat} (hi : i < o.syms.length) : o.syms.getD i default ∈ o.syms := by
 rw [List.getD_eq_getElem?_getD, List.getElem?_eq_getElem hi]; exact List.getElem_mem hi
set_option maxHeartbeats 2000000 in
theorem obj_entries (o : ObjD) (h : LayH o) : A0 Tryz.prog 148 [.agg (objA o)] (fun ret => ret = .tup [.rd 1 (bys (entsF o (tabOf (namesOf o)).2.1 o.syms.length)), .rd 1 (bys (tabOf (namesOf o)).1), .v (.int .i64 (localF o.syms))]) := by
 have hq := h.small
 have hso := h.ok
 have s1 := hq.secs
 have s2 := hq.syms
 have s3 := h.gs
 have s4 := h.sg
 have hns := names_small h
 have hnl : (namesOf o).length = o.syms.length := by unfold namesOf; simp
 have hfull : (o.syms.take o.syms.length).map (·.name) = namesOf o := by rw [List.take_of_length_le (Nat.le_refl _)]; rfl
 have hpl := tabOf_pl (namesOf o)
 have hlf := localF_le o.syms
 have htl := tabOf_len hns
 refine A0.body 71 Tryz.func148 rfl rfl Tryz.ntmps148 fun base n0 => ?_
 refine AW.seq' ?_
 refine AW.region ?_
 refine AO.ww ?_
 iterate 3 refine AO.c ?_
 refine AO.nil ?_
 refine SQ.normal ?_
 refine AW.seq' ?_
 refine AW.region ?_
 refine AO.c ?_
 refine AO.nil ?_
 refine SQ.normal ?_
 refine AW.seq' ?_
 refine AW.seq' ?_
 refine AW.region ?_
 iterate 4 refine AO.c ?_
 refine AO.nil ?_
 refine SQ.normal ?_
 refine AW.block' ?_
 refine AW.ghost (Gh.adoptM 5 9 1) ?_
 refine AW.loopU2 [.f, .k, .f, .f, .f, .k, .F, .f, .f, .k, .k, .k, .F, .F, .F, .F, .F, .F, .f, .f, .f, .f] (fun (i ep : Nat) => [(5, .own (n0 + 1) ep 0 i), (18, .v (.int .i64 (i)))]) (fun i ep => Hn n0 (([some (.box 29 (objA o)), some (.row 9 1 ep (((o.syms.take i).map (·.name)).map sA))] ++ List.replicate i none) ++ [])) (fun m i ep => i ≤ o.syms.length ∧ m = o.syms.length - i) (o.syms.length) (0) (0) ⟨by omega, by omega⟩ (by first | rfl | (simp; done)) (by first | rfl | (simp; done)) ?_
 rintro m0 i ep ⟨hx1, hx2⟩
 refine AW.seq' ?_
 refine AW.region ?_
 refine AO.c ?_
 refine AO.nil ?_
 refine SQ.normal ?_
 refine AW.seq' ?_
 refine AW.iteB (GL.ev _) (fun h0 => ?_) (fun h0 => ?_)
 ·
  rw [decide_eq_true_eq] at h0
  have hi : i < o.syms.length := by omega
  refine AW.skip ?_
  refine SQ.normal ?_
  refine AW.seq' ?_
  refine AW.block' ?_
  refine AW.seq' ?_
  refine AW.region ?_
  refine AO.oo ?_
  refine AO.c ?_
  refine AO.ww ?_
  refine AO.sst ?_
  refine AO.nil ?_
  refine SQ.normal ?_
  refine AW.region ?_
  iterate 3 refine AO.c ?_
  refine AO.rr ?_
  refine AO.ww ?_
  refine AO.c ?_
  refine AO.nil ?_
  refine BQ.normal ?_
  refine SQ.normal ?_
  refine AW.region ?_
  refine AO.oo ?_
  refine AO.c ?_
  refine AO.nil ?_
  exact AW.backE [.f, .k, .f, .f, .f, .k, .F, .f, .f, .k, .k, .k, .F, .F, .F, .F, .F, .F, .f, .f, .f, .f] (i) (m0 - 1) (i + 1, ep + 1) (by omega) (by (try dsimp only); exact ⟨by omega, by omega⟩) (by first | rfl | (simp; done)) (by first | (rw [map_take_succ _ hi, List.map_append]; done) | (rw [map_take_succ _ hi, List.map_append]; rfl))
 ·
  rw [decide_eq_false_iff_not] at h0
  refine AW.exit ?_
  refine SQ.exit <| AW.out <| LU.exit <| BQ.exit ?_
  refine SQ.normal ?_
  refine AW.seq' ?_
  refine AW.ghost (Gh.freezeM 5 sA (namesOf o) (by rw [show i = o.syms.length by omega, hfull]) (by omega) (by omega)) ?_
  refine AW.region ?_
  refine AO.c ?_
  refine AO.call1 Tryz.func149 rfl rfl (strtab_Make _ (by omega) (by assumption)) ?_
  iterate 5 refine AO.c ?_
  refine AO.nil ?_
  refine SQ.normal ?_
  refine AW.seq' ?_
  refine AW.region ?_
  refine AO.c ?_
  refine AO.nil ?_
  refine SQ.normal ?_
  refine AW.seq' ?_
  refine AW.region ?_
  refine AO.c ?_
  refine AO.nil ?_
  refine SQ.normal ?_
  refine AW.seq' ?_
  refine AW.seq' ?_
  refine AW.region ?_
  iterate 4 refine AO.c ?_
  refine AO.nil ?_
  refine SQ.normal ?_
  refine AW.block' ?_
  refine AW.ghost (Gh.adoptB 10 5) ?_
  refine AW.loopU2 [.F, .k, .k, .k, .k, .F, .F, .f, .f, .f, .f, .f, .f, .k, .k, .k, .F, .F, .F, .F, .f, .f] (fun (k ep2 : Nat) => [(10, .own (n0 + zadd (zadd (0 + 1 + 1) i) 0) ep2 0 (entsF o (tabOf (namesOf o)).2.1 k).length), (11, .v (.int .i64 (localF (o.syms.take k)))), (36, .v (.int .i64 (k)))]) (fun k ep2 => Hn n0 (([some (.box 29 (objA o)), none] ++ List.replicate i none ++ [some (.row 5 1 ep2 (bys (entsF o (tabOf (namesOf o)).2.1 k)))]) ++ List.replicate k none ++ [])) (fun m k ep2 => k ≤ o.syms.length ∧ m = o.syms.length - k) (o.syms.length) (0) (0) ⟨by omega, by omega⟩ (by first | rfl | (simp; done)) (by simp [entsF]) ?_
  rintro m1 k ep2 ⟨hk1, hk2⟩
  refine AW.seq' ?_
  refine AW.region ?_
  refine AO.c ?_
  refine AO.nil ?_
  refine SQ.normal ?_
  refine AW.seq' ?_
  refine AW.iteB (GL.ev _) (fun h1 => ?_) (fun h1 => ?_)
  ·
   rw [decide_eq_true_eq] at h1
   have hk : k < o.syms.length := by omega
   have hsy := hq.sym _ (sym_in hk)
   have hpr := pl_range (l := namesOf o) (k := k) (by omega)
   have hlr := localF_le (o.syms.take k)
   rw [List.length_take] at hlr
   have hls := localF_succ hk
   have hel := entsF_len o (tabOf (namesOf o)).2.1 k
   have hpe := putE_len (entY (o.syms.getD k default) ((tabOf (namesOf o)).2.1.getD k 0))
   unfold putE at hpe
   generalize hse : o.syms.getD k default = s at hsy hls hpe
   have hok : (entY s ((tabOf (namesOf o)).2.1.getD k 0)).ok := ⟨by unfold I64 entY; dsimp only; omega, hsy.1.2.1, hsy.1.2.2.1, by unfold I64 entY idxY; dsimp only; have := hsy.1.2.2.2.1; unfold I64 at this; split <;> omega, hsy.1.2.2.2.2.1, hsy.1.2.2.2.2.2⟩
   refine AW.skip ?_
   refine SQ.normal ?_
   refine AW.seq' ?_
   refine AW.block' ?_
   refine AW.seq' ?_
   refine AW.region ?_
   refine AO.c ?_
   refine AO.oo ?_
   refine AO.c ?_
   refine AO.eq 40 (av' := .agg (symA s)) (by rw [hse]) ?_
   refine AO.ww ?_
   refine AO.c ?_
   refine AO.sst ?_
   refine AO.nil ?_
   refine SQ.normal ?_
   refine AW.seq' ?_
   refine AW.region ?_
   iterate 3 refine AO.c ?_
   refine AO.nil ?_
   refine SQ.normal ?_
   refine AW.seq' ?_
   refine AW.seq' ?_
   refine AW.region ?_
   iterate 2 refine AO.c ?_
   refine AO.nil ?_
   refine SQ.normal ?_
   refine AW.iteB (GL.ev _) (fun h2 => ?_) (fun h2 => ?_)
   ·
    rw [decide_eq_true_eq] at h2
    have hidx : idxY s = 65521 := if_pos h2
    refine AW.region ?_
    refine AO.c ?_
    refine AO.nil ?_
    refine SQ.normal ?_
    refine AW.seq' ?_
    refine AW.seq' ?_
    refine AW.region ?_
    refine AO.eq 14 (av' := .v (.int .i64 (idxY s))) (by rw [hidx]) ?_
    iterate 3 refine AO.c ?_
    refine AO.nil ?_
    refine SQ.normal ?_
    refine AW.iteB (GL.ev _) (fun h3 => ?_) (fun h3 => ?_)
    ·
     rw [decide_eq_true_eq] at h3
     have hlc : localF (o.syms.take (k + 1)) = localF (o.syms.take k) + 1 := by rw [hls, if_pos h3]
     refine AW.region ?_
     refine AO.c ?_
     refine AO.oo ?_
     refine AO.c ?_
     refine AO.nil ?_
     refine SQ.normal ?_
     refine AW.drawsZ [16] (.one 0 false (.one 1 false (.one 2 false (.one 3 false (.one 4 false (.one 5 false (.one 6 false (.one 7 false (.one 8 false (.one 9 false (.one 10 false (.one 11 false (.one 12 false (.one 13 false (.one 14 false (.one 15 true (.one 16 true (.one 17 false .nil)))))))))))))))))) (by kernel_rfl) rfl (by kernel_rfl) ?_
     iterate 3 refine AZ.c rfl ?_
     refine AZ.oo rfl ?_
     iterate 11 refine AZ.c rfl ?_
     refine AZ.call1 rfl Tryz.func171 rfl rfl (sym_Put (entY s ((tabOf (namesOf o)).2.1.getD k 0)) hok) ?_
     refine AZ.ww rfl rfl ?_
     refine AZ.c rfl ?_
     refine AZ.done ?_
     refine BQ.normal ?_
     refine SQ.normal ?_
     refine AW.region ?_
     refine AO.oo ?_
     refine AO.c ?_
     refine AO.nil ?_
     exact AW.backE [.F, .k, .k, .k, .k, .F, .F, .f, .f, .f, .f, .f, .f, .k, .k, .k, .F, .F, .F, .F, .f, .f] (k) (m1 - 1) (k + 1, ep2 + 1) (by omega) (by (try dsimp only); exact ⟨by omega, by omega⟩) (by first | ((try dsimp only); rw [entsF_succ, List.length_append, hlc]; unfold entB1; rw [hse]; done) | ((try dsimp only); rw [entsF_succ, List.length_append, hlc]; unfold entB1; rw [hse]; rfl)) (by first | (rw [entsF_succ]; unfold entB1; rw [hse]; done) | (rw [entsF_succ]; unfold entB1; rw [hse]; rfl))
    ·
     rw [decide_eq_false_iff_not] at h3
     have hlc : localF (o.syms.take (k + 1)) = localF (o.syms.take k) := by rw [hls, if_neg h3]; omega
     refine AW.skip ?_
     refine SQ.normal ?_
     refine AW.drawsZ [16] (.one 0 false (.one 1 false (.one 2 false (.one 3 false (.one 4 false (.one 5 false (.one 6 false (.one 7 false (.one 8 false (.one 9 false (.one 10 false (.one 11 false (.one 12 false (.one 13 false (.one 14 false (.one 15 true (.one 16 true (.one 17 false .nil)))))))))))))))))) (by kernel_rfl) rfl (by kernel_rfl) ?_
     iterate 3 refine AZ.c rfl ?_
     refine AZ.oo rfl ?_
     iterate 11 refine AZ.c rfl ?_
     refine AZ.call1 rfl Tryz.func171 rfl rfl (sym_Put (entY s ((tabOf (namesOf o)).2.1.getD k 0)) hok) ?_
     refine AZ.ww rfl rfl ?_
     refine AZ.c rfl ?_
     refine AZ.done ?_
     refine BQ.normal ?_
     refine SQ.normal ?_
     refine AW.region ?_
     refine AO.oo ?_
     refine AO.c ?_
     refine AO.nil ?_
     exact AW.backE [.F, .k, .k, .k, .k, .F, .F, .f, .f, .f, .f, .f, .f, .k, .k, .k, .F, .F, .F, .F, .f, .f] (k) (m1 - 1) (k + 1, ep2 + 1) (by omega) (by (try dsimp only); exact ⟨by omega, by omega⟩) (by first | ((try dsimp only); rw [entsF_succ, List.length_append, hlc]; unfold entB1; rw [hse]; done) | ((try dsimp only); rw [entsF_succ, List.length_append, hlc]; unfold entB1; rw [hse]; rfl)) (by first | (rw [entsF_succ]; unfold entB1; rw [hse]; done) | (rw [entsF_succ]; unfold entB1; rw [hse]; rfl))
   ·
    rw [decide_eq_false_iff_not] at h2
    have hidx : idxY s = s.sec := if_neg h2
    refine AW.skip ?_
    refine SQ.normal ?_
    refine AW.seq' ?_
    refine AW.seq' ?_
    refine AW.region ?_
    refine AO.eq 14 (av' := .v (.int .i64 (idxY s))) (by rw [hidx]) ?_
    iterate 3 refine AO.c ?_
    refine AO.nil ?_
    refine SQ.normal ?_
    refine AW.iteB (GL.ev _) (fun h3 => ?_) (fun h3 => ?_)
    ·
     rw [decide_eq_true_eq] at h3
     have hlc : localF (o.syms.take (k + 1)) = localF (o.syms.take k) + 1 := by rw [hls, if_pos h3]
     refine AW.region ?_
     refine AO.c ?_
     refine AO.oo ?_
     refine AO.c ?_
     refine AO.nil ?_
     refine SQ.normal ?_
     refine AW.drawsZ [16] (.one 0 false (.one 1 false (.one 2 false (.one 3 false (.one 4 false (.one 5 false (.one 6 false (.one 7 false (.one 8 false (.one 9 false (.one 10 false (.one 11 false (.one 12 false (.one 13 false (.one 14 false (.one 15 true (.one 16 true (.one 17 false .nil)))))))))))))))))) (by kernel_rfl) rfl (by kernel_rfl) ?_
     iterate 3 refine AZ.c rfl ?_
     refine AZ.oo rfl ?_
     iterate 11 refine AZ.c rfl ?_
     refine AZ.call1 rfl Tryz.func171 rfl rfl (sym_Put (entY s ((tabOf (namesOf o)).2.1.getD k 0)) hok) ?_
     refine AZ.ww rfl rfl ?_
     refine AZ.c rfl ?_
     refine AZ.done ?_
     refine BQ.normal ?_
     refine SQ.normal ?_
     refine AW.region ?_
     refine AO.oo ?_
     refine AO.c ?_
     refine AO.nil ?_
     exact AW.backE [.F, .k, .k, .k, .k, .F, .F, .f, .f, .f, .f, .f, .f, .k, .k, .k, .F, .F, .F, .F, .f, .f] (k) (m1 - 1) (k + 1, ep2 + 1) (by omega) (by (try dsimp only); exact ⟨by omega, by omega⟩) (by first | ((try dsimp only); rw [entsF_succ, List.length_append, hlc]; unfold entB1; rw [hse]; done) | ((try dsimp only); rw [entsF_succ, List.length_append, hlc]; unfold entB1; rw [hse]; rfl)) (by first | (rw [entsF_succ]; unfold entB1; rw [hse]; done) | (rw [entsF_succ]; unfold entB1; rw [hse]; rfl))
    ·
     rw [decide_eq_false_iff_not] at h3
     have hlc : localF (o.syms.take (k + 1)) = localF (o.syms.take k) := by rw [hls, if_neg h3]; omega
     refine AW.skip ?_
     refine SQ.normal ?_
     refine AW.drawsZ [16] (.one 0 false (.one 1 false (.one 2 false (.one 3 false (.one 4 false (.one 5 false (.one 6 false (.one 7 false (.one 8 false (.one 9 false (.one 10 false (.one 11 false (.one 12 false (.one 13 false (.one 14 false (.one 15 true (.one 16 true (.one 17 false .nil)))))))))))))))))) (by kernel_rfl) rfl (by kernel_rfl) ?_
     iterate 3 refine AZ.c rfl ?_
     refine AZ.oo rfl ?_
     iterate 11 refine AZ.c rfl ?_
     refine AZ.call1 rfl Tryz.func171 rfl rfl (sym_Put (entY s ((tabOf (namesOf o)).2.1.getD k 0)) hok) ?_
     refine AZ.ww rfl rfl ?_
     refine AZ.c rfl ?_
     refine AZ.done ?_
     refine BQ.normal ?_
     refine SQ.normal ?_
     refine AW.region ?_
     refine AO.oo ?_
     refine AO.c ?_
     refine AO.nil ?_
     exact AW.backE [.F, .k, .k, .k, .k, .F, .F, .f, .f, .f, .f, .f, .f, .k, .k, .k, .F, .F, .F, .F, .f, .f] (k) (m1 - 1) (k + 1, ep2 + 1) (by omega) (by (try dsimp only); exact ⟨by omega, by omega⟩) (by first | ((try dsimp only); rw [entsF_succ, List.length_append, hlc]; unfold entB1; rw [hse]; done) | ((try dsimp only); rw [entsF_succ, List.length_append, hlc]; unfold entB1; rw [hse]; rfl)) (by first | (rw [entsF_succ]; unfold entB1; rw [hse]; done) | (rw [entsF_succ]; unfold entB1; rw [hse]; rfl))
  ·
   rw [decide_eq_false_iff_not] at h1
   refine AW.exit ?_
   refine SQ.exit <| AW.out <| LU.exit <| BQ.exit ?_
   refine SQ.normal ?_
   refine AW.seq' ?_
   refine AW.ghost (Gh.freezeE 10 (li' := entsF o (tabOf (namesOf o)).2.1 o.syms.length) (by rw [show k = o.syms.length by omega]) (by rw [show k = o.syms.length by omega]) (by have := entsF_len o (tabOf (namesOf o)).2.1 o.syms.length; omega)) ?_
   refine AW.region ?_
   iterate 6 refine AO.c ?_
   refine AO.nil ?_
   refine SQ.normal ?_
   refine AW.ret ?_
   refine Fin.ret (Gh.refl) noid3 ?_
   rw [show k = o.syms.length by omega, List.take_of_length_le (Nat.le_refl _)]; rfl
end Go.Proofs.YtdniaamhbfadnaaGreat.AL
