/- A part of the proof: rules of an own logic over blocks, and what functions of the program compute, each by its own contract; the conditions stand with each. -/
import Derived.Test.YtiomdnmicagdcaaCg
import Derived.Test.YtiomdnmicagdcaaCd
import Derived.Test.YtiomdnmicagdcaaCf
namespace Go.Proofs.Ytiomdnmicagdcaa.AL
open Go Go.RowKit Go.Proofs.Ytiomdnmicagdcaa.Base
set_option linter.unusedVariables false
set_option linter.unusedSimpArgs false
set_option maxRecDepth 4000
set_option synthInstance.maxSize 1000
set_option synthInstance.maxHeartbeats 200000
def dsum (l : List SecD) : Nat := (l.map fun s => s.data.length).sum
def smallB (o : ObjD) : Bool := !(decide ((o.secs.length : Int) > 40) || decide ((o.syms.length : Int) > 140) || decide ((o.groups.length : Int) > 40) || decide ((o.sig.length : Int) > 200)) && (o.secs.all fun s => !(decide ((s.data.length : Int) > 20000) || decide ((s.rels.length : Int) > 80))) && (o.groups.all fun g => !decide ((g.mem.length : Int) > 50)) && !decide ((dsum o.secs : Int) > 40000)
theorem dsum_succ {l : List SecD} {i : Nat} (h : i < l.length) : dsum (l.take (i + 1)) = dsum (l.take i) + (l.getD i default).data.length := by
 unfold dsum
 rw [map_take_succ _ h, List.sum_append]; simp
theorem dsum_le {l : List SecD} (h : ∀ s ∈ l, s.data.length ≤ 20000) : dsum l ≤ 20000 * l.length := by
 induction l with
 | nil => simp [dsum]
 | cons s l ih =>
  have h1 := ih fun x hx => h x (List.mem_cons_of_mem _ hx)
  have h2 := h s List.mem_cons_self
  unfold dsum at h1 ⊢
  rw [List.map_cons, List.sum_cons, List.length_cons]
  omega
structure SmallW (o : ObjD) : Prop where
 len : o.secs.length ≤ 40 ∧ o.syms.length ≤ 140 ∧ o.groups.length ≤ 40 ∧ o.sig.length ≤ 200
 sec : ∀ s ∈ o.secs, s.data.length ≤ 20000 ∧ s.rels.length ≤ 80
 grp : ∀ g ∈ o.groups, g.mem.length ≤ 50
theorem small_W {o : ObjD} (h : smallB o = true) : SmallW o := by
 unfold smallB at h
 simp only [Bool.and_eq_true, Bool.not_eq_true', Bool.or_eq_false_iff, decide_eq_false_iff_not] at h
 obtain ⟨⟨⟨h1, h2⟩, h3⟩, h4⟩ := h
 refine ⟨by omega, fun s hs => ?_, fun g hg => ?_⟩
 · have := List.all_eq_true.1 h2 s hs
   simp only [Bool.not_eq_true', Bool.or_eq_false_iff, decide_eq_false_iff_not] at this
   omega
 · have := List.all_eq_true.1 h3 g hg
   simp only [Bool.not_eq_true', decide_eq_false_iff_not] at this
   omega
theorem smallB_bound {o : ObjD} (h : smallB o = true) : dsum o.secs ≤ 800000 := by
 have W := small_W h
 have h1 := dsum_le (l := o.secs) fun s hs => (W.sec s hs).1
 have h2 := W.len
 omega
def dsumO (l : List ObjD) : Nat := (l.map fun o => dsum o.secs).sum
theorem dsumO_succ {l : List ObjD} {i : Nat} (h : i < l.length) : dsumO (l.take (i + 1)) = dsumO (l.take i) + dsum (l.getD i default).secs := by
 unfold dsumO
 rw [map_take_succ _ h, List.sum_append]; simp
def fewB (l : List ObjD) : Bool := !decide ((l.length : Int) > 10) && l.all smallB && !decide ((dsumO l : Int) > 12000)
theorem few_W {l : List ObjD} (h : fewB l = true) : l.length ≤ 10 ∧ (∀ o ∈ l, SmallW o) ∧ dsumO l ≤ 12000 := by
 unfold fewB at h
 simp only [Bool.and_eq_true, Bool.not_eq_true', decide_eq_false_iff_not, List.all_eq_true] at h
 exact ⟨by omega, fun o ho => small_W (h.1.2 o ho), by omega⟩
theorem few_lok {l : List ObjD} (hok : ∀ o ∈ l, o.ok) (h : fewB l = true) : LOk l := by
 obtain ⟨h1, h2, h3⟩ := few_W h
 refine ⟨by omega, fun o ho => ⟨hok o ho, ?_, ?_⟩, fun o ho => ⟨?_, fun g hg => ?_⟩⟩
 · have := (h2 o ho).len; omega
 · have := (h2 o ho).len; omega
 · have := (h2 o ho).len; omega
 · have := (h2 o ho).grp g hg; omega
theorem small_ff {b : Bool} (h : decide ((if b = true then (1 : Int) else 0) = 0) = true) : b = false := by cases b <;> simp at h ⊢
theorem small_tt {b : Bool} (h : decide ((if b = true then (1 : Int) else 0) = 0) = false) : b = true := by cases b <;> simp at h ⊢
set_option maxHeartbeats 1000000 in
theorem law_Small (o : ObjD) (ho : o.ok) : A0 Try.prog 9 [.agg (objA o)] (fun ret => ret = .v (.int .i64 (if smallB o = true then 1 else 0))) := by
 have ho0 := ho
 obtain ⟨q1, q2, q3, q4, q5, q6, q7, q8⟩ := ho
 rw [maxLen_eq] at q1 q3 q5 q7
 refine A0.body 79 Try.func9 rfl rfl Try.ntmps9 fun base n0 => ?_
 refine AW.seq' ?_
 refine AW.region ?_
 refine AO.ww ?_
 refine AO.c ?_
 refine AO.nil ?_
 refine SQ.normal ?_
 refine AW.seq' ?_
 refine AW.seq' ?_
 refine AW.region ?_
 iterate 5 refine AO.c ?_
 iterate 4 refine AO.gx ?_
 iterate 2 refine AO.c ?_
 iterate 4 refine AO.gx ?_
 iterate 2 refine AO.c ?_
 iterate 4 refine AO.gx ?_
 refine AO.c ?_
 refine AO.nil ?_
 refine SQ.normal ?_
 refine AW.iteB (GL.ev _) (fun h0 => ?_) (fun h0 => ?_)
 ·
  have hb : smallB o = false := by unfold smallB; rw [h0]; rfl
  refine AW.seq' ?_
  refine AW.region ?_
  refine AO.c ?_
  refine AO.nil ?_
  refine SQ.normal ?_
  refine AW.ret ?_
  refine SQ.ret ?_
  refine Fin.ret (Gh.refl) noid1 ?_
  rw [hb]; rfl
 ·
  have h0w := h0
  simp only [Bool.or_eq_false_iff, decide_eq_false_iff_not] at h0w
  refine AW.skip ?_
  refine SQ.normal ?_
  refine AW.seq' ?_
  refine AW.region ?_
  refine AO.c ?_
  refine AO.nil ?_
  refine SQ.normal ?_
  refine AW.seq' ?_
  refine AW.seq' ?_
  refine AW.region ?_
  refine AO.c ?_
  refine AO.nil ?_
  refine SQ.normal ?_
  refine AW.block' ?_
  refine AW.loopU [.f, .k, .f, .k, .k, .F, .F, .F, .F, .F, .F, .F, .F, .F, .f, .f] (fun (i : Nat) => [(3, .v (.int .i64 ((dsum (o.secs.take i) : Int)))), (4, .v (.int .i64 (i)))]) (fun i => Hn n0 [some (.box 42 (objA o))]) (fun m i => (i ≤ o.secs.length ∧ m = o.secs.length - i) ∧ dsum (o.secs.take i) ≤ 20000 * i ∧ ((o.secs.take i).all fun s => !(decide ((s.data.length : Int) > 20000) || decide ((s.rels.length : Int) > 80))) = true) (o.secs.length) (0) ⟨by omega, by simp [dsum], rfl⟩ (by simp [dsum]) (by first | rfl | (simp; done)) ?_
  rintro m0 i ⟨hx1, hx2, hx3⟩
  refine AW.seq' ?_
  refine AW.seq' ?_
  refine AW.region ?_
  iterate 5 refine AO.c ?_
  refine AO.nil ?_
  refine SQ.normal ?_
  refine AW.iteB (GL.ev _) (fun h1 => ?_) (fun h1 => ?_)
  ·
   rw [decide_eq_true_eq] at h1
   have hi : i < o.secs.length := by omega
   refine AW.skip ?_
   refine SQ.normal ?_
   refine AW.seq' ?_
   refine AW.block' ?_
   refine AW.seq' ?_
   refine AW.seq' ?_
   refine AW.region ?_
   iterate 3 refine AO.c ?_
   refine AO.oo ?_
   iterate 5 refine AO.c ?_
   iterate 3 refine AO.gx ?_
   refine AO.gxoo ?_
   iterate 4 refine AO.gx ?_
   refine AO.c ?_
   refine AO.nil ?_
   refine SQ.normal ?_
   refine AW.iteB (GL.ev _) (fun h2 => ?_) (fun h2 => ?_)
   ·
    have hb : smallB o = false := by
     unfold smallB
     rw [all_false_at hi (by (try dsimp only); rw [h2]; rfl)]; simp
    refine AW.seq' ?_
    refine AW.region ?_
    refine AO.c ?_
    refine AO.nil ?_
    refine SQ.normal ?_
    refine AW.ret ?_
    refine SQ.ret <| BQ.ret <| SQ.ret <| AW.out <| LU.ret <| BQ.ret <| SQ.ret ?_
    refine Fin.ret (Gh.refl) noid1 ?_
    rw [hb]; rfl
   ·
    have h2w := h2
    simp only [Bool.or_eq_false_iff, decide_eq_false_iff_not] at h2w
    have hal : ((o.secs.take (i + 1)).all fun s => !(decide ((s.data.length : Int) > 20000) || decide ((s.rels.length : Int) > 80))) = true := by
     rw [all_take_succ hi, hx3]; (try dsimp only); rw [h2]; rfl
    have hd := dsum_succ hi
    refine AW.skip ?_
    refine SQ.normal ?_
    refine AW.region ?_
    iterate 4 refine AO.c ?_
    refine AO.oo ?_
    iterate 3 refine AO.c ?_
    refine AO.oo ?_
    refine AO.c ?_
    refine AO.nil ?_
    refine BQ.normal ?_
    refine SQ.normal ?_
    refine AW.region ?_
    refine AO.c ?_
    refine AO.oo ?_
    refine AO.c ?_
    refine AO.nil ?_
    exact AW.backU [.f, .k, .f, .k, .k, .F, .F, .F, .F, .F, .F, .F, .F, .F, .f, .f] (m0 - 1) (i + 1) (by omega) (by (try dsimp only); exact ⟨by omega, by omega, hal⟩) (by rw [hd]; simp) (by first | rfl | (simp; done))
  ·
   rw [decide_eq_false_iff_not] at h1
   have hi : i = o.secs.length := by omega
   subst hi
   rw [List.take_of_length_le (Nat.le_refl _)] at *
   refine AW.exit ?_
   refine SQ.exit <| AW.out <| LU.exit <| BQ.exit ?_
   refine SQ.normal ?_
   refine AW.seq' ?_
   refine AW.seq' ?_
   refine AW.region ?_
   refine AO.c ?_
   refine AO.nil ?_
   refine SQ.normal ?_
   refine AW.block' ?_
   refine AW.loopU [.f, .k, .f, .k, .f, .k, .F, .F, .F, .F, .F, .F, .F, .F, .F, .f] (fun (k : Nat) => [(5, .v (.int .i64 (k)))]) (fun k => Hn n0 [some (.box 42 (objA o))]) (fun m k => (k ≤ o.groups.length ∧ m = o.groups.length - k) ∧ ((o.groups.take k).all fun g => !decide ((g.mem.length : Int) > 50)) = true) (o.groups.length) (0) ⟨by omega, rfl⟩ (by first | rfl | (simp; done)) (by first | rfl | (simp; done)) ?_
   rintro m1 k ⟨hy1, hy3⟩
   refine AW.seq' ?_
   refine AW.seq' ?_
   refine AW.region ?_
   iterate 5 refine AO.c ?_
   refine AO.nil ?_
   refine SQ.normal ?_
   refine AW.iteB (GL.ev _) (fun h3 => ?_) (fun h3 => ?_)
   ·
    rw [decide_eq_true_eq] at h3
    have hk : k < o.groups.length := by omega
    refine AW.skip ?_
    refine SQ.normal ?_
    refine AW.seq' ?_
    refine AW.block' ?_
    refine AW.seq' ?_
    refine AW.region ?_
    iterate 3 refine AO.c ?_
    refine AO.oo ?_
    iterate 4 refine AO.c ?_
    refine AO.nil ?_
    refine SQ.normal ?_
    refine AW.iteB (GL.ev _) (fun h4 => ?_) (fun h4 => ?_)
    ·
     have hb : smallB o = false := by
      unfold smallB
      rw [all_false_at (l := o.groups) hk (by (try dsimp only); rw [h4]; rfl)]; simp
     refine AW.seq' ?_
     refine AW.region ?_
     refine AO.c ?_
     refine AO.nil ?_
     refine SQ.normal ?_
     refine AW.ret ?_
     refine BQ.ret <| SQ.ret <| AW.out <| LU.ret <| BQ.ret <| SQ.ret ?_
     refine Fin.ret (Gh.refl) noid1 ?_
     rw [hb]; rfl
    ·
     have hal2 : ((o.groups.take (k + 1)).all fun g => !decide ((g.mem.length : Int) > 50)) = true := by
      rw [all_take_succ hk, hy3]; (try dsimp only); rw [h4]; rfl
     refine AW.skip ?_
     refine BQ.normal ?_
     refine SQ.normal ?_
     refine AW.region ?_
     refine AO.c ?_
     refine AO.oo ?_
     refine AO.c ?_
     refine AO.nil ?_
     exact AW.backU [.f, .k, .f, .k, .f, .k, .F, .F, .F, .F, .F, .F, .F, .F, .F, .f] (m1 - 1) (k + 1) (by omega) (by (try dsimp only); exact ⟨by omega, hal2⟩) (by first | rfl | (simp; done)) (by first | rfl | (simp; done))
   ·
    rw [decide_eq_false_iff_not] at h3
    have hk : k = o.groups.length := by omega
    subst hk
    rw [List.take_of_length_le (Nat.le_refl _)] at hy3
    refine AW.exit ?_
    refine SQ.exit <| AW.out <| LU.exit <| BQ.exit ?_
    refine SQ.normal ?_
    refine AW.seq' ?_
    refine AW.seq' ?_
    refine AW.region ?_
    iterate 2 refine AO.c ?_
    refine AO.nil ?_
    refine SQ.normal ?_
    refine AW.iteB (GL.ev _) (fun h5 => ?_) (fun h5 => ?_)
    ·
     have hb : smallB o = false := by unfold smallB; rw [h5]; simp
     refine AW.seq' ?_
     refine AW.region ?_
     refine AO.c ?_
     refine AO.nil ?_
     refine SQ.normal ?_
     refine AW.ret ?_
     refine SQ.ret ?_
     refine Fin.ret (Gh.refl) noid1 ?_
     rw [hb]; rfl
    ·
     have hb : smallB o = true := by unfold smallB; rw [h0, hx3, hy3, h5]; rfl
     refine AW.skip ?_
     refine SQ.normal ?_
     refine AW.seq' ?_
     refine AW.region ?_
     refine AO.c ?_
     refine AO.nil ?_
     refine SQ.normal ?_
     refine AW.ret ?_
     refine Fin.ret (Gh.refl) noid1 ?_
     rw [hb]; rfl
set_option maxHeartbeats 1000000 in
theorem law_Few (l : List ObjD) (hl : l.length ≤ 9223372036854775807) (hok : ∀ o ∈ l, o.ok) : A0 Try.prog 5 [.rd 5 (l.map objA)] (fun ret => ret = .v (.int .i64 (if fewB l = true then 1 else 0))) := by
 refine A0.body 45 Try.func5 rfl rfl Try.ntmps5 fun base n0 => ?_
 refine AW.seq' ?_
 refine AW.region ?_
 refine AO.c ?_
 refine AO.nil ?_
 refine SQ.normal ?_
 refine AW.seq' ?_
 refine AW.seq' ?_
 refine AW.region ?_
 iterate 3 refine AO.c ?_
 refine AO.nil ?_
 refine SQ.normal ?_
 refine AW.iteB (GL.ev _) (fun h0 => ?_) (fun h0 => ?_)
 ·
  have hb : fewB l = false := by unfold fewB; rw [h0]; rfl
  refine AW.seq' ?_
  refine AW.region ?_
  refine AO.c ?_
  refine AO.nil ?_
  refine SQ.normal ?_
  refine AW.ret ?_
  refine SQ.ret ?_
  refine Fin.ret (Gh.refl) noid1 ?_
  rw [hb]; rfl
 ·
  have h0w := h0
  rw [decide_eq_false_iff_not] at h0w
  refine AW.skip ?_
  refine SQ.normal ?_
  refine AW.seq' ?_
  refine AW.region ?_
  refine AO.c ?_
  refine AO.nil ?_
  refine SQ.normal ?_
  refine AW.seq' ?_
  refine AW.seq' ?_
  refine AW.region ?_
  refine AO.c ?_
  refine AO.nil ?_
  refine SQ.normal ?_
  refine AW.block' ?_
  refine AW.loopU [.k, .f, .f, .k, .k, .F, .F, .F, .F, .F] (fun (i : Nat) => [(3, .v (.int .i64 ((dsumO (l.take i) : Int)))), (4, .v (.int .i64 (i)))]) (fun i => Hn n0 []) (fun m i => (i ≤ l.length ∧ m = l.length - i) ∧ dsumO (l.take i) ≤ 800000 * i ∧ ((l.take i).all smallB) = true) (l.length) (0) ⟨by omega, by simp [dsumO], rfl⟩ (by simp [dsumO]) (by first | rfl | (simp; done)) ?_
  rintro m0 i ⟨hx1, hx2, hx3⟩
  refine AW.seq' ?_
  refine AW.seq' ?_
  refine AW.region ?_
  iterate 4 refine AO.c ?_
  refine AO.nil ?_
  refine SQ.normal ?_
  refine AW.iteB (GL.ev _) (fun h1 => ?_) (fun h1 => ?_)
  ·
   rw [decide_eq_true_eq] at h1
   have hi : i < l.length := by omega
   refine AW.skip ?_
   refine SQ.normal ?_
   refine AW.seq' ?_
   refine AW.block' ?_
   refine AW.seq' ?_
   refine AW.seq' ?_
   refine AW.region ?_
   iterate 2 refine AO.c ?_
   refine AO.oo ?_
   refine AO.c ?_
   refine AO.call1 Try.func9 rfl rfl (law_Small (l.getD i default) (hok _ (getD_in hi))) ?_
   refine AO.c ?_
   refine AO.nil ?_
   refine SQ.normal ?_
   refine AW.iteB (GL.ev _) (fun h2 => ?_) (fun h2 => ?_)
   ·
    have hs := small_ff h2
    have hb : fewB l = false := by unfold fewB; rw [all_false_at hi hs]; simp
    refine AW.seq' ?_
    refine AW.region ?_
    refine AO.c ?_
    refine AO.nil ?_
    refine SQ.normal ?_
    refine AW.ret ?_
    refine SQ.ret <| BQ.ret <| SQ.ret <| AW.out <| LU.ret <| BQ.ret <| SQ.ret ?_
    refine Fin.ret (Gh.refl) noid1 ?_
    rw [hb]; rfl
   ·
    have hs := small_tt h2
    have W := small_W hs
    have Wl := W.len
    have hbd := smallB_bound hs
    have hdO := dsumO_succ hi
    have hal : ((l.take (i + 1)).all smallB) = true := by rw [all_take_succ hi, hx3, hs]; rfl
    refine AW.skip ?_
    refine SQ.normal ?_
    refine AW.seq' ?_
    refine AW.region ?_
    refine AO.c ?_
    refine AO.nil ?_
    refine SQ.normal ?_
    refine AW.block' ?_
    refine AW.loopU [.k, .f, .f, .k, .k, .k, .F, .F, .F, .F, .f, .f, .f, .f, .f, .f, .f] (fun (k : Nat) => [(3, .v (.int .i64 ((dsumO (l.take i) : Int) + (dsum ((l.getD i default).secs.take k) : Int)))), (5, .v (.int .i64 (k)))]) (fun k => Hn n0 []) (fun m k => (k ≤ (l.getD i default).secs.length ∧ m = (l.getD i default).secs.length - k) ∧ dsum ((l.getD i default).secs.take k) ≤ 20000 * k) ((l.getD i default).secs.length) (0) ⟨by omega, by simp [dsum]⟩ (by simp [dsum]) (by first | rfl | (simp; done)) ?_
    rintro m1 k ⟨hy1, hy2⟩
    refine AW.seq' ?_
    refine AW.seq' ?_
    refine AW.region ?_
    iterate 3 refine AO.c ?_
    refine AO.oo ?_
    iterate 4 refine AO.c ?_
    refine AO.nil ?_
    refine SQ.normal ?_
    refine AW.iteB (GL.ev _) (fun h3 => ?_) (fun h3 => ?_)
    ·
     rw [decide_eq_true_eq] at h3
     have hk : k < (l.getD i default).secs.length := by omega
     have hd := dsum_succ hk
     have hd2 := (W.sec _ (getD_in hk)).1
     refine AW.skip ?_
     refine SQ.normal ?_
     refine AW.seq' ?_
     refine AW.block' ?_
     refine AW.region ?_
     iterate 3 refine AO.c ?_
     refine AO.oo ?_
     iterate 3 refine AO.c ?_
     refine AO.oo ?_
     iterate 3 refine AO.c ?_
     refine AO.oo ?_
     refine AO.c ?_
     refine AO.nil ?_
     refine BQ.normal ?_
     refine SQ.normal ?_
     refine AW.region ?_
     refine AO.c ?_
     refine AO.oo ?_
     refine AO.c ?_
     refine AO.nil ?_
     exact AW.backU [.k, .f, .f, .k, .k, .k, .F, .F, .F, .F, .f, .f, .f, .f, .f, .f, .f] (m1 - 1) (k + 1) (by omega) (by (try dsimp only); exact ⟨by omega, by omega⟩) (by rw [hd]; simp [Int.add_assoc]) (by first | rfl | (simp; done))
    ·
     rw [decide_eq_false_iff_not] at h3
     have hk : k = (l.getD i default).secs.length := by omega
     subst hk
     rw [List.take_of_length_le (Nat.le_refl _)] at *
     refine AW.exit ?_
     refine SQ.exit <| AW.out <| LU.exit <| BQ.exit ?_
     refine BQ.normal ?_
     refine SQ.normal ?_
     refine AW.region ?_
     refine AO.c ?_
     refine AO.oo ?_
     refine AO.c ?_
     refine AO.nil ?_
     exact AW.backU [.k, .f, .f, .k, .k, .F, .F, .F, .F, .F] (m0 - 1) (i + 1) (by omega) (by (try dsimp only); exact ⟨by omega, by omega, hal⟩) (by rw [hdO]; simp) (by first | rfl | (simp; done))
  ·
   rw [decide_eq_false_iff_not] at h1
   have hi : i = l.length := by omega
   subst hi
   rw [List.take_of_length_le (Nat.le_refl _)] at *
   refine AW.exit ?_
   refine SQ.exit <| AW.out <| LU.exit <| BQ.exit ?_
   refine SQ.normal ?_
   refine AW.seq' ?_
   refine AW.seq' ?_
   refine AW.region ?_
   iterate 2 refine AO.c ?_
   refine AO.nil ?_
   refine SQ.normal ?_
   refine AW.iteB (GL.ev _) (fun h4 => ?_) (fun h4 => ?_)
   ·
    have hb : fewB l = false := by unfold fewB; rw [h4]; simp
    refine AW.seq' ?_
    refine AW.region ?_
    refine AO.c ?_
    refine AO.nil ?_
    refine SQ.normal ?_
    refine AW.ret ?_
    refine SQ.ret ?_
    refine Fin.ret (Gh.refl) noid1 ?_
    rw [hb]; rfl
   ·
    have hb : fewB l = true := by unfold fewB; rw [h0, hx3, h4]; rfl
    refine AW.skip ?_
    refine SQ.normal ?_
    refine AW.seq' ?_
    refine AW.region ?_
    refine AO.c ?_
    refine AO.nil ?_
    refine SQ.normal ?_
    refine AW.ret ?_
    refine Fin.ret (Gh.refl) noid1 ?_
    rw [hb]; rfl
theorem ta_rel {avs : List AV} (h : TA Try.prog 50 avs) : ∃ r : RelD, avs = relA r ∧ r.ok := by
 have h1 := h.inv_struct
 obtain ⟨a1, b1, rfl, k1, h2⟩ := TAs.inv_cons h1
 obtain ⟨a2, b2, rfl, k2, h3⟩ := TAs.inv_cons h2
 obtain ⟨a3, b3, rfl, k3, h4⟩ := TAs.inv_cons h3
 obtain ⟨a4, b4, rfl, k4, h5⟩ := TAs.inv_cons h4
 obtain rfl := TAs.inv_nil h5
 obtain ⟨n1, rfl, w1⟩ := k1.inv_int (k := .i64)
 obtain ⟨n2, rfl, w2⟩ := k2.inv_int (k := .i64)
 obtain ⟨n3, rfl, w3⟩ := k3.inv_int (k := .i64)
 obtain ⟨n4, rfl, w4⟩ := k4.inv_int (k := .i64)
 exact ⟨⟨n1, n2, n3, n4⟩, rfl, wf_i64 w1, wf_i64 w2, wf_i64 w3, wf_i64 w4⟩
theorem ta_rels {avs : List AV} (h : TA Try.prog 43 avs) : ∃ l : List RelD, avs = [.rd 4 (l.map relA)] ∧ l.length ≤ maxLen ∧ ∀ r ∈ l, r.ok := by
 obtain ⟨rows, rfl, hl, hr⟩ := TA.inv_slice (e := 50) (g := true) (sz := 4) h
 obtain ⟨l, rfl, h2⟩ := rows_map relA RelD.ok fun row hm => ta_rel (hr row hm)
 exact ⟨l, rfl, by simpa using hl, h2⟩
theorem ta_sec {avs : List AV} (h : TA Try.prog 45 avs) : ∃ s : SecD, avs = secA s ∧ s.ok := by
 have h0 := h.inv_struct
 obtain ⟨a1, b1, rfl, k1, h1⟩ := TAs.inv_cons h0
 obtain ⟨a2, b2, rfl, k2, h2⟩ := TAs.inv_cons h1
 obtain ⟨a3, b3, rfl, k3, h3⟩ := TAs.inv_cons h2
 obtain ⟨a4, b4, rfl, k4, h4⟩ := TAs.inv_cons h3
 obtain ⟨a5, b5, rfl, k5, h5⟩ := TAs.inv_cons h4
 obtain ⟨a6, b6, rfl, k6, h6⟩ := TAs.inv_cons h5
 obtain ⟨a7, b7, rfl, k7, h7⟩ := TAs.inv_cons h6
 obtain ⟨a8, b8, rfl, k8, h8⟩ := TAs.inv_cons h7
 obtain ⟨a9, b9, rfl, k9, h9⟩ := TAs.inv_cons h8
 obtain rfl := TAs.inv_nil h9
 obtain ⟨n1, rfl, w1⟩ := k1.inv_str
 obtain ⟨n2, rfl, w2⟩ := k2.inv_int (k := .i64)
 obtain ⟨n3, rfl, w3⟩ := k3.inv_int (k := .i64)
 obtain ⟨n4, rfl, w4⟩ := k4.inv_int (k := .i64)
 obtain ⟨n5, rfl, w5⟩ := k5.inv_int (k := .i64)
 obtain ⟨n6, rfl, w6⟩ := k6.inv_int (k := .i64)
 obtain ⟨n7, rfl, w7⟩ := k7.inv_int (k := .i64)
 obtain ⟨n8, rfl, w8, q8⟩ := TA.inv_bytes (e := 5) k8
 obtain ⟨n9, rfl, w9, q9⟩ := ta_rels k9
 exact ⟨⟨n1, n2, n3, n4, n5, n6, n7, n8, n9⟩, rfl, w1, wf_i64 w2, wf_i64 w3, wf_i64 w4, wf_i64 w5, wf_i64 w6, wf_i64 w7, w8, q8, w9, q9⟩
theorem ta_sym {avs : List AV} (h : TA Try.prog 56 avs) : ∃ s : SymD, avs = symA s ∧ s.ok := by
 have h0 := h.inv_struct
 obtain ⟨a1, b1, rfl, k1, h1⟩ := TAs.inv_cons h0
 obtain ⟨a2, b2, rfl, k2, h2⟩ := TAs.inv_cons h1
 obtain ⟨a3, b3, rfl, k3, h3⟩ := TAs.inv_cons h2
 obtain ⟨a4, b4, rfl, k4, h4⟩ := TAs.inv_cons h3
 obtain ⟨a5, b5, rfl, k5, h5⟩ := TAs.inv_cons h4
 obtain ⟨a6, b6, rfl, k6, h6⟩ := TAs.inv_cons h5
 obtain rfl := TAs.inv_nil h6
 obtain ⟨n1, rfl, w1⟩ := k1.inv_str
 obtain ⟨n2, rfl, w2⟩ := k2.inv_int (k := .i64)
 obtain ⟨n3, rfl, w3⟩ := k3.inv_int (k := .i64)
 obtain ⟨n4, rfl, w4⟩ := k4.inv_int (k := .i64)
 obtain ⟨n5, rfl, w5⟩ := k5.inv_int (k := .i64)
 obtain ⟨n6, rfl, w6⟩ := k6.inv_int (k := .i64)
 exact ⟨⟨n1, n2, n3, n4, n5, n6⟩, rfl, w1, wf_i64 w2, wf_i64 w3, wf_i64 w4, wf_i64 w5, wf_i64 w6⟩
theorem ta_grp {avs : List AV} (h : TA Try.prog 74 avs) : ∃ g : GrpD, avs = grpA g ∧ g.ok := by
 have h0 := h.inv_struct
 obtain ⟨a1, b1, rfl, k1, h1⟩ := TAs.inv_cons h0
 obtain ⟨a2, b2, rfl, k2, h2⟩ := TAs.inv_cons h1
 obtain rfl := TAs.inv_nil h2
 obtain ⟨n1, rfl, w1⟩ := k1.inv_int (k := .i64)
 obtain ⟨n2, rfl, w2, q2⟩ := TA.inv_ints (e := 3) (k := .i64) k2
 exact ⟨⟨n1, n2⟩, rfl, wf_i64 w1, w2, fun x hx => wf_i64 (q2 x hx)⟩
theorem ta_obj {avs : List AV} (h : TA Try.prog 42 avs) : ∃ o : ObjD, avs = objA o ∧ o.ok := by
 have h0 := h.inv_struct
 obtain ⟨a1, b1, rfl, k1, h1⟩ := TAs.inv_cons h0
 obtain ⟨a2, b2, rfl, k2, h2⟩ := TAs.inv_cons h1
 obtain ⟨a3, b3, rfl, k3, h3⟩ := TAs.inv_cons h2
 obtain ⟨a4, b4, rfl, k4, h4⟩ := TAs.inv_cons h3
 obtain ⟨a5, b5, rfl, k5, h5⟩ := TAs.inv_cons h4
 obtain rfl := TAs.inv_nil h5
 obtain ⟨r1, e1, l1, q1⟩ := TA.inv_slice (e := 45) (g := true) (sz := 9) k1
 cases e1
 obtain ⟨s1, rfl, p1⟩ := rows_map secA SecD.ok fun row hm => ta_sec (q1 row hm)
 obtain ⟨r2, e2, l2, q2⟩ := TA.inv_slice (e := 56) (g := true) (sz := 6) k2
 cases e2
 obtain ⟨s2, rfl, p2⟩ := rows_map symA SymD.ok fun row hm => ta_sym (q2 row hm)
 obtain ⟨r3, e3, l3, q3⟩ := TA.inv_slice (e := 74) (g := true) (sz := 2) k3
 cases e3
 obtain ⟨s3, rfl, p3⟩ := rows_map grpA GrpD.ok fun row hm => ta_grp (q3 row hm)
 obtain ⟨b4, rfl⟩ := k4.inv_bool
 obtain ⟨n5, rfl, w5, q5⟩ := TA.inv_ints (e := 3) (k := .i64) k5
 exact ⟨⟨s1, s2, s3, b4, n5⟩, rfl, by simpa using l1, p1, by simpa using l2, p2, by simpa using l3, p3, w5, fun x hx => wf_i64 (q5 x hx)⟩
theorem ta_objs {av : AV} (h : TA Try.prog 22 [av]) : ∃ l : List ObjD, av = .rd 5 (l.map objA) ∧ l.length ≤ 9223372036854775807 ∧ ∀ o ∈ l, o.ok := by
 obtain ⟨rows, he, hl, hr⟩ := TA.inv_slice (e := 42) (g := true) (sz := 5) h
 cases he
 obtain ⟨l, rfl, h2⟩ := rows_map objA ObjD.ok fun row hm => ta_obj (hr row hm)
 rw [maxLen_eq] at hl
 exact ⟨l, rfl, by simpa using hl, h2⟩
end Go.Proofs.Ytiomdnmicagdcaa.AL
namespace Go.Proofs.Ytiomdnmicagdcaa.AL
open Go Go.RowKit Go.Proofs.Ytiomdnmicagdcaa.Base
set_option linter.unusedVariables false
set_option linter.unusedSimpArgs false
set_option maxRecDepth 4000
set_option synthInstance.maxSize 1000
set_option synthInstance.maxHeartbeats 200000
@[reducible] def zSy : SymD := ⟨noS, 0, 0, 0, 0, 0⟩
theorem names_ResolveV (l : List ObjD) (hk : LOk l) : A0 Try.prog 10 [.rd 5 (l.map objA)] (fun ret => ret = .tup [.agg (tabA (resT l)), .v (ifV 57 (resE l))]) := by
 refine A0.mono (names_Resolve l hk) fun r q => ?_
 rcases q with ⟨q1, q⟩ | ⟨q1, q2, q⟩ | ⟨q1, q2, q3, q⟩ | ⟨q1, q2, q3, q⟩
 · have e := resE_1 q1
   rw [q, resT_n (by rw [e]; decide), e]
 · have e := resE_3 q1 q2
   rw [q, resT_n (by rw [e]; decide), e]
 · have e := resE_4 q1 q2 q3
   rw [q, resT_n (by rw [e]; decide), e]
 · have e := resE_ok q1 q2 q3
   rw [q, resT_0 e, e]
end Go.Proofs.Ytiomdnmicagdcaa.AL
namespace Go.Proofs.Ytiomdnmicagdcaa.AL
open Go Go.RowKit Go.Proofs.Ytiomdnmicagdcaa.Base
set_option linter.unusedVariables false
set_option linter.unusedSimpArgs false
set_option maxRecDepth 4000
set_option synthInstance.maxSize 1000
set_option synthInstance.maxHeartbeats 200000
structure EdgeD where
 off : Int
 typ : Int
 add : Int
 to : Int
 at_ : Int
 deriving Inhabited, DecidableEq
structure NodeD where
 obj : Int
 sec : Int
 pos : Int
 name : ByteArray
 typ : Int
 flags : Int
 align : Int
 ent : Int
 size : Int
 data : List Int
 edges : List EdgeD
 uniq : Bool
 group : Int
 link : Int
 deriving Inhabited
@[reducible] def edgeA (e : EdgeD) : List AV := [.v (.int .i64 e.off), .v (.int .i64 e.typ), .v (.int .i64 e.add), .v (.int .i64 e.to), .v (.int .i64 e.at_)]
@[reducible] def nodeA (x : NodeD) : List AV := [.v (.int .i64 x.obj), .v (.int .i64 x.sec), .v (.int .i64 x.pos), .v (.string x.name), .v (.int .i64 x.typ), .v (.int .i64 x.flags), .v (.int .i64 x.align), .v (.int .i64 x.ent), .v (.int .i64 x.size), .rd 1 (bys x.data), .rd 5 (x.edges.map edgeA), .v (.bool x.uniq), .v (.int .i64 x.group), .v (.int .i64 x.link)]
@[reducible] def vP (ps : List (Int × Int)) : AV := .rd 2 (ps.map pcA)
instance {ps : List (Int × Int)} : EV vP (.rd 2 (ps.map pcA)) ps := ⟨rfl⟩
instance : ZV vP (.slice none 0 0) [] := ⟨tellNilM⟩
instance : PairT Try.prog 88 := ⟨_, _, _, _, _, _, _, _, _, _, _, _, rfl, rfl, rfl, by kernel_rfl, rfl, rfl, by kernel_rfl, by kernel_rfl⟩
/-- The node that a piece of a section is. -/
def secNd (o n : Int) (s : SecD) (g : Int) (p : Int × Int) : NodeD := ⟨o, n, p.1, s.name, s.typ, s.flags, s.align, s.ent, p.2, if s.typ = 1 then (s.data.drop p.1.toNat).take p.2.toNat else [], [], false, g, s.link⟩
structure SecG (s : SecD) : Prop where
 ok : s.ok
 fl : 0 ≤ s.flags
 en : s.ent ≤ 1000000000
 dat : s.data.length ≤ 20000
 pcs : (splitB s).length ≤ 20001
 rng : s.typ = 1 → ∀ p ∈ splitB s, 0 ≤ p.1 ∧ 0 ≤ p.2 ∧ p.1 + p.2 ≤ s.data.length
def secD (s : SecD) : Nat := 2 + 3 * (splitB s).length
theorem Gh.dropY {base : Cx} {l : List AV} {n j : Nat} {A X T : List (Option AB)} : Gh base ⟨l, Hn n (((A ++ (X ++ T)) ++ List.replicate j none) ++ [])⟩ ⟨l, Hn n ((A ++ X) ++ List.replicate (T.length + j) none)⟩ := by
 have h := Gh.dropX (base := base) (l := l) (n := n) (A := A) (X := X) (T := T ++ List.replicate j none)
 simpa [List.append_assoc] using h
theorem node_snoc {o k g : Int} {s : SecD} {N : List NodeD} {i : Nat} (h : i < (splitB s).length) : N ++ ((splitB s).take (i + 1)).map (secNd o k s g) = (N ++ ((splitB s).take i).map (secNd o k s g)) ++ [secNd o k s g ((splitB s).getD i default)] := by
 rw [map_take_succ _ h, List.append_assoc]
theorem node_map {o k g : Int} {s : SecD} {N : List NodeD} {i : Nat} {x : NodeD} (h : i < (splitB s).length) (hx : secNd o k s g ((splitB s).getD i default) = x) : (N ++ ((splitB s).take (i + 1)).map (secNd o k s g)).map nodeA = (N ++ ((splitB s).take i).map (secNd o k s g)).map nodeA ++ [nodeA x] ∧ (N ++ ((splitB s).take (i + 1)).map (secNd o k s g)).length = (N ++ ((splitB s).take i).map (secNd o k s g)).length + 1 := by
 rw [node_snoc h, hx, List.map_append, List.length_append]
 exact ⟨rfl, rfl⟩
set_option maxHeartbeats 8000000 in
theorem graph_section (n : Nat) (z0 z1 : Option AB) (l : List ObjD) (dr df : List (List AV)) (N : List NodeD) (P : List ((Int × Int) × List (Int × Int))) (B U : List ((Int × Int) × Int)) (ep : Nat) (X : List (Option AB)) {lx : Nat} [le : LEN X lx] (o k : Int) (s : SecD) (g : Int) (hs : SecG s) (hN : N.length ≤ 6000000) (hP : P.length ≤ 100000) : AC Try.prog 22 (Hn n ([z0, z1, some (.map ((P).map (mE kP vP))), some (.map ((B).map (mE kP vI))), some (.map ((U).map (mE kP vI))), some (.box 69 [.rd 5 (l.map objA), .rd 1 dr, .rd 3 df, .own (n + 6) (ep) 0 (N).length, .omap (n + 2), .omap (n + 3), .omap (n + 4)]), some (.row 36 14 (ep) ((N).map nodeA))] ++ X)) [.box (n + 5) 0, .v (.int .i64 (o)), .v (.int .i64 (k)), .agg (secA s), .v (.int .i64 (g))] (fun r H' => r = .tup [] ∧ H' = Hn n (([z0, z1, some (.map (((aput P (o, k) (splitB s))).map (mE kP vP))), some (.map (((aput B (o, k) (N.length : Int))).map (mE kP vI))), some (.map ((U).map (mE kP vI))), some (.box 69 [.rd 5 (l.map objA), .rd 1 dr, .rd 3 df, .own (n + 6) (ep + (splitB s).length) 0 (N ++ (splitB s).map (secNd o k s g)).length, .omap (n + 2), .omap (n + 3), .omap (n + 4)]), some (.row 36 14 (ep + (splitB s).length) ((N ++ (splitB s).map (secNd o k s g)).map nodeA))] ++ X) ++ List.replicate (secD s) none)) := by
 have hsd := hs.dat
 have hsp := hs.pcs
 have hse := hs.en
 have hsf := hs.fl
 have hso := hs.ok
 have hpl := (aput_len (l := P) (k := (o, k)) (v := splitB s))
 refine AC.body 92 Try.func22 rfl rfl Try.ntmps22 fun base => ?_
 refine AW.seq' ?_
 refine AW.region ?_
 refine AO.ww ?_
 refine AO.nil ?_
 refine SQ.normal ?_
 refine AW.seq' ?_
 refine AW.region ?_
 iterate 3 refine AO.c ?_
 refine AO.ww ?_
 refine AO.sst ?_
 refine AO.nil ?_
 refine SQ.normal ?_
 refine AW.seq' ?_
 refine AW.drawsZ [7] (.one 0 false (.one 1 false (.one 2 false (.one 3 false (.one 4 false (.one 5 false (.one 6 true (.one 7 true .nil)))))))) (by kernel_rfl) rfl (by kernel_rfl) ?_
 iterate 6 refine AZ.c rfl ?_
 refine AZ.call1 rfl Try.func31 rfl rfl (piece_Split s hso hsf (by omega) (by omega)) ?_
 refine AZ.ghost (Gh.tell 21 (.v (.agg ⟨[.int .i64 o, .int .i64 k]⟩))) ?_
 refine AZ.sst rfl rfl ?_
 refine AZ.done ?_
 refine SQ.normal ?_
 refine AW.seq' ?_
 refine AW.drawsZ [10] (.one 0 false (.one 1 false (.one 2 false (.one 3 false (.one 4 false (.one 5 false (.one 6 false (.one 7 false (.one 8 false (.one 9 false (.one 10 true .nil))))))))))) (by kernel_rfl) rfl (by kernel_rfl) ?_
 iterate 10 refine AZ.c rfl ?_
 refine AZ.ghost (Gh.tell 28 (.v (.agg ⟨[.int .i64 o, .int .i64 k]⟩))) ?_
 refine AZ.sst rfl rfl ?_
 refine AZ.done ?_
 refine SQ.normal ?_
 refine AW.seq' ?_
 refine AW.drawsZ [] (.one 0 false (.one 1 false (.one 2 false (.one 3 false (.one 4 false (.one 5 false (.one 6 false (.one 7 false .nil)))))))) (by kernel_rfl) rfl (by kernel_rfl) ?_
 iterate 5 refine AZ.c rfl ?_
 refine AZ.ghost (Gh.tell 38 (.v (.agg ⟨[.int .i64 o, .int .i64 k]⟩))) ?_
 refine AZ.c rfl ?_
 refine AZ.eq 39 (av' := .rd 2 ((splitB s).map pcA)) (by rw [aget_aput, if_pos rfl]; rfl) ?_
 iterate 2 refine AZ.c rfl ?_
 refine AZ.done ?_
 refine SQ.normal ?_
 refine AW.block' ?_
 refine AW.loopU2 [.k, .k, .k, .f, .k, .f, .f, .f, .k, .F, .F, .F, .f, .f, .f, .f, .f, .f, .k, .k, .k, .F, .F, .F, .F, .F, .F, .f, .f] (fun (i j : Nat) => [(41, .v (.int .i64 (i)))]) (fun i j => Hn n ((([z0, z1, some (.map (((aput P (o, k) (splitB s))).map (mE kP vP))), some (.map (((aput B (o, k) (N.length : Int))).map (mE kP vI))), some (.map ((U).map (mE kP vI))), some (.box 69 [.rd 5 (l.map objA), .rd 1 dr, .rd 3 df, .own (n + 6) (ep + i) 0 ((N ++ ((splitB s).take i).map (secNd o k s g))).length, .omap (n + 2), .omap (n + 3), .omap (n + 4)]), some (.row 36 14 (ep + i) (((N ++ ((splitB s).take i).map (secNd o k s g))).map nodeA))] ++ (X ++ [some (.box 45 (secA s)), some (.box 88 [.v (.int .i64 (o)), .v (.int .i64 (k))])])) ++ List.replicate j none) ++ [])) (fun m i j => (i ≤ (splitB s).length ∧ m = (splitB s).length - i) ∧ j = 3 * i) ((splitB s).length) (0) (0) ⟨by omega, by omega⟩ (by first | rfl | (simp; done)) (by simp) ?_
 rintro m0 i j ⟨hx1, hx2⟩
 refine AW.seq' ?_
 refine AW.region ?_
 refine AO.c ?_
 refine AO.nil ?_
 refine SQ.normal ?_
 refine AW.seq' ?_
 refine AW.iteB (GL.ev _) (fun h0 => ?_) (fun h0 => ?_)
 ·
  rw [decide_eq_true_eq] at h0
  have hi : i < (splitB s).length := by omega
  refine AW.skip ?_
  refine SQ.normal ?_
  refine AW.seq' ?_
  refine AW.block' ?_
  refine AW.seq' ?_
  refine AW.region ?_
  refine AO.oo ?_
  refine AO.c ?_
  refine AO.ww ?_
  refine AO.sst ?_
  refine AO.nil ?_
  refine SQ.normal ?_
  refine AW.seq' ?_
  refine AW.region ?_
  iterate 20 refine AO.c ?_
  refine AO.ww ?_
  refine AO.sst ?_
  refine AO.nil ?_
  refine SQ.normal ?_
  refine AW.seq' ?_
  refine AW.seq' ?_
  refine AW.region ?_
  iterate 3 refine AO.c ?_
  refine AO.nil ?_
  refine SQ.normal ?_
  refine AW.iteB (GL.ev _) (fun h1 => ?_) (fun h1 => ?_)
  ·
   rw [decide_eq_true_eq] at h1
   have hr := hs.rng h1 _ (getD_in hi)
   have hns := node_map (o := o) (k := k) (g := g) (N := N) hi (show secNd o k s g ((splitB s).getD i default) = (⟨o, k, ((splitB s).getD i default).1, s.name, s.typ, s.flags, s.align, s.ent, ((splitB s).getD i default).2, (s.data.drop ((splitB s).getD i default).1.toNat).take ((splitB s).getD i default).2.toNat, [], false, g, s.link⟩ : NodeD) by unfold secNd; rw [if_pos h1])
   refine AW.region ?_
   refine AO.b0 ?_
   intro ad
   iterate 8 refine AO.c ?_
   refine AO.oo ?_
   refine AO.o (by simp only [Option.getD_some]; omega) ?_
   refine AO.eq 78 (av' := .rd 1 (bys ((s.data.drop ((splitB s).getD i default).1.toNat).take ((splitB s).getD i default).2.toNat))) (by simp only [Option.getD_some]; rw [List.drop_take, show (((splitB s).getD i default).1 + ((splitB s).getD i default).2).toNat - ((splitB s).getD i default).1.toNat = ((splitB s).getD i default).2.toNat by omega]) ?_
   refine AO.app0 rfl (by rw [bys_length, List.length_take, List.length_drop]; omega) (by rw [bys_length, List.length_take, List.length_drop]; omega) ?_
   refine AO.c ?_
   refine AO.sst ?_
   refine AO.nil ?_
   refine SQ.normal ?_
   refine AW.drawsZ [7, 10] (.one 1 false (.one 2 false (.one 3 false (.one 4 false (.one 5 false (.pur 0 (.one 6 true (.one 7 true (.one 8 false (.one 9 false (.one 10 true .nil))))))))))) (by kernel_rfl) rfl (by kernel_rfl) ?_
   iterate 5 refine AZ.c rfl ?_
   refine AZ.p rfl ?_
   first | refine AZ.ghost (Gh.tell 86 (.agg (nodeA (⟨o, k, ((splitB s).getD i default).1, s.name, s.typ, s.flags, s.align, s.ent, ((splitB s).getD i default).2, (s.data.drop ((splitB s).getD i default).1.toNat).take ((splitB s).getD i default).2.toNat, [], false, g, s.link⟩ : NodeD)))) ?_ | refine AZ.ghost (Gh.tell 86 (.agg (nodeA (⟨o, k, ((splitB s).getD i default).1, s.name, s.typ, s.flags, s.align, s.ent, ((splitB s).getD i default).2, [], [], false, g, s.link⟩ : NodeD)))) ?_
   refine AZ.mkk rfl ?_
   refine AZ.ww rfl rfl ?_
   iterate 2 refine AZ.c rfl ?_
   refine AZ.sst rfl rfl ?_
   refine AZ.done ?_
   refine BQ.normal ?_
   refine SQ.normal ?_
   refine AW.region ?_
   refine AO.oo ?_
   refine AO.c ?_
   refine AO.nil ?_
   exact AW.backE [.k, .k, .k, .f, .k, .f, .f, .f, .k, .F, .F, .F, .f, .f, .f, .f, .f, .f, .k, .k, .k, .F, .F, .F, .F, .F, .F, .f, .f] (j) (m0 - 1) (i + 1, j + 3) (by omega) (by (try dsimp only); exact ⟨by omega, by omega⟩) (by first | rfl | (simp; done)) (by first | ((try dsimp only); rw [hns.1, hns.2]; done) | ((try dsimp only); rw [hns.1, hns.2]; rfl))
  ·
   rw [decide_eq_false_iff_not] at h1
   have hns := node_map (o := o) (k := k) (g := g) (N := N) hi (show secNd o k s g ((splitB s).getD i default) = (⟨o, k, ((splitB s).getD i default).1, s.name, s.typ, s.flags, s.align, s.ent, ((splitB s).getD i default).2, [], [], false, g, s.link⟩ : NodeD) by unfold secNd; rw [if_neg h1])
   refine AW.skip ?_
   refine SQ.normal ?_
   refine AW.drawsZ [7, 10] (.one 1 false (.one 2 false (.one 3 false (.one 4 false (.one 5 false (.pur 0 (.one 6 true (.one 7 true (.one 8 false (.one 9 false (.one 10 true .nil))))))))))) (by kernel_rfl) rfl (by kernel_rfl) ?_
   iterate 5 refine AZ.c rfl ?_
   refine AZ.p rfl ?_
   first | refine AZ.ghost (Gh.tell 86 (.agg (nodeA (⟨o, k, ((splitB s).getD i default).1, s.name, s.typ, s.flags, s.align, s.ent, ((splitB s).getD i default).2, (s.data.drop ((splitB s).getD i default).1.toNat).take ((splitB s).getD i default).2.toNat, [], false, g, s.link⟩ : NodeD)))) ?_ | refine AZ.ghost (Gh.tell 86 (.agg (nodeA (⟨o, k, ((splitB s).getD i default).1, s.name, s.typ, s.flags, s.align, s.ent, ((splitB s).getD i default).2, [], [], false, g, s.link⟩ : NodeD)))) ?_
   refine AZ.mkk rfl ?_
   refine AZ.ww rfl rfl ?_
   iterate 2 refine AZ.c rfl ?_
   refine AZ.sst rfl rfl ?_
   refine AZ.done ?_
   refine BQ.normal ?_
   refine SQ.normal ?_
   refine AW.region ?_
   refine AO.oo ?_
   refine AO.c ?_
   refine AO.nil ?_
   exact AW.backE [.k, .k, .k, .f, .k, .f, .f, .f, .k, .F, .F, .F, .f, .f, .f, .f, .f, .f, .k, .k, .k, .F, .F, .F, .F, .F, .F, .f, .f] (j) (m0 - 1) (i + 1, j + 3) (by omega) (by (try dsimp only); exact ⟨by omega, by omega⟩) (by first | rfl | (simp; done)) (by first | ((try dsimp only); rw [hns.1, hns.2]; done) | ((try dsimp only); rw [hns.1, hns.2]; rfl))
 ·
  rw [decide_eq_false_iff_not] at h0
  have hi : i = (splitB s).length := by omega
  subst hi
  subst hx2
  rw [List.take_length]
  refine AW.exit ?_
  refine SQ.exit <| AW.out <| LU.exit <| BQ.exit ?_
  refine FinC.ret Gh.dropY ⟨rfl, ?_⟩ (.inl rfl)
  unfold secD
  simp
theorem findG_rng {N at_ : Int} : ∀ (l : List (Int × Int)) (i : Int), findG N at_ i l = -1 ∨ ∃ q : Nat, q < l.length ∧ findG N at_ i l = i + q ∧ (((l.getD q default).1 ≤ at_ ∧ at_ - (l.getD q default).1 < (l.getD q default).2) ∨ (i + q + 1 = N ∧ at_ - (l.getD q default).1 = (l.getD q default).2 ∧ 0 ≤ at_)) := by
 intro l
 induction l with
 | nil => intro i; exact .inl rfl
 | cons p ps ih =>
  intro i
  unfold findG
  split
  · rename_i h
    refine .inr ⟨0, by simp, by simp, ?_⟩
    rcases h with h | h
    · exact .inl h
    · exact .inr ⟨by simp; exact h.1, h.2⟩
  · rcases ih (i + 1) with h | ⟨q, h1, h2, h3⟩
    · exact .inl h
    · refine .inr ⟨q + 1, by simp; omega, by rw [h2]; push_cast; omega, ?_⟩
      rcases h3 with h3 | h3
      · exact .inl h3
      · refine .inr ⟨by push_cast; have := h3.1; omega, h3.2⟩
def pcsAt (P : List ((Int × Int) × List (Int × Int))) (p : PlcD) : List (Int × Int) := (aget P (p.obj, p.sec)).getD []
/-- In which node a place is, and where. -/
def nodeP (P : List ((Int × Int) × List (Int × Int))) (B : List ((Int × Int) × Int)) (p : PlcD) : Int × Int :=
 if p.sec = 0 ∨ findG (pcsAt P p).length p.at_ 0 (pcsAt P p) < 0 then (-1, 0) else ((aget B (p.obj, p.sec)).getD 0 + findG (pcsAt P p).length p.at_ 0 (pcsAt P p), p.at_ - ((pcsAt P p).getD (findG (pcsAt P p).length p.at_ 0 (pcsAt P p)).toNat default).1)
structure MapG (P : List ((Int × Int) × List (Int × Int))) (B : List ((Int × Int) × Int)) : Prop where
 pc : ∀ k ps, aget P k = some ps → PcOk ps
 bg : ∀ k v, aget B k = some v → 0 ≤ v ∧ v ≤ 6000000
theorem pcsAt_ok {P : List ((Int × Int) × List (Int × Int))} {B : List ((Int × Int) × Int)} (h : MapG P B) (p : PlcD) : PcOk (pcsAt P p) := by
 unfold pcsAt
 cases hq : aget P (p.obj, p.sec) with
 | none => exact ⟨by simp, fun x hx => (by cases hx)⟩
 | some ps => exact h.pc _ _ hq
theorem bgAt_ok {P : List ((Int × Int) × List (Int × Int))} {B : List ((Int × Int) × Int)} (h : MapG P B) (k : Int × Int) : 0 ≤ (aget B k).getD 0 ∧ (aget B k).getD 0 ≤ 6000000 := by
 cases hq : aget B k with
 | none => exact ⟨by simp, by simp⟩
 | some v => exact h.bg _ _ hq
set_option maxHeartbeats 8000000 in
theorem graph_node (n : Nat) (z0 z1 : Option AB) (l : List ObjD) (dr df : List (List AV)) (N : List NodeD) (P : List ((Int × Int) × List (Int × Int))) (B U : List ((Int × Int) × Int)) (ep : Nat) (X : List (Option AB)) {lx : Nat} [le : LEN X lx] (p : PlcD) (hp : I64 p.at_) (hm : MapG P B) : AC Try.prog 24 (Hn n ([z0, z1, some (.map ((P).map (mE kP vP))), some (.map ((B).map (mE kP vI))), some (.map ((U).map (mE kP vI))), some (.box 69 [.rd 5 (l.map objA), .rd 1 dr, .rd 3 df, .own (n + 6) (ep) 0 (N).length, .omap (n + 2), .omap (n + 3), .omap (n + 4)]), some (.row 36 14 (ep) ((N).map nodeA))] ++ X)) [.box (n + 5) 0, .agg (plcA p)] (fun r H' => r = .tup [.v (.int .i64 (nodeP P B p).1), .v (.int .i64 (nodeP P B p).2)] ∧ H' = Hn n (([z0, z1, some (.map ((P).map (mE kP vP))), some (.map ((B).map (mE kP vI))), some (.map ((U).map (mE kP vI))), some (.box 69 [.rd 5 (l.map objA), .rd 1 dr, .rd 3 df, .own (n + 6) (ep) 0 (N).length, .omap (n + 2), .omap (n + 3), .omap (n + 4)]), some (.row 36 14 (ep) ((N).map nodeA))] ++ X) ++ [none, none])) := by
 obtain ⟨ps, hps⟩ : ∃ ps, pcsAt P p = ps := ⟨_, rfl⟩
 have hpc := pcsAt_ok hm p
 have hbg := bgAt_ok hm (p.obj, p.sec)
 rw [hps] at hpc
 have hpc1 := hpc.1
 have hfr := findG_rng (N := ps.length) (at_ := p.at_) ps 0
 unfold I64 at hp
 refine AC.body 47 Try.func24 rfl rfl Try.ntmps24 fun base => ?_
 refine AW.seq' ?_
 refine AW.region ?_
 refine AO.ww ?_
 iterate 2 refine AO.c ?_
 refine AO.nil ?_
 refine SQ.normal ?_
 refine AW.seq' ?_
 refine AW.region ?_
 iterate 5 refine AO.c ?_
 refine AO.ww ?_
 refine AO.sst ?_
 refine AO.nil ?_
 refine SQ.normal ?_
 refine AW.seq' ?_
 refine AW.drawsZ [] (.one 0 false (.one 1 false (.one 2 false (.one 3 false (.one 4 false (.one 5 false (.one 6 false .nil))))))) (by kernel_rfl) rfl (by kernel_rfl) ?_
 iterate 5 refine AZ.c rfl ?_
 refine AZ.ghost (Gh.tell 18 (.v (.agg ⟨[.int .i64 p.obj, .int .i64 p.sec]⟩))) ?_
 refine AZ.c rfl ?_
 refine AZ.eq 19 (av' := .rd 2 (ps.map pcA)) (by rw [← hps]; rfl) ?_
 refine AZ.c rfl ?_
 refine AZ.done ?_
 refine SQ.normal ?_
 refine AW.seq' ?_
 refine AW.region ?_
 iterate 3 refine AO.c ?_
 refine AO.call1 Try.func33 rfl rfl (piece_Find ps p.at_ hpc hp) ?_
 refine AO.c ?_
 refine AO.nil ?_
 refine SQ.normal ?_
 refine AW.seq' ?_
 refine AW.seq' ?_
 refine AW.region ?_
 iterate 4 refine AO.c ?_
 iterate 2 refine AO.gx ?_
 refine AO.c ?_
 refine AO.nil ?_
 refine SQ.normal ?_
 refine AW.iteB (GL.ev _) (fun h0 => ?_) (fun h0 => ?_)
 ·
  have hno : p.sec = 0 ∨ findG ps.length p.at_ 0 ps < 0 := by simpa using h0
  have e : nodeP P B p = (-1, 0) := by unfold nodeP; rw [hps, if_pos hno]
  refine AW.seq' ?_
  refine AW.region ?_
  iterate 2 refine AO.c ?_
  refine AO.nil ?_
  refine SQ.normal ?_
  refine AW.ret ?_
  refine SQ.ret ?_
  refine FinC.ret Gh.dropX ⟨?_, rfl⟩ (.inr rfl)
  rw [e]; rfl
 ·
  have hyes : ¬ (p.sec = 0 ∨ findG ps.length p.at_ 0 ps < 0) := by simpa using h0
  have e : nodeP P B p = ((aget B (p.obj, p.sec)).getD 0 + findG ps.length p.at_ 0 ps, p.at_ - (ps.getD (findG ps.length p.at_ 0 ps).toNat default).1) := by unfold nodeP; rw [hps, if_neg hyes]
  obtain ⟨q, hq1, hq2, hq3⟩ := hfr.resolve_left (by omega)
  rw [Int.zero_add] at hq2
  have hpq := pcs_at hpc q
  rw [hq2] at e ⊢
  rw [Int.toNat_natCast] at e
  refine AW.skip ?_
  refine SQ.normal ?_
  refine AW.seq' ?_
  refine AW.drawsZ [] (.one 0 false (.one 1 false (.one 2 false (.one 3 false (.one 4 false (.one 5 false (.one 6 false (.one 7 false (.one 8 false (.one 9 false (.one 10 false (.one 11 false (.one 12 false (.one 13 false (.one 14 false (.one 15 false (.one 16 false (.one 17 false .nil)))))))))))))))))) (by kernel_rfl) rfl (by kernel_rfl) ?_
  iterate 5 refine AZ.c rfl ?_
  refine AZ.ghost (Gh.tell 35 (.v (.agg ⟨[.int .i64 p.obj, .int .i64 p.sec]⟩))) ?_
  iterate 2 refine AZ.c rfl ?_
  refine AZ.o rfl (by omega) ?_
  iterate 4 refine AZ.c rfl ?_
  refine AZ.o rfl (by omega) ?_
  iterate 2 refine AZ.c rfl ?_
  refine AZ.eq 45 (av' := .v (.int .i64 (ps.getD q default).1)) (by rfl) ?_
  refine AZ.o rfl (by omega) ?_
  iterate 2 refine AZ.c rfl ?_
  refine AZ.done ?_
  refine SQ.normal ?_
  refine AW.ret ?_
  refine FinC.ret Gh.dropX ⟨?_, rfl⟩ (.inr rfl)
  rw [e]; rfl
end Go.Proofs.Ytiomdnmicagdcaa.AL
namespace Go.Proofs.Ytiomdnmicagdcaa.AL
open Go Go.RowKit Go.Proofs.Ytiomdnmicagdcaa.Base
set_option linter.unusedVariables false
set_option linter.unusedSimpArgs false
set_option maxRecDepth 4000
set_option synthInstance.maxSize 1000
set_option synthInstance.maxHeartbeats 200000
theorem and2 {n : Int} (h0 : 0 ≤ n) (h1 : n ≤ 9223372036854775807) : decide (IntKind.i64.wrap (BitVec.ofInt IntKind.i64.bits n &&& BitVec.ofInt IntKind.i64.bits 2).toNat ≠ 0) = hasF n 2 := by
 have := and_pow 1 h0 h1 (by decide)
 rw [show ((2 ^ 1 : Nat) : Int) = 2 from rfl] at this
 rw [this]
 unfold hasF
 by_cases h : n / 2 % 2 = 1 <;> simp [h, h0]
def inS (es : List (Int × Int)) (g : Int) (mem : List Int) : List (Int × Int) := mem.foldl (fun es m => aput es m g) es
/-- The groups' numbers by section, of the first groups of an object. -/
def inK (o : ObjD) (g : Int) : Nat → List (Int × Int)
 | 0 => []
 | j + 1 => inS (inK o g j) (g + j + 1) (o.groups.getD j default).mem
def grpN (l : List ObjD) : Nat → Int
 | 0 => 0
 | i + 1 => grpN l i + ((l.getD i default).groups.length : Int)
def keptB (l : List ObjD) (i k : Nat) : Bool := hasF ((l.getD i default).secs.getD k default).flags 2 && !((dropR l i).getD k default)
def sG (l : List ObjD) (i k : Nat) : Int := (aget (inK (l.getD i default) (grpN l i) (l.getD i default).groups.length) ((k : Int) + 1)).getD 0
structure SecSt where
 nodes : List NodeD
 pcs : List ((Int × Int) × List (Int × Int))
 bg : List ((Int × Int) × Int)
def secStep (st : SecSt) (o k : Int) (s : SecD) (g : Int) : SecSt := ⟨st.nodes ++ (splitB s).map (secNd o k s g), aput st.pcs (o, k) (splitB s), aput st.bg (o, k) (st.nodes.length : Int)⟩
def secK (l : List ObjD) (i : Nat) (st : SecSt) : Nat → SecSt
 | 0 => st
 | k + 1 => if keptB l i k = true then secStep (secK l i st k) i ((k : Int) + 1) ((l.getD i default).secs.getD k default) (sG l i k) else secK l i st k
/-- The nodes, the pieces, and where they begin, of the first objects. -/
def secI (l : List ObjD) : Nat → SecSt
 | 0 => ⟨[], [], []⟩
 | i + 1 => secK l i (secI l i) (l.getD i default).secs.length
structure GraphW (l : List ObjD) : Prop where
 rw_ : ResW l
 grp : ∀ i, i < l.length → (l.getD i default).groups.length ≤ 40
 sec : ∀ i k, i < l.length → k < (l.getD i default).secs.length → SecG ((l.getD i default).secs.getD k default)
theorem grpN_rng {l : List ObjD} (hw : GraphW l) : ∀ i : Nat, i ≤ l.length → 0 ≤ grpN l i ∧ grpN l i ≤ 40 * i := by
 intro i
 induction i with
 | zero => intro _; exact ⟨Int.le_refl _, by show (0 : Int) ≤ _; omega⟩
 | succ i ih =>
  intro hi
  have h1 := ih (by omega)
  have h2 := hw.grp i (by omega)
  rw [grpN]; omega
theorem secK_len {l : List ObjD} (hw : GraphW l) {i : Nat} (hi : i < l.length) (st : SecSt) : ∀ k, k ≤ (l.getD i default).secs.length → (secK l i st k).nodes.length ≤ st.nodes.length + 20001 * k ∧ (secK l i st k).pcs.length ≤ st.pcs.length + k ∧ (secK l i st k).bg.length ≤ st.bg.length + k := by
 intro k
 induction k with
 | zero => intro _; exact ⟨Nat.le_refl _, Nat.le_refl _, Nat.le_refl _⟩
 | succ k ih =>
  intro hk
  have h1 := ih (by omega)
  have h2 := (hw.sec i k hi (by omega)).pcs
  rw [secK]
  split
  · unfold secStep
    have a1 := aput_len (l := (secK l i st k).pcs) (k := ((i : Int), (k : Int) + 1)) (v := splitB ((l.getD i default).secs.getD k default))
    have a2 := aput_len (l := (secK l i st k).bg) (k := ((i : Int), (k : Int) + 1)) (v := ((secK l i st k).nodes.length : Int))
    refine ⟨?_, ?_, ?_⟩
    · show ((secK l i st k).nodes ++ _).length ≤ _
      rw [List.length_append, List.length_map]; omega
    · show (aput _ _ _).length ≤ _
      rw [a1]; split <;> omega
    · show (aput _ _ _).length ≤ _
      rw [a2]; split <;> omega
  · omega
theorem secI_len {l : List ObjD} (hw : GraphW l) : ∀ i, i ≤ l.length → (secI l i).nodes.length ≤ 640032 * i ∧ (secI l i).pcs.length ≤ 32 * i ∧ (secI l i).bg.length ≤ 32 * i := by
 intro i
 induction i with
 | zero => intro _; exact ⟨Nat.le_refl _, Nat.le_refl _, Nat.le_refl _⟩
 | succ i ih =>
  intro hi
  have h1 := ih (by omega)
  have h2 := secK_len hw (show i < l.length by omega) (secI l i) (l.getD i default).secs.length (Nat.le_refl _)
  have h3 := (hw.rw_.sy i (by omega)).2
  rw [secI]; omega
theorem inS_snoc (es : List (Int × Int)) (g : Int) {m : List Int} {q : Nat} (h : q < m.length) : inS es g (m.take (q + 1)) = aput (inS es g (m.take q)) (m.getD q default) g := by
 unfold inS
 rw [foldl_take_succ _ _ _ _ h]
set_option maxHeartbeats 8000000 in
theorem graph_sections (n : Nat) (z0 z1 : Option AB) (l : List ObjD) (df : List (List AV)) (hw : GraphW l) (j0 : Nat) : AC Try.prog 11 (Hn n (([z0, z1, some (.map ((([] : List ((Int × Int) × List (Int × Int)))).map (mE kP vP))), some (.map ((([] : List ((Int × Int) × Int))).map (mE kP vI))), some (.map ((([] : List ((Int × Int) × Int))).map (mE kP vI))), some (.box 69 [.rd 5 (l.map objA), .rd 1 ((dropF l l.length).map drA), .rd 3 df, .own (n + 6) (0) 0 (([] : List NodeD)).length, .omap (n + 2), .omap (n + 3), .omap (n + 4)]), some (.row 36 14 (0) ((([] : List NodeD)).map nodeA))] ++ List.replicate j0 none) ++ [])) [.box (n + 5) 0] (fun r H' => ∃ x : Nat, r = .tup [] ∧ H' = Hn n (([z0, z1, some (.map (((secI l l.length).pcs).map (mE kP vP))), some (.map (((secI l l.length).bg).map (mE kP vI))), some (.map ((([] : List ((Int × Int) × Int))).map (mE kP vI))), some (.box 69 [.rd 5 (l.map objA), .rd 1 ((dropF l l.length).map drA), .rd 3 df, .own (n + 6) ((secI l l.length).nodes.length) 0 ((secI l l.length).nodes).length, .omap (n + 2), .omap (n + 3), .omap (n + 4)]), some (.row 36 14 ((secI l l.length).nodes.length) (((secI l l.length).nodes).map nodeA))] ++ List.replicate x none) ++ [])) := by
 have hl8 := hw.rw_.len
 refine AC.body 82 Try.func11 rfl rfl Try.ntmps11 fun base => ?_
 refine AW.seq' ?_
 refine AW.region ?_
 refine AO.c ?_
 refine AO.nil ?_
 refine SQ.normal ?_
 refine AW.seq' ?_
 refine AW.region ?_
 iterate 6 refine AO.c ?_
 refine AO.nil ?_
 refine SQ.normal ?_
 refine AW.block' ?_
 refine AW.loopU2 [.k, .f, .k, .F, .f, .f, .f, .f, .k, .k, .k, .F, .F, .F, .F, .F, .F, .F, .F] (fun (i j : Nat) => [(2, .v (.int .i64 (grpN l i))), (17, .v (.int .i64 ((i : Int))))]) (fun i j => Hn n (([z0, z1, some (.map (((secI l i).pcs).map (mE kP vP))), some (.map (((secI l i).bg).map (mE kP vI))), some (.map ((([] : List ((Int × Int) × Int))).map (mE kP vI))), some (.box 69 [.rd 5 (l.map objA), .rd 1 ((dropF l l.length).map drA), .rd 3 df, .own (n + 6) ((secI l i).nodes.length) 0 ((secI l i).nodes).length, .omap (n + 2), .omap (n + 3), .omap (n + 4)]), some (.row 36 14 ((secI l i).nodes.length) (((secI l i).nodes).map nodeA))] ++ List.replicate j none) ++ [])) (fun m i j => i ≤ l.length ∧ m = l.length - i) (l.length) (0) (j0) ⟨by omega, by omega⟩ (by first | rfl | (simp; done)) (by first | rfl | (simp; done)) ?_
 rintro m0 i j ⟨hx1, hx2⟩
 refine AW.seq' ?_
 refine AW.region ?_
 refine AO.c ?_
 refine AO.nil ?_
 refine SQ.normal ?_
 refine AW.seq' ?_
 refine AW.iteB (GL.ev _) (fun h0 => ?_) (fun h0 => ?_)
 ·
  rw [decide_eq_true_eq] at h0
  have hi : i < l.length := by omega
  have hgn := grpN_rng hw i (by omega)
  have hgi := hw.grp i hi
  have hsy := hw.rw_.sy i hi
  have hsl := secI_len hw i (by omega)
  have hdl := dropF_len l l.length
  have hrl := dropR_len l i
  refine AW.skip ?_
  refine SQ.normal ?_
  refine AW.seq' ?_
  refine AW.block' ?_
  refine AW.seq' ?_
  refine AW.region ?_
  refine AO.c ?_
  refine AO.oo ?_
  refine AO.c ?_
  refine AO.ww ?_
  refine AO.c ?_
  refine AO.sst ?_
  refine AO.nil ?_
  refine SQ.normal ?_
  refine AW.seq' ?_
  refine AW.region ?_
  refine AO.ww ?_
  refine AO.c ?_
  refine AO.nil ?_
  refine SQ.normal ?_
  refine AW.seq' ?_
  refine AW.seq' ?_
  refine AW.region ?_
  iterate 4 refine AO.c ?_
  refine AO.nil ?_
  refine SQ.normal ?_
  refine AW.block' ?_
  refine AW.loopU2 [.k, .f, .k, .k, .k, .k, .F, .f, .k, .k, .k, .f, .f, .f, .f, .f, .f, .k, .k, .k, .F, .F, .F, .F, .F, .F, .f, .f, .f, .f, .f, .f, .f] (fun (k j2 : Nat) => [(2, .v (.int .i64 (grpN l i + (k : Int)))), (26, .v (.int .i64 ((k : Int))))]) (fun k j2 => Hn n ((([z0, z1, some (.map (((secI l i).pcs).map (mE kP vP))), some (.map (((secI l i).bg).map (mE kP vI))), some (.map ((([] : List ((Int × Int) × Int))).map (mE kP vI))), some (.box 69 [.rd 5 (l.map objA), .rd 1 ((dropF l l.length).map drA), .rd 3 df, .own (n + 6) ((secI l i).nodes.length) 0 ((secI l i).nodes).length, .omap (n + 2), .omap (n + 3), .omap (n + 4)]), some (.row 36 14 ((secI l i).nodes.length) (((secI l i).nodes).map nodeA))] ++ List.replicate j none ++ [some (.box 42 (objA (l.getD i default))), some (.map (((inK (l.getD i default) (grpN l i) (k))).map (mE kI vI)))]) ++ List.replicate j2 none) ++ [])) (fun m k j2 => k ≤ (l.getD i default).groups.length ∧ m = (l.getD i default).groups.length - k) ((l.getD i default).groups.length) (0) (0) ⟨by omega, by omega⟩ (by first | rfl | (simp; done)) (by simp [inK]) ?_
  rintro m1 k j2 ⟨hy1, hy2⟩
  refine AW.seq' ?_
  refine AW.region ?_
  refine AO.c ?_
  refine AO.nil ?_
  refine SQ.normal ?_
  refine AW.seq' ?_
  refine AW.iteB (GL.ev _) (fun h1 => ?_) (fun h1 => ?_)
  ·
   rw [decide_eq_true_eq] at h1
   have hk : k < (l.getD i default).groups.length := by omega
   have hmm := (hw.rw_.g.mem i k hi hk).1
   refine AW.skip ?_
   refine SQ.normal ?_
   refine AW.seq' ?_
   refine AW.block' ?_
   refine AW.seq' ?_
   refine AW.region ?_
   refine AO.oo ?_
   refine AO.c ?_
   refine AO.ww ?_
   refine AO.sst ?_
   refine AO.nil ?_
   refine SQ.normal ?_
   refine AW.seq' ?_
   refine AW.region ?_
   refine AO.c ?_
   refine AO.o (by omega) ?_
   refine AO.c ?_
   refine AO.nil ?_
   refine SQ.normal ?_
   refine AW.seq' ?_
   refine AW.region ?_
   iterate 4 refine AO.c ?_
   refine AO.nil ?_
   refine SQ.normal ?_
   refine AW.block' ?_
   refine AW.loopU [.k, .f, .k, .k, .k, .k, .F, .f, .k, .k, .k, .f, .f, .f, .f, .f, .f, .k, .k, .k, .f, .f, .f, .f, .f, .f, .k, .k, .k, .F, .F, .F, .F, .F, .f, .f, .f, .f, .f, .f] (fun (q : Nat) => [(35, .v (.int .i64 ((q : Int))))]) (fun q => Hn n ((([z0, z1, some (.map (((secI l i).pcs).map (mE kP vP))), some (.map (((secI l i).bg).map (mE kP vI))), some (.map ((([] : List ((Int × Int) × Int))).map (mE kP vI))), some (.box 69 [.rd 5 (l.map objA), .rd 1 ((dropF l l.length).map drA), .rd 3 df, .own (n + 6) ((secI l i).nodes.length) 0 ((secI l i).nodes).length, .omap (n + 2), .omap (n + 3), .omap (n + 4)]), some (.row 36 14 ((secI l i).nodes.length) (((secI l i).nodes).map nodeA))] ++ List.replicate j none ++ [some (.box 42 (objA (l.getD i default))), some (.map ((inS (inK (l.getD i default) (grpN l i) (k)) (grpN l i + (k : Int) + 1) (((l.getD i default).groups.getD k default).mem.take q)).map (mE kI vI)))]) ++ List.replicate j2 none) ++ [some (.box 74 (grpA ((l.getD i default).groups.getD k default)))])) (fun m q => q ≤ ((l.getD i default).groups.getD k default).mem.length ∧ m = ((l.getD i default).groups.getD k default).mem.length - q) (((l.getD i default).groups.getD k default).mem.length) (0) ⟨by omega, by omega⟩ (by first | rfl | (simp; done)) (by simp [inS]) ?_
   rintro m2 q ⟨hz1, hz2⟩
   refine AW.seq' ?_
   refine AW.region ?_
   refine AO.c ?_
   refine AO.nil ?_
   refine SQ.normal ?_
   refine AW.seq' ?_
   refine AW.iteB (GL.ev _) (fun h2 => ?_) (fun h2 => ?_)
   ·
    rw [decide_eq_true_eq] at h2
    have hq : q < ((l.getD i default).groups.getD k default).mem.length := by omega
    refine AW.skip ?_
    refine SQ.normal ?_
    refine AW.seq' ?_
    refine AW.block' ?_
    refine AW.seq' ?_
    refine AW.region ?_
    refine AO.oo ?_
    iterate 2 refine AO.c ?_
    refine AO.nil ?_
    refine SQ.normal ?_
    refine AW.region ?_
    iterate 3 refine AO.c ?_
    refine AO.sst ?_
    refine AO.nil ?_
    refine BQ.normal ?_
    refine SQ.normal ?_
    refine AW.region ?_
    refine AO.oo ?_
    refine AO.c ?_
    refine AO.nil ?_
    exact AW.backU [.k, .f, .k, .k, .k, .k, .F, .f, .k, .k, .k, .f, .f, .f, .f, .f, .f, .k, .k, .k, .f, .f, .f, .f, .f, .f, .k, .k, .k, .F, .F, .F, .F, .F, .f, .f, .f, .f, .f, .f] (m2 - 1) (q + 1) (by omega) (by (try dsimp only); exact ⟨by omega, by omega⟩) (by first | rfl | (simp; done)) (by (try dsimp only); rw [inS_snoc _ _ hq])
   ·
    rw [decide_eq_false_iff_not] at h2
    have hq : q = ((l.getD i default).groups.getD k default).mem.length := by omega
    subst hq
    rw [List.take_length]
    refine AW.exit ?_
    refine SQ.exit <| AW.out <| LU.exit <| BQ.exit ?_
    refine BQ.normal ?_
    refine SQ.normal ?_
    refine AW.region ?_
    refine AO.oo ?_
    refine AO.c ?_
    refine AO.nil ?_
    exact AW.backE [.k, .f, .k, .k, .k, .k, .F, .f, .k, .k, .k, .f, .f, .f, .f, .f, .f, .k, .k, .k, .F, .F, .F, .F, .F, .F, .f, .f, .f, .f, .f, .f, .f] (j2) (m1 - 1) (k + 1, j2 + 1) (by omega) (by (try dsimp only); exact ⟨by omega, by omega⟩) (by simp [Int.add_assoc]) (by first | rfl | (simp; done))
  ·
   rw [decide_eq_false_iff_not] at h1
   have hk : k = (l.getD i default).groups.length := by omega
   subst hk
   refine AW.exit ?_
   refine SQ.exit <| AW.out <| LU.exit <| BQ.exit ?_
   refine SQ.normal ?_
   refine AW.seq' ?_
   refine AW.region ?_
   iterate 4 refine AO.c ?_
   refine AO.nil ?_
   refine SQ.normal ?_
   refine AW.block' ?_
   refine AW.loopU2 [.k, .f, .k, .k, .f, .k, .F, .f, .k, .k, .k, .F, .F, .F, .f, .f, .f, .k, .k, .k, .F, .F, .F, .F, .f, .f] (fun (k j3 : Nat) => [(47, .v (.int .i64 ((k : Int))))]) (fun k j3 => Hn n ((([z0, z1, some (.map ((((secK l i (secI l i) k)).pcs).map (mE kP vP))), some (.map ((((secK l i (secI l i) k)).bg).map (mE kP vI))), some (.map ((([] : List ((Int × Int) × Int))).map (mE kP vI))), some (.box 69 [.rd 5 (l.map objA), .rd 1 ((dropF l l.length).map drA), .rd 3 df, .own (n + 6) (((secK l i (secI l i) k)).nodes.length) 0 (((secK l i (secI l i) k)).nodes).length, .omap (n + 2), .omap (n + 3), .omap (n + 4)]), some (.row 36 14 (((secK l i (secI l i) k)).nodes.length) ((((secK l i (secI l i) k)).nodes).map nodeA))] ++ List.replicate j none ++ [some (.box 42 (objA (l.getD i default))), some (.map (((inK (l.getD i default) (grpN l i) ((l.getD i default).groups.length))).map (mE kI vI)))]) ++ List.replicate j3 none) ++ [])) (fun m k j3 => k ≤ (l.getD i default).secs.length ∧ m = (l.getD i default).secs.length - k) ((l.getD i default).secs.length) (0) (j2) ⟨by omega, by omega⟩ (by first | rfl | (simp; done)) (by simp [secK]) ?_
   rintro m3 k j3 ⟨hv1, hv2⟩
   refine AW.seq' ?_
   refine AW.region ?_
   refine AO.c ?_
   refine AO.nil ?_
   refine SQ.normal ?_
   refine AW.seq' ?_
   refine AW.iteB (GL.ev _) (fun h3 => ?_) (fun h3 => ?_)
   ·
    rw [decide_eq_true_eq] at h3
    have hk : k < (l.getD i default).secs.length := by omega
    have hsg := hw.sec i k hi hk
    have hkl := secK_len hw hi (secI l i) k (by omega)
    refine AW.skip ?_
    refine SQ.normal ?_
    refine AW.seq' ?_
    refine AW.block' ?_
    refine AW.seq' ?_
    refine AW.region ?_
    refine AO.c ?_
    refine AO.oo ?_
    refine AO.c ?_
    refine AO.ww ?_
    refine AO.c ?_
    refine AO.sst ?_
    refine AO.nil ?_
    refine SQ.normal ?_
    refine AW.seq' ?_
    refine AW.region ?_
    iterate 4 refine AO.c ?_
    refine AO.eq 55 (av' := .v (.bool (hasF ((l.getD i default).secs.getD k default).flags 2))) (by rw [and2 hsg.fl hsg.ok.2.2.1.2]) ?_
    refine AO.c ?_
    iterate 6 refine AO.gx ?_
    refine AO.gxo (fun _ => by omega) ?_
    refine AO.gx ?_
    refine AO.eq 64 (av' := cv (hasF ((l.getD i default).secs.getD k default).flags 2) (.rd 1 ((dropR l i).map bA))) (by rw [dropF_get hi]) ?_
    refine AO.gx ?_
    refine AO.gxo (fun _ => by omega) ?_
    iterate 2 refine AO.gx ?_
    refine AO.c ?_
    refine AO.nil ?_
    refine SQ.normal ?_
    refine AW.iteB (GL.ev _) (fun h4 => ?_) (fun h4 => ?_)
    ·
     have hst : secK l i (secI l i) (k + 1) = secStep (secK l i (secI l i) k) (i : Int) ((k : Int) + 1) ((l.getD i default).secs.getD k default) (sG l i k) := by rw [secK, if_pos (show keptB l i k = true from h4)]
     refine AW.region ?_
     iterate 3 refine AO.c ?_
     refine AO.oo ?_
     iterate 3 refine AO.c ?_
     refine AO.oo ?_
     refine AO.c ?_
     refine AO.eq 78 (av' := .v (.int .i64 (sG l i k))) rfl ?_
     refine AO.callL (H2 := Hn n ((([z0, z1, some (.map (((secStep (secK l i (secI l i) k) (i : Int) ((k : Int) + 1) ((l.getD i default).secs.getD k default) (sG l i k)).pcs).map (mE kP vP))), some (.map (((secStep (secK l i (secI l i) k) (i : Int) ((k : Int) + 1) ((l.getD i default).secs.getD k default) (sG l i k)).bg).map (mE kP vI))), some (.map ((([] : List ((Int × Int) × Int))).map (mE kP vI))), some (.box 69 [.rd 5 (l.map objA), .rd 1 ((dropF l l.length).map drA), .rd 3 df, .own (n + 6) ((secStep (secK l i (secI l i) k) (i : Int) ((k : Int) + 1) ((l.getD i default).secs.getD k default) (sG l i k)).nodes.length) 0 ((secStep (secK l i (secI l i) k) (i : Int) ((k : Int) + 1) ((l.getD i default).secs.getD k default) (sG l i k)).nodes).length, .omap (n + 2), .omap (n + 3), .omap (n + 4)]), some (.row 36 14 ((secStep (secK l i (secI l i) k) (i : Int) ((k : Int) + 1) ((l.getD i default).secs.getD k default) (sG l i k)).nodes.length) (((secStep (secK l i (secI l i) k) (i : Int) ((k : Int) + 1) ((l.getD i default).secs.getD k default) (sG l i k)).nodes).map nodeA))] ++ List.replicate j none ++ [some (.box 42 (objA (l.getD i default))), some (.map (((inK (l.getD i default) (grpN l i) ((l.getD i default).groups.length))).map (mE kI vI)))]) ++ List.replicate j3 none) ++ ([some (.box 45 (secA ((l.getD i default).secs.getD k default)))] ++ List.replicate (secD ((l.getD i default).secs.getD k default)) none))) Try.func22 rfl rfl (AC.cong (graph_section n z0 z1 l ((dropF l l.length).map drA) df (secK l i (secI l i) k).nodes (secK l i (secI l i) k).pcs (secK l i (secI l i) k).bg [] (secK l i (secI l i) k).nodes.length (List.replicate j none ++ [some (.box 42 (objA (l.getD i default))), some (.map (((inK (l.getD i default) (grpN l i) ((l.getD i default).groups.length))).map (mE kI vI)))] ++ List.replicate j3 none ++ [some (.box 45 (secA ((l.getD i default).secs.getD k default)))]) (i : Int) ((k : Int) + 1) ((l.getD i default).secs.getD k default) (sG l i k) hsg (by omega) (by omega)) (by simp) (fun r H' h => ⟨h.1, h.2.trans (by simp [secStep])⟩)) ?_
     refine AO.nil ?_
     refine BQ.normal ?_
     refine SQ.normal ?_
     refine AW.region ?_
     refine AO.oo ?_
     refine AO.c ?_
     refine AO.nil ?_
     exact AW.backE [.k, .f, .k, .k, .f, .k, .F, .f, .k, .k, .k, .F, .F, .F, .f, .f, .f, .k, .k, .k, .F, .F, .F, .F, .f, .f] (j3) (m3 - 1) (k + 1, j3 + (1 + secD ((l.getD i default).secs.getD k default))) (by omega) (by (try dsimp only); exact ⟨by omega, by omega⟩) (by first | rfl | (simp; done)) ((Hn_repJ (b := j3 + (1 + secD ((l.getD i default).secs.getD k default))) (by first | (simp; done) | (simp; omega))).trans (by (try dsimp only); rw [hst]; try rfl))
    ·
     have hst : secK l i (secI l i) (k + 1) = (secK l i (secI l i) k) := by rw [secK, if_neg (by rw [show keptB l i k = false from h4]; decide)]
     refine AW.skip ?_
     refine BQ.normal ?_
     refine SQ.normal ?_
     refine AW.region ?_
     refine AO.oo ?_
     refine AO.c ?_
     refine AO.nil ?_
     exact AW.backE [.k, .f, .k, .k, .f, .k, .F, .f, .k, .k, .k, .F, .F, .F, .f, .f, .f, .k, .k, .k, .F, .F, .F, .F, .f, .f] (j3) (m3 - 1) (k + 1, j3 + 1) (by omega) (by (try dsimp only); exact ⟨by omega, by omega⟩) (by first | rfl | (simp; done)) (by first | ((try dsimp only); rw [hst]; done) | ((try dsimp only); rw [hst]; rfl))
   ·
    rw [decide_eq_false_iff_not] at h3
    have hk : k = (l.getD i default).secs.length := by omega
    subst hk
    refine AW.exit ?_
    refine SQ.exit <| AW.out <| LU.exit <| BQ.exit ?_
    refine BQ.normal ?_
    refine SQ.normal ?_
    refine AW.region ?_
    refine AO.oo ?_
    refine AO.c ?_
    refine AO.nil ?_
    exact AW.backE [.k, .f, .k, .F, .f, .f, .f, .f, .k, .k, .k, .F, .F, .F, .F, .F, .F, .F, .F] (j) (m0 - 1) (i + 1, j + (2 + j3)) (by omega) (by (try dsimp only); exact ⟨by omega, by omega⟩) (by first | rfl | (simp; done)) ((Hn_repJ (b := j + (2 + j3)) (by first | (simp; done) | (simp; omega))).trans (by (try dsimp only) <;> rfl))
 ·
  rw [decide_eq_false_iff_not] at h0
  have hi : i = l.length := by omega
  subst hi
  refine AW.exit ?_
  refine SQ.exit <| AW.out <| LU.exit <| BQ.exit ?_
  exact FinC.ret Gh.refl ⟨j, rfl, rfl⟩ (.inl rfl)
end Go.Proofs.Ytiomdnmicagdcaa.AL
namespace Go.Proofs.Ytiomdnmicagdcaa.AL
open Go Go.RowKit Go.Proofs.Ytiomdnmicagdcaa.Base
set_option linter.unusedVariables false
set_option linter.unusedSimpArgs false
set_option maxRecDepth 4000
set_option synthInstance.maxSize 1000
set_option synthInstance.maxHeartbeats 200000
def incM (U : List ((Int × Int) × Int)) (k : Int × Int) : List ((Int × Int) × Int) := aput U k ((aget U k).getD 0 + 1)
def uqA (o : ObjD) (i : Nat) (U : List ((Int × Int) × Int)) : Nat → List ((Int × Int) × Int)
 | 0 => U
 | k + 1 => if o.hasSig = false then incM (uqA o i U k) ((i : Int), (k : Int) + 1) else uqA o i U k
def uqB (l : List ObjD) (i : Nat) (U : List ((Int × Int) × Int)) : Nat → List ((Int × Int) × Int)
 | 0 => U
 | q + 1 => if (whereF l ⟨dropF l l.length, dI l l.length⟩ (i : Int) ((l.getD i default).sig.getD q default)).2 = 0 ∧ (whereF l ⟨dropF l l.length, dI l l.length⟩ (i : Int) ((l.getD i default).sig.getD q default)).1.sec > 0 then incM (uqB l i U q) ((whereF l ⟨dropF l l.length, dI l l.length⟩ (i : Int) ((l.getD i default).sig.getD q default)).1.obj, (whereF l ⟨dropF l l.length, dI l l.length⟩ (i : Int) ((l.getD i default).sig.getD q default)).1.sec) else uqB l i U q
/-- How often a section's address counts. -/
def uqI (l : List ObjD) : Nat → List ((Int × Int) × Int)
 | 0 => []
 | i + 1 => uqB l i (uqA (l.getD i default) i (uqI l i) (l.getD i default).secs.length) (l.getD i default).sig.length
def UOk (U : List ((Int × Int) × Int)) (b : Nat) : Prop := ∀ k, 0 ≤ (aget U k).getD 0 ∧ (aget U k).getD 0 ≤ b
theorem incM_ok {U : List ((Int × Int) × Int)} {b : Nat} (h : UOk U b) (k : Int × Int) : UOk (incM U k) (b + 1) := fun k' => by
 have h1 := h k
 have h2 := h k'
 unfold incM
 rw [aget_aput]
 by_cases e : k = k'
 · rw [if_pos e]
   show 0 ≤ (aget U k).getD 0 + 1 ∧ (aget U k).getD 0 + 1 ≤ ((b + 1 : Nat) : Int)
   omega
 · rw [if_neg e]; omega
theorem UOk.up {U : List ((Int × Int) × Int)} {b : Nat} (h : UOk U b) : UOk U (b + 1) := fun k => by have := h k; omega
theorem uqA_ok {o : ObjD} {i : Nat} {U : List ((Int × Int) × Int)} {b : Nat} (h : UOk U b) : ∀ k, UOk (uqA o i U k) (b + k) := by
 intro k
 induction k with
 | zero => exact h
 | succ k ih =>
  rw [uqA]
  split
  · exact incM_ok ih _
  · exact ih.up
theorem uqB_ok {l : List ObjD} {i : Nat} {U : List ((Int × Int) × Int)} {b : Nat} (h : UOk U b) : ∀ k, UOk (uqB l i U k) (b + k) := by
 intro k
 induction k with
 | zero => exact h
 | succ k ih =>
  rw [uqB]
  split
  · exact incM_ok ih _
  · exact ih.up
theorem UOk.le {U : List ((Int × Int) × Int)} {b c : Nat} (h : UOk U b) (hc : b ≤ c) : UOk U c := fun k => by have := h k; omega
theorem uqI_ok {l : List ObjD} (hw : ResW l) (hs : ∀ o ∈ l, o.sig.length ≤ 1000000) : ∀ i, i ≤ l.length → UOk (uqI l i) (1000032 * i) := by
 intro i
 induction i with
 | zero => intro _ k; exact ⟨Int.le_refl _, Int.le_refl _⟩
 | succ i ih =>
  intro hi
  have h1 := ih (by omega)
  have h2 := uqB_ok (l := l) (i := i) (uqA_ok (o := l.getD i default) (i := i) h1 (l.getD i default).secs.length) (l.getD i default).sig.length
  have h3 := (hw.sy i (by omega)).2
  have h4 := hs _ (getD_in (show i < l.length by omega))
  rw [uqI]
  exact h2.le (by omega)
def mrkN (U : List ((Int × Int) × Int)) (x : NodeD) : NodeD := { x with uniq := !hasF x.flags 16 && decide ((aget U (x.obj, x.sec)).getD 0 > 0) }
def mrkT (U : List ((Int × Int) × Int)) (N : List NodeD) (i : Nat) : List NodeD := (N.take i).map (mrkN U) ++ N.drop i
theorem mrkT_len (U : List ((Int × Int) × Int)) (N : List NodeD) (i : Nat) : (mrkT U N i).length = N.length := by
 unfold mrkT; simp; omega
theorem mrkT_get {U : List ((Int × Int) × Int)} {N : List NodeD} {i : Nat} (h : i < N.length) : (mrkT U N i)[i]? = some (N.getD i default) := by
 unfold mrkT
 rw [List.getElem?_append_right (by simp; omega), List.length_map, List.length_take, Nat.min_eq_left (by omega), Nat.sub_self, drop_getD h]; rfl
theorem mrkT_set {U : List ((Int × Int) × Int)} {N : List NodeD} {i : Nat} (h : i < N.length) : (mrkT U N i).set i (mrkN U (N.getD i default)) = mrkT U N (i + 1) := by
 unfold mrkT
 rw [map_take_succ _ h, List.set_append_right _ _ (by simp; omega), List.length_map, List.length_take, Nat.min_eq_left (by omega), Nat.sub_self, drop_getD h, List.append_assoc]; rfl
theorem mrkT_at {U : List ((Int × Int) × Int)} {N : List NodeD} {i : Nat} (h : i < N.length) : ((mrkT U N i).map nodeA)[i]? = some (nodeA (N.getD i default)) := by
 rw [List.getElem?_map, mrkT_get h]; rfl
theorem mrkT_row {U : List ((Int × Int) × Int)} {N : List NodeD} {i : Nat} {b : Bool} (h : i < N.length) (hb : b = (mrkN U (N.getD i default)).uniq) : ((mrkT U N i).map nodeA).set i (layAt (((mrkT U N i).map nodeA).getD i []) 11 [.v (.bool b)]) = (mrkT U N (i + 1)).map nodeA := by
 subst hb
 rw [← mrkT_set h, List.map_set, List.getD_eq_getElem?_getD, mrkT_at h]
 rfl
theorem mrkT_all (U : List ((Int × Int) × Int)) (N : List NodeD) : mrkT U N N.length = N.map (mrkN U) := by
 unfold mrkT; simp
set_option maxHeartbeats 8000000 in
theorem graph_marks (n : Nat) (z0 z1 : Option AB) (l : List ObjD) (hk : LOk l) (hw : ResW l) (N : List NodeD) (P : List ((Int × Int) × List (Int × Int))) (B : List ((Int × Int) × Int)) (ep : Nat) (hN : N.length ≤ 6000000) (hfN : ∀ x ∈ N, 0 ≤ x.flags ∧ x.flags ≤ 9223372036854775807) (j0 : Nat) : AC Try.prog 12 (Hn n (([z0, z1, some (.map ((P).map (mE kP vP))), some (.map ((B).map (mE kP vI))), some (.map ((([] : List ((Int × Int) × Int))).map (mE kP vI))), some (.box 69 [.rd 5 (l.map objA), .rd 1 ((dropF l l.length).map drA), .rd 3 ((dI l l.length).map defA), .own (n + 6) (ep) 0 (N).length, .omap (n + 2), .omap (n + 3), .omap (n + 4)]), some (.row 36 14 (ep) ((N).map nodeA))] ++ List.replicate j0 none) ++ [])) [.box (n + 5) 0] (fun r H' => ∃ x : Nat, r = .tup [] ∧ H' = Hn n (([z0, z1, some (.map ((P).map (mE kP vP))), some (.map ((B).map (mE kP vI))), some (.map (((uqI l l.length)).map (mE kP vI))), some (.box 69 [.rd 5 (l.map objA), .rd 1 ((dropF l l.length).map drA), .rd 3 ((dI l l.length).map defA), .own (n + 6) (ep) 0 (N).length, .omap (n + 2), .omap (n + 3), .omap (n + 4)]), some (.row 36 14 (ep) ((N.map (mrkN (uqI l l.length))).map nodeA))] ++ List.replicate x none) ++ [])) := by
 have hl8 := hw.len
 have hsg : ∀ o ∈ l, o.sig.length ≤ 1000000 := fun o ho => (hk.ok o ho).2.2
 have hT := tab_w hk hw
 refine AC.body 121 Try.func12 rfl rfl Try.ntmps12 fun base => ?_
 refine AW.seq' ?_
 refine AW.seq' ?_
 refine AW.region ?_
 iterate 6 refine AO.c ?_
 refine AO.nil ?_
 refine SQ.normal ?_
 refine AW.block' ?_
 refine AW.loopU2 [.k, .F, .f, .f, .f, .f, .f, .k, .k, .k, .F, .F, .F, .F, .F, .F, .F, .F, .F, .F, .F, .F, .F] (fun (i j : Nat) => [(16, .v (.int .i64 ((i : Int))))]) (fun i j => Hn n (([z0, z1, some (.map ((P).map (mE kP vP))), some (.map ((B).map (mE kP vI))), some (.map (((uqI l i)).map (mE kP vI))), some (.box 69 [.rd 5 (l.map objA), .rd 1 ((dropF l l.length).map drA), .rd 3 ((dI l l.length).map defA), .own (n + 6) (ep) 0 (N).length, .omap (n + 2), .omap (n + 3), .omap (n + 4)]), some (.row 36 14 (ep) ((N).map nodeA))] ++ List.replicate j none) ++ [])) (fun m i j => i ≤ l.length ∧ m = l.length - i) (l.length) (0) (j0) ⟨by omega, by omega⟩ (by first | rfl | (simp; done)) (by first | rfl | (simp; done)) ?_
 rintro m0 i j ⟨hx1, hx2⟩
 refine AW.seq' ?_
 refine AW.region ?_
 refine AO.c ?_
 refine AO.nil ?_
 refine SQ.normal ?_
 refine AW.seq' ?_
 refine AW.iteB (GL.ev _) (fun h0 => ?_) (fun h0 => ?_)
 ·
  rw [decide_eq_true_eq] at h0
  have hi : i < l.length := by omega
  have hsy := hw.sy i hi
  have hsi := hsg _ (getD_in hi)
  have hui := uqI_ok hw hsg i (by omega)
  refine AW.skip ?_
  refine SQ.normal ?_
  refine AW.seq' ?_
  refine AW.block' ?_
  refine AW.seq' ?_
  refine AW.region ?_
  refine AO.c ?_
  refine AO.oo ?_
  refine AO.c ?_
  refine AO.ww ?_
  refine AO.c ?_
  refine AO.sst ?_
  refine AO.nil ?_
  refine SQ.normal ?_
  refine AW.seq' ?_
  refine AW.seq' ?_
  refine AW.region ?_
  iterate 4 refine AO.c ?_
  refine AO.nil ?_
  refine SQ.normal ?_
  refine AW.block' ?_
  refine AW.loopU [.k, .f, .k, .k, .F, .f, .f, .k, .k, .k, .f, .f, .f, .f, .f, .f, .k, .k, .F, .F, .F, .F, .F, .F, .F, .F, .F, .F, .F, .F] (fun (k : Nat) => [(24, .v (.int .i64 ((k : Int))))]) (fun k => Hn n (([z0, z1, some (.map ((P).map (mE kP vP))), some (.map ((B).map (mE kP vI))), some (.map (((uqA (l.getD i default) i (uqI l i) (k))).map (mE kP vI))), some (.box 69 [.rd 5 (l.map objA), .rd 1 ((dropF l l.length).map drA), .rd 3 ((dI l l.length).map defA), .own (n + 6) (ep) 0 (N).length, .omap (n + 2), .omap (n + 3), .omap (n + 4)]), some (.row 36 14 (ep) ((N).map nodeA))] ++ List.replicate j none) ++ [some (.box 42 (objA (l.getD i default)))])) (fun m k => k ≤ (l.getD i default).secs.length ∧ m = (l.getD i default).secs.length - k) ((l.getD i default).secs.length) (0) ⟨by omega, by omega⟩ (by first | rfl | (simp; done)) (by simp [uqA]) ?_
  rintro m1 k ⟨hy1, hy2⟩
  refine AW.seq' ?_
  refine AW.region ?_
  refine AO.c ?_
  refine AO.nil ?_
  refine SQ.normal ?_
  refine AW.seq' ?_
  refine AW.iteB (GL.ev _) (fun h1 => ?_) (fun h1 => ?_)
  ·
   rw [decide_eq_true_eq] at h1
   have hk1 : k < (l.getD i default).secs.length := by omega
   have hua := uqA_ok (o := (l.getD i default)) (i := i) hui k
   refine AW.skip ?_
   refine SQ.normal ?_
   refine AW.seq' ?_
   refine AW.block' ?_
   refine AW.seq' ?_
   refine AW.region ?_
   iterate 2 refine AO.c ?_
   refine AO.nil ?_
   refine SQ.normal ?_
   refine AW.seq' ?_
   refine AW.region ?_
   iterate 3 refine AO.c ?_
   refine AO.nil ?_
   refine SQ.normal ?_
   refine AW.iteB (GL.ev _) (fun h2 => ?_) (fun h2 => ?_)
   ·
    rw [Bool.not_eq_true'] at h2
    have hst : (uqA (l.getD i default) i (uqI l i) (k + 1)) = incM (uqA (l.getD i default) i (uqI l i) (k)) ((i : Int), (k : Int) + 1) := by rw [uqA, if_pos h2]
    apply AW.mid
    case h =>
     refine AW.drawsZ [10, 12] (.one 0 false (.one 1 false (.one 2 false (.one 3 false (.one 4 false (.one 5 false (.one 6 false (.one 7 false (.two 8 10 (.pur 9 (.one 10 true (.one 11 true (.one 12 true .nil)))) (.pur 11 (.one 8 true (.one 9 true (.one 12 true .nil))))))))))))) (by kernel_rfl) rfl (by kernel_rfl) ?_
     iterate 6 refine AZ.c rfl ?_
     refine AZ.oo rfl ?_
     refine AZ.c rfl ?_
     refine AZ.ghost (Gh.tell 37 (.v (.agg ⟨[.int .i64 (i : Int), .int .i64 ((k : Int) + 1)]⟩))) ?_
     refine AZ.two ?_ ?_
     · refine AZi.c rfl ?_
       refine AZ.po rfl (by have := hua ((i : Int), (k : Int) + 1); omega) ?_
       refine AZ.inc rfl rfl rfl rfl rfl ?_
       exact AZ.done ⟨rfl, rfl⟩
     · refine AZi.incB rfl rfl rfl rfl rfl rfl rfl rfl (by have := hua ((i : Int), (k : Int) + 1); omega) ?_
       exact AZ.done ⟨rfl, rfl⟩
    refine BQ.normal ?_
    refine SQ.normal ?_
    refine AW.region ?_
    refine AO.oo ?_
    refine AO.c ?_
    refine AO.nil ?_
    exact AW.backU [.k, .f, .k, .k, .F, .f, .f, .k, .k, .k, .f, .f, .f, .f, .f, .f, .k, .k, .F, .F, .F, .F, .F, .F, .F, .F, .F, .F, .F, .F] (m1 - 1) (k + 1) (by omega) (by (try dsimp only); exact ⟨by omega, by omega⟩) (by first | rfl | (simp; done)) (by first | ((try dsimp only); rw [hst]; done) | ((try dsimp only); rw [hst]; rfl))
   ·
    rw [Bool.not_eq_false'] at h2
    have hst : (uqA (l.getD i default) i (uqI l i) (k + 1)) = (uqA (l.getD i default) i (uqI l i) (k)) := by rw [uqA, if_neg (by rw [h2]; decide)]
    refine AW.skip ?_
    refine BQ.normal ?_
    refine SQ.normal ?_
    refine AW.region ?_
    refine AO.oo ?_
    refine AO.c ?_
    refine AO.nil ?_
    exact AW.backU [.k, .f, .k, .k, .F, .f, .f, .k, .k, .k, .f, .f, .f, .f, .f, .f, .k, .k, .F, .F, .F, .F, .F, .F, .F, .F, .F, .F, .F, .F] (m1 - 1) (k + 1) (by omega) (by (try dsimp only); exact ⟨by omega, by omega⟩) (by first | rfl | (simp; done)) (by first | ((try dsimp only); rw [hst]; done) | ((try dsimp only); rw [hst]; rfl))
  ·
   rw [decide_eq_false_iff_not] at h1
   have hk1 : k = (l.getD i default).secs.length := by omega
   subst hk1
   refine AW.exit ?_
   refine SQ.exit <| AW.out <| LU.exit <| BQ.exit ?_
   refine SQ.normal ?_
   refine AW.seq' ?_
   refine AW.region ?_
   iterate 4 refine AO.c ?_
   refine AO.nil ?_
   refine SQ.normal ?_
   refine AW.block' ?_
   refine AW.loopU2 [.k, .f, .k, .F, .f, .f, .f, .k, .k, .k, .F, .F, .F, .f, .f, .f, .k, .k, .k, .F, .F, .F, .F, .F, .F, .F, .F, .F, .f, .f] (fun (q j2 : Nat) => [(46, .v (.int .i64 ((q : Int))))]) (fun q j2 => Hn n ((([z0, z1, some (.map ((P).map (mE kP vP))), some (.map ((B).map (mE kP vI))), some (.map (((uqB l i (uqA (l.getD i default) i (uqI l i) ((l.getD i default).secs.length)) (q))).map (mE kP vI))), some (.box 69 [.rd 5 (l.map objA), .rd 1 ((dropF l l.length).map drA), .rd 3 ((dI l l.length).map defA), .own (n + 6) (ep) 0 (N).length, .omap (n + 2), .omap (n + 3), .omap (n + 4)]), some (.row 36 14 (ep) ((N).map nodeA))] ++ List.replicate j none ++ [some (.box 42 (objA (l.getD i default)))]) ++ List.replicate j2 none) ++ [])) (fun m q j2 => q ≤ (l.getD i default).sig.length ∧ m = (l.getD i default).sig.length - q) ((l.getD i default).sig.length) (0) (0) ⟨by omega, by omega⟩ (by first | rfl | (simp; done)) (by simp [uqB]) ?_
   rintro m2 q j2 ⟨hz1, hz2⟩
   refine AW.seq' ?_
   refine AW.region ?_
   refine AO.c ?_
   refine AO.nil ?_
   refine SQ.normal ?_
   refine AW.seq' ?_
   refine AW.iteB (GL.ev _) (fun h3 => ?_) (fun h3 => ?_)
   ·
    rw [decide_eq_true_eq] at h3
    have hq : q < (l.getD i default).sig.length := by omega
    have hub := uqB_ok (l := l) (i := i) (uqA_ok (o := (l.getD i default)) (i := i) hui (l.getD i default).secs.length) q
    refine AW.skip ?_
    refine SQ.normal ?_
    refine AW.seq' ?_
    refine AW.block' ?_
    refine AW.seq' ?_
    refine AW.region ?_
    refine AO.oo ?_
    iterate 2 refine AO.c ?_
    refine AO.nil ?_
    refine SQ.normal ?_
    refine AW.seq' ?_
    apply AW.mid
    case h =>
     refine AW.drawsZ [15] (.one 0 false (.one 1 false (.one 2 false (.one 3 false (.one 4 false (.one 5 false (.one 6 false (.one 7 false (.one 8 false (.one 9 false (.two 10 14 (.one 11 false (.one 12 false (.pur 13 (.one 14 true (.one 15 true (.one 16 false .nil)))))) (.one 10 true (.one 11 false (.one 12 false (.pur 13 (.one 15 true (.one 16 false .nil))))))))))))))))) (by kernel_rfl) rfl (by kernel_rfl) ?_
     iterate 10 refine AZ.c rfl ?_
     refine AZ.two ?_ ?_
     · refine AZi.call1 rfl Try.func23 rfl rfl (names_Where l ⟨dropF l l.length, dI l l.length⟩ (i : Int) ((l.getD i default).sig.getD q default) hT) ?_
       iterate 2 refine AZ.c rfl ?_
       refine AZ.p rfl ?_
       refine AZ.mkk rfl ?_
       refine AZ.sst rfl rfl ?_
       refine AZ.c rfl ?_
       exact AZ.done ⟨rfl, rfl⟩
     · refine AZi.mkk rfl ?_
       refine AZ.call1 rfl Try.func23 rfl rfl (names_Where l ⟨dropF l l.length, dI l l.length⟩ (i : Int) ((l.getD i default).sig.getD q default) hT) ?_
       iterate 2 refine AZ.c rfl ?_
       refine AZ.p rfl ?_
       refine AZ.sst rfl rfl ?_
       refine AZ.c rfl ?_
       exact AZ.done ⟨rfl, rfl⟩
    refine SQ.normal ?_
    refine AW.seq' ?_
    refine AW.region ?_
    iterate 3 refine AO.c ?_
    iterate 3 refine AO.gx ?_
    refine AO.c ?_
    refine AO.nil ?_
    refine SQ.normal ?_
    refine AW.iteB (GL.ev _) (fun h4 => ?_) (fun h4 => ?_)
    ·
     simp only [Bool.and_eq_true, decide_eq_true_eq] at h4
     have hst : (uqB l i (uqA (l.getD i default) i (uqI l i) ((l.getD i default).secs.length)) (q + 1)) = incM (uqB l i (uqA (l.getD i default) i (uqI l i) ((l.getD i default).secs.length)) (q)) ((whereF l ⟨dropF l l.length, dI l l.length⟩ (i : Int) ((l.getD i default).sig.getD q default)).1.obj, (whereF l ⟨dropF l l.length, dI l l.length⟩ (i : Int) ((l.getD i default).sig.getD q default)).1.sec) := by rw [uqB, if_pos h4]
     apply AW.mid
     case h =>
      refine AW.drawsZ [11, 13] (.one 0 false (.one 1 false (.one 2 false (.one 3 false (.one 4 false (.one 5 false (.one 6 false (.one 7 false (.one 8 false (.two 9 11 (.pur 10 (.one 11 true (.one 12 true (.one 13 true .nil)))) (.pur 12 (.one 9 true (.one 10 true (.one 13 true .nil)))))))))))))) (by kernel_rfl) rfl (by kernel_rfl) ?_
      iterate 9 refine AZ.c rfl ?_
      refine AZ.ghost (Gh.tell 79 (.v (.agg ⟨[.int .i64 (whereF l ⟨dropF l l.length, dI l l.length⟩ (i : Int) ((l.getD i default).sig.getD q default)).1.obj, .int .i64 (whereF l ⟨dropF l l.length, dI l l.length⟩ (i : Int) ((l.getD i default).sig.getD q default)).1.sec]⟩))) ?_
      refine AZ.two ?_ ?_
      · refine AZi.c rfl ?_
        refine AZ.po rfl (by have := hub ((whereF l ⟨dropF l l.length, dI l l.length⟩ (i : Int) ((l.getD i default).sig.getD q default)).1.obj, (whereF l ⟨dropF l l.length, dI l l.length⟩ (i : Int) ((l.getD i default).sig.getD q default)).1.sec); omega) ?_
        refine AZ.inc rfl rfl rfl rfl rfl ?_
        exact AZ.done ⟨rfl, rfl⟩
      · refine AZi.incB rfl rfl rfl rfl rfl rfl rfl rfl (by have := hub ((whereF l ⟨dropF l l.length, dI l l.length⟩ (i : Int) ((l.getD i default).sig.getD q default)).1.obj, (whereF l ⟨dropF l l.length, dI l l.length⟩ (i : Int) ((l.getD i default).sig.getD q default)).1.sec); omega) ?_
        exact AZ.done ⟨rfl, rfl⟩
     refine BQ.normal ?_
     refine SQ.normal ?_
     refine AW.region ?_
     refine AO.oo ?_
     refine AO.c ?_
     refine AO.nil ?_
     exact AW.backE [.k, .f, .k, .F, .f, .f, .f, .k, .k, .k, .F, .F, .F, .f, .f, .f, .k, .k, .k, .F, .F, .F, .F, .F, .F, .F, .F, .F, .f, .f] (j2) (m2 - 1) (q + 1, j2 + 1) (by omega) (by (try dsimp only); exact ⟨by omega, by omega⟩) (by first | rfl | (simp; done)) (by first | ((try dsimp only); rw [hst]; done) | ((try dsimp only); rw [hst]; rfl))
    ·
     have hst : (uqB l i (uqA (l.getD i default) i (uqI l i) ((l.getD i default).secs.length)) (q + 1)) = (uqB l i (uqA (l.getD i default) i (uqI l i) ((l.getD i default).secs.length)) (q)) := by
      rw [uqB, if_neg]
      intro c
      rw [decide_eq_true c.1, decide_eq_true c.2] at h4; cases h4
     refine AW.skip ?_
     refine BQ.normal ?_
     refine SQ.normal ?_
     refine AW.region ?_
     refine AO.oo ?_
     refine AO.c ?_
     refine AO.nil ?_
     exact AW.backE [.k, .f, .k, .F, .f, .f, .f, .k, .k, .k, .F, .F, .F, .f, .f, .f, .k, .k, .k, .F, .F, .F, .F, .F, .F, .F, .F, .F, .f, .f] (j2) (m2 - 1) (q + 1, j2 + 1) (by omega) (by (try dsimp only); exact ⟨by omega, by omega⟩) (by first | rfl | (simp; done)) (by first | ((try dsimp only); rw [hst]; done) | ((try dsimp only); rw [hst]; rfl))
   ·
    rw [decide_eq_false_iff_not] at h3
    have hq : q = (l.getD i default).sig.length := by omega
    subst hq
    refine AW.exit ?_
    refine SQ.exit <| AW.out <| LU.exit <| BQ.exit ?_
    refine BQ.normal ?_
    refine SQ.normal ?_
    refine AW.region ?_
    refine AO.oo ?_
    refine AO.c ?_
    refine AO.nil ?_
    exact AW.backE [.k, .F, .f, .f, .f, .f, .f, .k, .k, .k, .F, .F, .F, .F, .F, .F, .F, .F, .F, .F, .F, .F, .F] (j) (m0 - 1) (i + 1, j + (1 + j2)) (by omega) (by (try dsimp only); exact ⟨by omega, by omega⟩) (by first | rfl | (simp; done)) ((Hn_repJ (b := j + (1 + j2)) (by first | (simp; done) | (simp; omega))).trans (by (try dsimp only) <;> rfl))
 ·
  rw [decide_eq_false_iff_not] at h0
  have hi : i = l.length := by omega
  subst hi
  refine AW.exit ?_
  refine SQ.exit <| AW.out <| LU.exit <| BQ.exit ?_
  refine SQ.normal ?_
  refine AW.seq' ?_
  refine AW.region ?_
  iterate 6 refine AO.c ?_
  refine AO.nil ?_
  refine SQ.normal ?_
  refine AW.block' ?_
  refine AW.loopU2 [.k, .F, .F, .F, .F, .F, .F, .F, .F, .F, .F, .F, .k, .k, .k, .F, .F, .F, .f, .f, .f, .f, .f] (fun (i j4 : Nat) => [(91, .v (.int .i64 ((i : Int))))]) (fun i j4 => Hn n (([z0, z1, some (.map ((P).map (mE kP vP))), some (.map ((B).map (mE kP vI))), some (.map (((uqI l l.length)).map (mE kP vI))), some (.box 69 [.rd 5 (l.map objA), .rd 1 ((dropF l l.length).map drA), .rd 3 ((dI l l.length).map defA), .own (n + 6) (ep) 0 (N).length, .omap (n + 2), .omap (n + 3), .omap (n + 4)]), some (.row 36 14 (ep) (((mrkT (uqI l l.length) N (i))).map nodeA))] ++ List.replicate j4 none) ++ [])) (fun m i j4 => i ≤ N.length ∧ m = N.length - i) (N.length) (0) (j) ⟨by omega, by omega⟩ (by first | rfl | (simp; done)) (by simp [mrkT]) ?_
  rintro m3 i j4 ⟨hv1, hv2⟩
  refine AW.seq' ?_
  refine AW.region ?_
  refine AO.c ?_
  refine AO.nil ?_
  refine SQ.normal ?_
  refine AW.seq' ?_
  refine AW.iteB (GL.ev _) (fun h5 => ?_) (fun h5 => ?_)
  ·
   rw [decide_eq_true_eq] at h5
   have hi : i < N.length := by omega
   have hfx := hfN _ (getD_in hi)
   refine AW.skip ?_
   refine SQ.normal ?_
   refine AW.seq' ?_
   refine AW.block' ?_
   refine AW.seq' ?_
   refine AW.region ?_
   refine AO.c ?_
   refine AO.oo ?_
   refine AO.ldRN (nodeA (N.getD i default)) (nodeA (N.getD i default)) (by first | (rw [Nat.zero_add]; exact mrkT_at hi) | exact mrkT_at hi) (by exact (by decide : 0 < 14)) (by exact (by decide : 0 + 14 ≤ 14)) rfl ?_
   refine AO.ww ?_
   refine AO.c ?_
   refine AO.sst ?_
   refine AO.nil ?_
   refine SQ.normal ?_
   cases hfl : hasF (N.getD i default).flags 16
   ·
    refine AW.drawsZ [24] (.one 0 false (.one 1 false (.one 2 false (.one 3 false (.one 4 false (.one 5 false (.one 6 false (.one 7 false (.one 8 false (.one 9 false (.one 10 false (.one 11 false (.one 12 false (.one 13 false (.one 14 false (.one 15 false (.one 16 false (.one 17 false (.one 18 false (.one 19 false (.one 20 false (.one 21 false (.one 22 false (.one 23 false (.one 24 true .nil))))))))))))))))))))))))) (by kernel_rfl) rfl (by kernel_rfl) ?_
    iterate 9 refine AZ.c rfl ?_
    refine AZ.eq 104 (av' := .v (.bool true)) (by rw [and16 hfx.1 hfx.2, hfl]; rfl) ?_
    refine AZ.c rfl ?_
    refine AZ.gkc rfl rfl ?_
    refine AZ.gkc rfl rfl ?_
    refine AZ.gkc rfl rfl ?_
    refine AZ.gkc rfl rfl ?_
    refine AZ.gkc rfl rfl ?_
    refine AZ.gkc rfl rfl ?_
    refine AZ.gkc rfl rfl ?_
    refine AZ.gkc rfl rfl ?_
    refine AZ.gkc rfl rfl ?_
    refine AZ.ghost (Gh.tell 114 (.v (.agg ⟨[.int .i64 (N.getD i default).obj, .int .i64 (N.getD i default).sec]⟩))) ?_
    refine AZ.gkc rfl rfl ?_
    refine AZ.gkc rfl rfl ?_
    refine AZ.pt rfl rfl ?_
    refine AZ.o rfl (by omega) ?_
    refine AZ.c rfl ?_
    refine AZ.stR (((mrkT (uqI l l.length) N (i + 1))).map nodeA) rfl rfl (by rw [List.length_map, mrkT_len]; exact ⟨by omega, by decide⟩) ?_ ?_
    · rw [Nat.zero_add, Int.toNat_natCast]; exact mrkT_row hi (by show _ = (!hasF (N.getD i default).flags 16 && decide _); rw [hfl]; rfl)
    refine AZ.done ?_
    refine BQ.normal ?_
    refine SQ.normal ?_
    refine AW.region ?_
    refine AO.oo ?_
    refine AO.c ?_
    refine AO.nil ?_
    exact AW.backE [.k, .F, .F, .F, .F, .F, .F, .F, .F, .F, .F, .F, .k, .k, .k, .F, .F, .F, .f, .f, .f, .f, .f] (j4) (m3 - 1) (i + 1, j4 + 1) (by omega) (by (try dsimp only); exact ⟨by omega, by omega⟩) (by first | rfl | (simp; done)) (by first | rfl | (simp; done))
   ·
    refine AW.drawsZ [24] (.one 0 false (.one 1 false (.one 2 false (.one 3 false (.one 4 false (.one 5 false (.one 6 false (.one 7 false (.one 8 false (.one 9 false (.one 10 false (.one 11 false (.one 12 false (.one 13 false (.one 14 false (.one 15 false (.one 16 false (.one 17 false (.one 18 false (.one 19 false (.one 20 false (.one 21 false (.one 22 false (.one 23 false (.one 24 true .nil))))))))))))))))))))))))) (by kernel_rfl) rfl (by kernel_rfl) ?_
    iterate 9 refine AZ.c rfl ?_
    refine AZ.eq 104 (av' := .v (.bool false)) (by rw [and16 hfx.1 hfx.2, hfl]; rfl) ?_
    refine AZ.c rfl ?_
    refine AZ.sk rfl rfl ?_
    refine AZ.sk rfl rfl ?_
    refine AZ.sk rfl rfl ?_
    refine AZ.sk rfl rfl ?_
    refine AZ.sk rfl rfl ?_
    refine AZ.sk rfl rfl ?_
    refine AZ.sk rfl rfl ?_
    refine AZ.sk rfl rfl ?_
    refine AZ.sk rfl rfl ?_
    refine AZ.sk rfl rfl ?_
    refine AZ.sk rfl rfl ?_
    refine AZ.pf rfl rfl ?_
    refine AZ.o rfl (by omega) ?_
    refine AZ.c rfl ?_
    refine AZ.stR (((mrkT (uqI l l.length) N (i + 1))).map nodeA) rfl rfl (by rw [List.length_map, mrkT_len]; exact ⟨by omega, by decide⟩) ?_ ?_
    · rw [Nat.zero_add, Int.toNat_natCast]; exact mrkT_row hi (by show _ = (!hasF (N.getD i default).flags 16 && decide _); rw [hfl]; rfl)
    refine AZ.done ?_
    refine BQ.normal ?_
    refine SQ.normal ?_
    refine AW.region ?_
    refine AO.oo ?_
    refine AO.c ?_
    refine AO.nil ?_
    exact AW.backE [.k, .F, .F, .F, .F, .F, .F, .F, .F, .F, .F, .F, .k, .k, .k, .F, .F, .F, .f, .f, .f, .f, .f] (j4) (m3 - 1) (i + 1, j4 + 1) (by omega) (by (try dsimp only); exact ⟨by omega, by omega⟩) (by first | rfl | (simp; done)) (by first | rfl | (simp; done))
  ·
   rw [decide_eq_false_iff_not] at h5
   have hi : i = N.length := by omega
   subst hi
   rw [mrkT_all]
   refine AW.exit ?_
   refine SQ.exit <| AW.out <| LU.exit <| BQ.exit ?_
   exact FinC.ret Gh.refl ⟨j4, rfl, rfl⟩ (.inl rfl)
end Go.Proofs.Ytiomdnmicagdcaa.AL
namespace Go.Proofs.Ytiomdnmicagdcaa.AL
open Go Go.RowKit Go.Proofs.Ytiomdnmicagdcaa.Base
set_option linter.unusedVariables false
set_option linter.unusedSimpArgs false
set_option maxRecDepth 4000
set_option synthInstance.maxSize 1000
set_option synthInstance.maxHeartbeats 200000
/-- The relocations of a node's section. -/
def relsX (l : List ObjD) (x : NodeD) : List RelD := ((l.getD x.obj.toNat default).secs.getD (x.sec - 1).toNat default).rels
def relE (l : List ObjD) (P : List ((Int × Int) × List (Int × Int))) (B : List ((Int × Int) × Int)) (o : Int) (r : RelD) : Int :=
 if (whereF l ⟨dropF l l.length, dI l l.length⟩ o r.sym).2 ≠ 0 then (whereF l ⟨dropF l l.length, dI l l.length⟩ o r.sym).2
 else if (whereF l ⟨dropF l l.length, dI l l.length⟩ o r.sym).1.sec > 0 ∧ (nodeP P B (whereF l ⟨dropF l l.length, dI l l.length⟩ o r.sym).1).1 < 0 then 6 else 0
def relT (l : List ObjD) (P : List ((Int × Int) × List (Int × Int))) (B : List ((Int × Int) × Int)) (o : Int) (r : RelD) : EdgeD :=
 if (whereF l ⟨dropF l l.length, dI l l.length⟩ o r.sym).1.sec > 0 then ⟨r.off, r.typ, r.add, (nodeP P B (whereF l ⟨dropF l l.length, dI l l.length⟩ o r.sym).1).1, (nodeP P B (whereF l ⟨dropF l l.length, dI l l.length⟩ o r.sym).1).2⟩
 else ⟨r.off, r.typ, r.add, -1, (whereF l ⟨dropF l l.length, dI l l.length⟩ o r.sym).1.at_⟩
/-- The first number that isn't 0. -/
def firE {α : Type} (f : α → Int) : List α → Int
 | [] => 0
 | a :: l => if f a ≠ 0 then f a else firE f l
theorem firE_zero {α : Type} [Inhabited α] {f : α → Int} : ∀ {l : List α}, (∀ q, q < l.length → f (l.getD q default) = 0) → firE f l = 0 := by
 intro l
 induction l with
 | nil => intro _; rfl
 | cons a l ih =>
  intro h
  have h0 : f a = 0 := h 0 (by simp)
  rw [firE, if_neg (by rw [h0]; decide)]
  exact ih fun q hq => h (q + 1) (by simpa using hq)
theorem firE_at {α : Type} [Inhabited α] {f : α → Int} : ∀ {l : List α} {k : Nat}, k < l.length → (∀ q, q < k → f (l.getD q default) = 0) → f (l.getD k default) ≠ 0 → firE f l = f (l.getD k default) := by
 intro l
 induction l with
 | nil => intro k hk; exact absurd hk (by simp)
 | cons a l ih =>
  intro k hk h hn
  cases k with
  | zero => rw [firE, if_pos (show f a ≠ 0 from hn)]; rfl
  | succ k =>
   have h0 : f a = 0 := h 0 (by omega)
   rw [firE, if_neg (by rw [h0]; decide)]
   exact ih (by simpa using hk) (fun q hq => h (q + 1) (by omega)) hn
/-- The edges of a node, and what is amiss. -/
def edgF (l : List ObjD) (P : List ((Int × Int) × List (Int × Int))) (B : List ((Int × Int) × Int)) (x : NodeD) : List EdgeD × Int :=
 (if firE (relE l P B x.obj) (relsX l x) = 0 then (relsX l x).map (relT l P B x.obj) else [], firE (relE l P B x.obj) (relsX l x))
def namK (l : List ObjD) (P : List ((Int × Int) × List (Int × Int))) (B : List ((Int × Int) × Int)) (D : List DefD) : Nat → List DefD
 | 0 => []
 | k + 1 => if (whereF l ⟨dropF l l.length, dI l l.length⟩ (D.getD k default).obj (D.getD k default).sym).2 = 0 ∧ (nodeP P B (whereF l ⟨dropF l l.length, dI l l.length⟩ (D.getD k default).obj (D.getD k default).sym).1).1 ≥ 0 then namK l P B D k ++ [⟨(D.getD k default).name, (nodeP P B (whereF l ⟨dropF l l.length, dI l l.length⟩ (D.getD k default).obj (D.getD k default).sym).1).1, (nodeP P B (whereF l ⟨dropF l l.length, dI l l.length⟩ (D.getD k default).obj (D.getD k default).sym).1).2⟩] else namK l P B D k
theorem namK_len (l : List ObjD) (P : List ((Int × Int) × List (Int × Int))) (B : List ((Int × Int) × Int)) (D : List DefD) : ∀ k, (namK l P B D k).length ≤ k := by
 intro k
 induction k with
 | zero => exact Nat.le_refl _
 | succ k ih =>
  rw [namK]
  split
  · rw [List.length_append]; show _ + 1 ≤ _; omega
  · omega
theorem sym_i64 {l : List ObjD} (hk : LOk l) (o s : Int) : I64 ((l.getD o.toNat default).syms.getD s.toNat default).val := by
 have h0 : I64 0 := by decide
 by_cases h1 : o.toNat < l.length
 · have hok := (hk.ok _ (getD_in h1)).1
   by_cases h2 : s.toNat < (l.getD o.toNat default).syms.length
   · exact (hok.2.2.2.1 _ (getD_in h2)).2.2.2.2.1
   · rw [List.getD_eq_getElem?_getD (l := (l.getD o.toNat default).syms), List.getElem?_eq_none (by omega)]; exact h0
 · rw [List.getD_eq_getElem?_getD (l := l), List.getElem?_eq_none (by omega)]
   exact h0
theorem placeF_i64 {l : List ObjD} (hk : LOk l) (t : TabD) (o s : Int) : I64 (placeF l t o s).1.at_ := by
 have h0 : I64 0 := by decide
 unfold placeF
 split
 · exact sym_i64 hk o s
 · split
   · exact h0
   · exact sym_i64 hk o s
theorem whereF_i64 {l : List ObjD} (hk : LOk l) (t : TabD) (o s : Int) : I64 (whereF l t o s).1.at_ := by
 have h0 : I64 0 := by decide
 unfold whereF
 split
 · exact h0
 · split
   · exact placeF_i64 hk t _ _
   · split
     · exact placeF_i64 hk t _ _
     · split <;> exact h0
theorem Gh.dropZ {base : Cx} {l : List AV} {n j : Nat} {A X T S : List (Option AB)} : Gh base ⟨l, Hn n (((A ++ (X ++ T)) ++ List.replicate j none) ++ S)⟩ ⟨l, Hn n ((A ++ X) ++ List.replicate (T.length + j + S.length) none)⟩ := by
 have h := Gh.dropX (base := base) (l := l) (n := n) (A := A) (X := X) (T := T ++ (List.replicate j none ++ S))
 have e : (T ++ (List.replicate j none ++ S)).length = T.length + j + S.length := by simp; omega
 rw [e] at h
 have e2 : A ++ (X ++ (T ++ (List.replicate j none ++ S))) = ((A ++ (X ++ T)) ++ List.replicate j none) ++ S := by simp [List.append_assoc]
 rw [e2] at h
 exact h
theorem edge_snoc {f : RelD → EdgeD} {l : List RelD} {k : Nat} {e : EdgeD} (h : k < l.length) (he : f (l.getD k default) = e) : ((l.take (k + 1)).map f).map edgeA = ((l.take k).map f).map edgeA ++ [edgeA e] ∧ ((l.take (k + 1)).map f).length = ((l.take k).map f).length + 1 := by
 rw [map_take_succ _ h, he, List.map_append, List.length_append]
 exact ⟨rfl, rfl⟩
set_option maxHeartbeats 8000000 in
theorem graph_edges (n : Nat) (z0 z1 : Option AB) (l : List ObjD) (hk : LOk l) (hw : ResW l) (N0 : List NodeD) (P : List ((Int × Int) × List (Int × Int))) (B U : List ((Int × Int) × Int)) (hm : MapG P B) (ep : Nat) (X : List (Option AB)) {lx : Nat} [le : LEN X lx] (x : NodeD) (ho : 0 ≤ x.obj ∧ x.obj < l.length) (hs : 1 ≤ x.sec ∧ x.sec ≤ (l.getD x.obj.toNat default).secs.length) (hr : (relsX l x).length ≤ 1000000) : AC Try.prog 13 (Hn n ([z0, z1, some (.map ((P).map (mE kP vP))), some (.map ((B).map (mE kP vI))), some (.map ((U).map (mE kP vI))), some (.box 69 [.rd 5 (l.map objA), .rd 1 ((dropF l l.length).map drA), .rd 3 ((dI l l.length).map defA), .own (n + 6) (ep) 0 (N0).length, .omap (n + 2), .omap (n + 3), .omap (n + 4)]), some (.row 36 14 (ep) ((N0).map nodeA))] ++ X)) [.box (n + 5) 0, .agg (nodeA x)] (fun r H' => ∃ d : Nat, r = .tup [.rd 5 ((edgF l P B x).1.map edgeA), .v (ifV 57 (edgF l P B x).2)] ∧ H' = Hn n (([z0, z1, some (.map ((P).map (mE kP vP))), some (.map ((B).map (mE kP vI))), some (.map ((U).map (mE kP vI))), some (.box 69 [.rd 5 (l.map objA), .rd 1 ((dropF l l.length).map drA), .rd 3 ((dI l l.length).map defA), .own (n + 6) (ep) 0 (N0).length, .omap (n + 2), .omap (n + 3), .omap (n + 4)]), some (.row 36 14 (ep) ((N0).map nodeA))] ++ X) ++ List.replicate d none)) := by
 have hT := tab_w hk hw
 have hl8 := hw.len
 have hsy := (hw.sy x.obj.toNat (by omega)).2
 refine AC.body 81 Try.func13 rfl rfl Try.ntmps13 fun base => ?_
 refine AW.seq' ?_
 refine AW.region ?_
 refine AO.ww ?_
 iterate 2 refine AO.c ?_
 refine AO.nil ?_
 refine SQ.normal ?_
 refine AW.seq' ?_
 refine AW.region ?_
 refine AO.c ?_
 refine AO.nil ?_
 refine SQ.normal ?_
 refine AW.seq' ?_
 refine AW.seq' ?_
 refine AW.ghost (Gh.adoptM 6 48 5) ?_
 refine AW.drawsZ [] (.one 0 false (.one 1 false (.one 2 false (.one 3 false (.one 4 false (.one 5 false (.one 6 false (.one 7 false (.one 8 false (.one 9 false (.one 10 false (.one 11 false (.one 12 false (.one 13 false (.one 14 false (.one 15 false (.one 16 false .nil))))))))))))))))) (by kernel_rfl) rfl (by kernel_rfl) ?_
 iterate 6 refine AZ.c rfl ?_
 refine AZ.o rfl (by omega) ?_
 iterate 4 refine AZ.c rfl ?_
 refine AZ.o rfl (by omega) ?_
 refine AZ.o rfl (by omega) ?_
 iterate 2 refine AZ.c rfl ?_
 refine AZ.eq 26 (av' := .rd 4 ((relsX l x).map relA)) rfl ?_
 iterate 2 refine AZ.c rfl ?_
 refine AZ.done ?_
 refine SQ.normal ?_
 refine AW.block' ?_
 refine AW.loopU3 [.k, .f, .f, .k, .f, .f, .k, .F, .F, .f, .f, .f, .k, .k, .k, .F, .F, .F, .F, .F, .F, .f, .f, .f, .f] (fun (k j e2 : Nat) => [(6, .own (n + zadd (0 + 1 + 1 + 1 + 1 + 1 + 1 + 1) (zadd lx (0 + 1))) e2 0 (((relsX l x).take (k)).map (relT l P B x.obj)).length), (28, .v (.int .i64 ((k : Int))))]) (fun k j e2 => Hn n (((([z0, z1, some (.map ((P).map (mE kP vP))), some (.map ((B).map (mE kP vI))), some (.map ((U).map (mE kP vI))), some (.box 69 [.rd 5 (l.map objA), .rd 1 ((dropF l l.length).map drA), .rd 3 ((dI l l.length).map defA), .own (n + 6) (ep) 0 (N0).length, .omap (n + 2), .omap (n + 3), .omap (n + 4)]), some (.row 36 14 (ep) ((N0).map nodeA))]) ++ (X ++ [some (.box 36 (nodeA x)), some (.row 48 5 (e2) (((((relsX l x).take (k)).map (relT l P B x.obj))).map edgeA))])) ++ List.replicate j none) ++ [])) (fun m k j e2 => (k ≤ (relsX l x).length ∧ m = (relsX l x).length - k) ∧ ∀ q, q < k → relE l P B x.obj ((relsX l x).getD q default) = 0) ((relsX l x).length) (0) (0) (0) ⟨by omega, fun q h => by omega⟩ (by first | rfl | (simp; done)) (by simp) ?_
 rintro m0 k j e2 ⟨hx1, hx2⟩
 refine AW.seq' ?_
 refine AW.region ?_
 refine AO.c ?_
 refine AO.nil ?_
 refine SQ.normal ?_
 refine AW.seq' ?_
 refine AW.iteB (GL.ev _) (fun h0 => ?_) (fun h0 => ?_)
 ·
  rw [decide_eq_true_eq] at h0
  have hk2 : k < (relsX l x).length := by omega
  refine AW.skip ?_
  refine SQ.normal ?_
  refine AW.seq' ?_
  refine AW.block' ?_
  refine AW.seq' ?_
  refine AW.region ?_
  refine AO.oo ?_
  refine AO.c ?_
  refine AO.ww ?_
  refine AO.sst ?_
  refine AO.nil ?_
  refine SQ.normal ?_
  refine AW.seq' ?_
  apply AW.mid
  case h =>
   refine AW.drawsZ [17] (.one 0 false (.one 1 false (.one 2 false (.one 3 false (.one 4 false (.one 5 false (.one 6 false (.one 7 false (.one 8 false (.one 9 false (.one 10 false (.one 11 false (.two 12 16 (.one 13 false (.one 14 false (.pur 15 (.one 16 true (.one 17 true (.one 18 false .nil)))))) (.one 12 true (.one 13 false (.one 14 false (.pur 15 (.one 17 true (.one 18 false .nil))))))))))))))))))) (by kernel_rfl) rfl (by kernel_rfl) ?_
   iterate 12 refine AZ.c rfl ?_
   refine AZ.two ?_ ?_
   · refine AZi.call1 rfl Try.func23 rfl rfl (names_Where l ⟨dropF l l.length, dI l l.length⟩ x.obj ((relsX l x).getD k default).sym hT) ?_
     iterate 2 refine AZ.c rfl ?_
     refine AZ.p rfl ?_
     refine AZ.mkk rfl ?_
     refine AZ.sst rfl rfl ?_
     refine AZ.c rfl ?_
     exact AZ.done ⟨rfl, rfl⟩
   · refine AZi.mkk rfl ?_
     refine AZ.call1 rfl Try.func23 rfl rfl (names_Where l ⟨dropF l l.length, dI l l.length⟩ x.obj ((relsX l x).getD k default).sym hT) ?_
     iterate 2 refine AZ.c rfl ?_
     refine AZ.p rfl ?_
     refine AZ.sst rfl rfl ?_
     refine AZ.c rfl ?_
     exact AZ.done ⟨rfl, rfl⟩
  refine SQ.normal ?_
  refine AW.seq' ?_
  refine AW.seq' ?_
  refine AW.region ?_
  iterate 2 refine AO.c ?_
  refine AO.nil ?_
  refine SQ.normal ?_
  refine AW.iteB (GL.ev _) (fun h1 => ?_) (fun h1 => ?_)
  ·
   rw [decide_eq_true_eq] at h1
   have hre : relE l P B x.obj ((relsX l x).getD k default) = (whereF l ⟨dropF l l.length, dI l l.length⟩ x.obj ((relsX l x).getD k default).sym).2 := by unfold relE; rw [if_pos h1]
   have hf := firE_at hk2 hx2 (by rw [hre]; exact h1)
   have he : edgF l P B x = ([], (whereF l ⟨dropF l l.length, dI l l.length⟩ x.obj ((relsX l x).getD k default).sym).2) := by unfold edgF; rw [hf, hre, if_neg h1]
   refine AW.seq' ?_
   refine AW.region ?_
   iterate 3 refine AO.c ?_
   refine AO.nil ?_
   refine SQ.normal ?_
   refine AW.ret ?_
   refine SQ.ret <| BQ.ret <| SQ.ret <| AW.out <| LU.ret <| BQ.ret <| SQ.ret ?_
   refine FinC.ret (Gh.trans (Gh.nilM (α := EdgeD) 4 5 edgeA) Gh.dropZ) ⟨_, ?_, rfl⟩ (.inr rfl)
   rw [he]; rfl
  ·
   rw [decide_eq_false_iff_not, ne_eq, Decidable.not_not] at h1
   refine AW.skip ?_
   refine SQ.normal ?_
   refine AW.seq' ?_
   refine AW.region ?_
   iterate 9 refine AO.c ?_
   refine AO.ww ?_
   refine AO.sst ?_
   refine AO.nil ?_
   refine SQ.normal ?_
   refine AW.seq' ?_
   refine AW.seq' ?_
   refine AW.region ?_
   iterate 3 refine AO.c ?_
   refine AO.nil ?_
   refine SQ.normal ?_
   refine AW.iteB (GL.ev _) (fun h2 => ?_) (fun h2 => ?_)
   ·
    rw [decide_eq_true_eq] at h2
    refine AW.seq' ?_
    refine AW.region ?_
    iterate 2 refine AO.c ?_
    refine AO.callL (H2 := Hn n (((([z0, z1, some (.map ((P).map (mE kP vP))), some (.map ((B).map (mE kP vI))), some (.map ((U).map (mE kP vI))), some (.box 69 [.rd 5 (l.map objA), .rd 1 ((dropF l l.length).map drA), .rd 3 ((dI l l.length).map defA), .own (n + 6) (ep) 0 (N0).length, .omap (n + 2), .omap (n + 3), .omap (n + 4)]), some (.row 36 14 (ep) ((N0).map nodeA))]) ++ (X ++ [some (.box 36 (nodeA x)), some (.row 48 5 (e2) (((((relsX l x).take (k)).map (relT l P B x.obj))).map edgeA))])) ++ List.replicate j none) ++ ([some (.box 50 (relA ((relsX l x).getD k default))), some (.box 90 (plcA (whereF l ⟨dropF l l.length, dI l l.length⟩ x.obj ((relsX l x).getD k default).sym).1)), some (.box 48 [.v (.int .i64 (((relsX l x).getD k default).off)), .v (.int .i64 (((relsX l x).getD k default).typ)), .v (.int .i64 (((relsX l x).getD k default).add)), .v (.int .i64 (-1)), .v (.int .i64 ((whereF l ⟨dropF l l.length, dI l l.length⟩ x.obj ((relsX l x).getD k default).sym).1.at_))])] ++ [none, none]))) Try.func24 rfl rfl (AC.cong (graph_node n z0 z1 l ((dropF l l.length).map drA) ((dI l l.length).map defA) N0 P B U ep (X ++ [some (.box 36 (nodeA x)), some (.row 48 5 (e2) (((((relsX l x).take (k)).map (relT l P B x.obj))).map edgeA))] ++ List.replicate j none ++ [some (.box 50 (relA ((relsX l x).getD k default))), some (.box 90 (plcA (whereF l ⟨dropF l l.length, dI l l.length⟩ x.obj ((relsX l x).getD k default).sym).1)), some (.box 48 [.v (.int .i64 (((relsX l x).getD k default).off)), .v (.int .i64 (((relsX l x).getD k default).typ)), .v (.int .i64 (((relsX l x).getD k default).add)), .v (.int .i64 (-1)), .v (.int .i64 ((whereF l ⟨dropF l l.length, dI l l.length⟩ x.obj ((relsX l x).getD k default).sym).1.at_))])]) (whereF l ⟨dropF l l.length, dI l l.length⟩ x.obj ((relsX l x).getD k default).sym).1 (whereF_i64 hk _ _ _) hm) (by simp) (fun r H' h => ⟨h.1, h.2.trans (by simp)⟩)) ?_
    iterate 4 refine AO.c ?_
    refine AO.sst ?_
    refine AO.c ?_
    refine AO.sst ?_
    refine AO.nil ?_
    refine SQ.normal ?_
    refine AW.seq' ?_
    refine AW.region ?_
    iterate 3 refine AO.c ?_
    refine AO.nil ?_
    refine SQ.normal ?_
    refine AW.iteB (GL.ev _) (fun h3 => ?_) (fun h3 => ?_)
    ·
     rw [decide_eq_true_eq] at h3
     have hre : relE l P B x.obj ((relsX l x).getD k default) = 6 := by unfold relE; rw [if_neg (fun c => c h1), if_pos ⟨h2, h3⟩]
     have hf := firE_at hk2 hx2 (by rw [hre]; decide)
     have he : edgF l P B x = ([], 6) := by unfold edgF; rw [hf, hre, if_neg (by decide)]
     refine AW.seq' ?_
     refine AW.region ?_
     iterate 3 refine AO.c ?_
     refine AO.nil ?_
     refine SQ.normal ?_
     refine AW.ret ?_
     refine SQ.ret <| BQ.ret <| SQ.ret <| AW.out <| LU.ret <| BQ.ret <| SQ.ret ?_
     refine FinC.ret (Gh.trans (Gh.nilM (α := EdgeD) 4 5 edgeA) Gh.dropZ) ⟨_, ?_, rfl⟩ (.inr rfl)
     rw [he]; rfl
    ·
     rw [decide_eq_false_iff_not] at h3
     have hre : relE l P B x.obj ((relsX l x).getD k default) = 0 := by unfold relE; rw [if_neg (fun c => c h1), if_neg (fun c => h3 c.2)]
     have hal : ∀ q, q < k + 1 → relE l P B x.obj ((relsX l x).getD q default) = 0 := fun q hq => by
      by_cases e : q = k
      · rw [e]; exact hre
      · exact hx2 q (by omega)
     have hsn := edge_snoc (f := relT l P B x.obj) hk2 (show relT l P B x.obj ((relsX l x).getD k default) = ⟨((relsX l x).getD k default).off, ((relsX l x).getD k default).typ, ((relsX l x).getD k default).add, (nodeP P B (whereF l ⟨dropF l l.length, dI l l.length⟩ x.obj ((relsX l x).getD k default).sym).1).1, (nodeP P B (whereF l ⟨dropF l l.length, dI l l.length⟩ x.obj ((relsX l x).getD k default).sym).1).2⟩ by unfold relT; rw [if_pos h2])
     refine AW.skip ?_
     refine SQ.normal ?_
     refine AW.region ?_
     iterate 2 refine AO.c ?_
     refine AO.rr ?_
     refine AO.ww ?_
     refine AO.c ?_
     refine AO.nil ?_
     refine BQ.normal ?_
     refine SQ.normal ?_
     refine AW.region ?_
     refine AO.oo ?_
     refine AO.c ?_
     refine AO.nil ?_
     exact AW.backE [.k, .f, .f, .k, .f, .f, .k, .F, .F, .f, .f, .f, .k, .k, .k, .F, .F, .F, .F, .F, .F, .f, .f, .f, .f] (j) (m0 - 1) (k + 1, j + 5, e2 + 1) (by omega) (by (try dsimp only); exact ⟨by omega, hal⟩) (by first | ((try dsimp only); rw [hsn.2]; done) | ((try dsimp only); rw [hsn.2]; rfl)) (by first | ((try dsimp only); rw [hsn.1]; done) | ((try dsimp only); rw [hsn.1]; rfl))
   ·
    rw [decide_eq_false_iff_not] at h2
    have hre : relE l P B x.obj ((relsX l x).getD k default) = 0 := by unfold relE; rw [if_neg (fun c => c h1), if_neg (fun c => h2 c.1)]
    have hal : ∀ q, q < k + 1 → relE l P B x.obj ((relsX l x).getD q default) = 0 := fun q hq => by
     by_cases e : q = k
     · rw [e]; exact hre
     · exact hx2 q (by omega)
    have hsn := edge_snoc (f := relT l P B x.obj) hk2 (show relT l P B x.obj ((relsX l x).getD k default) = ⟨((relsX l x).getD k default).off, ((relsX l x).getD k default).typ, ((relsX l x).getD k default).add, -1, (whereF l ⟨dropF l l.length, dI l l.length⟩ x.obj ((relsX l x).getD k default).sym).1.at_⟩ by unfold relT; rw [if_neg h2])
    refine AW.skip ?_
    refine SQ.normal ?_
    refine AW.region ?_
    iterate 2 refine AO.c ?_
    refine AO.rr ?_
    refine AO.ww ?_
    refine AO.c ?_
    refine AO.nil ?_
    refine BQ.normal ?_
    refine SQ.normal ?_
    refine AW.region ?_
    refine AO.oo ?_
    refine AO.c ?_
    refine AO.nil ?_
    exact AW.backE [.k, .f, .f, .k, .f, .f, .k, .F, .F, .f, .f, .f, .k, .k, .k, .F, .F, .F, .F, .F, .F, .f, .f, .f, .f] (j) (m0 - 1) (k + 1, j + 3, e2 + 1) (by omega) (by (try dsimp only); exact ⟨by omega, hal⟩) (by first | ((try dsimp only); rw [hsn.2]; done) | ((try dsimp only); rw [hsn.2]; rfl)) (by first | ((try dsimp only); rw [hsn.1]; done) | ((try dsimp only); rw [hsn.1]; rfl))
 ·
  rw [decide_eq_false_iff_not] at h0
  have hk2 : k = (relsX l x).length := by omega
  subst hk2
  have hz := firE_zero hx2
  have he : edgF l P B x = ((relsX l x).map (relT l P B x.obj), 0) := by unfold edgF; rw [hz, if_pos rfl]
  refine AW.exit ?_
  refine SQ.exit <| AW.out <| LU.exit <| BQ.exit ?_
  refine SQ.normal ?_
  refine AW.seq' ?_
  refine AW.ghost (Gh.freezeM 6 edgeA ((relsX l x).map (relT l P B x.obj)) (by first | rfl | (rw [List.take_length])) (by simp) (by simp; omega)) ?_
  refine AW.region ?_
  iterate 3 refine AO.c ?_
  refine AO.nil ?_
  refine SQ.normal ?_
  refine AW.ret ?_
  refine FinC.ret (Gh.trans (Gh.refl) Gh.dropZ) ⟨_, ?_, rfl⟩ (.inr rfl)
  rw [he]; rfl
end Go.Proofs.Ytiomdnmicagdcaa.AL
namespace Go.Proofs.Ytiomdnmicagdcaa.AL
open Go Go.RowKit Go.Proofs.Ytiomdnmicagdcaa.Base
set_option linter.unusedVariables false
set_option linter.unusedSimpArgs false
set_option maxRecDepth 4000
set_option synthInstance.maxSize 1000
set_option synthInstance.maxHeartbeats 200000
theorem nam_snoc {N : List DefD} {x : DefD} {M : List DefD} (h : M = N ++ [x]) : M.map defA = N.map defA ++ [defA x] ∧ M.length = N.length + 1 := by
 subst h; simp
set_option maxHeartbeats 8000000 in
theorem graph_defined (n : Nat) (z0 z1 : Option AB) (l : List ObjD) (hk : LOk l) (hw : ResW l) (N0 : List NodeD) (P : List ((Int × Int) × List (Int × Int))) (B U : List ((Int × Int) × Int)) (hm : MapG P B) (ep : Nat) (X : List (Option AB)) {lx : Nat} [le : LEN X lx] : AC Try.prog 14 (Hn n ([z0, z1, some (.map ((P).map (mE kP vP))), some (.map ((B).map (mE kP vI))), some (.map ((U).map (mE kP vI))), some (.box 69 [.rd 5 (l.map objA), .rd 1 ((dropF l l.length).map drA), .rd 3 ((dI l l.length).map defA), .own (n + 6) (ep) 0 (N0).length, .omap (n + 2), .omap (n + 3), .omap (n + 4)]), some (.row 36 14 (ep) ((N0).map nodeA))] ++ X)) [.box (n + 5) 0] (fun r H' => ∃ d : Nat, r = .rd 3 (((namK l P B (dI l l.length) ((dI l l.length).length))).map defA) ∧ H' = Hn n (([z0, z1, some (.map ((P).map (mE kP vP))), some (.map ((B).map (mE kP vI))), some (.map ((U).map (mE kP vI))), some (.box 69 [.rd 5 (l.map objA), .rd 1 ((dropF l l.length).map drA), .rd 3 ((dI l l.length).map defA), .own (n + 6) (ep) 0 (N0).length, .omap (n + 2), .omap (n + 3), .omap (n + 4)]), some (.row 36 14 (ep) ((N0).map nodeA))] ++ X) ++ List.replicate d none)) := by
 have hT := tab_w hk hw
 have hl8 := hw.len
 have hdl := dI_len hw l.length (Nat.le_refl _)
 refine AC.body 56 Try.func14 rfl rfl Try.ntmps14 fun base => ?_
 refine AW.seq' ?_
 refine AW.region ?_
 refine AO.c ?_
 refine AO.nil ?_
 refine SQ.normal ?_
 refine AW.seq' ?_
 refine AW.region ?_
 refine AO.c ?_
 refine AO.nil ?_
 refine SQ.normal ?_
 refine AW.seq' ?_
 refine AW.seq' ?_
 refine AW.ghost (Gh.adoptM 3 52 3) ?_
 refine AW.region ?_
 iterate 7 refine AO.c ?_
 refine AO.nil ?_
 refine SQ.normal ?_
 refine AW.block' ?_
 refine AW.loopU3 [.k, .f, .f, .k, .F, .f, .f, .k, .k, .k, .F, .F, .F, .F, .f, .f, .f, .f, .f, .f, .f] (fun (k j e2 : Nat) => [(3, .own (n + zadd (0 + 1 + 1 + 1 + 1 + 1 + 1 + 1) (zadd lx (0))) e2 0 (namK l P B (dI l l.length) (k)).length), (16, .v (.int .i64 ((k : Int))))]) (fun k j e2 => Hn n (((([z0, z1, some (.map ((P).map (mE kP vP))), some (.map ((B).map (mE kP vI))), some (.map ((U).map (mE kP vI))), some (.box 69 [.rd 5 (l.map objA), .rd 1 ((dropF l l.length).map drA), .rd 3 ((dI l l.length).map defA), .own (n + 6) (ep) 0 (N0).length, .omap (n + 2), .omap (n + 3), .omap (n + 4)]), some (.row 36 14 (ep) ((N0).map nodeA))]) ++ (X ++ [some (.row 52 3 (e2) (((namK l P B (dI l l.length) (k))).map defA))])) ++ List.replicate j none) ++ [])) (fun m k j e2 => k ≤ (dI l l.length).length ∧ m = (dI l l.length).length - k) ((dI l l.length).length) (0) (0) (0) ⟨by omega, by omega⟩ (by first | rfl | (simp; done)) (by simp [namK]) ?_
 rintro m0 k j e2 ⟨hx1, hx2⟩
 refine AW.seq' ?_
 refine AW.region ?_
 refine AO.c ?_
 refine AO.nil ?_
 refine SQ.normal ?_
 refine AW.seq' ?_
 refine AW.iteB (GL.ev _) (fun h0 => ?_) (fun h0 => ?_)
 ·
  rw [decide_eq_true_eq] at h0
  have hk2 : k < (dI l l.length).length := by omega
  have hnl := namK_len l P B (dI l l.length) k
  refine AW.skip ?_
  refine SQ.normal ?_
  refine AW.seq' ?_
  refine AW.block' ?_
  refine AW.seq' ?_
  refine AW.region ?_
  refine AO.oo ?_
  refine AO.c ?_
  refine AO.ww ?_
  refine AO.sst ?_
  refine AO.nil ?_
  refine SQ.normal ?_
  refine AW.seq' ?_
  apply AW.mid
  case h =>
   refine AW.drawsZ [17] (.one 0 false (.one 1 false (.one 2 false (.one 3 false (.one 4 false (.one 5 false (.one 6 false (.one 7 false (.one 8 false (.one 9 false (.one 10 false (.one 11 false (.two 12 16 (.one 13 false (.one 14 false (.pur 15 (.one 16 true (.one 17 true (.one 18 false .nil)))))) (.one 12 true (.one 13 false (.one 14 false (.pur 15 (.one 17 true (.one 18 false .nil))))))))))))))))))) (by kernel_rfl) rfl (by kernel_rfl) ?_
   iterate 12 refine AZ.c rfl ?_
   refine AZ.two ?_ ?_
   · refine AZi.call1 rfl Try.func23 rfl rfl (names_Where l ⟨dropF l l.length, dI l l.length⟩ ((dI l l.length).getD k default).obj ((dI l l.length).getD k default).sym hT) ?_
     iterate 2 refine AZ.c rfl ?_
     refine AZ.p rfl ?_
     refine AZ.mkk rfl ?_
     refine AZ.sst rfl rfl ?_
     refine AZ.c rfl ?_
     exact AZ.done ⟨rfl, rfl⟩
   · refine AZi.mkk rfl ?_
     refine AZ.call1 rfl Try.func23 rfl rfl (names_Where l ⟨dropF l l.length, dI l l.length⟩ ((dI l l.length).getD k default).obj ((dI l l.length).getD k default).sym hT) ?_
     iterate 2 refine AZ.c rfl ?_
     refine AZ.p rfl ?_
     refine AZ.sst rfl rfl ?_
     refine AZ.c rfl ?_
     exact AZ.done ⟨rfl, rfl⟩
  refine SQ.normal ?_
  refine AW.seq' ?_
  refine AW.seq' ?_
  refine AW.region ?_
  iterate 2 refine AO.c ?_
  refine AO.nil ?_
  refine SQ.normal ?_
  refine AW.iteB (GL.ev _) (fun h1 => ?_) (fun h1 => ?_)
  ·
   rw [decide_eq_true_eq] at h1
   have hst : (namK l P B (dI l l.length) (k + 1)) = (namK l P B (dI l l.length) (k)) := by rw [namK, if_neg (fun c => h1 c.1)]
   refine AW.exit ?_
   refine SQ.exit <| BQ.exit ?_
   refine SQ.normal ?_
   refine AW.region ?_
   refine AO.oo ?_
   refine AO.c ?_
   refine AO.nil ?_
   exact AW.backE [.k, .f, .f, .k, .F, .f, .f, .k, .k, .k, .F, .F, .F, .F, .f, .f, .f, .f, .f, .f, .f] (j) (m0 - 1) (k + 1, j + 2, e2) (by omega) (by (try dsimp only); exact ⟨by omega, by omega⟩) (by first | ((try dsimp only); rw [hst]; done) | ((try dsimp only); rw [hst]; rfl)) (by first | ((try dsimp only); rw [hst]; done) | ((try dsimp only); rw [hst]; rfl))
  ·
   rw [decide_eq_false_iff_not, ne_eq, Decidable.not_not] at h1
   refine AW.skip ?_
   refine SQ.normal ?_
   refine AW.seq' ?_
   refine AW.region ?_
   iterate 2 refine AO.c ?_
   refine AO.callL (H2 := Hn n (((([z0, z1, some (.map ((P).map (mE kP vP))), some (.map ((B).map (mE kP vI))), some (.map ((U).map (mE kP vI))), some (.box 69 [.rd 5 (l.map objA), .rd 1 ((dropF l l.length).map drA), .rd 3 ((dI l l.length).map defA), .own (n + 6) (ep) 0 (N0).length, .omap (n + 2), .omap (n + 3), .omap (n + 4)]), some (.row 36 14 (ep) ((N0).map nodeA))]) ++ (X ++ [some (.row 52 3 (e2) (((namK l P B (dI l l.length) (k))).map defA))])) ++ List.replicate j none) ++ ([some (.box 82 (defA ((dI l l.length).getD k default))), some (.box 90 (plcA (whereF l ⟨dropF l l.length, dI l l.length⟩ ((dI l l.length).getD k default).obj ((dI l l.length).getD k default).sym).1))] ++ [none, none]))) Try.func24 rfl rfl (AC.cong (graph_node n z0 z1 l ((dropF l l.length).map drA) ((dI l l.length).map defA) N0 P B U ep (X ++ [some (.row 52 3 (e2) (((namK l P B (dI l l.length) (k))).map defA))] ++ List.replicate j none ++ [some (.box 82 (defA ((dI l l.length).getD k default))), some (.box 90 (plcA (whereF l ⟨dropF l l.length, dI l l.length⟩ ((dI l l.length).getD k default).obj ((dI l l.length).getD k default).sym).1))]) (whereF l ⟨dropF l l.length, dI l l.length⟩ ((dI l l.length).getD k default).obj ((dI l l.length).getD k default).sym).1 (whereF_i64 hk _ _ _) hm) (by simp) (fun r H' h => ⟨h.1, h.2.trans (by simp)⟩)) ?_
   iterate 5 refine AO.c ?_
   refine AO.nil ?_
   refine SQ.normal ?_
   refine AW.seq' ?_
   refine AW.region ?_
   iterate 2 refine AO.c ?_
   refine AO.nil ?_
   refine SQ.normal ?_
   refine AW.iteB (GL.ev _) (fun h2 => ?_) (fun h2 => ?_)
   ·
    rw [decide_eq_true_eq] at h2
    have hsn := nam_snoc (show (namK l P B (dI l l.length) (k + 1)) = (namK l P B (dI l l.length) (k)) ++ [⟨((dI l l.length).getD k default).name, (nodeP P B (whereF l ⟨dropF l l.length, dI l l.length⟩ ((dI l l.length).getD k default).obj ((dI l l.length).getD k default).sym).1).1, (nodeP P B (whereF l ⟨dropF l l.length, dI l l.length⟩ ((dI l l.length).getD k default).obj ((dI l l.length).getD k default).sym).1).2⟩] by rw [namK, if_pos ⟨h1, h2⟩])
    refine AW.region ?_
    iterate 6 refine AO.c ?_
    refine AO.rr ?_
    refine AO.ww ?_
    refine AO.c ?_
    refine AO.nil ?_
    refine BQ.normal ?_
    refine SQ.normal ?_
    refine AW.region ?_
    refine AO.oo ?_
    refine AO.c ?_
    refine AO.nil ?_
    exact AW.backE [.k, .f, .f, .k, .F, .f, .f, .k, .k, .k, .F, .F, .F, .F, .f, .f, .f, .f, .f, .f, .f] (j) (m0 - 1) (k + 1, j + 4, e2 + 1) (by omega) (by (try dsimp only); exact ⟨by omega, by omega⟩) (by first | ((try dsimp only); rw [hsn.2]; done) | ((try dsimp only); rw [hsn.2]; rfl)) (by first | ((try dsimp only); rw [hsn.1]; done) | ((try dsimp only); rw [hsn.1]; rfl))
   ·
    rw [decide_eq_false_iff_not] at h2
    have hst : (namK l P B (dI l l.length) (k + 1)) = (namK l P B (dI l l.length) (k)) := by rw [namK, if_neg (fun c => h2 c.2)]
    refine AW.skip ?_
    refine BQ.normal ?_
    refine SQ.normal ?_
    refine AW.region ?_
    refine AO.oo ?_
    refine AO.c ?_
    refine AO.nil ?_
    exact AW.backE [.k, .f, .f, .k, .F, .f, .f, .k, .k, .k, .F, .F, .F, .F, .f, .f, .f, .f, .f, .f, .f] (j) (m0 - 1) (k + 1, j + 4, e2) (by omega) (by (try dsimp only); exact ⟨by omega, by omega⟩) (by first | ((try dsimp only); rw [hst]; done) | ((try dsimp only); rw [hst]; rfl)) (by first | ((try dsimp only); rw [hst]; done) | ((try dsimp only); rw [hst]; rfl))
 ·
  rw [decide_eq_false_iff_not] at h0
  have hk2 : k = (dI l l.length).length := by omega
  subst hk2
  refine AW.exit ?_
  refine SQ.exit <| AW.out <| LU.exit <| BQ.exit ?_
  refine SQ.normal ?_
  refine AW.seq' ?_
  have hnl := namK_len l P B (dI l l.length) (dI l l.length).length
  refine AW.ghost (Gh.freezeM 3 defA (namK l P B (dI l l.length) ((dI l l.length).length)) rfl rfl (by omega)) ?_
  refine AW.region ?_
  iterate 2 refine AO.c ?_
  refine AO.nil ?_
  refine SQ.normal ?_
  refine AW.ret ?_
  refine FinC.ret (Gh.trans (Gh.refl) Gh.dropZ) ⟨_, ?_, rfl⟩ (.inr rfl)
  rfl
end Go.Proofs.Ytiomdnmicagdcaa.AL
namespace Go.Proofs.Ytiomdnmicagdcaa.AL
open Go Go.RowKit Go.Proofs.Ytiomdnmicagdcaa.Base
set_option linter.unusedVariables false
set_option linter.unusedSimpArgs false
set_option maxRecDepth 4000
set_option synthInstance.maxSize 1000
set_option synthInstance.maxHeartbeats 200000
theorem flags_nonneg {n : Int} (h : flagsB n = true) : 0 ≤ n := by
 unfold flagsB at h
 rw [decide_eq_true_eq] at h
 rcases Int.lt_or_le n 0 with hn | hn
 · have : ∀ l : List Int, l.foldl flagStep n = n := by
    intro l
    induction l with
    | nil => rfl
    | cons a l ih => rw [List.foldl_cons, show flagStep n a = n by unfold flagStep; rw [if_neg (by omega)]]; exact ih
   rw [this] at h; omega
 · exact hn
structure Kinds (s : SecD) : Prop where
 fl : 0 ≤ s.flags
 sz : 0 ≤ s.size ∧ s.size ≤ 2147483647
 ent : 0 ≤ s.ent ∧ s.ent ≤ 16
 mrg : hasF s.flags 16 = true → s.size = s.data.length ∧ (hasF s.flags 32 = true → s.ent = 1 ∧ (s.data.length = 0 ∨ s.data.getD (s.data.length - 1) 0 = 0)) ∧ (hasF s.flags 32 = false → (s.ent = 4 ∨ s.ent = 8 ∨ s.ent = 16) ∧ s.size % s.ent = 0)
 nos : hasF s.flags 16 = false → s.ent = 0 ∧ hasF s.flags 32 = false
theorem kind_facts {s : SecD} (h : kindB s = true) : Kinds s := by
 unfold kindB at h
 cases h0 : (!flagsB s.flags || !alignB s.align || (hasF s.flags 1 && hasF s.flags 4)) with
 | true => rw [h0] at h; cases h
 | false =>
  rw [h0] at h
  simp only [cond_false] at h
  simp only [Bool.or_eq_false_iff, Bool.not_eq_false'] at h0
  have hfl := flags_nonneg h0.1.1
  cases h1 : (decide (s.typ = 1) && (decide (s.size ≠ s.data.length) || decide (s.size > 16384))) with
  | true => rw [h1] at h; cases h
  | false =>
   rw [h1] at h
   simp only [cond_false] at h
   cases h2 : (decide (s.typ = 8) && (decide ((s.data.length : Int) > 0) || decide (s.size < 0) || decide (s.size > 2147483647) || !hasF s.flags 1 || hasF s.flags 16)) with
   | true => rw [h2] at h; cases h
   | false =>
    rw [h2] at h
    simp only [cond_false] at h
    cases h3 : (decide (s.typ ≠ 1) && decide (s.typ ≠ 8)) with
    | true => rw [h3] at h; cases h
    | false =>
     rw [h3] at h
     simp only [cond_false] at h
     simp only [Bool.and_eq_false_iff, Bool.or_eq_false_iff, decide_eq_false_iff_not, Bool.not_eq_false'] at h1 h2 h3
     cases h4 : hasF s.flags 16 with
     | false =>
      rw [h4] at h
      simp only [Bool.not_false, cond_true, Bool.and_eq_true, decide_eq_true_eq, Bool.not_eq_true'] at h
      exact ⟨hfl, by omega, by omega, fun h => (by rw [h4] at h; cases h), fun _ => h⟩
     | true =>
      rw [h4] at h h2
      simp only [Bool.not_true, cond_false] at h
      have ht : s.typ = 1 := by
       rcases h2 with h2 | h2
       · omega
       · exact absurd h2.2 (by simp)
      have hsz : s.size = s.data.length := by omega
      cases h5 : (hasF s.flags 1 || hasF s.flags 4 || decide ((s.rels.length : Int) > 0)) with
      | true => rw [h5] at h; cases h
      | false =>
       rw [h5] at h
       simp only [cond_false] at h
       cases h6 : hasF s.flags 32 with
       | true =>
        rw [h6] at h
        simp only [cond_true, Bool.and_eq_true, Bool.or_eq_true, decide_eq_true_eq] at h
        refine ⟨hfl, by omega, by omega, fun _ => ⟨hsz, fun _ => ⟨h.1.1, ?_⟩, fun hh => (by rw [h6] at hh; cases hh)⟩, fun hh => (by rw [h4] at hh; cases hh)⟩
        rcases h.2 with h7 | h7
        · exact .inl (by omega)
        · rw [show ((s.data.length : Int) - 1).toNat = s.data.length - 1 by omega] at h7
          exact .inr h7
       | false =>
        rw [h6] at h
        simp only [cond_false, Bool.and_eq_true, Bool.or_eq_true, decide_eq_true_eq] at h
        refine ⟨hfl, by omega, by omega, fun _ => ⟨hsz, fun hh => (by rw [h6] at hh; cases hh), fun _ => ⟨by omega, h.2⟩⟩, fun hh => (by rw [h4] at hh; cases hh)⟩
theorem splitZ_R : ∀ (l : List Int) (a i e : Int), splitZ a i l = splitR true e a i l := by
 intro l
 induction l with
 | nil => intro a i e; rfl
 | cons x l ih => intro a i e; rw [splitZ, splitR]; simp only [if_true]; split <;> rw [ih _ _ e]
theorem splitE_R {e : Int} (he : 0 < e) {len : Int} : ∀ (l : List Int) (a i : Int) (k : Nat), a ≤ i → i < a + e → i + l.length = len → len - a ≤ k → splitE e len k a = splitR false e a i l := by
 intro l
 induction l with
 | nil =>
  intro a i k h1 h2 h3 h4
  rw [splitR]
  cases k with
  | zero => rfl
  | succ k => rw [splitE, if_neg (by simp at h3; omega)]
 | cons x l ih =>
  intro a i k h1 h2 h3 h4
  rw [splitR]
  simp only [Bool.false_eq_true, if_false]
  simp only [List.length_cons] at h3
  by_cases h : i + 1 - a = e
  · rw [if_pos h]
    obtain ⟨k, rfl⟩ : ∃ k', k = k' + 1 := ⟨k - 1, by omega⟩
    rw [splitE, if_pos (by omega), show a + e = i + 1 by omega, ih (i + 1) (i + 1) k (by omega) (by omega) (by omega) (by omega), h]
  · rw [if_neg h]
    exact ih a (i + 1) k (by omega) (by omega) (by omega) h4
theorem split_same {s : SecD} (hk : Kinds s) : splitB s = splitRB s := by
 unfold splitB splitRB
 cases h : hasF s.flags 16 with
 | false => rfl
 | true =>
  simp only [Bool.true_eq_false, if_false]
  obtain ⟨h1, h2, h3⟩ := hk.mrg h
  cases h5 : hasF s.flags 32 with
  | true => simp only [if_true]; exact splitZ_R _ _ _ _
  | false =>
   simp only [Bool.false_eq_true, if_false]
   have := h3 h5
   rw [if_pos (by omega)]
   exact splitE_R (by omega) _ _ _ _ (by omega) (by omega) (by omega) (by omega)
/-- One behind the other. -/
def Cont : Int → List (Int × Int) → Prop
 | _, [] => True
 | a, p :: ps => p.1 = a ∧ 0 ≤ p.2 ∧ Cont (a + p.2) ps
theorem splitR_cont {str : Bool} {e : Int} : ∀ (l : List Int) (a i : Int), a ≤ i → Cont a (splitR str e a i l) ∧ ∀ p ∈ splitR str e a i l, a ≤ p.1 ∧ 0 ≤ p.2 ∧ p.1 + p.2 ≤ i + l.length := by
 intro l
 induction l with
 | nil => intro a i _; exact ⟨trivial, fun p h => by cases h⟩
 | cons x l ih =>
  intro a i h
  rw [splitR]
  simp only [List.length_cons]
  by_cases hq : (if str = true then x = 0 else i + 1 - a = e)
  · rw [if_pos hq]
    obtain ⟨h1, h2⟩ := ih (i + 1) (i + 1) (Int.le_refl _)
    refine ⟨⟨rfl, by show 0 ≤ i + 1 - a; omega, by show Cont (a + (i + 1 - a)) _; rw [show a + (i + 1 - a) = i + 1 by omega]; exact h1⟩, fun p hp => ?_⟩
    rcases List.mem_cons.1 hp with rfl | hp
    · exact ⟨Int.le_refl _, by show 0 ≤ i + 1 - a; omega, by show a + (i + 1 - a) ≤ _; omega⟩
    · have := h2 p hp; omega
  · rw [if_neg hq]
    obtain ⟨h1, h2⟩ := ih a (i + 1) (by omega)
    exact ⟨h1, fun p hp => by have := h2 p hp; omega⟩
theorem splitR_len {str : Bool} {e : Int} : ∀ (l : List Int) (a i : Int), (splitR str e a i l).length ≤ l.length := by
 intro l
 induction l with
 | nil => intro a i; exact Nat.le_refl _
 | cons x l ih =>
  intro a i
  rw [splitR]
  have h1 := ih (i + 1) (i + 1)
  have h2 := ih a (i + 1)
  by_cases hq : (if str = true then x = 0 else i + 1 - a = e)
  · rw [if_pos hq]; simp only [List.length_cons]; omega
  · rw [if_neg hq]; simp only [List.length_cons]; omega
theorem split_cont {s : SecD} (hk : Kinds s) (hd : s.data.length ≤ 1000000) : Cont 0 (splitRB s) ∧ PcOk (splitRB s) := by
 unfold splitRB
 cases h : hasF s.flags 16 with
 | false =>
  simp only [if_true]
  have := hk.sz
  exact ⟨⟨rfl, hk.sz.1, trivial⟩, by simp, fun p hp => by obtain rfl := List.mem_singleton.1 hp; show 0 ≤ (0 : Int) ∧ (0 : Int) ≤ _ ∧ 0 ≤ s.size ∧ s.size ≤ _; omega⟩
 | true =>
  simp only [Bool.true_eq_false, if_false]
  obtain ⟨h1, h2⟩ := splitR_cont (str := hasF s.flags 32) (e := s.ent) s.data 0 0 (Int.le_refl _)
  exact ⟨h1, by have := splitR_len (str := hasF s.flags 32) (e := s.ent) s.data 0 0; omega, fun p hp => by have := h2 p hp; omega⟩
def tot (l : List (Int × Int)) : Int := (l.map (·.2)).sum
theorem tot_cons (p : Int × Int) (l : List (Int × Int)) : tot (p :: l) = p.2 + tot l := by simp [tot]
theorem tot_nonneg : ∀ (l : List (Int × Int)) (a : Int), Cont a l → 0 ≤ tot l := by
 intro l
 induction l with
 | nil => intro a _; simp [tot]
 | cons p l ih => intro a h; rw [tot_cons]; have := ih _ h.2.2; have := h.2.1; omega
theorem tot_take {l : List (Int × Int)} {i : Nat} (h : i < l.length) : tot (l.take (i + 1)) = tot (l.take i) + (l.getD i default).2 := by
 unfold tot
 rw [List.take_add_one, List.map_append, List.sum_append]
 simp [h]
theorem cont_at : ∀ (l : List (Int × Int)) (a : Int) (i : Nat), Cont a l → i < l.length → (l.getD i default).1 = a + tot (l.take i) ∧ 0 ≤ (l.getD i default).2 ∧ tot (l.take i) + (l.getD i default).2 ≤ tot l := by
 intro l
 induction l with
 | nil => intro a i _ h; simp at h
 | cons p l ih =>
  intro a i hc h
  obtain ⟨h1, h2, h3⟩ := hc
  have hn := tot_nonneg l _ h3
  cases i with
  | zero => rw [tot_cons]; simp [tot] at hn ⊢; omega
  | succ i =>
   have := ih _ i h3 (by simpa using h)
   rw [List.take_succ_cons, tot_cons, tot_cons]
   simp only [List.getD_cons_succ]
   omega
theorem tot_str {e : Int} : ∀ (l : List Int) (a i : Int), (l ≠ [] → l.getD (l.length - 1) 1 = 0) → tot (splitR true e a i l) = if l = [] then 0 else i + l.length - a := by
 intro l
 induction l with
 | nil => intro a i _; rfl
 | cons x l ih =>
  intro a i h
  have h := h (by simp)
  rw [splitR, if_neg (List.cons_ne_nil x l)]
  simp only [if_true, List.length_cons]
  cases l with
  | nil =>
   simp at h
   rw [if_pos h]; simp [tot, splitR]
  | cons y l =>
   have hl : (y :: l).getD ((y :: l).length - 1) 1 = 0 := by simpa using h
   have h1 := ih (i + 1) (i + 1) fun _ => hl
   have h2 := ih a (i + 1) fun _ => hl
   rw [if_neg (by simp)] at h1 h2
   by_cases hx : x = 0
   · rw [if_pos hx, tot_cons, h1]; simp only [List.length_cons] at *; omega
   · rw [if_neg hx, h2]; simp only [List.length_cons] at *; omega
theorem tot_fix {e : Int} (he : 0 < e) : ∀ (l : List Int) (a i : Int), a ≤ i → i < a + e → (i + l.length - a) % e = 0 → tot (splitR false e a i l) = i + l.length - a := by
 intro l
 induction l with
 | nil =>
  intro a i h1 h2 h3
  simp at h3
  have : i - a = 0 := by
   have := Int.emod_eq_of_lt (a := i - a) (b := e) (by omega) (by omega)
   rw [this] at h3; exact h3
  simp [splitR, tot]; omega
 | cons x l ih =>
  intro a i h1 h2 h3
  rw [splitR]
  simp only [Bool.false_eq_true, if_false, List.length_cons] at h3 ⊢
  by_cases h : i + 1 - a = e
  · rw [if_pos h, tot_cons, ih (i + 1) (i + 1) (by omega) (by omega)]
    · push_cast; omega
    · rw [show i + ((l.length + 1 : Nat) : Int) - a = (i + 1 + l.length - (i + 1)) + e by push_cast; omega, Int.add_emod_right] at h3
      exact h3
  · rw [if_neg h, ih a (i + 1) (by omega) (by omega)]
    · push_cast; omega
    · rw [show i + ((l.length + 1 : Nat) : Int) - a = i + 1 + l.length - a by push_cast; omega] at h3; exact h3
theorem split_tot {s : SecD} (hk : Kinds s) : tot (splitRB s) = s.size := by
 unfold splitRB
 cases h : hasF s.flags 16 with
 | false => simp [tot]
 | true =>
  simp only [Bool.true_eq_false, if_false]
  obtain ⟨h1, h2, h3⟩ := hk.mrg h
  cases h5 : hasF s.flags 32 with
  | true =>
   obtain ⟨_, h6⟩ := h2 h5
   rw [tot_str _ 0 0 (fun hne => ?_)]
   · split
     · rename_i h7; rw [h1, h7]; rfl
     · rw [h1]; omega
   · rcases h6 with h6 | h6
     · exact absurd (List.length_eq_zero_iff.1 h6) hne
     · have hlt : s.data.length - 1 < s.data.length := by have := List.length_pos_iff.2 hne; omega
       rw [List.getD_eq_getElem?_getD, List.getElem?_eq_getElem hlt] at h6 ⊢
       exact h6
  | false =>
   have := h3 h5
   rw [tot_fix (by omega) _ 0 0 (by omega) (by omega) (by rw [show (0 : Int) + s.data.length - 0 = s.size by omega]; exact this.2)]
   omega
theorem bif_t {c : Bool} {x : Bool} (h : (bif c then false else x) = true) : c = false ∧ x = true := by cases c <;> simp_all
/-- More on the kinds of sections that may be. -/
structure Kinds2 (s : SecD) : Prop where
 ty : s.typ = 1 ∨ s.typ = 8
 p1 : s.typ = 1 → s.size = s.data.length
 p8 : s.typ = 8 → s.data.length = 0 ∧ hasF s.flags 16 = false
 rl : hasF s.flags 16 = true → s.rels.length = 0
theorem kind_more {s : SecD} (h : kindB s = true) : Kinds2 s := by
 unfold kindB at h
 obtain ⟨h0, h⟩ := bif_t h
 obtain ⟨h1, h⟩ := bif_t h
 obtain ⟨h2, h⟩ := bif_t h
 obtain ⟨h3, h⟩ := bif_t h
 simp only [Bool.and_eq_false_iff, Bool.or_eq_false_iff, decide_eq_false_iff_not, Bool.not_eq_false'] at h1 h2 h3
 refine ⟨by omega, fun ht => by omega, fun ht => ?_, fun hf => ?_⟩
 · rcases h2 with h2 | h2
   · omega
   · exact ⟨by omega, h2.2⟩
 · rw [hf] at h
   simp only [Bool.not_true, cond_false] at h
   obtain ⟨h4, _⟩ := bif_t h
   simp only [Bool.or_eq_false_iff, decide_eq_false_iff_not] at h4
   omega
theorem sec_kind {o : ObjD} (h : shapeB o = true) {k : Nat} (hk : k < o.secs.length) : kindB (o.secs.getD k default) = true ∧ relsB o (o.secs.getD k default) = true := by
 have h1 := (shape_parts h).2.2.1 k hk
 unfold sectionB at h1
 rw [show ((k : Int) + 1 - 1).toNat = k by omega] at h1
 obtain ⟨h2, _⟩ := bif_t h1
 simp only [Bool.or_eq_false_iff, Bool.not_eq_false'] at h2
 exact ⟨h2.1.2, h2.2⟩
theorem may_shape {l : List ObjD} (hm : AllMay l) {i : Nat} (hi : i < l.length) : shapeB (l.getD i default) = true := by
 have := hm.2 _ (getD_in hi)
 unfold mayP at this
 simp only [Bool.and_eq_true] at this
 exact this.1
theorem sec_split {s : SecD} (hk : kindB s = true) (hd : s.data.length ≤ 20000) : Cont 0 (splitB s) ∧ PcOk (splitB s) ∧ (splitB s).length ≤ 20001 ∧ (s.typ = 1 → ∀ p ∈ splitB s, 0 ≤ p.1 ∧ 0 ≤ p.2 ∧ p.1 + p.2 ≤ s.data.length) := by
 have K := kind_facts hk
 have K2 := kind_more hk
 rw [split_same K]
 obtain ⟨h1, h2⟩ := split_cont K (by omega)
 refine ⟨h1, h2, ?_, fun ht => ?_⟩
 · unfold splitRB
   split
   · show 1 ≤ _; omega
   · have := splitR_len (str := hasF s.flags 32) (e := s.ent) s.data 0 0; omega
 · unfold splitRB
   split
   · intro p hp
     obtain rfl := List.mem_singleton.1 hp
     have := K2.p1 ht
     have := K.sz
     show 0 ≤ (0 : Int) ∧ 0 ≤ s.size ∧ 0 + s.size ≤ _
     omega
   · intro p hp
     have := (splitR_cont (str := hasF s.flags 32) (e := s.ent) s.data 0 0 (Int.le_refl _)).2 p hp
     omega
theorem graph_w {l : List ObjD} (hok : ∀ o ∈ l, o.ok) (hf : fewB l = true) (hm : AllMay l) : GraphW l := by
 have hk := few_lok hok hf
 obtain ⟨f1, f2, f3⟩ := few_W hf
 refine ⟨may_res hk hm, fun i hi => ((f2 _ (getD_in hi)).len).2.2.1, fun i k hi hk2 => ?_⟩
 have hW := (f2 _ (getD_in hi)).sec _ (getD_in hk2)
 have hkd := (sec_kind (may_shape hm hi) hk2).1
 have K := kind_facts hkd
 have h := sec_split hkd hW.1
 exact ⟨(hok _ (getD_in hi)).2.1 _ (getD_in hk2), K.fl, by have := K.ent; omega, hW.1, h.2.2.1, h.2.2.2⟩
/-- What a node is of. -/
def NodeOf (l : List ObjD) (x : NodeD) : Prop := ∃ i k, i < l.length ∧ k < (l.getD i default).secs.length ∧ keptB l i k = true ∧ ∃ p ∈ splitB ((l.getD i default).secs.getD k default), x = secNd i ((k : Int) + 1) ((l.getD i default).secs.getD k default) (sG l i k) p
theorem secK_of {l : List ObjD} {i : Nat} (hi : i < l.length) {st : SecSt} (h : ∀ x ∈ st.nodes, NodeOf l x) : ∀ k, k ≤ (l.getD i default).secs.length → ∀ x ∈ (secK l i st k).nodes, NodeOf l x := by
 intro k
 induction k with
 | zero => intro _; exact h
 | succ k ih =>
  intro hk x hx
  rw [secK] at hx
  split at hx
  · rename_i hc
    rcases List.mem_append.1 hx with hx | hx
    · exact ih (by omega) x hx
    · obtain ⟨p, hp, rfl⟩ := List.mem_map.1 hx
      exact ⟨i, k, hi, by omega, hc, p, hp, rfl⟩
  · exact ih (by omega) x hx
theorem secI_of {l : List ObjD} : ∀ i, i ≤ l.length → ∀ x ∈ (secI l i).nodes, NodeOf l x := by
 intro i
 induction i with
 | zero => intro _ x hx; cases hx
 | succ i ih => intro hi; exact secK_of (by omega) (ih (by omega)) _ (Nat.le_refl _)
structure MapI (l : List ObjD) (st : SecSt) : Prop where
 pc : ∀ k ps, aget st.pcs k = some ps → PcOk ps
 bg : ∀ k v, aget st.bg k = some v → 0 ≤ v ∧ v ≤ st.nodes.length
theorem mapI_step {l : List ObjD} {st : SecSt} (h : MapI l st) {o k g : Int} {s : SecD} (hs : PcOk (splitB s)) : MapI l (secStep st o k s g) := by
 unfold secStep
 refine ⟨fun q ps hq => ?_, fun q v hq => ?_⟩
 · have hq : aget (aput st.pcs (o, k) (splitB s)) q = some ps := hq
   rw [aget_aput] at hq
   by_cases e : (o, k) = q
   · rw [if_pos e] at hq; obtain rfl := Option.some.inj hq; exact hs
   · rw [if_neg e] at hq; exact h.pc q ps hq
 · have hq : aget (aput st.bg (o, k) (st.nodes.length : Int)) q = some v := hq
   rw [aget_aput] at hq
   show 0 ≤ v ∧ v ≤ ((st.nodes ++ (splitB s).map (secNd o k s g)).length : Int)
   rw [List.length_append]
   by_cases e : (o, k) = q
   · rw [if_pos e] at hq; obtain rfl := Option.some.inj hq; omega
   · rw [if_neg e] at hq
     have := h.bg q v hq
     omega
theorem secI_map {l : List ObjD} (hm : AllMay l) (hd : ∀ i k, i < l.length → k < (l.getD i default).secs.length → ((l.getD i default).secs.getD k default).data.length ≤ 20000) : ∀ i, i ≤ l.length → MapI l (secI l i) := by
 intro i
 induction i with
 | zero => intro _; exact ⟨fun k ps h => (by cases h), fun k v h => (by cases h)⟩
 | succ i ih =>
  intro hi
  have key : ∀ k, k ≤ (l.getD i default).secs.length → MapI l (secK l i (secI l i) k) := by
   intro k
   induction k with
   | zero => intro _; exact ih (by omega)
   | succ k ihk =>
    intro hk
    rw [secK]
    split
    · exact mapI_step (ihk (by omega)) (sec_split (sec_kind (may_shape hm (by omega)) (by omega)).1 (hd i k (by omega) (by omega))).2.1
    · exact ihk (by omega)
  exact key _ (Nat.le_refl _)
theorem map_g {l : List ObjD} (hm : AllMay l) (hw : GraphW l) : MapG (secI l l.length).pcs (secI l l.length).bg := by
 have h := secI_map hm (fun i k hi hk => (hw.sec i k hi hk).dat) l.length (Nat.le_refl _)
 have h2 := secI_len hw l.length (Nat.le_refl _)
 have h3 := hw.rw_.len
 exact ⟨h.pc, fun k v hq => by have := h.bg k v hq; omega⟩
/-- The nodes, without edges. -/
def ndA (l : List ObjD) : List NodeD := (secI l l.length).nodes.map (mrkN (uqI l l.length))
def edX (l : List ObjD) (x : NodeD) : List EdgeD × Int := edgF l (secI l l.length).pcs (secI l l.length).bg x
def setE (l : List ObjD) (x : NodeD) : NodeD := { x with edges := (edX l x).1 }
/-- The first nodes have their edges. -/
def edT (l : List ObjD) (i : Nat) : List NodeD := ((ndA l).take i).map (setE l) ++ (ndA l).drop i
def grE (l : List ObjD) : Int := firE (fun x => (edX l x).2) (ndA l)
def grN (l : List ObjD) : List DefD := namK l (secI l l.length).pcs (secI l l.length).bg (dI l l.length) (dI l l.length).length
structure GraphD where
 nodes : List NodeD
 to : Int
 at_ : Int
 names : List DefD
 deriving Inhabited
@[reducible] def graphA (g : GraphD) : List AV := [.rd 14 (g.nodes.map nodeA), .v (.int .i64 g.to), .v (.int .i64 g.at_), .rd 3 (g.names.map defA)]
def zGr : GraphD := ⟨[], 0, 0, []⟩
/-- The graph, and what is amiss. -/
def grF (l : List ObjD) (e : ByteArray) : GraphD × Int :=
 if resE l ≠ 0 then (zGr, resE l)
 else if grE l ≠ 0 then (zGr, grE l)
 else match (grN l).find? (fun d => decide (d.name = e)) with
  | none => (zGr, 5)
  | some d => (⟨(ndA l).map (setE l), d.obj, d.sym, grN l⟩, 0)
theorem edT_len (l : List ObjD) (i : Nat) : (edT l i).length = (ndA l).length := by unfold edT; simp; omega
theorem edT_get {l : List ObjD} {i : Nat} (h : i < (ndA l).length) : (edT l i)[i]? = some ((ndA l).getD i default) := by
 unfold edT
 rw [List.getElem?_append_right (by simp; omega), List.length_map, List.length_take, Nat.min_eq_left (by omega), Nat.sub_self, drop_getD h]; rfl
theorem edT_set {l : List ObjD} {i : Nat} (h : i < (ndA l).length) : (edT l i).set i (setE l ((ndA l).getD i default)) = edT l (i + 1) := by
 unfold edT
 rw [map_take_succ _ h, List.set_append_right _ _ (by simp; omega), List.length_map, List.length_take, Nat.min_eq_left (by omega), Nat.sub_self, drop_getD h, List.append_assoc]; rfl
theorem edT_at {l : List ObjD} {i : Nat} (h : i < (ndA l).length) : ((edT l i).map nodeA)[i]? = some (nodeA ((ndA l).getD i default)) := by
 rw [List.getElem?_map, edT_get h]; rfl
theorem edT_row {l : List ObjD} {i : Nat} (h : i < (ndA l).length) : ((edT l i).map nodeA).set i (layAt (((edT l i).map nodeA).getD i []) 10 [.rd 5 ((edX l ((ndA l).getD i default)).1.map edgeA)]) = (edT l (i + 1)).map nodeA := by
 rw [← edT_set h, List.map_set, List.getD_eq_getElem?_getD, edT_at h]
 rfl
theorem edT_all (l : List ObjD) : edT l (ndA l).length = (ndA l).map (setE l) := by unfold edT; simp
theorem ndA_of {l : List ObjD} {x : NodeD} (hx : x ∈ ndA l) : ∃ y, NodeOf l y ∧ x = mrkN (uqI l l.length) y := by
 unfold ndA at hx
 obtain ⟨y, hy, rfl⟩ := List.mem_map.1 hx
 exact ⟨y, secI_of l.length (Nat.le_refl _) y hy, rfl⟩
theorem ndA_rng {l : List ObjD} (hw : GraphW l) (hr : ∀ i k, i < l.length → k < (l.getD i default).secs.length → ((l.getD i default).secs.getD k default).rels.length ≤ 1000000) {x : NodeD} (hx : x ∈ ndA l) : (0 ≤ x.obj ∧ x.obj < l.length) ∧ (1 ≤ x.sec ∧ x.sec ≤ (l.getD x.obj.toNat default).secs.length) ∧ (relsX l x).length ≤ 1000000 := by
 obtain ⟨y, ⟨i, k, hi, hk, _, p, hp, rfl⟩, rfl⟩ := ndA_of hx
 have e1 : (mrkN (uqI l l.length) (secNd (i : Int) ((k : Int) + 1) ((l.getD i default).secs.getD k default) (sG l i k) p)).obj = (i : Int) := rfl
 have e2 : (mrkN (uqI l l.length) (secNd (i : Int) ((k : Int) + 1) ((l.getD i default).secs.getD k default) (sG l i k) p)).sec = (k : Int) + 1 := rfl
 refine ⟨by rw [e1]; omega, by rw [e2, e1, Int.toNat_natCast]; omega, ?_⟩
 unfold relsX
 rw [e1, e2, Int.toNat_natCast, show ((k : Int) + 1 - 1).toNat = k by omega]
 exact hr i k hi hk
theorem nodes_flags {l : List ObjD} (hw : GraphW l) : ∀ x ∈ (secI l l.length).nodes, 0 ≤ x.flags ∧ x.flags ≤ 9223372036854775807 := by
 intro x hx
 obtain ⟨i, k, hi, hk, _, p, hp, rfl⟩ := secI_of l.length (Nat.le_refl _) x hx
 have h := hw.sec i k hi hk
 exact ⟨h.fl, h.ok.2.2.1.2⟩
end Go.Proofs.Ytiomdnmicagdcaa.AL
