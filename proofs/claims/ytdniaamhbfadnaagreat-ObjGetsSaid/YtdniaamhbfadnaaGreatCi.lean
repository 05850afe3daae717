/- A part of the proof: rules of an own logic over blocks, and what functions of the program compute, each by its own contract; the conditions stand with each. -/
import Derived.Test.YtdniaamhbfadnaaGreatCh
import Derived.Test.YtdniaamhbfadnaaGreatCe
namespace Go.Proofs.YtdniaamhbfadnaaGreat.AL
open Go Go.RowKit Go.Proofs.YtdniaamhbfadnaaGreat.Base
set_option linter.unusedVariables false
set_option linter.unusedSimpArgs false
set_option maxRecDepth 4000
set_option synthInstance.maxSize 1000
set_option synthInstance.maxHeartbeats 200000
def putRs (s : SecD) (k : Nat) : List Int := (s.rels.take k).flatMap putR
theorem putR_len (r : RelD) : (putR r).length ≤ 24 := by
 unfold putR; split
 · rw [relB_len]; omega
 · simp
theorem flatMap_len {α : Type} {f : α → List Int} {c : Nat} (hf : ∀ x, (f x).length ≤ c) : ∀ l : List α, (l.flatMap f).length ≤ c * l.length := by
 intro l
 induction l with
 | nil => simp
 | cons a l ih =>
  rw [List.flatMap_cons, List.length_append, List.length_cons, Nat.mul_add, Nat.mul_one]
  have := hf a; omega
theorem putRs_len (s : SecD) (k : Nat) : (putRs s k).length ≤ 24 * k := by
 unfold putRs
 have := flatMap_len putR_len (s.rels.take k)
 have h2 : (s.rels.take k).length ≤ k := by rw [List.length_take]; omega
 omega
theorem putRs_pos {s : SecD} (h : ∀ r ∈ s.rels, mayRelB r = true) : (putRs s s.rels.length).length = 24 * s.rels.length := by
 unfold putRs
 rw [List.take_of_length_le (Nat.le_refl _)]
 revert h
 generalize s.rels = l
 intro h
 induction l with
 | nil => rfl
 | cons a l ih =>
  rw [List.flatMap_cons, List.length_append, List.length_cons, ih fun r hr => h r (List.mem_cons_of_mem _ hr)]
  have : (putR a).length = 24 := by unfold putR; rw [if_pos (h a List.mem_cons_self), relB_len]
  omega
theorem relPs_snoc (at_ : Int) : ∀ (l : List SecD) (n : Int) (s : SecD), relPs at_ n (l ++ [s]) = relPs at_ n l ++ relPart at_ (n + l.length) s := by
 intro l
 induction l with
 | nil => intro n s; simp [relPs]
 | cons a l ih =>
  intro n s
  rw [List.cons_append, relPs, ih, relPs, List.append_assoc, show n + 1 + (l.length : Int) = n + ((a :: l).length : Int) by rw [List.length_cons]; omega]
theorem Hn_rep {n a b : Nat} {L : List (Option AB)} (h : a = b) : Hn n ((L ++ List.replicate a none) ++ []) = Hn n ((L ++ List.replicate b none) ++ []) := by rw [h]
theorem relPs_succ {at_ : Int} {l : List SecD} {i : Nat} (h : i < l.length) : relPs at_ 1 (l.take (i + 1)) = relPs at_ 1 (l.take i) ++ relPart at_ (i + 1) (l.getD i default) := by
 have e : l.take (i + 1) = l.take i ++ [l.getD i default] := by rw [List.take_add_one]; simp [h]
 rw [e, relPs_snoc, List.length_take, Nat.min_eq_left (by omega)]
 congr 2; omega
theorem relPs_len (at_ : Int) : ∀ (l : List SecD) (n : Int), (relPs at_ n l).length ≤ l.length := by
 intro l
 induction l with
 | nil => intro n; simp [relPs]
 | cons a l ih =>
  intro n
  rw [relPs, List.length_append, List.length_cons]
  have := ih (n + 1)
  have : (relPart at_ n a).length ≤ 1 := by unfold relPart; split <;> simp
  omega
theorem putN_len (x : Int) : (putN x).length = 4 := by unfold putN; rw [if_pos (by decide), dig_length]; rfl
def gB (g : GrpD) (k : Nat) : List Int := [1, 0, 0, 0] ++ (g.mem.take k).flatMap putN
theorem gB_succ {g : GrpD} {k : Nat} (h : k < g.mem.length) : gB g (k + 1) = gB g k ++ putN (g.mem.getD k default) := by
 unfold gB; rw [flatMap_take_succ _ h, List.append_assoc]
theorem gB_all (g : GrpD) : gB g g.mem.length = [1, 0, 0, 0] ++ g.mem.flatMap putN := by unfold gB; rw [List.take_of_length_le (Nat.le_refl _)]
theorem grps_len {g : GrpD} (k : Nat) : (gB g k).length ≤ 4 + 4 * k := by
 unfold gB
 have := flatMap_len (f := putN) (c := 4) (fun x => by rw [putN_len]; omega) (g.mem.take k)
 have h2 : (g.mem.take k).length ≤ k := by rw [List.length_take]; omega
 rw [List.length_append]
 simp only [List.length_cons, List.length_nil]
 omega
theorem sec_in {o : ObjD} {i : Nat} (hi : i < o.secs.length) : o.secs.getD i default ∈ o.secs := by
 rw [List.getD_eq_getElem?_getD, List.getElem?_eq_getElem hi]; exact List.getElem_mem hi
theorem grp_in {o : ObjD} {i : Nat} (hi : i < o.groups.length) : o.groups.getD i default ∈ o.groups := by
 rw [List.getD_eq_getElem?_getD, List.getElem?_eq_getElem hi]; exact List.getElem_mem hi
instance nirPart {l : List PartD} : NIr (l.map partA) := ⟨fun row hr av ha => by
 obtain ⟨x, _, rfl⟩ := List.mem_map.1 hr
 simp only [List.mem_cons, List.not_mem_nil, or_false] at ha
 rcases ha with rfl | rfl | rfl | rfl | rfl | rfl | rfl | rfl | rfl | rfl | rfl | rfl <;> first | exact .v _ | exact NoId.rd NIr.h⟩
def midA (o : ObjD) (at_ : Int) (k : Nat) : List PartD := relPs at_ 1 o.secs ++ (o.groups.take k).map (grpPart at_)
theorem midA_succ {o : ObjD} {at_ : Int} {k : Nat} (h : k < o.groups.length) : midA o at_ (k + 1) = midA o at_ k ++ [grpPart at_ (o.groups.getD k default)] := by
 unfold midA; rw [map_take_succ _ h, List.append_assoc]
theorem midA_len (o : ObjD) (at_ : Int) (k : Nat) : (midA o at_ k).length ≤ o.secs.length + k := by
 unfold midA
 have := relPs_len at_ o.secs 1
 rw [List.length_append, List.length_map, List.length_take]; omega
theorem midA_all (o : ObjD) (at_ : Int) : midF o at_ = midA o at_ o.groups.length ++ sigPart at_ o := by
 unfold midA midF; rw [List.take_of_length_le (Nat.le_refl _)]
def sB (o : ObjD) (k : Nat) : List Int := (o.sig.take k).flatMap encB
theorem sB_succ {o : ObjD} {k : Nat} (h : k < o.sig.length) : sB o (k + 1) = sB o k ++ encB (o.sig.getD k default) := by
 unfold sB; rw [flatMap_take_succ _ h]
theorem sB_all (o : ObjD) : sB o o.sig.length = o.sig.flatMap encB := by unfold sB; rw [List.take_of_length_le (Nat.le_refl _)]
theorem sB_len (o : ObjD) (k : Nat) : (sB o k).length ≤ 5 * k := by
 unfold sB
 have := flatMap_len (f := encB) (c := 5) encB_len (o.sig.take k)
 have h2 : (o.sig.take k).length ≤ k := by rw [List.length_take]; omega
 omega
theorem midF_len (o : ObjD) (at_ : Int) : (midF o at_).length ≤ o.secs.length + o.groups.length + 1 := by
 rw [midA_all, List.length_append]
 have := midA_len o at_ o.groups.length
 have : (sigPart at_ o).length ≤ 1 := by unfold sigPart; split <;> simp
 omega
set_option maxHeartbeats 4000000 in
theorem obj_middleR (o : ObjD) (at_ : Int) (h : LayH o) : A1 Tryz.prog 147 [.agg (objA o), .v (.int .i64 (at_))] 204 12 ((midF o at_).map partA) := by
 have hq := h.small
 have hso := h.ok
 have s1 := hq.secs
 have s2 := hq.syms
 have s3 := h.gs
 have s4 := h.sg
 refine A1.body 105 (NIr.h) Tryz.func147 rfl rfl Tryz.ntmps147 fun base n0 => ?_
 refine AW.seq' ?_
 refine AW.region ?_
 refine AO.ww ?_
 refine AO.c ?_
 refine AO.nil ?_
 refine SQ.normal ?_
 refine AW.seq' ?_
 refine AW.region ?_
 refine AO.c ?_
 refine AO.nil ?_
 refine SQ.normal ?_
 refine AW.seq' ?_
 refine AW.seq' ?_
 refine AW.region ?_
 iterate 4 refine AO.c ?_
 refine AO.nil ?_
 refine SQ.normal ?_
 refine AW.block' ?_
 refine AW.ghost (Gh.adoptM 5 204 12) ?_
 refine AW.loopU3 [.f, .k, .k, .f, .f, .k, .F, .f, .f, .f, .f, .f, .f, .k, .k, .k, .F, .F, .F, .F, .F, .F, .F, .F, .F, .F, .f, .f] (fun (i j ep : Nat) => [(5, .own (n0 + 1) ep 0 (relPs at_ 1 (o.secs.take i)).length), (22, .v (.int .i64 (i)))]) (fun i j ep => Hn n0 (([some (.box 29 (objA o)), some (.row 204 12 (ep) ((relPs at_ 1 (o.secs.take i)).map partA))] ++ List.replicate j none) ++ [])) (fun m i j ep => i ≤ o.secs.length ∧ m = o.secs.length - i) (o.secs.length) (0) (0) (0) ⟨by omega, by omega⟩ (by first | rfl | (simp; done)) (by first | rfl | (simp; done)) ?_
 rintro m0 i j ep ⟨hx1, hx2⟩
 refine AW.seq' ?_
 refine AW.region ?_
 refine AO.c ?_
 refine AO.nil ?_
 refine SQ.normal ?_
 refine AW.seq' ?_
 refine AW.iteB (GL.ev _) (fun h0 => ?_) (fun h0 => ?_)
 ·
  rw [decide_eq_true_eq] at h0
  have hi : i < o.secs.length := by omega
  have hsec := hq.sec _ (sec_in hi)
  have hrsu := relPs_succ (at_ := at_) hi
  have hrl := relPs_len at_ (o.secs.take i) 1
  rw [List.length_take] at hrl
  generalize hse : o.secs.getD i default = s at hsec hrsu
  refine AW.skip ?_
  refine SQ.normal ?_
  refine AW.seq' ?_
  refine AW.block' ?_
  refine AW.seq' ?_
  refine AW.region ?_
  refine AO.c ?_
  refine AO.oo ?_
  refine AO.c ?_
  refine AO.eq 26 (av' := .agg (secA s)) (by rw [hse]) ?_
  refine AO.ww ?_
  refine AO.c ?_
  refine AO.sst ?_
  refine AO.nil ?_
  refine SQ.normal ?_
  refine AW.seq' ?_
  refine AW.region ?_
  refine AO.c ?_
  refine AO.nil ?_
  refine SQ.normal ?_
  refine AW.seq' ?_
  refine AW.seq' ?_
  refine AW.region ?_
  iterate 4 refine AO.c ?_
  refine AO.nil ?_
  refine SQ.normal ?_
  refine AW.block' ?_
  refine AW.ghost (Gh.adoptB 8 5) ?_
  refine AW.loopU2 [.f, .k, .k, .f, .f, .k, .k, .f, .k, .F, .f, .f, .f, .k, .k, .k, .f, .f, .f, .f, .f, .k, .k, .k, .F, .F, .F, .F, .F, .F, .F, .F, .F, .f, .f] (fun (k ep2 : Nat) => [(8, .own (n0 + zadd (zadd (0 + 1 + 1) j) (0 + 1)) ep2 0 (putRs s k).length), (30, .v (.int .i64 (k)))]) (fun k ep2 => Hn n0 (([some (.box 29 (objA o)), some (.row 204 12 (ep) ((relPs at_ 1 (o.secs.take i)).map partA))] ++ List.replicate j none ++ [some (.box 104 (secA s)), some (.row 5 1 ep2 (bys (putRs s k)))]) ++ List.replicate k none ++ [])) (fun m k ep2 => k ≤ s.rels.length ∧ m = s.rels.length - k) (s.rels.length) (0) (0) ⟨by omega, by omega⟩ (by first | rfl | (simp; done)) (by simp [putRs]) ?_
  rintro m1 k ep2 ⟨hk1, hk2⟩
  refine AW.seq' ?_
  refine AW.region ?_
  refine AO.c ?_
  refine AO.nil ?_
  refine SQ.normal ?_
  refine AW.seq' ?_
  refine AW.iteB (GL.ev _) (fun h1 => ?_) (fun h1 => ?_)
  ·
   rw [decide_eq_true_eq] at h1
   have hk : k < s.rels.length := by omega
   have hrok := relOk_at hsec.1.2.2.2.2.2.2.2.2.2.2 hk
   have hpl := putRs_len s k
   have hps : putRs s (k + 1) = putRs s k ++ putR (s.rels.getD k default) := by unfold putRs; rw [flatMap_take_succ _ hk]
   have hrl1 := putR_len (s.rels.getD k default)
   unfold putR at hrl1
   generalize hre : s.rels.getD k default = r at hrok hps hrl1
   refine AW.skip ?_
   refine SQ.normal ?_
   refine AW.seq' ?_
   refine AW.block' ?_
   refine AW.seq' ?_
   refine AW.region ?_
   refine AO.oo ?_
   refine AO.c ?_
   refine AO.eq 33 (av' := .agg (relA r)) (by rw [hre]) ?_
   refine AO.ww ?_
   refine AO.sst ?_
   refine AO.nil ?_
   refine SQ.normal ?_
   refine AW.region ?_
   iterate 2 refine AO.c ?_
   refine AO.call1 Tryz.func158 rfl rfl (rela_Put r hrok) ?_
   refine AO.ww ?_
   refine AO.c ?_
   refine AO.nil ?_
   refine BQ.normal ?_
   refine SQ.normal ?_
   refine AW.region ?_
   refine AO.oo ?_
   refine AO.c ?_
   refine AO.nil ?_
   exact AW.backE [.f, .k, .k, .f, .f, .k, .k, .f, .k, .F, .f, .f, .f, .k, .k, .k, .f, .f, .f, .f, .f, .k, .k, .k, .F, .F, .F, .F, .F, .F, .F, .F, .F, .f, .f] (k) (m1 - 1) (k + 1, ep2 + 1) (by omega) (by (try dsimp only); exact ⟨by omega, by omega⟩) (by first | ((try dsimp only); rw [hps, List.length_append]; done) | ((try dsimp only); rw [hps, List.length_append]; rfl)) (by first | (rw [hps]; done) | (rw [hps]; rfl))
  ·
   rw [decide_eq_false_iff_not] at h1
   have hkl : k = s.rels.length := by omega
   have hpp := putRs_pos hsec.2.2.2.1
   refine AW.exit ?_
   refine SQ.exit <| AW.out <| LU.exit <| BQ.exit ?_
   refine SQ.normal ?_
   refine AW.seq' ?_
   refine AW.region ?_
   iterate 3 refine AO.c ?_
   refine AO.nil ?_
   refine SQ.normal ?_
   refine AW.iteB (GL.ev _) (fun h2 => ?_) (fun h2 => ?_)
   ·
    rw [decide_eq_true_eq, hkl, hpp] at h2
    have hrs : relPs at_ 1 (o.secs.take (i + 1)) = relPs at_ 1 (o.secs.take i) ++ [⟨⟨0, 4, 0, 0, 0, 0, at_, i + 1, 8, 24⟩, nRela, s.rels.flatMap putR⟩] := by rw [hrsu]; unfold relPart; rw [if_neg (by omega)]
    have hfl : (s.rels.flatMap putR).length ≤ 2000 := by have := flatMap_len putR_len s.rels; omega
    refine AW.region ?_
    iterate 3 refine AO.c ?_
    refine AO.oo ?_
    refine AO.c ?_
    refine AO.ghost (Gh.freezeE 8 (li' := s.rels.flatMap putR) (by rw [hkl]; unfold putRs; rw [List.take_of_length_le (Nat.le_refl _)]) (by rw [hkl]; unfold putRs; rw [List.take_of_length_le (Nat.le_refl _)]) (by omega)) ?_
    iterate 2 refine AO.c ?_
    refine AO.rr ?_
    refine AO.ww ?_
    refine AO.c ?_
    refine AO.nil ?_
    refine BQ.normal ?_
    refine SQ.normal ?_
    refine AW.region ?_
    refine AO.oo ?_
    refine AO.c ?_
    refine AO.nil ?_
    exact AW.backE [.f, .k, .k, .f, .f, .k, .F, .f, .f, .f, .f, .f, .f, .k, .k, .k, .F, .F, .F, .F, .F, .F, .F, .F, .F, .F, .f, .f] (j) (m0 - 1) (i + 1, j + (k + 2), ep + 1) (by omega) (by (try dsimp only); exact ⟨by omega, by omega⟩) (by first | ((try dsimp only); rw [hrs, List.length_append]; done) | ((try dsimp only); rw [hrs, List.length_append]; rfl)) ((Hn_rep (b := j + (k + 2)) (by first | (simp; done) | (simp; omega))).trans (by (try dsimp only); rw [hrs, List.map_append]; rfl))
   ·
    rw [decide_eq_false_iff_not, hkl, hpp] at h2
    have hrs : relPs at_ 1 (o.secs.take (i + 1)) = relPs at_ 1 (o.secs.take i) := by rw [hrsu]; unfold relPart; rw [if_pos (by omega), List.append_nil]
    refine AW.skip ?_
    refine BQ.normal ?_
    refine SQ.normal ?_
    refine AW.region ?_
    refine AO.oo ?_
    refine AO.c ?_
    refine AO.nil ?_
    exact AW.backE [.f, .k, .k, .f, .f, .k, .F, .f, .f, .f, .f, .f, .f, .k, .k, .k, .F, .F, .F, .F, .F, .F, .F, .F, .F, .F, .f, .f] (j) (m0 - 1) (i + 1, j + (k + 2), ep) (by omega) (by (try dsimp only); exact ⟨by omega, by omega⟩) (by first | ((try dsimp only); rw [hrs]; done) | ((try dsimp only); rw [hrs]; rfl)) ((Hn_rep (b := j + (k + 2)) (by first | (simp; done) | (simp; omega))).trans (by (try dsimp only); rw [hrs]))
 ·
  rw [decide_eq_false_iff_not] at h0
  have hm0 : midA o at_ 0 = relPs at_ 1 (o.secs.take i) := by unfold midA; rw [List.take_of_length_le (show o.secs.length ≤ i by omega)]; simp
  refine AW.exit ?_
  refine SQ.exit <| AW.out <| LU.exit <| BQ.exit ?_
  refine SQ.normal ?_
  refine AW.seq' ?_
  refine AW.seq' ?_
  refine AW.region ?_
  iterate 4 refine AO.c ?_
  refine AO.nil ?_
  refine SQ.normal ?_
  refine AW.block' ?_
  refine AW.loopU3 [.f, .k, .k, .f, .f, .k, .F, .F, .F, .F, .F, .f, .f, .f, .f, .f, .f, .f, .k, .k, .k, .F, .F, .F, .F, .F, .F, .f] (fun (gi gj gep : Nat) => [(5, .own (n0 + 1) gep 0 (midA o at_ gi).length), (55, .v (.int .i64 (gi)))]) (fun gi gj gep => Hn n0 (([some (.box 29 (objA o)), some (.row 204 12 (gep) ((midA o at_ gi).map partA))] ++ List.replicate gj none) ++ [])) (fun m gi gj gep => gi ≤ o.groups.length ∧ m = o.groups.length - gi) (o.groups.length) (0) (j) (ep) ⟨by omega, by omega⟩ (by (try dsimp only); rw [hm0]; rfl) (by rw [hm0]) ?_
  rintro m2 gi gj gep ⟨hg1, hg2⟩
  refine AW.seq' ?_
  refine AW.region ?_
  refine AO.c ?_
  refine AO.nil ?_
  refine SQ.normal ?_
  refine AW.seq' ?_
  refine AW.iteB (GL.ev _) (fun h3 => ?_) (fun h3 => ?_)
  ·
   rw [decide_eq_true_eq] at h3
   have hgi : gi < o.groups.length := by omega
   have hgr := hq.grp _ (grp_in hgi)
   have hms := midA_succ (at_ := at_) hgi
   have hml := midA_len o at_ gi
   generalize hge : o.groups.getD gi default = g at hgr hms
   refine AW.skip ?_
   refine SQ.normal ?_
   refine AW.seq' ?_
   refine AW.block' ?_
   refine AW.seq' ?_
   refine AW.region ?_
   refine AO.oo ?_
   refine AO.c ?_
   refine AO.eq 58 (av' := .agg (grpA g)) (by rw [hge]) ?_
   refine AO.ww ?_
   refine AO.sst ?_
   refine AO.nil ?_
   refine SQ.normal ?_
   refine AW.seq' ?_
   refine AW.region ?_
   refine AO.callR Tryz.func150 rfl rfl (le_PutR 1 4 (by omega) (by omega)) (by rw [bys_length]) ?_
   refine AO.c ?_
   refine AO.nil ?_
   refine SQ.normal ?_
   refine AW.seq' ?_
   refine AW.seq' ?_
   refine AW.region ?_
   iterate 4 refine AO.c ?_
   refine AO.nil ?_
   refine SQ.normal ?_
   refine AW.block' ?_
   refine AW.loopU2 [.f, .k, .k, .f, .f, .k, .f, .f, .f, .f, .f, .f, .k, .k, .F, .F, .F, .F, .f, .f, .f, .f, .f, .f, .f, .k, .k, .k, .f, .f, .f, .f, .f, .k, .k, .k, .F, .F, .F, .F, .F, .f] (fun (k ep2 : Nat) => [(13, .own (n0 + zadd (zadd (0 + 1 + 1) gj) (0 + 1)) ep2 0 (gB g k).length), (63, .v (.int .i64 (k)))]) (fun k ep2 => Hn n0 ([some (.box 29 (objA o)), some (.row 204 12 (gep) ((midA o at_ gi).map partA))] ++ List.replicate gj none ++ [some (.box 107 (grpA g)), some (.row 5 1 ep2 (bys (gB g k)))])) (fun m k ep2 => k ≤ g.mem.length ∧ m = g.mem.length - k) (g.mem.length) (0) (0) ⟨by omega, by omega⟩ (by first | rfl | (simp; done)) (by first | rfl | (simp; done)) ?_
   rintro m3 k ep2 ⟨hk1, hk2⟩
   refine AW.seq' ?_
   refine AW.region ?_
   refine AO.c ?_
   refine AO.nil ?_
   refine SQ.normal ?_
   refine AW.seq' ?_
   refine AW.iteB (GL.ev _) (fun h4 => ?_) (fun h4 => ?_)
   ·
    rw [decide_eq_true_eq] at h4
    have hk : k < g.mem.length := by omega
    have hgl := grps_len (g := g) k
    have hps := gB_succ hk
    have hn4 := putN_len (g.mem.getD k default)
    unfold putN at hn4
    refine AW.skip ?_
    refine SQ.normal ?_
    refine AW.seq' ?_
    refine AW.block' ?_
    refine AW.seq' ?_
    refine AW.region ?_
    refine AO.oo ?_
    iterate 2 refine AO.c ?_
    refine AO.nil ?_
    refine SQ.normal ?_
    refine AW.region ?_
    iterate 2 refine AO.c ?_
    refine AO.pw ?_
    refine AO.call1 Tryz.func150 rfl rfl (le_Put (IntKind.u64.wrap (g.mem.getD k default)) 4 (by rw [wu64_mod]; omega) (by omega)) ?_
    refine AO.ww ?_
    refine AO.c ?_
    refine AO.nil ?_
    refine BQ.normal ?_
    refine SQ.normal ?_
    refine AW.region ?_
    refine AO.oo ?_
    refine AO.c ?_
    refine AO.nil ?_
    exact AW.backU [.f, .k, .k, .f, .f, .k, .f, .f, .f, .f, .f, .f, .k, .k, .F, .F, .F, .F, .f, .f, .f, .f, .f, .f, .f, .k, .k, .k, .f, .f, .f, .f, .f, .k, .k, .k, .F, .F, .F, .F, .F, .f] (m3 - 1) (k + 1, ep2 + 1) (by omega) (by (try dsimp only); exact ⟨by omega, by omega⟩) (by first | ((try dsimp only); rw [hps, List.length_append]; done) | ((try dsimp only); rw [hps, List.length_append]; rfl)) (by first | (rw [hps]; done) | (rw [hps]; rfl))
   ·
    rw [decide_eq_false_iff_not] at h4
    have hkl : k = g.mem.length := by omega
    have hgl := grps_len (g := g) g.mem.length
    rw [gB_all] at hgl
    refine AW.exit ?_
    refine SQ.exit <| AW.out <| LU.exit <| BQ.exit ?_
    refine SQ.normal ?_
    refine AW.region ?_
    iterate 5 refine AO.c ?_
    refine AO.ghost (Gh.freezeE 13 (li' := [1, 0, 0, 0] ++ g.mem.flatMap putN) (by rw [hkl, gB_all]) (by rw [hkl, gB_all]) (by omega)) ?_
    iterate 2 refine AO.c ?_
    refine AO.rr ?_
    refine AO.ww ?_
    refine AO.c ?_
    refine AO.nil ?_
    refine BQ.normal ?_
    refine SQ.normal ?_
    refine AW.region ?_
    refine AO.oo ?_
    refine AO.c ?_
    refine AO.nil ?_
    exact AW.backE [.f, .k, .k, .f, .f, .k, .F, .F, .F, .F, .F, .f, .f, .f, .f, .f, .f, .f, .k, .k, .k, .F, .F, .F, .F, .F, .F, .f] (gj) (m2 - 1) (gi + 1, gj + 2, gep + 1) (by omega) (by (try dsimp only); exact ⟨by omega, by omega⟩) (by first | ((try dsimp only); rw [hms, List.length_append]; done) | ((try dsimp only); rw [hms, List.length_append]; rfl)) (by first | (rw [hms, List.map_append]; done) | (rw [hms, List.map_append]; rfl))
  ·
   rw [decide_eq_false_iff_not] at h3
   have hml := midA_len o at_ gi
   refine AW.exit ?_
   refine SQ.exit <| AW.out <| LU.exit <| BQ.exit ?_
   refine SQ.normal ?_
   refine AW.seq' ?_
   refine AW.seq' ?_
   refine AW.region ?_
   iterate 2 refine AO.c ?_
   refine AO.nil ?_
   refine SQ.normal ?_
   refine AW.iteB (GL.ev _) (fun h5 => ?_) (fun h5 => ?_)
   ·
    have hsp : sigPart at_ o = [⟨⟨0, 1879002115, 0, 0, 0, 0, at_, 0, 1, 0⟩, nSig, o.sig.flatMap encB⟩] := by unfold sigPart; rw [if_pos h5]
    refine AW.seq' ?_
    refine AW.region ?_
    refine AO.c ?_
    refine AO.nil ?_
    refine SQ.normal ?_
    refine AW.seq' ?_
    refine AW.seq' ?_
    refine AW.region ?_
    iterate 4 refine AO.c ?_
    refine AO.nil ?_
    refine SQ.normal ?_
    refine AW.block' ?_
    refine AW.ghost (Gh.adoptB 16 5) ?_
    refine AW.loopU2 [.f, .k, .f, .f, .f, .k, .F, .f, .f, .k, .F, .F, .F, .F, .F, .F, .F, .F, .f, .f, .f, .f, .f, .k, .k, .k, .F, .F] (fun (k ep2 : Nat) => [(16, .own (n0 + zadd (zadd (0 + 1 + 1) gj) 0) ep2 0 (sB o k).length), (88, .v (.int .i64 (k)))]) (fun k ep2 => Hn n0 ([some (.box 29 (objA o)), some (.row 204 12 (gep) ((midA o at_ gi).map partA))] ++ List.replicate gj none ++ [some (.row 5 1 ep2 (bys (sB o k)))])) (fun m k ep2 => k ≤ o.sig.length ∧ m = o.sig.length - k) (o.sig.length) (0) (0) ⟨by omega, by omega⟩ (by first | rfl | (simp; done)) (by simp [sB]) ?_
    rintro m4 k ep2 ⟨hk1, hk2⟩
    refine AW.seq' ?_
    refine AW.region ?_
    refine AO.c ?_
    refine AO.nil ?_
    refine SQ.normal ?_
    refine AW.seq' ?_
    refine AW.iteB (GL.ev _) (fun h6 => ?_) (fun h6 => ?_)
    ·
     rw [decide_eq_true_eq] at h6
     have hk : k < o.sig.length := by omega
     have hin : o.sig.getD k default ∈ o.sig := by rw [List.getD_eq_getElem?_getD, List.getElem?_eq_getElem hk]; exact List.getElem_mem hk
     have hsl := sB_len o k
     have he5 := encB_len (o.sig.getD k default)
     refine AW.skip ?_
     refine SQ.normal ?_
     refine AW.seq' ?_
     refine AW.block' ?_
     refine AW.seq' ?_
     refine AW.region ?_
     refine AO.oo ?_
     iterate 2 refine AO.c ?_
     refine AO.nil ?_
     refine SQ.normal ?_
     refine AW.region ?_
     iterate 2 refine AO.c ?_
     refine AO.call1 Tryz.func170 rfl rfl (uleb_Put (o.sig.getD k default) (hq.sig _ hin)) ?_
     refine AO.ww ?_
     refine AO.c ?_
     refine AO.nil ?_
     refine BQ.normal ?_
     refine SQ.normal ?_
     refine AW.region ?_
     refine AO.oo ?_
     refine AO.c ?_
     refine AO.nil ?_
     exact AW.backU [.f, .k, .f, .f, .f, .k, .F, .f, .f, .k, .F, .F, .F, .F, .F, .F, .F, .F, .f, .f, .f, .f, .f, .k, .k, .k, .F, .F] (m4 - 1) (k + 1, ep2 + 1) (by omega) (by (try dsimp only); exact ⟨by omega, by omega⟩) (by first | ((try dsimp only); rw [sB_succ hk, List.length_append]; done) | ((try dsimp only); rw [sB_succ hk, List.length_append]; rfl)) (by first | (rw [sB_succ hk]; done) | (rw [sB_succ hk]; rfl))
    ·
     rw [decide_eq_false_iff_not] at h6
     have hkl : k = o.sig.length := by omega
     have hsl := sB_len o o.sig.length
     rw [sB_all] at hsl
     refine AW.exit ?_
     refine SQ.exit <| AW.out <| LU.exit <| BQ.exit ?_
     refine SQ.normal ?_
     refine AW.region ?_
     iterate 3 refine AO.c ?_
     refine AO.ghost (Gh.freezeE 16 (li' := o.sig.flatMap encB) (by rw [hkl, sB_all]) (by rw [hkl, sB_all]) (by omega)) ?_
     iterate 2 refine AO.c ?_
     refine AO.rr ?_
     refine AO.ww ?_
     refine AO.c ?_
     refine AO.nil ?_
     refine SQ.normal ?_
     refine AW.seq' ?_
     refine AW.region ?_
     iterate 2 refine AO.c ?_
     refine AO.nil ?_
     refine SQ.normal ?_
     refine AW.ret ?_
     refine FinO.ret 4 (Gh.refl) rfl ?_ ?_ (.inr rfl)
     · first | (rw [midA_all, hsp, show gi = o.groups.length by omega, List.map_append]; done) | (rw [midA_all, hsp, show gi = o.groups.length by omega, List.map_append]; rfl)
     · first | (rw [List.length_map, midA_all, hsp, show gi = o.groups.length by omega, List.length_append]; done) | (rw [List.length_map, midA_all, hsp, show gi = o.groups.length by omega, List.length_append]; rfl)
   ·
    have hsp : sigPart at_ o = [] := by unfold sigPart; rw [if_neg (by rw [h5]; decide)]
    refine AW.skip ?_
    refine SQ.normal ?_
    refine AW.seq' ?_
    refine AW.region ?_
    iterate 2 refine AO.c ?_
    refine AO.nil ?_
    refine SQ.normal ?_
    refine AW.ret ?_
    refine FinO.ret 4 (Gh.refl) rfl ?_ ?_ (.inr rfl)
    · rw [midA_all, hsp, show gi = o.groups.length by omega, List.append_nil]
    · rw [List.length_map, midA_all, hsp, show gi = o.groups.length by omega, List.append_nil]
end Go.Proofs.YtdniaamhbfadnaaGreat.AL
namespace Go.Proofs.YtdniaamhbfadnaaGreat.AL
open Go Go.RowKit Go.Proofs.YtdniaamhbfadnaaGreat.Base
set_option linter.unusedVariables false
set_option linter.unusedSimpArgs false
set_option maxRecDepth 4000
set_option synthInstance.maxSize 1000
set_option synthInstance.maxHeartbeats 200000
def pA (o : ObjD) (i : Nat) : List PartD := zPart :: (o.secs.take i).map secPart
theorem pA_succ {o : ObjD} {i : Nat} (h : i < o.secs.length) : pA o (i + 1) = pA o i ++ [secPart (o.secs.getD i default)] := by
 unfold pA; rw [map_take_succ _ h, List.cons_append]
theorem pA_len {o : ObjD} {i : Nat} (h : i ≤ o.secs.length) : (pA o i).length = i + 1 := by
 unfold pA; rw [List.length_cons, List.length_map, List.length_take]; omega
theorem pA_all {o : ObjD} {i : Nat} (h : o.secs.length ≤ i) : pA o i = zPart :: o.secs.map secPart := by
 unfold pA; rw [List.take_of_length_le h]
theorem preF_len (o : ObjD) : (preF o).length = o.secs.length + (midF o (atF8 o)).length + 4 := by
 unfold preF
 simp only [List.length_append, List.length_cons, List.length_map, List.length_nil]
 omega
theorem preF_last (o : ObjD) : (preF o).getD ((preF o).length - 1) default = shsPt := by
 unfold preF
 rw [List.length_append, List.getD_eq_getElem?_getD, List.getElem?_append_right (by simp)]
 simp
theorem nmF_len (pl : List Int) (l : List PartD) : ∀ i, (nmF pl l i).length = l.length := by
 intro i
 induction i with
 | zero => rfl
 | succ i ih => rw [nmF, List.length_set, ih]
theorem tblF_len (o : ObjD) : (tblF o).length = (preF o).length := by unfold tblF; rw [List.length_set]
theorem finF_len (o : ObjD) : (finF o).length = (preF o).length := by unfold finF; rw [nmF_len, tblF_len]
theorem part_at {l : List PartD} {i : Nat} (h : i < l.length) : (l.map partA)[i]? = some (partA (l.getD i default)) := by
 rw [List.getElem?_map, List.getElem?_eq_getElem h, List.getD_eq_getElem?_getD, List.getElem?_eq_getElem h]; rfl
theorem part_getD {l : List PartD} {i : Nat} (h : i < l.length) : (l.map partA).getD i [] = partA (l.getD i default) := by
 rw [List.getD_eq_getElem?_getD, part_at h]; rfl
theorem atF8_eq (o : ObjD) : atF8 o = 1 + o.secs.length + (midF o 0).length := rfl
theorem mem_getD {α : Type} [Inhabited α] {l : List α} {i : Nat} (h : i < l.length) : l.getD i default ∈ l := by
 rw [List.getD_eq_getElem?_getD, List.getElem?_eq_getElem h]; exact List.getElem_mem h
theorem pre_names {o : ObjD} (h : LayH o) : ∀ s ∈ pNames o, s.size ≤ 1000000 := by
 intro s hs
 obtain ⟨p, hp, rfl⟩ := List.mem_map.1 hs
 unfold preF midF at hp
 have hq := h.small
 have hrel : ∀ (l : List SecD) (n at_ : Int) (p : PartD), p ∈ relPs at_ n l → p.name = nRela := by
  intro l
  induction l with
  | nil => intro n at_ p hp; cases hp
  | cons a l ih =>
   intro n at_ p hp
   rw [relPs] at hp
   rcases List.mem_append.1 hp with hp | hp
   · unfold relPart at hp
     split at hp
     · cases hp
     · obtain rfl := List.mem_singleton.1 hp; rfl
   · exact ih _ _ _ hp
 simp only [List.mem_append, List.mem_cons, List.mem_map, List.not_mem_nil, or_false] at hp
 rcases hp with (((((rfl | ⟨a, ha, rfl⟩) | ((hp | ⟨g, _, rfl⟩) | hp))) | rfl) | rfl) | rfl
 · decide
 · have := (hq.sec a ha).2.2.2.2
   show a.name.size ≤ _; omega
 · rw [hrel _ _ _ _ hp]; decide
 · show nGroup.size ≤ _; decide
 · unfold sigPart at hp
   split at hp
   · obtain rfl := List.mem_singleton.1 hp; show nSig.size ≤ _; decide
   · cases hp
 · show nSym.size ≤ _; decide
 · show nStr.size ≤ _; decide
 · show nShs.size ≤ _; decide
set_option maxHeartbeats 4000000 in
theorem obj_partsR (o : ObjD) (h : LayH o) : A1 Tryz.prog 106 [.agg (objA o)] 204 12 ((finF o).map partA) := by
 have hq := h.small
 have hso := h.ok
 have s1 := hq.secs
 have s2 := hq.syms
 have s3 := h.gs
 have s4 := h.sg
 have hml := midF_len o (atF8 o)
 have hml0 := midF_len o 0
 have hpl := preF_len o
 have hns := pre_names h
 have hnl : (pNames o).length = (preF o).length := by unfold pNames; rw [List.length_map]
 have hfull : ((preF o).take (preF o).length).map (·.name) = pNames o := by rw [List.take_of_length_le (Nat.le_refl _)]; rfl
 have htp := tabOf_pl (pNames o)
 have htl := tabOf_len hns
 have hel := entsF_len o (tabOf (namesOf o)).2.1 o.syms.length
 have hnt := tabOf_len (names_small h)
 have hnn : (namesOf o).length = o.syms.length := by unfold namesOf; simp
 refine A1.body 123 (NIr.h) Tryz.func106 rfl rfl Tryz.ntmps106 fun base n0 => ?_
 refine AW.seq' ?_
 refine AW.region ?_
 refine AO.ww ?_
 refine AO.c ?_
 refine AO.nil ?_
 refine SQ.normal ?_
 refine AW.seq' ?_
 refine AW.region ?_
 refine AO.c ?_
 refine AO.ghost (Gh.tell 15 (.agg [.v (.int .i64 0), .v (.int .i64 0), .v (.int .i64 0), .v (.int .i64 0), .v (.int .i64 0), .v (.int .i64 0), .v (.int .i64 0), .v (.int .i64 0), .v (.int .i64 0), .v (.int .i64 0), .v (.string { data := #[] }), .rd 1 (bys [])])) ?_
 refine AO.eq 15 (av' := .agg (partA zPart)) rfl ?_
 refine AO.ww ?_
 refine AO.c ?_
 refine AO.nil ?_
 refine SQ.normal ?_
 refine AW.seq' ?_
 refine AW.seq' ?_
 refine AW.region ?_
 iterate 4 refine AO.c ?_
 refine AO.nil ?_
 refine SQ.normal ?_
 refine AW.block' ?_
 refine AW.loopU2 [.f, .k, .f, .k, .F, .f, .f, .f, .f, .f, .f, .k, .k, .k, .F, .F, .F, .F, .F, .F, .F, .F, .F, .F, .F, .F, .f, .f, .f, .f, .f, .f] (fun (i ep : Nat) => [(3, .own (n0 + 1) ep 0 (pA o i).length), (20, .v (.int .i64 (i)))]) (fun i ep => Hn n0 (([some (.box 29 (objA o)), some (.row 204 12 (ep) ((pA o i).map partA))] ++ List.replicate i none) ++ [])) (fun m i ep => i ≤ o.secs.length ∧ m = o.secs.length - i) (o.secs.length) (0) (0) ⟨by omega, by omega⟩ (by first | rfl | (simp; done)) (by first | rfl | (simp; done)) ?_
 rintro m0 i ep ⟨hx1, hx2⟩
 refine AW.seq' ?_
 refine AW.region ?_
 refine AO.c ?_
 refine AO.nil ?_
 refine SQ.normal ?_
 refine AW.seq' ?_
 refine AW.iteB (GL.ev _) (fun h0 => ?_) (fun h0 => ?_)
 ·
  rw [decide_eq_true_eq] at h0
  have hi : i < o.secs.length := by omega
  have hsec := hq.sec _ (sec_in hi)
  have hps := pA_succ hi
  have hpal := pA_len (o := o) (i := i) (by omega)
  generalize hse : o.secs.getD i default = s at hsec hps
  refine AW.skip ?_
  refine SQ.normal ?_
  refine AW.seq' ?_
  refine AW.block' ?_
  refine AW.seq' ?_
  refine AW.region ?_
  refine AO.oo ?_
  refine AO.c ?_
  refine AO.eq 23 (av' := .agg (secA s)) (by rw [hse]) ?_
  refine AO.ww ?_
  refine AO.sst ?_
  refine AO.nil ?_
  refine SQ.normal ?_
  refine AW.region ?_
  iterate 19 refine AO.c ?_
  refine AO.eq 42 (av' := .agg (partA (secPart s))) rfl ?_
  refine AO.rr ?_
  refine AO.ww ?_
  refine AO.c ?_
  refine AO.nil ?_
  refine BQ.normal ?_
  refine SQ.normal ?_
  refine AW.region ?_
  refine AO.oo ?_
  refine AO.c ?_
  refine AO.nil ?_
  exact AW.backE [.f, .k, .f, .k, .F, .f, .f, .f, .f, .f, .f, .k, .k, .k, .F, .F, .F, .F, .F, .F, .F, .F, .F, .F, .F, .F, .f, .f, .f, .f, .f, .f] (i) (m0 - 1) (i + 1, ep + 1) (by omega) (by (try dsimp only); exact ⟨by omega, by omega⟩) (by first | ((try dsimp only); rw [hps, List.length_append]; done) | ((try dsimp only); rw [hps, List.length_append]; rfl)) (by first | (rw [hps, List.map_append]; done) | (rw [hps, List.map_append]; rfl))
 ·
  rw [decide_eq_false_iff_not] at h0
  have hpal := pA_len (o := o) (i := i) (by omega)
  refine AW.exit ?_
  refine SQ.exit <| AW.out <| LU.exit <| BQ.exit ?_
  refine SQ.normal ?_
  refine AW.seq' ?_
  refine AW.region ?_
  iterate 3 refine AO.c ?_
  refine AO.call1 Tryz.func147 rfl rfl ((obj_middleR o 0 h).a0 (by rw [List.length_map]; omega)) ?_
  refine AO.c ?_
  refine AO.oo ?_
  refine AO.eq 51 (av' := .v (.int .i64 (atF8 o))) (by rw [atF8_eq]; congr 2; omega) ?_
  refine AO.c ?_
  refine AO.nil ?_
  refine SQ.normal ?_
  refine AW.seq' ?_
  refine AW.region ?_
  iterate 3 refine AO.c ?_
  refine AO.call1 Tryz.func147 rfl rfl ((obj_middleR o (atF8 o) h).a0 (by rw [List.length_map]; omega)) ?_
  refine AO.ww ?_
  refine AO.c ?_
  refine AO.nil ?_
  refine SQ.normal ?_
  refine AW.seq' ?_
  refine AW.region ?_
  refine AO.c ?_
  refine AO.call1 Tryz.func148 rfl rfl (obj_entries _ (by assumption)) ?_
  iterate 7 refine AO.c ?_
  refine AO.nil ?_
  refine SQ.normal ?_
  refine AW.seq' ?_
  refine AW.region ?_
  iterate 2 refine AO.c ?_
  refine AO.o (by rw [atF8_eq]; omega) ?_
  iterate 4 refine AO.c ?_
  refine AO.eq 69 (av' := .agg (partA (symPt o (atF8 o)))) rfl ?_
  refine AO.rr ?_
  refine AO.ww ?_
  refine AO.c ?_
  refine AO.nil ?_
  refine SQ.normal ?_
  refine AW.seq' ?_
  refine AW.region ?_
  iterate 4 refine AO.c ?_
  refine AO.eq 75 (av' := .agg (partA (strPt o))) rfl ?_
  refine AO.rr ?_
  refine AO.ww ?_
  refine AO.c ?_
  refine AO.nil ?_
  refine SQ.normal ?_
  refine AW.seq' ?_
  refine AW.region ?_
  iterate 3 refine AO.c ?_
  refine AO.ghost (Gh.tell 80 (.agg [.v (.int .i64 0), .v (.int .i64 3), .v (.int .i64 0), .v (.int .i64 0), .v (.int .i64 0), .v (.int .i64 0), .v (.int .i64 0), .v (.int .i64 0), .v (.int .i64 1), .v (.int .i64 0), .v (.string { data := #[46, 115, 104, 115, 116, 114, 116, 97, 98] }), .rd 1 (bys [])])) ?_
  refine AO.eq 80 (av' := .agg (partA shsPt)) rfl ?_
  refine AO.rr ?_
  refine AO.ww ?_
  refine AO.c ?_
  refine AO.nil ?_
  refine SQ.normal ?_
  refine AW.seq' ?_
  refine AW.region ?_
  refine AO.c ?_
  refine AO.nil ?_
  refine SQ.normal ?_
  refine AW.seq' ?_
  refine AW.seq' ?_
  refine AW.eqH (H' := Hn n0 (([some (.box 29 (objA o)), some (.row 204 12 (ep + 1 + 1 + 1 + 1) ((preF o).map partA))] ++ List.replicate i none) ++ [])) (by rw [pA_all (by omega)]; unfold preF; simp only [List.map_append]; rfl) ?_
  refine AW.region ?_
  refine AO.eq 3 (av' := .own (n0 + 1) (ep + 1 + 1 + 1 + 1) 0 (preF o).length) (by congr 1; rw [hpl, pA_len (by omega), List.length_map]; simp only [List.length_cons, List.length_nil]; omega) ?_
  iterate 3 refine AO.c ?_
  refine AO.nil ?_
  refine SQ.normal ?_
  refine AW.block' ?_
  refine AW.ghost (Gh.adoptM 10 9 1) ?_
  refine AW.loopU2 [.f, .f, .f, .k, .f, .f, .f, .f, .f, .f, .k, .F, .F, .F, .F, .F, .F, .F, .F, .F, .k, .k, .k, .F, .F, .F, .F, .f, .f, .f, .f, .f] (fun (k ep2 : Nat) => [(10, .own (n0 + zadd (zadd (0 + 1 + 1) i) 0) ep2 0 k), (85, .v (.int .i64 (k)))]) (fun k ep2 => Hn n0 (([some (.box 29 (objA o)), some (.row 204 12 (ep + 1 + 1 + 1 + 1) ((preF o).map partA))] ++ List.replicate i none ++ [some (.row 9 1 ep2 ((((preF o).take k).map (·.name)).map sA))]) ++ List.replicate k none ++ [])) (fun m k ep2 => k ≤ (preF o).length ∧ m = (preF o).length - k) ((preF o).length) (0) (0) ⟨by omega, by omega⟩ (by first | rfl | (simp; done)) (by simp) ?_
  rintro m1 k ep2 ⟨hk1, hk2⟩
  refine AW.seq' ?_
  refine AW.region ?_
  refine AO.c ?_
  refine AO.nil ?_
  refine SQ.normal ?_
  refine AW.seq' ?_
  refine AW.iteB (GL.ev _) (fun h1 => ?_) (fun h1 => ?_)
  ·
   rw [decide_eq_true_eq] at h1
   have hk : k < (preF o).length := by omega
   generalize hpe : (preF o).getD k default = p
   refine AW.skip ?_
   refine SQ.normal ?_
   refine AW.seq' ?_
   refine AW.block' ?_
   refine AW.seq' ?_
   refine AW.region ?_
   refine AO.oo ?_
   refine AO.ldRN (partA p) (partA p) (by rw [show 0 + ((k : Int)).toNat = k by omega, part_at hk, hpe]) (by exact (by decide : 0 < 12)) (by exact (by decide : 0 + 12 ≤ 12)) rfl ?_
   refine AO.ww ?_
   refine AO.sst ?_
   refine AO.nil ?_
   refine SQ.normal ?_
   refine AW.region ?_
   iterate 3 refine AO.c ?_
   refine AO.rr ?_
   refine AO.ww ?_
   refine AO.c ?_
   refine AO.nil ?_
   refine BQ.normal ?_
   refine SQ.normal ?_
   refine AW.region ?_
   refine AO.oo ?_
   refine AO.c ?_
   refine AO.nil ?_
   exact AW.backE [.f, .f, .f, .k, .f, .f, .f, .f, .f, .f, .k, .F, .F, .F, .F, .F, .F, .F, .F, .F, .k, .k, .k, .F, .F, .F, .F, .f, .f, .f, .f, .f] (k) (m1 - 1) (k + 1, ep2 + 1) (by omega) (by (try dsimp only); exact ⟨by omega, by omega⟩) (by first | rfl | (simp; done)) (by first | (rw [map_take_succ _ hk, List.map_append, hpe]; done) | (rw [map_take_succ _ hk, List.map_append, hpe]; rfl))
  ·
   rw [decide_eq_false_iff_not] at h1
   refine AW.exit ?_
   refine SQ.exit <| AW.out <| LU.exit <| BQ.exit ?_
   refine SQ.normal ?_
   refine AW.seq' ?_
   refine AW.ghost (Gh.freezeM 10 sA (pNames o) (by rw [show k = (preF o).length by omega, hfull]) (by omega) (by omega)) ?_
   refine AW.region ?_
   refine AO.c ?_
   refine AO.call1 Tryz.func149 rfl rfl (strtab_Make _ (by omega) (by assumption)) ?_
   iterate 5 refine AO.c ?_
   refine AO.nil ?_
   refine SQ.normal ?_
   refine AW.seq' ?_
   refine AW.region ?_
   iterate 3 refine AO.c ?_
   refine AO.oo ?_
   refine AO.c ?_
   refine AO.oo ?_
   refine AO.c ?_
   refine AO.stR ((tblF o).map partA) (by simp; omega) ?_ ?_
   · rw [show 0 + (((preF o).length : Int) - 1).toNat = (preF o).length - 1 by omega, part_getD (by omega), preF_last]; unfold tblF; rw [List.map_set]; rfl
   refine AO.nil ?_
   refine SQ.normal ?_
   refine AW.seq' ?_
   refine AW.seq' ?_
   refine AW.region ?_
   iterate 3 refine AO.c ?_
   refine AO.nil ?_
   refine SQ.normal ?_
   refine AW.block' ?_
   refine AW.loopU [.f, .f, .f, .k, .F, .f, .k, .F, .F, .F, .F, .F, .F, .F, .F, .F, .F, .F, .f, .f, .f, .f, .f, .f, .k, .k, .F, .f, .f, .f, .f, .f] (fun (q : Nat) => [(109, .v (.int .i64 (q)))]) (fun q => Hn n0 ([some (.box 29 (objA o)), some (.row 204 12 (ep + 1 + 1 + 1 + 1) ((nmF (tabOf (pNames o)).2.1 (tblF o) q).map partA))] ++ List.replicate i none ++ [none] ++ List.replicate k none ++ [])) (fun m q => q ≤ (preF o).length ∧ m = (preF o).length - q) ((preF o).length) (0) ⟨by omega, by omega⟩ (by first | rfl | (simp; done)) (by first | rfl | (simp; done)) ?_
   rintro m2 q ⟨hq1, hq2⟩
   refine AW.seq' ?_
   refine AW.region ?_
   refine AO.c ?_
   refine AO.nil ?_
   refine SQ.normal ?_
   refine AW.seq' ?_
   refine AW.iteB (GL.ev _) (fun h2 => ?_) (fun h2 => ?_)
   ·
    rw [decide_eq_true_eq] at h2
    have hqq : q < (preF o).length := by omega
    refine AW.skip ?_
    refine SQ.normal ?_
    refine AW.seq' ?_
    refine AW.block' ?_
    refine AW.seq' ?_
    refine AW.region ?_
    iterate 2 refine AO.c ?_
    refine AO.nil ?_
    refine SQ.normal ?_
    refine AW.region ?_
    iterate 4 refine AO.c ?_
    refine AO.oo ?_
    refine AO.c ?_
    refine AO.oo ?_
    iterate 2 refine AO.c ?_
    refine AO.stR ((nmF (tabOf (pNames o)).2.1 (tblF o) (q + 1)).map partA) (by rw [List.length_map, nmF_len, tblF_len]; omega) ?_ ?_
    · rw [show 0 + ((q : Int)).toNat = q by omega, part_getD (by rw [nmF_len, tblF_len]; omega), nmF, List.map_set]; rfl
    refine AO.nil ?_
    refine BQ.normal ?_
    refine SQ.normal ?_
    refine AW.region ?_
    refine AO.oo ?_
    refine AO.c ?_
    refine AO.nil ?_
    exact AW.backU [.f, .f, .f, .k, .F, .f, .k, .F, .F, .F, .F, .F, .F, .F, .F, .F, .F, .F, .f, .f, .f, .f, .f, .f, .k, .k, .F, .f, .f, .f, .f, .f] (m2 - 1) (q + 1) (by omega) (by (try dsimp only); exact ⟨by omega, by omega⟩) (by first | rfl | (simp; done)) (by first | rfl | (simp; done))
   ·
    rw [decide_eq_false_iff_not] at h2
    refine AW.exit ?_
    refine SQ.exit <| AW.out <| LU.exit <| BQ.exit ?_
    refine SQ.normal ?_
    refine AW.seq' ?_
    refine AW.region ?_
    iterate 2 refine AO.c ?_
    refine AO.nil ?_
    refine SQ.normal ?_
    refine AW.ret ?_
    refine FinO.ret 2 (Gh.refl) rfl ?_ ?_ (.inr rfl)
    · rw [show q = (preF o).length by omega]; rfl
    · rw [List.length_map, finF_len]
end Go.Proofs.YtdniaamhbfadnaaGreat.AL
namespace Go.Proofs.YtdniaamhbfadnaaGreat.AL
open Go Go.RowKit Go.Proofs.YtdniaamhbfadnaaGreat.Base
set_option linter.unusedVariables false
set_option linter.unusedSimpArgs false
set_option maxRecDepth 4000
set_option synthInstance.maxSize 1000
set_option synthInstance.maxHeartbeats 200000
theorem tab_lenC (c : Nat) : ∀ (l : List ByteArray) (st : TabS), (∀ s ∈ l, s.size ≤ c) → (l.foldl tabStep st).1.length ≤ st.1.length + (c + 1) * l.length := by
 intro l
 induction l with
 | nil => intro st _; simp
 | cons a l ih =>
  intro st h
  rw [List.foldl_cons, List.length_cons, Nat.mul_add, Nat.mul_one]
  have h1 := ih (tabStep st a) (fun s hs => h s (List.mem_cons_of_mem _ hs))
  have h2 : (tabStep st a).1.length ≤ st.1.length + (c + 1) := by
   unfold tabStep
   split
   · show st.1.length ≤ _; omega
   · split
     · show st.1.length ≤ _; omega
     · show (st.1 ++ strB a ++ [0]).length ≤ _
       rw [List.length_append, List.length_append, strB_len]
       have := h a List.mem_cons_self
       simp only [List.length_cons, List.length_nil]; omega
  omega
theorem pre_names32 {o : ObjD} (h : LayH o) : ∀ s ∈ pNames o, s.size ≤ 32 := by
 intro s hs
 obtain ⟨p, hp, rfl⟩ := List.mem_map.1 hs
 unfold preF midF at hp
 have hq := h.small
 have hrel : ∀ (l : List SecD) (n at_ : Int) (p : PartD), p ∈ relPs at_ n l → p.name = nRela := by
  intro l
  induction l with
  | nil => intro n at_ p hp; cases hp
  | cons a l ih =>
   intro n at_ p hp
   rw [relPs] at hp
   rcases List.mem_append.1 hp with hp | hp
   · unfold relPart at hp
     split at hp
     · cases hp
     · obtain rfl := List.mem_singleton.1 hp; rfl
   · exact ih _ _ _ hp
 simp only [List.mem_append, List.mem_cons, List.mem_map, List.not_mem_nil, or_false] at hp
 rcases hp with (((((rfl | ⟨a, ha, rfl⟩) | ((hp | ⟨g, _, rfl⟩) | hp))) | rfl) | rfl) | rfl
 · decide
 · exact (hq.sec a ha).2.2.2.2
 · rw [hrel _ _ _ _ hp]; decide
 · show nGroup.size ≤ _; decide
 · unfold sigPart at hp
   split at hp
   · obtain rfl := List.mem_singleton.1 hp; show nSig.size ≤ _; decide
   · cases hp
 · show nSym.size ≤ _; decide
 · show nStr.size ≤ _; decide
 · show nShs.size ≤ _; decide
theorem names32 {o : ObjD} (h : LayH o) : ∀ s ∈ namesOf o, s.size ≤ 32 := by
 intro s hs
 obtain ⟨y, hy, rfl⟩ := List.mem_map.1 hs
 exact (h.small.sym y hy).2.1
/-- A header's numbers are small, and what it tells is short. -/
def PartOk (p : PartD) : Prop := p.h.ok ∧ p.b.length ≤ 40000000
theorem ok10 {a0 a1 a2 a3 a4 a5 a6 a7 a8 a9 : Int} (h0 : I64 a0) (h1 : I64 a1) (h2 : I64 a2) (h3 : I64 a3) (h4 : I64 a4) (h5 : I64 a5) (h6 : I64 a6) (h7 : I64 a7) (h8 : I64 a8) (h9 : I64 a9) : (ShD.mk a0 a1 a2 a3 a4 a5 a6 a7 a8 a9).ok := by
 intro x hx
 simp only [ShD.list, List.mem_cons, List.not_mem_nil, or_false] at hx
 rcases hx with rfl | rfl | rfl | rfl | rfl | rfl | rfl | rfl | rfl | rfl <;> assumption
theorem ok_all {h : ShD} (hh : h.ok) : I64 h.a0 ∧ I64 h.a1 ∧ I64 h.a2 ∧ I64 h.a3 ∧ I64 h.a4 ∧ I64 h.a5 ∧ I64 h.a6 ∧ I64 h.a7 ∧ I64 h.a8 ∧ I64 h.a9 := by
 refine ⟨hh _ ?_, hh _ ?_, hh _ ?_, hh _ ?_, hh _ ?_, hh _ ?_, hh _ ?_, hh _ ?_, hh _ ?_, hh _ ?_⟩ <;> simp [ShD.list]
theorem at_range {o : ObjD} (h : LayH o) : 0 ≤ atF8 o ∧ atF8 o ≤ 1000000 := by
 have hq := h.small
 have s1 := hq.secs
 have s3 := h.gs
 have := midF_len o 0
 rw [atF8_eq]; omega
theorem pre_ok {o : ObjD} (h : LayH o) : ∀ p ∈ preF o, PartOk p := by
 intro p hp
 have hq := h.small
 have s1 := hq.secs
 have s2 := hq.syms
 have s3 := h.gs
 have s4 := h.sg
 have har := at_range h
 have hai : I64 (atF8 o) := by unfold I64; omega
 have c : ∀ x : Int, -1 ≤ x → x ≤ 2000000000 → I64 x := fun x h1 h2 => by unfold I64; omega
 have hrel : ∀ (l : List SecD) (n : Int) (p : PartD), (∀ s ∈ l, (s.rels.length : Int) ≤ 64) → 0 ≤ n → n + l.length ≤ 1000 → p ∈ relPs (atF8 o) n l → PartOk p := by
  intro l
  induction l with
  | nil => intro n p _ _ _ hp; cases hp
  | cons a l ih =>
   intro n p hl h0 h1 hp
   rw [List.length_cons] at h1
   rw [relPs] at hp
   rcases List.mem_append.1 hp with hp | hp
   · unfold relPart at hp
     split at hp
     · cases hp
     · obtain rfl := List.mem_singleton.1 hp
       refine ⟨ok10 (by decide) (by decide) (by decide) (by decide) (by decide) (by decide) hai (c _ (by omega) (by omega)) (by decide) (by decide), ?_⟩
       have := flatMap_len putR_len a.rels
       have := hl a List.mem_cons_self
       show (a.rels.flatMap putR).length ≤ _
       omega
   · exact ih _ _ (fun s hs => hl s (List.mem_cons_of_mem _ hs)) (by omega) (by omega) hp
 unfold preF midF at hp
 simp only [List.mem_append, List.mem_cons, List.mem_map, List.not_mem_nil, or_false] at hp
 rcases hp with (((((rfl | ⟨a, ha, rfl⟩) | ((hp | ⟨g, hg, rfl⟩) | hp))) | rfl) | rfl) | rfl
 · exact ⟨ok10 (by decide) (by decide) (by decide) (by decide) (by decide) (by decide) (by decide) (by decide) (by decide) (by decide), by decide⟩
 · have ha2 := hq.sec a ha
   obtain ⟨q1, q2, q3, q4, q5, q6, q7, q8, q9, q10, q11⟩ := ha2.1
   exact ⟨ok10 (by decide) q2 q3 (by decide) (by decide) q7 q6 (by decide) q4 q5, by show a.data.length ≤ _; omega⟩
 · exact hrel _ _ _ (fun s hs => (hq.sec s hs).2.2.1) (by decide) (by omega) hp
 · have hg2 := hq.grp g hg
   have := hg2.1.1
   have := hg2.1.2.1
   refine ⟨ok10 (by decide) (by decide) (by decide) (by decide) (by decide) (by decide) hai (c _ (by omega) (by omega)) (by decide) (by decide), ?_⟩
   have h4 := grps_len (g := g) g.mem.length
   rw [gB_all] at h4
   show ([1, 0, 0, 0] ++ g.mem.flatMap putN).length ≤ _
   omega
 · unfold sigPart at hp
   split at hp
   · obtain rfl := List.mem_singleton.1 hp
     refine ⟨ok10 (by decide) (by decide) (by decide) (by decide) (by decide) (by decide) hai (by decide) (by decide) (by decide), ?_⟩
     have h4 := sB_len o o.sig.length
     rw [sB_all] at h4
     show (o.sig.flatMap encB).length ≤ _
     omega
   · cases hp
 · have hl := localF_le o.syms
   refine ⟨ok10 (by decide) (by decide) (by decide) (by decide) (by decide) (by decide) (c _ (by omega) (by omega)) (c _ (by omega) (by omega)) (by decide) (by decide), ?_⟩
   have := entsF_len o (tabOf (namesOf o)).2.1 o.syms.length
   show (entsF o _ _).length ≤ _
   omega
 · refine ⟨ok10 (by decide) (by decide) (by decide) (by decide) (by decide) (by decide) (by decide) (by decide) (by decide) (by decide), ?_⟩
   have := tab_lenC 32 (namesOf o) ([0], [], []) (names32 h)
   have hn : (namesOf o).length = o.syms.length := by unfold namesOf; simp
   show (tabOf (namesOf o)).1.length ≤ _
   unfold tabOf
   simp only [List.length_cons, List.length_nil] at this
   omega
 · exact ⟨ok10 (by decide) (by decide) (by decide) (by decide) (by decide) (by decide) (by decide) (by decide) (by decide) (by decide), by decide⟩
theorem nmF_get (pl : List Int) (l : List PartD) : ∀ (n i : Nat), i < l.length → n ≤ l.length → (nmF pl l n).getD i default = if i < n then (l.getD i default).named (pl.getD i 0) else l.getD i default := by
 intro n
 induction n with
 | zero => intro i _ _; simp [nmF]
 | succ n ih =>
  intro i hi hn
  rw [nmF]
  by_cases h : i = n
  · subst h
    rw [if_pos (by omega), List.getD_eq_getElem?_getD, List.getElem?_set_self (by rw [nmF_len]; exact hi), Option.getD_some, ih i hi (by omega), if_neg (by omega)]
  · rw [List.getD_eq_getElem?_getD, List.getElem?_set_ne (Ne.symm h), ← List.getD_eq_getElem?_getD, ih i hi (by omega)]
    by_cases h2 : i < n
    · rw [if_pos h2, if_pos (by omega)]
    · rw [if_neg h2, if_neg (by omega)]
theorem finF_get {o : ObjD} {i : Nat} (h : i < (preF o).length) : (finF o).getD i default = ((tblF o).getD i default).named ((tabOf (pNames o)).2.1.getD i 0) := by
 unfold finF
 rw [nmF_get _ _ _ _ (by rw [tblF_len]; exact h) (by rw [tblF_len]; omega), if_pos h]
theorem tblF_get {o : ObjD} {i : Nat} (h : i < (preF o).length) : (tblF o).getD i default = if i = (preF o).length - 1 then shsPt.told (tabOf (pNames o)).1 else (preF o).getD i default := by
 unfold tblF
 by_cases hi : i = (preF o).length - 1
 · rw [if_pos hi, hi, List.getD_eq_getElem?_getD, List.getElem?_set_self (by omega)]; rfl
 · rw [if_neg hi, List.getD_eq_getElem?_getD, List.getElem?_set_ne (Ne.symm hi), ← List.getD_eq_getElem?_getD]
theorem pre_small {o : ObjD} (h : LayH o) : (preF o).length ≤ 1000000 ∧ 4 ≤ (preF o).length := by
 have hq := h.small
 have s1 := hq.secs
 have s3 := h.gs
 have := midF_len o (atF8 o)
 rw [preF_len]; omega
theorem fin_ok {o : ObjD} (h : LayH o) {i : Nat} (hi : i < (preF o).length) : PartOk ((finF o).getD i default) := by
 have hn32 := pre_names32 h
 have ht := tab_lenC 32 (pNames o) ([0], [], []) hn32
 have hnl : (pNames o).length = (preF o).length := by unfold pNames; rw [List.length_map]
 have hps := pre_small h
 have hpr := pl_range (l := pNames o) (k := i) (by omega)
 have hto : (tabOf (pNames o)).1.length ≤ 1 + 33 * (pNames o).length := by
  unfold tabOf; simpa using ht
 have hb : PartOk ((tblF o).getD i default) := by
  rw [tblF_get hi]
  split
  · exact ⟨ok10 (by decide) (by decide) (by decide) (by decide) (by decide) (by decide) (by decide) (by decide) (by decide) (by decide), by show (tabOf (pNames o)).1.length ≤ _; omega⟩
  · exact pre_ok h _ (mem_getD hi)
 rw [finF_get hi]
 obtain ⟨k0, k1, k2, k3, k4, k5, k6, k7, k8, k9⟩ := ok_all hb.1
 exact ⟨ok10 (by unfold I64; omega) k1 k2 k3 k4 k5 k6 k7 k8 k9, hb.2⟩
theorem putH_len (h : ShD) : (putH h).length ≤ 64 := by
 unfold putH; split
 · rw [bytes_len]; omega
 · simp
theorem layN_len {o : ObjD} (h : LayH o) : ∀ i, i ≤ (preF o).length → (layN (finF o) i).1.length ≤ 40000000 * i ∧ (layN (finF o) i).2.length ≤ 64 * i := by
 intro i
 induction i with
 | zero => intro _; exact ⟨by simp [layN], by simp [layN]⟩
 | succ i ih =>
  intro hi
  obtain ⟨h1, h2⟩ := ih (by omega)
  have h3 := (fin_ok h (i := i) (by omega)).2
  have h4 := putH_len (headOf i (layN (finF o) i).1 ((finF o).getD i default))
  rw [layN]
  constructor
  · show ((layN (finF o) i).1 ++ _).length ≤ _
    rw [List.length_append]; omega
  · show ((layN (finF o) i).2 ++ _).length ≤ _
    rw [List.length_append]; omega
theorem headOf_a {i : Nat} {body : List Int} {p : PartD} (h : ¬ i = 0) (h8 : p.h.a1 ≠ 8) : headOf i body p = ⟨p.h.a0, p.h.a1, p.h.a2, p.h.a3, 64 + body.length, p.b.length, p.h.a6, p.h.a7, p.h.a8, p.h.a9⟩ := by
 unfold headOf; rw [if_neg h, if_neg h8]
theorem headOf_b {i : Nat} {body : List Int} {p : PartD} (h : ¬ i = 0) (h8 : p.h.a1 = 8) : headOf i body p = ⟨p.h.a0, p.h.a1, p.h.a2, p.h.a3, 64 + body.length, p.h.a5, p.h.a6, p.h.a7, p.h.a8, p.h.a9⟩ := by
 unfold headOf; rw [if_neg h, if_pos h8]
theorem headOf_c {i : Nat} {body : List Int} {p : PartD} (h : i = 0) : headOf i body p = p.h := by
 unfold headOf; rw [if_pos h]
theorem headOf_ok {i : Nat} {body : List Int} {p : PartD} (hp : PartOk p) (hb : body.length ≤ 100000000000000) : (headOf i body p).ok := by
 obtain ⟨k0, k1, k2, k3, k4, k5, k6, k7, k8, k9⟩ := ok_all hp.1
 unfold headOf
 split
 · exact hp.1
 · refine ok10 k0 k1 k2 k3 (by unfold I64; omega) ?_ k6 k7 k8 k9
   have := hp.2
   split
   · exact k5
   · unfold I64; omega
def mayP (o : ObjD) : Bool := shapeB o && decide ((bytesF o).length ≤ 16384)
set_option maxHeartbeats 4000000 in
theorem obj_layR (o : ObjD) (h : LayH o) : A1 Tryz.prog 66 [.agg (objA o)] 5 1 (bys (bytesF o)) := by
 have hq := h.small
 have hso := h.ok
 have s1 := hq.secs
 have s2 := hq.syms
 have s3 := h.gs
 have s4 := h.sg
 have hps := pre_small h
 have hfl := finF_len o
 refine A1.body 59 (NIr.h) Tryz.func66 rfl rfl Tryz.ntmps66 fun base n0 => ?_
 refine AW.seq' ?_
 refine AW.region ?_
 refine AO.ww ?_
 refine AO.c ?_
 refine AO.nil ?_
 refine SQ.normal ?_
 refine AW.seq' ?_
 refine AW.region ?_
 refine AO.c ?_
 refine AO.call1 Tryz.func106 rfl rfl ((obj_partsR o h).a0 (by rw [List.length_map]; omega)) ?_
 refine AO.c ?_
 refine AO.nil ?_
 refine SQ.normal ?_
 refine AW.seq' ?_
 refine AW.region ?_
 iterate 2 refine AO.c ?_
 refine AO.nil ?_
 refine SQ.normal ?_
 refine AW.seq' ?_
 refine AW.seq' ?_
 refine AW.region ?_
 iterate 3 refine AO.c ?_
 refine AO.nil ?_
 refine SQ.normal ?_
 refine AW.block' ?_
 refine AW.ghost (Gh.adoptB 4 5) ?_
 refine AW.ghost (Gh.adoptB 5 5) ?_
 refine AW.loopU3 [.f, .f, .f, .k, .k, .k, .f, .f, .f, .f, .f, .k, .k, .k, .F, .F, .F, .F, .F, .f, .f, .f, .f, .f] (fun (i e4 e5 : Nat) => [(4, .own (n0 + 1) e4 0 (layN (finF o) i).1.length), (5, .own (n0 + 2) e5 0 (layN (finF o) i).2.length), (13, .v (.int .i64 (i)))]) (fun i e4 e5 => Hn n0 (([some (.box 29 (objA o)), some (.row 5 1 (e4) (bys ((layN (finF o) i).1))), some (.row 5 1 (e5) (bys ((layN (finF o) i).2)))] ++ List.replicate i none) ++ [])) (fun m i e4 e5 => i ≤ (finF o).length ∧ m = (finF o).length - i) ((finF o).length) (0) (0) (0) ⟨by omega, by omega⟩ (by first | rfl | (simp; done)) (by first | rfl | (simp; done)) ?_
 rintro m0 i e4 e5 ⟨hx1, hx2⟩
 refine AW.seq' ?_
 refine AW.region ?_
 refine AO.c ?_
 refine AO.nil ?_
 refine SQ.normal ?_
 refine AW.seq' ?_
 refine AW.iteB (GL.ev _) (fun h0 => ?_) (fun h0 => ?_)
 ·
  rw [decide_eq_true_eq] at h0
  have hi : i < (preF o).length := by omega
  have hpo := fin_ok h hi
  have hll := layN_len h i (by omega)
  have hst : layN (finF o) (i + 1) = ((layN (finF o) i).1 ++ ((finF o).getD i default).b, (layN (finF o) i).2 ++ putH (headOf i (layN (finF o) i).1 ((finF o).getD i default))) := rfl
  have hph := putH_len (headOf i (layN (finF o) i).1 ((finF o).getD i default))
  unfold putH at hph
  generalize hpe : (finF o).getD i default = p at hpo hst hph
  have hok := headOf_ok (i := i) (body := (layN (finF o) i).1) hpo (by omega)
  have hpb := hpo.2
  refine AW.skip ?_
  refine SQ.normal ?_
  refine AW.seq' ?_
  refine AW.block' ?_
  refine AW.seq' ?_
  refine AW.region ?_
  refine AO.c ?_
  refine AO.oo ?_
  refine AO.c ?_
  refine AO.eq 17 (av' := .agg (partA p)) (by rw [hpe]) ?_
  refine AO.ww ?_
  refine AO.c ?_
  refine AO.sst ?_
  refine AO.nil ?_
  refine SQ.normal ?_
  refine AW.seq' ?_
  refine AW.seq' ?_
  refine AW.region ?_
  iterate 2 refine AO.c ?_
  refine AO.nil ?_
  refine SQ.normal ?_
  refine AW.iteB (GL.ev _) (fun h1 => ?_) (fun h1 => ?_)
  ·
   rw [decide_eq_true_eq] at h1
   refine AW.seq' ?_
   refine AW.region ?_
   iterate 2 refine AO.c ?_
   refine AO.oo ?_
   iterate 2 refine AO.c ?_
   refine AO.sst ?_
   refine AO.nil ?_
   refine SQ.normal ?_
   refine AW.seq' ?_
   refine AW.region ?_
   iterate 4 refine AO.c ?_
   refine AO.nil ?_
   refine SQ.normal ?_
   refine AW.iteB (GL.ev _) (fun h2 => ?_) (fun h2 => ?_)
   ·
    rw [decide_eq_true_eq] at h2
    refine AW.region ?_
    iterate 5 refine AO.c ?_
    refine AO.sst ?_
    refine AO.nil ?_
    refine SQ.normal ?_
    refine AW.seq' ?_
    refine AW.region ?_
    iterate 3 refine AO.c ?_
    refine AO.ww ?_
    refine AO.c ?_
    refine AO.nil ?_
    refine SQ.normal ?_
    refine AW.region ?_
    skip
    iterate 3 refine AO.c ?_
    refine AO.eq 40 (av' := .agg (shA (headOf i (layN (finF o) i).1 p))) (by first | (rw [headOf_a (show ¬ i = 0 by omega) h2]) | (rw [headOf_b (show ¬ i = 0 by omega) h2]) | (rw [headOf_c (show i = 0 by omega)])) ?_
    refine AO.call1 Tryz.func107 rfl rfl (shdr_Put (headOf i (layN (finF o) i).1 p) hok) ?_
    refine AO.ww ?_
    refine AO.c ?_
    refine AO.nil ?_
    refine BQ.normal ?_
    refine SQ.normal ?_
    refine AW.region ?_
    refine AO.oo ?_
    refine AO.c ?_
    refine AO.nil ?_
    exact AW.backE [.f, .f, .f, .k, .k, .k, .f, .f, .f, .f, .f, .k, .k, .k, .F, .F, .F, .F, .F, .f, .f, .f, .f, .f] (i) (m0 - 1) (i + 1, e4 + 1, e5 + 1) (by omega) (by (try dsimp only); exact ⟨by omega, by omega⟩) (by first | ((try dsimp only); rw [hst, List.length_append, List.length_append]; done) | ((try dsimp only); rw [hst, List.length_append, List.length_append]; rfl)) (by first | (rw [hst]; done) | (rw [hst]; rfl))
   ·
    rw [decide_eq_false_iff_not, Decidable.not_not] at h2
    refine AW.skip ?_
    refine SQ.normal ?_
    refine AW.seq' ?_
    refine AW.region ?_
    iterate 3 refine AO.c ?_
    refine AO.ww ?_
    refine AO.c ?_
    refine AO.nil ?_
    refine SQ.normal ?_
    refine AW.region ?_
    skip
    iterate 3 refine AO.c ?_
    refine AO.eq 40 (av' := .agg (shA (headOf i (layN (finF o) i).1 p))) (by first | (rw [headOf_a (show ¬ i = 0 by omega) h2]) | (rw [headOf_b (show ¬ i = 0 by omega) h2]) | (rw [headOf_c (show i = 0 by omega)])) ?_
    refine AO.call1 Tryz.func107 rfl rfl (shdr_Put (headOf i (layN (finF o) i).1 p) hok) ?_
    refine AO.ww ?_
    refine AO.c ?_
    refine AO.nil ?_
    refine BQ.normal ?_
    refine SQ.normal ?_
    refine AW.region ?_
    refine AO.oo ?_
    refine AO.c ?_
    refine AO.nil ?_
    exact AW.backE [.f, .f, .f, .k, .k, .k, .f, .f, .f, .f, .f, .k, .k, .k, .F, .F, .F, .F, .F, .f, .f, .f, .f, .f] (i) (m0 - 1) (i + 1, e4 + 1, e5 + 1) (by omega) (by (try dsimp only); exact ⟨by omega, by omega⟩) (by first | ((try dsimp only); rw [hst, List.length_append, List.length_append]; done) | ((try dsimp only); rw [hst, List.length_append, List.length_append]; rfl)) (by first | (rw [hst]; done) | (rw [hst]; rfl))
  ·
   rw [decide_eq_false_iff_not] at h1
   refine AW.skip ?_
   refine SQ.normal ?_
   refine AW.seq' ?_
   refine AW.region ?_
   iterate 3 refine AO.c ?_
   refine AO.ww ?_
   refine AO.c ?_
   refine AO.nil ?_
   refine SQ.normal ?_
   refine AW.region ?_
   skip
   iterate 3 refine AO.c ?_
   refine AO.eq 40 (av' := .agg (shA (headOf i (layN (finF o) i).1 p))) (by first | (rw [headOf_a (show ¬ i = 0 by omega) h2]) | (rw [headOf_b (show ¬ i = 0 by omega) h2]) | (rw [headOf_c (show i = 0 by omega)])) ?_
   refine AO.call1 Tryz.func107 rfl rfl (shdr_Put (headOf i (layN (finF o) i).1 p) hok) ?_
   refine AO.ww ?_
   refine AO.c ?_
   refine AO.nil ?_
   refine BQ.normal ?_
   refine SQ.normal ?_
   refine AW.region ?_
   refine AO.oo ?_
   refine AO.c ?_
   refine AO.nil ?_
   exact AW.backE [.f, .f, .f, .k, .k, .k, .f, .f, .f, .f, .f, .k, .k, .k, .F, .F, .F, .F, .F, .f, .f, .f, .f, .f] (i) (m0 - 1) (i + 1, e4 + 1, e5 + 1) (by omega) (by (try dsimp only); exact ⟨by omega, by omega⟩) (by first | ((try dsimp only); rw [hst, List.length_append, List.length_append]; done) | ((try dsimp only); rw [hst, List.length_append, List.length_append]; rfl)) (by first | (rw [hst]; done) | (rw [hst]; rfl))
 ·
  rw [decide_eq_false_iff_not] at h0
  have hif : i = (finF o).length := by omega
  have hll := layN_len h (finF o).length (by omega)
  have hll2 := layN_len h i (by omega)
  have heh := hdI_len ⟨64 + (layN (finF o) i).1.length, (finF o).length, ((finF o).length : Int) - 1⟩
  refine AW.exit ?_
  refine SQ.exit <| AW.out <| LU.exit <| BQ.exit ?_
  refine SQ.normal ?_
  refine AW.seq' ?_
  refine AW.region ?_
  iterate 2 refine AO.c ?_
  refine AO.oo ?_
  iterate 4 refine AO.c ?_
  refine AO.oo ?_
  refine AO.c ?_
  refine AO.callR Tryz.func108 rfl rfl (ehdr_Put ⟨64 + (layN (finF o) i).1.length, (finF o).length, ((finF o).length : Int) - 1⟩) (by rw [bys_length]) ?_
  refine AO.c ?_
  refine AO.nil ?_
  refine SQ.normal ?_
  refine AW.seq' ?_
  refine AW.region ?_
  refine AO.ghost (Gh.freezeE 4 (li' := (layN (finF o) (finF o).length).1) (by rw [hif]) (by rw [hif]) (by omega)) ?_
  refine AO.ghost (Gh.freezeE 5 (li' := (layN (finF o) (finF o).length).2) (by rw [hif]) (by rw [hif]) (by omega)) ?_
  iterate 2 refine AO.c ?_
  refine AO.ww ?_
  refine AO.c ?_
  refine AO.ww ?_
  refine AO.c ?_
  refine AO.nil ?_
  refine SQ.normal ?_
  refine AW.ret ?_
  refine FinO.ret 2 (Gh.refl) rfl ?_ ?_ (.inr rfl)
  · rw [hif]; rfl
  · rw [bys_length]; unfold bytesF putEh; rw [hif]; simp only [List.length_append]
theorem bytesF_len {o : ObjD} (h : LayH o) : (bytesF o).length ≤ 9223372036854775807 := by
 have hps := pre_small h
 have hfl := finF_len o
 have hll := layN_len h (finF o).length (by omega)
 have he : (putEh ⟨64 + (layN (finF o) (finF o).length).1.length, (finF o).length, (finF o).length - 1⟩).length ≤ 64 := by
  unfold putEh; exact hdI_len _
 unfold bytesF
 simp only [List.length_append]
 omega
theorem obj_May (o : ObjD) (ho : o.ok) (hg : o.groups.length ≤ 900000) (hsg : o.sig.length ≤ 1000000) : A0 Tryz.prog 25 [.agg (objA o)] (fun ret => ret = .v (.bool (mayP o))) := by
 have hsh := obj_shape o ho
 rw [shape_eq ho] at hsh
 refine A0.body 11 Tryz.func25 rfl rfl Tryz.ntmps25 fun base n0 => ?_
 refine AW.seq' ?_
 refine AW.region ?_
 refine AO.ww ?_
 refine AO.c ?_
 refine AO.nil ?_
 refine SQ.normal ?_
 refine AW.seq' ?_
 refine AW.region ?_
 refine AO.c ?_
 refine AO.call1 Tryz.func30 rfl rfl (hsh) ?_
 refine AO.c ?_
 refine AO.gx ?_
 refine AO.gxcall1 Tryz.func66 rfl rfl (fun hgd => (obj_layR o ⟨ho, hgd, hg, hsg⟩).a0 (by rw [bys_length]; exact bytesF_len ⟨ho, hgd, hg, hsg⟩)) ?_
 iterate 2 refine AO.gx ?_
 iterate 2 refine AO.c ?_
 refine AO.nil ?_
 refine SQ.normal ?_
 refine AW.ret ?_
 refine Fin.ret (Gh.refl) noid1 ?_
 unfold mayP; rw [show decide ((bytesF o).length ≤ 16384) = decide (((bytesF o).length : Int) ≤ 16384) by rw [Bool.eq_iff_iff]; simp; omega]; rfl
theorem obj_Put (o : ObjD) (ho : o.ok) (hg : o.groups.length ≤ 900000) (hsg : o.sig.length ≤ 1000000) : A0 Tryz.prog 24 [.agg (objA o)] (fun ret => ret = .tup [.rd 1 (bys (if mayP o = true then bytesF o else [])), .v (ifV 37 (if mayP o = true then 0 else 1))]) := by
 refine A0.body 10 Tryz.func24 rfl rfl Tryz.ntmps24 fun base n0 => ?_
 refine AW.seq' ?_
 refine AW.region ?_
 refine AO.ww ?_
 iterate 2 refine AO.c ?_
 refine AO.nil ?_
 refine SQ.normal ?_
 refine AW.seq' ?_
 refine AW.seq' ?_
 refine AW.region ?_
 refine AO.c ?_
 refine AO.call1 Tryz.func25 rfl rfl (obj_May o ho hg hsg) ?_
 refine AO.c ?_
 refine AO.nil ?_
 refine SQ.normal ?_
 refine AW.iteB (GL.ev _) (fun h0 => ?_) (fun h0 => ?_)
 ·
  rw [Bool.not_eq_true'] at h0
  refine AW.seq' ?_
  refine AW.region ?_
  iterate 3 refine AO.c ?_
  refine AO.nil ?_
  refine SQ.normal ?_
  refine AW.ret ?_
  refine SQ.ret ?_
  refine Fin.ret (Gh.tell 2 (.rd 1 (bys []))) noid2 ?_
  rw [if_neg (by rw [h0]; decide), if_neg (by rw [h0]; decide)]; rfl
 ·
  rw [Bool.not_eq_false'] at h0
  have hL : LayH o := ⟨ho, by unfold mayP at h0; rw [Bool.and_eq_true] at h0; exact h0.1, hg, hsg⟩
  refine AW.skip ?_
  refine SQ.normal ?_
  refine AW.seq' ?_
  refine AW.region ?_
  refine AO.c ?_
  refine AO.call1 Tryz.func66 rfl rfl ((obj_layR o hL).a0 (by rw [bys_length]; exact bytesF_len hL)) ?_
  iterate 2 refine AO.c ?_
  refine AO.nil ?_
  refine SQ.normal ?_
  refine AW.ret ?_
  refine Fin.ret (Gh.refl) noid2 ?_
  rw [if_pos h0, if_pos h0]; rfl
end Go.Proofs.YtdniaamhbfadnaaGreat.AL
namespace Go.Proofs.YtdniaamhbfadnaaGreat.AL
open Go Go.RowKit Go.Proofs.YtdniaamhbfadnaaGreat.Base
set_option linter.unusedVariables false
set_option linter.unusedSimpArgs false
set_option maxRecDepth 4000
set_option synthInstance.maxSize 1000
set_option synthInstance.maxHeartbeats 200000
def knownF (t : Int) : Bool := decide (t = 1 ∨ t = 8 ∨ t = 2 ∨ t = 3 ∨ t = 4 ∨ t = 17 ∨ t = 1879002115)
def isF (Lh : List ShD) (i t : Int) : Bool := decide (i > 0) && decide (i < Lh.length) && decide ((Lh.getD i.toNat default).a1 = t)
def toldF (b : List Int) (h : ShD) : List Int := if h.a1 = 8 then [] else (b.take (h.a4 + h.a5).toNat).drop h.a4.toNat
/-- What a header tells of lies in the bytes. -/
def TellOk (b : List Int) (h : ShD) : Prop := 0 ≤ h.a4 ∧ 0 ≤ h.a5 ∧ (h.a1 = 8 ∨ h.a4 + h.a5 ≤ b.length)
theorem obj_known (t : Int) : A0 Tryz.prog 69 [.v (.int .i64 (t))] (fun ret => ret = .v (.bool (knownF t))) := by
 refine A0.body 12 Tryz.func69 rfl rfl Tryz.ntmps69 fun base n0 => ?_
 refine AW.seq' ?_
 refine AW.region ?_
 refine AO.c ?_
 refine AO.nil ?_
 refine SQ.normal ?_
 refine AW.seq' ?_
 refine AW.seq' ?_
 refine AW.region ?_
 refine AO.c ?_
 refine AO.nil ?_
 refine SQ.normal ?_
 refine AW.block' ?_
 refine AW.seq' ?_
 refine AW.seq' ?_
 refine AW.region ?_
 iterate 2 refine AO.c ?_
 refine AO.nil ?_
 refine SQ.normal ?_
 refine AW.iteB (GL.ev _) (fun h0 => ?_) (fun h0 => ?_)
 ·
  try simp only [Bool.and_eq_true, Bool.or_eq_true, Bool.not_eq_true', Bool.and_eq_false_iff, Bool.or_eq_false_iff, decide_eq_true_eq, decide_eq_false_iff_not, bys_length] at h0
  refine AW.skip ?_
  refine SQ.normal ?_
  refine AW.iteB (GL.ev _) (fun h6 => ?_) (fun h6 => ?_)
  ·
   try simp only [Bool.and_eq_true, Bool.or_eq_true, Bool.not_eq_true', Bool.and_eq_false_iff, Bool.or_eq_false_iff, decide_eq_true_eq, decide_eq_false_iff_not, bys_length] at h6
   refine AW.seq' ?_
   refine AW.region ?_
   refine AO.c ?_
   refine AO.nil ?_
   refine SQ.normal ?_
   refine AW.ret ?_
   refine BQ.ret <| SQ.ret ?_
   refine Fin.ret (Gh.refl) noid1 ?_
   show AV.v _ = AV.v _
   congr 2
   unfold knownF
   first | (exfalso; omega) | (rw [decide_eq_true (by omega)])
  ·
   try simp only [Bool.and_eq_true, Bool.or_eq_true, Bool.not_eq_true', Bool.and_eq_false_iff, Bool.or_eq_false_iff, decide_eq_true_eq, decide_eq_false_iff_not, bys_length] at h6
   refine AW.skip ?_
   refine BQ.normal ?_
   refine SQ.normal ?_
   refine AW.seq' ?_
   refine AW.region ?_
   refine AO.c ?_
   refine AO.nil ?_
   refine SQ.normal ?_
   refine AW.ret ?_
   refine Fin.ret (Gh.refl) noid1 ?_
   show AV.v _ = AV.v _
   congr 2
   unfold knownF
   first | (exfalso; omega) | (rw [decide_eq_true (by omega)]) | (rw [decide_eq_false (by omega)])
 ·
  try simp only [Bool.and_eq_true, Bool.or_eq_true, Bool.not_eq_true', Bool.and_eq_false_iff, Bool.or_eq_false_iff, decide_eq_true_eq, decide_eq_false_iff_not, bys_length] at h0
  refine AW.seq' ?_
  refine AW.region ?_
  iterate 2 refine AO.c ?_
  refine AO.nil ?_
  refine SQ.normal ?_
  refine AW.iteB (GL.ev _) (fun h1 => ?_) (fun h1 => ?_)
  ·
   try simp only [Bool.and_eq_true, Bool.or_eq_true, Bool.not_eq_true', Bool.and_eq_false_iff, Bool.or_eq_false_iff, decide_eq_true_eq, decide_eq_false_iff_not, bys_length] at h1
   refine AW.skip ?_
   refine SQ.normal ?_
   refine AW.iteB (GL.ev _) (fun h6 => ?_) (fun h6 => ?_)
   ·
    try simp only [Bool.and_eq_true, Bool.or_eq_true, Bool.not_eq_true', Bool.and_eq_false_iff, Bool.or_eq_false_iff, decide_eq_true_eq, decide_eq_false_iff_not, bys_length] at h6
    refine AW.seq' ?_
    refine AW.region ?_
    refine AO.c ?_
    refine AO.nil ?_
    refine SQ.normal ?_
    refine AW.ret ?_
    refine BQ.ret <| SQ.ret ?_
    refine Fin.ret (Gh.refl) noid1 ?_
    show AV.v _ = AV.v _
    congr 2
    unfold knownF
    first | (exfalso; omega) | (rw [decide_eq_true (by omega)]) | (rw [decide_eq_false (by omega)])
   ·
    try simp only [Bool.and_eq_true, Bool.or_eq_true, Bool.not_eq_true', Bool.and_eq_false_iff, Bool.or_eq_false_iff, decide_eq_true_eq, decide_eq_false_iff_not, bys_length] at h6
    refine AW.skip ?_
    refine BQ.normal ?_
    refine SQ.normal ?_
    refine AW.seq' ?_
    refine AW.region ?_
    refine AO.c ?_
    refine AO.nil ?_
    refine SQ.normal ?_
    refine AW.ret ?_
    refine Fin.ret (Gh.refl) noid1 ?_
    show AV.v _ = AV.v _
    congr 2
    unfold knownF
    first | (exfalso; omega) | (rw [decide_eq_true (by omega)]) | (rw [decide_eq_false (by omega)])
  ·
   try simp only [Bool.and_eq_true, Bool.or_eq_true, Bool.not_eq_true', Bool.and_eq_false_iff, Bool.or_eq_false_iff, decide_eq_true_eq, decide_eq_false_iff_not, bys_length] at h1
   refine AW.seq' ?_
   refine AW.region ?_
   iterate 2 refine AO.c ?_
   refine AO.nil ?_
   refine SQ.normal ?_
   refine AW.iteB (GL.ev _) (fun h2 => ?_) (fun h2 => ?_)
   ·
    try simp only [Bool.and_eq_true, Bool.or_eq_true, Bool.not_eq_true', Bool.and_eq_false_iff, Bool.or_eq_false_iff, decide_eq_true_eq, decide_eq_false_iff_not, bys_length] at h2
    refine AW.skip ?_
    refine SQ.normal ?_
    refine AW.iteB (GL.ev _) (fun h6 => ?_) (fun h6 => ?_)
    ·
     try simp only [Bool.and_eq_true, Bool.or_eq_true, Bool.not_eq_true', Bool.and_eq_false_iff, Bool.or_eq_false_iff, decide_eq_true_eq, decide_eq_false_iff_not, bys_length] at h6
     refine AW.seq' ?_
     refine AW.region ?_
     refine AO.c ?_
     refine AO.nil ?_
     refine SQ.normal ?_
     refine AW.ret ?_
     refine BQ.ret <| SQ.ret ?_
     refine Fin.ret (Gh.refl) noid1 ?_
     show AV.v _ = AV.v _
     congr 2
     unfold knownF
     first | (exfalso; omega) | (rw [decide_eq_true (by omega)]) | (rw [decide_eq_false (by omega)])
    ·
     try simp only [Bool.and_eq_true, Bool.or_eq_true, Bool.not_eq_true', Bool.and_eq_false_iff, Bool.or_eq_false_iff, decide_eq_true_eq, decide_eq_false_iff_not, bys_length] at h6
     refine AW.skip ?_
     refine BQ.normal ?_
     refine SQ.normal ?_
     refine AW.seq' ?_
     refine AW.region ?_
     refine AO.c ?_
     refine AO.nil ?_
     refine SQ.normal ?_
     refine AW.ret ?_
     refine Fin.ret (Gh.refl) noid1 ?_
     show AV.v _ = AV.v _
     congr 2
     unfold knownF
     first | (exfalso; omega) | (rw [decide_eq_true (by omega)]) | (rw [decide_eq_false (by omega)])
   ·
    try simp only [Bool.and_eq_true, Bool.or_eq_true, Bool.not_eq_true', Bool.and_eq_false_iff, Bool.or_eq_false_iff, decide_eq_true_eq, decide_eq_false_iff_not, bys_length] at h2
    refine AW.seq' ?_
    refine AW.region ?_
    iterate 2 refine AO.c ?_
    refine AO.nil ?_
    refine SQ.normal ?_
    refine AW.iteB (GL.ev _) (fun h3 => ?_) (fun h3 => ?_)
    ·
     try simp only [Bool.and_eq_true, Bool.or_eq_true, Bool.not_eq_true', Bool.and_eq_false_iff, Bool.or_eq_false_iff, decide_eq_true_eq, decide_eq_false_iff_not, bys_length] at h3
     refine AW.skip ?_
     refine SQ.normal ?_
     refine AW.iteB (GL.ev _) (fun h6 => ?_) (fun h6 => ?_)
     ·
      try simp only [Bool.and_eq_true, Bool.or_eq_true, Bool.not_eq_true', Bool.and_eq_false_iff, Bool.or_eq_false_iff, decide_eq_true_eq, decide_eq_false_iff_not, bys_length] at h6
      refine AW.seq' ?_
      refine AW.region ?_
      refine AO.c ?_
      refine AO.nil ?_
      refine SQ.normal ?_
      refine AW.ret ?_
      refine BQ.ret <| SQ.ret ?_
      refine Fin.ret (Gh.refl) noid1 ?_
      show AV.v _ = AV.v _
      congr 2
      unfold knownF
      first | (exfalso; omega) | (rw [decide_eq_true (by omega)]) | (rw [decide_eq_false (by omega)])
     ·
      try simp only [Bool.and_eq_true, Bool.or_eq_true, Bool.not_eq_true', Bool.and_eq_false_iff, Bool.or_eq_false_iff, decide_eq_true_eq, decide_eq_false_iff_not, bys_length] at h6
      refine AW.skip ?_
      refine BQ.normal ?_
      refine SQ.normal ?_
      refine AW.seq' ?_
      refine AW.region ?_
      refine AO.c ?_
      refine AO.nil ?_
      refine SQ.normal ?_
      refine AW.ret ?_
      refine Fin.ret (Gh.refl) noid1 ?_
      show AV.v _ = AV.v _
      congr 2
      unfold knownF
      first | (exfalso; omega) | (rw [decide_eq_true (by omega)]) | (rw [decide_eq_false (by omega)])
    ·
     try simp only [Bool.and_eq_true, Bool.or_eq_true, Bool.not_eq_true', Bool.and_eq_false_iff, Bool.or_eq_false_iff, decide_eq_true_eq, decide_eq_false_iff_not, bys_length] at h3
     refine AW.seq' ?_
     refine AW.region ?_
     iterate 2 refine AO.c ?_
     refine AO.nil ?_
     refine SQ.normal ?_
     refine AW.iteB (GL.ev _) (fun h4 => ?_) (fun h4 => ?_)
     ·
      try simp only [Bool.and_eq_true, Bool.or_eq_true, Bool.not_eq_true', Bool.and_eq_false_iff, Bool.or_eq_false_iff, decide_eq_true_eq, decide_eq_false_iff_not, bys_length] at h4
      refine AW.skip ?_
      refine SQ.normal ?_
      refine AW.iteB (GL.ev _) (fun h6 => ?_) (fun h6 => ?_)
      ·
       try simp only [Bool.and_eq_true, Bool.or_eq_true, Bool.not_eq_true', Bool.and_eq_false_iff, Bool.or_eq_false_iff, decide_eq_true_eq, decide_eq_false_iff_not, bys_length] at h6
       refine AW.seq' ?_
       refine AW.region ?_
       refine AO.c ?_
       refine AO.nil ?_
       refine SQ.normal ?_
       refine AW.ret ?_
       refine BQ.ret <| SQ.ret ?_
       refine Fin.ret (Gh.refl) noid1 ?_
       show AV.v _ = AV.v _
       congr 2
       unfold knownF
       first | (exfalso; omega) | (rw [decide_eq_true (by omega)]) | (rw [decide_eq_false (by omega)])
      ·
       try simp only [Bool.and_eq_true, Bool.or_eq_true, Bool.not_eq_true', Bool.and_eq_false_iff, Bool.or_eq_false_iff, decide_eq_true_eq, decide_eq_false_iff_not, bys_length] at h6
       refine AW.skip ?_
       refine BQ.normal ?_
       refine SQ.normal ?_
       refine AW.seq' ?_
       refine AW.region ?_
       refine AO.c ?_
       refine AO.nil ?_
       refine SQ.normal ?_
       refine AW.ret ?_
       refine Fin.ret (Gh.refl) noid1 ?_
       show AV.v _ = AV.v _
       congr 2
       unfold knownF
       first | (exfalso; omega) | (rw [decide_eq_true (by omega)]) | (rw [decide_eq_false (by omega)])
     ·
      try simp only [Bool.and_eq_true, Bool.or_eq_true, Bool.not_eq_true', Bool.and_eq_false_iff, Bool.or_eq_false_iff, decide_eq_true_eq, decide_eq_false_iff_not, bys_length] at h4
      refine AW.seq' ?_
      refine AW.region ?_
      iterate 2 refine AO.c ?_
      refine AO.nil ?_
      refine SQ.normal ?_
      refine AW.iteB (GL.ev _) (fun h5 => ?_) (fun h5 => ?_)
      ·
       try simp only [Bool.and_eq_true, Bool.or_eq_true, Bool.not_eq_true', Bool.and_eq_false_iff, Bool.or_eq_false_iff, decide_eq_true_eq, decide_eq_false_iff_not, bys_length] at h5
       refine AW.skip ?_
       refine SQ.normal ?_
       refine AW.iteB (GL.ev _) (fun h6 => ?_) (fun h6 => ?_)
       ·
        try simp only [Bool.and_eq_true, Bool.or_eq_true, Bool.not_eq_true', Bool.and_eq_false_iff, Bool.or_eq_false_iff, decide_eq_true_eq, decide_eq_false_iff_not, bys_length] at h6
        refine AW.seq' ?_
        refine AW.region ?_
        refine AO.c ?_
        refine AO.nil ?_
        refine SQ.normal ?_
        refine AW.ret ?_
        refine BQ.ret <| SQ.ret ?_
        refine Fin.ret (Gh.refl) noid1 ?_
        show AV.v _ = AV.v _
        congr 2
        unfold knownF
        first | (exfalso; omega) | (rw [decide_eq_true (by omega)]) | (rw [decide_eq_false (by omega)])
       ·
        try simp only [Bool.and_eq_true, Bool.or_eq_true, Bool.not_eq_true', Bool.and_eq_false_iff, Bool.or_eq_false_iff, decide_eq_true_eq, decide_eq_false_iff_not, bys_length] at h6
        refine AW.skip ?_
        refine BQ.normal ?_
        refine SQ.normal ?_
        refine AW.seq' ?_
        refine AW.region ?_
        refine AO.c ?_
        refine AO.nil ?_
        refine SQ.normal ?_
        refine AW.ret ?_
        refine Fin.ret (Gh.refl) noid1 ?_
        show AV.v _ = AV.v _
        congr 2
        unfold knownF
        first | (exfalso; omega) | (rw [decide_eq_true (by omega)]) | (rw [decide_eq_false (by omega)])
      ·
       try simp only [Bool.and_eq_true, Bool.or_eq_true, Bool.not_eq_true', Bool.and_eq_false_iff, Bool.or_eq_false_iff, decide_eq_true_eq, decide_eq_false_iff_not, bys_length] at h5
       refine AW.region ?_
       iterate 2 refine AO.c ?_
       refine AO.nil ?_
       refine SQ.normal ?_
       refine AW.iteB (GL.ev _) (fun h6 => ?_) (fun h6 => ?_)
       ·
        try simp only [Bool.and_eq_true, Bool.or_eq_true, Bool.not_eq_true', Bool.and_eq_false_iff, Bool.or_eq_false_iff, decide_eq_true_eq, decide_eq_false_iff_not, bys_length] at h6
        refine AW.seq' ?_
        refine AW.region ?_
        refine AO.c ?_
        refine AO.nil ?_
        refine SQ.normal ?_
        refine AW.ret ?_
        refine BQ.ret <| SQ.ret ?_
        refine Fin.ret (Gh.refl) noid1 ?_
        show AV.v _ = AV.v _
        congr 2
        unfold knownF
        first | (exfalso; omega) | (rw [decide_eq_true (by omega)]) | (rw [decide_eq_false (by omega)])
       ·
        try simp only [Bool.and_eq_true, Bool.or_eq_true, Bool.not_eq_true', Bool.and_eq_false_iff, Bool.or_eq_false_iff, decide_eq_true_eq, decide_eq_false_iff_not, bys_length] at h6
        refine AW.skip ?_
        refine BQ.normal ?_
        refine SQ.normal ?_
        refine AW.seq' ?_
        refine AW.region ?_
        refine AO.c ?_
        refine AO.nil ?_
        refine SQ.normal ?_
        refine AW.ret ?_
        refine Fin.ret (Gh.refl) noid1 ?_
        show AV.v _ = AV.v _
        congr 2
        unfold knownF
        first | (exfalso; omega) | (rw [decide_eq_true (by omega)]) | (rw [decide_eq_false (by omega)])
theorem obj_is (b : List Int) (Lh : List ShD) (i t : Int) (hLh : Lh.length ≤ 1000000) : A0 Tryz.prog 70 [.eptr [.rd 1 (bys b), .rd 10 (Lh.map shA)], .v (.int .i64 (i)), .v (.int .i64 (t))] (fun ret => ret = .v (.bool (isF Lh i t))) := by
 refine A0.body 30 Tryz.func70 rfl rfl Tryz.ntmps70 fun base n0 => ?_
 refine AW.seq' ?_
 refine AW.region ?_
 refine AO.c ?_
 refine AO.nil ?_
 refine SQ.normal ?_
 refine AW.seq' ?_
 refine AW.region ?_
 iterate 3 refine AO.c ?_
 iterate 7 refine AO.gx ?_
 iterate 2 refine AO.c ?_
 iterate 5 refine AO.gx ?_
 refine AO.gxoo ?_
 iterate 4 refine AO.gx ?_
 iterate 2 refine AO.c ?_
 refine AO.nil ?_
 refine SQ.normal ?_
 refine AW.ret ?_
 refine Fin.ret (Gh.refl) noid1 ?_
 first | rfl | (simp [packA]; done)
theorem obj_told (b : List Int) (Lh : List ShD) (i : Int) (hi : 0 ≤ i ∧ i < Lh.length) (hb : b.length ≤ 1000000) (ht : TellOk b (Lh.getD i.toNat default)) : A0 Tryz.prog 72 [.eptr [.rd 1 (bys b), .rd 10 (Lh.map shA)], .v (.int .i64 (i))] (fun ret => ret = .rd 1 (bys (toldF b (Lh.getD i.toNat default)))) := by
 unfold TellOk at ht
 generalize hhe : Lh.getD i.toNat default = hh at ht ⊢
 refine A0.body 28 Tryz.func72 rfl rfl Tryz.ntmps72 fun base n0 => ?_
 refine AW.seq' ?_
 refine AW.region ?_
 refine AO.c ?_
 refine AO.nil ?_
 refine SQ.normal ?_
 refine AW.seq' ?_
 refine AW.region ?_
 iterate 5 refine AO.c ?_
 refine AO.oo ?_
 refine AO.c ?_
 refine AO.eq 12 (av' := .agg (shA hh)) (by rw [hhe]) ?_
 refine AO.ww ?_
 refine AO.sst ?_
 refine AO.nil ?_
 refine SQ.normal ?_
 refine AW.seq' ?_
 refine AW.seq' ?_
 refine AW.region ?_
 iterate 3 refine AO.c ?_
 refine AO.nil ?_
 refine SQ.normal ?_
 refine AW.iteB (GL.ev _) (fun h0 => ?_) (fun h0 => ?_)
 ·
  try simp only [Bool.and_eq_true, Bool.or_eq_true, Bool.not_eq_true', Bool.and_eq_false_iff, Bool.or_eq_false_iff, decide_eq_true_eq, decide_eq_false_iff_not, bys_length] at h0
  refine AW.seq' ?_
  refine AW.region ?_
  refine AO.c ?_
  refine AO.nil ?_
  refine SQ.normal ?_
  refine AW.ret ?_
  refine SQ.ret ?_
  refine Fin.ret (Gh.nilB 4) noid1 ?_
  unfold toldF; rw [if_pos h0]; rfl
 ·
  try simp only [Bool.and_eq_true, Bool.or_eq_true, Bool.not_eq_true', Bool.and_eq_false_iff, Bool.or_eq_false_iff, decide_eq_true_eq, decide_eq_false_iff_not, bys_length] at h0
  refine AW.skip ?_
  refine SQ.normal ?_
  refine AW.seq' ?_
  refine AW.drawsZ [] (.one 0 false (.one 1 false (.one 2 false (.one 3 false (.one 4 false (.one 5 false (.one 6 false (.one 7 false (.one 8 false (.one 9 false (.one 10 false (.one 11 false (.one 12 false .nil))))))))))))) (by kernel_rfl) rfl (by kernel_rfl) ?_
  iterate 10 refine AZ.c rfl ?_
  iterate 2 refine AZ.oo rfl ?_
  refine AZ.c rfl ?_
  refine AZ.done ?_
  refine SQ.normal ?_
  refine AW.ret ?_
  refine Fin.ret (Gh.refl) noid1 ?_
  unfold toldF; rw [if_neg h0]; rfl
end Go.Proofs.YtdniaamhbfadnaaGreat.AL
namespace Go.Proofs.YtdniaamhbfadnaaGreat.AL
open Go Go.RowKit Go.Proofs.YtdniaamhbfadnaaGreat.Base
set_option linter.unusedVariables false
set_option linter.unusedSimpArgs false
set_option maxRecDepth 4000
set_option synthInstance.maxSize 1000
set_option synthInstance.maxHeartbeats 200000
@[reducible] def secN (s : SecD) : List AV := [.v (.string s.name), .v (.int .i64 s.typ), .v (.int .i64 s.flags), .v (.int .i64 s.align), .v (.int .i64 s.ent), .v (.int .i64 s.link), .v (.int .i64 s.size), .rd 1 (bys s.data), .v (.slice none 0 0)]
/-- The section that a header is, but for its link and its relocations. -/
def secO (b : List Int) (h : ShD) (nm : ByteArray) : SecD := ⟨nm, h.a1, h.a2, max h.a8 1, h.a9, 0, h.a5, toldF b h, []⟩
set_option maxHeartbeats 1000000 in
theorem obj_sort (n : Nat) (z : List AV) (b : List Int) (Lh : List ShD) (M : List (Int × Int)) (S : List SecD) (i tb : Int) (nm : ByteArray) (e5 m5 e6 m6 : Nat) (hs : Bool) (y g : Option AB) (X : List (Option AB)) {lx : Nat} [le : LEN X lx] (ep : Nat) (h : ShD) (hh : Lh.getD i.toNat default = h) (hi : 0 ≤ i ∧ i < Lh.length) (hb : b.length ≤ 1000000) (hS : S.length ≤ 1000000) (hM : M.length ≤ 1000000) (ht : TellOk b h) : AC Tryz.prog 73 (Hn n ([some (.box 29 z), some (.map ((M).map (mE kI vI))), some (.box 88 [.rd 1 (bys b), .rd 10 (Lh.map shA), .omap (n + 1), .v (.int .i64 (tb)), .own (n + 4) (ep) 0 (S).length, .own (n + 5) e5 0 m5, .own (n + 6) e6 0 m6, .v (.bool hs), .v (.slice none 0 0)]), none, some (.row 104 9 (ep) ((S).map secN)), y, g] ++ X)) [.box (n + 2) 0, .v (.int .i64 (i)), .agg (shA h), .v (.string nm)] (fun r H' => r = .tup [] ∧ H' = Hn n (([some (.box 29 z), some (.map (((if h.a1 = 1 ∨ h.a1 = 8 then aput M i (S.length + 1) else M)).map (mE kI vI))), some (.box 88 [.rd 1 (bys b), .rd 10 (Lh.map shA), .omap (n + 1), .v (.int .i64 (tb)), .own (n + 4) ((if h.a1 = 1 ∨ h.a1 = 8 then ep + 1 else ep)) 0 ((if h.a1 = 1 ∨ h.a1 = 8 then S ++ [secO b h nm] else S)).length, .own (n + 5) e5 0 m5, .own (n + 6) e6 0 m6, .v (.bool hs), .v (.slice none 0 0)]), none, some (.row 104 9 ((if h.a1 = 1 ∨ h.a1 = 8 then ep + 1 else ep)) (((if h.a1 = 1 ∨ h.a1 = 8 then S ++ [secO b h nm] else S)).map secN)), y, g] ++ X) ++ [none])) := by
 have htold := obj_told b Lh i hi hb (by rw [hh]; exact ht)
 rw [hh] at htold
 refine AC.body 56 Tryz.func73 rfl rfl Tryz.ntmps73 fun base => ?_
 refine AW.seq' ?_
 refine AW.region ?_
 refine AO.ww ?_
 refine AO.nil ?_
 refine SQ.normal ?_
 refine AW.seq' ?_
 refine AW.seq' ?_
 refine AW.region ?_
 iterate 4 refine AO.c ?_
 iterate 3 refine AO.gx ?_
 refine AO.c ?_
 refine AO.nil ?_
 refine SQ.normal ?_
 refine AW.iteB (GL.ev _) (fun h0 => ?_) (fun h0 => ?_)
 ·
  simp only [Bool.and_eq_true, decide_eq_true_eq] at h0
  have hno : ¬ (h.a1 = 1 ∨ h.a1 = 8) := by omega
  refine AW.ret ?_
  refine SQ.ret ?_
  simp only [if_neg hno]
  exact FinC.ret Gh.dropX ⟨rfl, rfl⟩ (.inr rfl)
 ·
  simp only [Bool.and_eq_false_iff, decide_eq_false_iff_not] at h0
  have hyes : h.a1 = 1 ∨ h.a1 = 8 := by omega
  have htl : (toldF b h).length ≤ 1000000 := by unfold toldF; split <;> simp <;> omega
  refine AW.skip ?_
  refine SQ.normal ?_
  refine AW.seq' ?_
  apply AW.mid
  case h =>
   refine AW.drawsZ [25, 29] (.one 1 false (.one 2 false (.one 3 false (.one 4 false (.one 5 false (.one 6 false (.one 7 false (.one 8 false (.one 9 false (.one 10 false (.one 11 false (.one 12 false (.one 13 false (.one 14 false (.one 15 false (.one 16 false (.one 17 false (.one 19 false (.one 20 false (.pur 0 (.two 18 21 (.one 21 true (.one 22 true (.one 23 false (.one 24 true (.one 25 true (.one 26 false (.one 27 false (.one 28 false (.one 29 true .nil))))))))) (.one 18 true (.one 22 true (.one 23 false (.one 24 true (.one 25 true (.one 26 false (.one 27 false (.one 28 false (.one 29 true .nil)))))))))))))))))))))))))))))) (by kernel_rfl) rfl (by kernel_rfl) ?_
   iterate 19 refine AZ.c rfl ?_
   refine AZ.p rfl ?_
   refine AZ.two ?_ ?_
   · refine AZi.b0 rfl ?_
     intro ad
     refine AZ.callB [.rd 1 (bys b), .rd 10 (Lh.map shA)] rfl Tryz.func72 rfl rfl htold ⟨_, rfl⟩ rfl ?_
     refine AZ.app0 rfl rfl (by rw [bys_length]; omega) (by rw [bys_length]; omega) ?_
     refine AZ.c rfl ?_
     refine AZ.eq 39 (av' := .agg (secN (secO b h nm))) rfl ?_
     refine AZ.rr rfl ?_
     refine AZ.ww rfl rfl ?_
     iterate 3 refine AZ.c rfl ?_
     refine AZ.sst rfl rfl ?_
     exact AZ.done ⟨rfl, rfl⟩
   · refine AZi.callB [.rd 1 (bys b), .rd 10 (Lh.map shA)] rfl Tryz.func72 rfl rfl htold ⟨_, rfl⟩ rfl ?_
     refine AZ.b0 rfl ?_
     intro ad
     refine AZ.app0 rfl rfl (by rw [bys_length]; omega) (by rw [bys_length]; omega) ?_
     refine AZ.c rfl ?_
     refine AZ.eq 39 (av' := .agg (secN (secO b h nm))) rfl ?_
     refine AZ.rr rfl ?_
     refine AZ.ww rfl rfl ?_
     iterate 3 refine AZ.c rfl ?_
     refine AZ.sst rfl rfl ?_
     exact AZ.done ⟨rfl, rfl⟩
  refine SQ.normal ?_
  refine AW.drawsZ [11] (.one 0 false (.one 1 false (.one 2 false (.one 3 false (.one 4 false (.one 5 false (.one 6 false (.one 7 false (.one 8 false (.one 9 false (.one 10 false (.one 11 true .nil)))))))))))) (by kernel_rfl) rfl (by kernel_rfl) ?_
  iterate 11 refine AZ.c rfl ?_
  refine AZ.sst rfl rfl ?_
  refine AZ.done ?_
  simp only [if_pos hyes]
  exact FinC.ret Gh.dropX ⟨rfl, by simp⟩ (.inl rfl)
end Go.Proofs.YtdniaamhbfadnaaGreat.AL
namespace Go.Proofs.YtdniaamhbfadnaaGreat.AL
open Go Go.RowKit Go.Proofs.YtdniaamhbfadnaaGreat.Base
set_option linter.unusedVariables false
set_option linter.unusedSimpArgs false
set_option maxRecDepth 4000
set_option synthInstance.maxSize 1000
set_option synthInstance.maxHeartbeats 200000
def mnH (b : List Int) : Nat := (hdOf b).many.toNat
def shK (b : List Int) (k : Nat) : ShD := shOf b ((hdOf b).at_ + 64 * k)
def hdsN (b : List Int) (n : Nat) : List ShD := (List.range n).map (shK b)
def hdOk1 (b : List Int) (k : Nat) : Prop := ShOk b ((hdOf b).at_ + 64 * k) ∧ (k = 0 → shK b k = zeroSh) ∧ (0 < k → knownF (shK b k).a1 = true ∧ (shK b k).a3 = 0 ∧ ((shK b k).a1 = 8 ∨ (shK b k).a4 + (shK b k).a5 ≤ b.length))
def nmK (b : List Int) (k : Nat) : Option ByteArray := atF (toldF b (shK b (hdOf b).names.toNat)) (shK b k).a0
def frOk (b : List Int) : Prop := HdOk b ∧ b.length ≤ 16384 ∧ (∀ k, k < mnH b → hdOk1 b k) ∧ isF (hdsN b (mnH b)) (hdOf b).names 3 = true ∧ ∀ k, 1 ≤ k → k < mnH b → (nmK b k).isSome = true
/-- The sections of the first headers, but for their links and relocations, and their numbers. -/
def secM (b : List Int) : Nat → List SecD × List (Int × Int)
 | 0 => ([], [])
 | k + 1 => if (shK b (k + 1)).a1 = 1 ∨ (shK b (k + 1)).a1 = 8 then ((secM b k).1 ++ [secO b (shK b (k + 1)) ((nmK b (k + 1)).getD noS)], aput (secM b k).2 ((k : Int) + 1) ((secM b k).1.length + 1)) else secM b k
theorem sh_ext0 {h : ShD} (e : h.a0 = 0 ∧ h.a1 = 0 ∧ h.a2 = 0 ∧ h.a3 = 0 ∧ h.a4 = 0 ∧ h.a5 = 0 ∧ h.a6 = 0 ∧ h.a7 = 0 ∧ h.a8 = 0 ∧ h.a9 = 0) : h = zeroSh := by
 obtain ⟨e0, e1, e2, e3, e4, e5, e6, e7, e8, e9⟩ := e
 cases h
 simp only at e0 e1 e2 e3 e4 e5 e6 e7 e8 e9
 subst e0; subst e1; subst e2; subst e3; subst e4; subst e5; subst e6; subst e7; subst e8; subst e9
 rfl
theorem hdsN_len (b : List Int) (n : Nat) : (hdsN b n).length = n := by unfold hdsN; simp
theorem hdsN_succ (b : List Int) (n : Nat) : hdsN b (n + 1) = hdsN b n ++ [shK b n] := by unfold hdsN; rw [List.range_succ, List.map_append]; rfl
theorem hdsN_get {b : List Int} {n k : Nat} (h : k < n) : (hdsN b n).getD k default = shK b k := by
 unfold hdsN; simp [List.getD_eq_getElem?_getD, h]
theorem secM_len (b : List Int) : ∀ k, (secM b k).1.length ≤ k ∧ (secM b k).2.length ≤ k := by
 intro k
 induction k with
 | zero => simp [secM]
 | succ k ih =>
  rw [secM]; split
  · have := aput_len (l := (secM b k).2) (k := (k : Int) + 1) (v := ((secM b k).1.length : Int) + 1)
    split at this
    all_goals
     simp only [List.length_append, List.length_cons, List.length_nil]
     omega
  · omega
theorem secM_S (b : List Int) (k : Nat) : (secM b (k + 1)).1 = if (shK b (k + 1)).a1 = 1 ∨ (shK b (k + 1)).a1 = 8 then (secM b k).1 ++ [secO b (shK b (k + 1)) ((nmK b (k + 1)).getD noS)] else (secM b k).1 := by rw [secM]; split <;> rfl
theorem secM_M (b : List Int) (k : Nat) : (secM b (k + 1)).2 = if (shK b (k + 1)).a1 = 1 ∨ (shK b (k + 1)).a1 = 8 then aput (secM b k).2 ((k : Int) + 1) ((secM b k).1.length + 1) else (secM b k).2 := by rw [secM]; split <;> rfl
theorem sh_rng {b : List Int} {a : Int} (h : ShOk b a) : ∀ i, i < 10 → 0 ≤ (shOf b a).list.getD i 0 ∧ (shOf b a).list.getD i 0 ≤ 2147483647 := fun i hi => may_at h.2.2 hi
theorem sh_all {b : List Int} {a : Int} (h : ShOk b a) : (0 ≤ (shOf b a).a0 ∧ (shOf b a).a0 ≤ 2147483647) ∧ (0 ≤ (shOf b a).a1 ∧ (shOf b a).a1 ≤ 2147483647) ∧ (0 ≤ (shOf b a).a2 ∧ (shOf b a).a2 ≤ 2147483647) ∧ (0 ≤ (shOf b a).a4 ∧ (shOf b a).a4 ≤ 2147483647) ∧ (0 ≤ (shOf b a).a5 ∧ (shOf b a).a5 ≤ 2147483647) ∧ (0 ≤ (shOf b a).a6 ∧ (shOf b a).a6 ≤ 2147483647) ∧ (0 ≤ (shOf b a).a7 ∧ (shOf b a).a7 ≤ 2147483647) ∧ (0 ≤ (shOf b a).a8 ∧ (shOf b a).a8 ≤ 2147483647) ∧ (0 ≤ (shOf b a).a9 ∧ (shOf b a).a9 ≤ 2147483647) :=
 ⟨sh_rng h 0 (by decide), sh_rng h 1 (by decide), sh_rng h 2 (by decide), sh_rng h 4 (by decide), sh_rng h 5 (by decide), sh_rng h 6 (by decide), sh_rng h 7 (by decide), sh_rng h 8 (by decide), sh_rng h 9 (by decide)⟩
theorem tell_ok {b : List Int} {k : Nat} (h : hdOk1 b k) : TellOk b (shK b k) := by
 have ha := sh_all h.1
 refine ⟨ha.2.2.2.1.1, ha.2.2.2.2.1.1, ?_⟩
 rcases Nat.eq_zero_or_pos k with h0 | h0
 · rw [h.2.1 h0]; right; show (0 : Int) + 0 ≤ _; omega
 · exact (h.2.2 h0).2.2
theorem told_len (b : List Int) (h : ShD) : (toldF b h).length ≤ b.length := by unfold toldF; split <;> simp; omega
theorem told_bytes {b : List Int} (hB : Bytes b) (h : ShD) : Bytes (toldF b h) := by unfold toldF; split; exact Bytes.nil; exact (hB.take _).drop _
set_option maxHeartbeats 4000000 in
theorem obj_frame (n : Nat) (z : List AV) (b : List Int) (hB : Bytes b) (hb : b.length ≤ 1000000) (y g : Option AB) : AC Tryz.prog 26 (Hn n [some (.box 29 z), some (.map ((([] : List (Int × Int))).map (mE kI vI))), some (.box 88 [.rd 1 (bys b), .own (n + 3) (0) 0 (([] : List ShD).length), .omap (n + 1), .v (.int .i64 (0)), .own (n + 4) (0) 0 (([] : List SecD)).length, .own (n + 5) 0 0 0, .own (n + 6) 0 0 0, .v (.bool false), .v (.slice none 0 0)]), some (.row 157 10 (0) (([] : List ShD).map shA)), some (.row 104 9 (0) ((([] : List SecD)).map secN)), y, g]) [.box (n + 2) 0] (fun r H' => (∃ x : Nat × Nat, frOk b ∧ r = .v (.bool true) ∧ H' = Hn n (([some (.box 29 z), some (.map (((secM b (mnH b - 1)).2).map (mE kI vI))), some (.box 88 [.rd 1 (bys b), .rd 10 ((hdsN b (mnH b)).map shA), .omap (n + 1), .v (.int .i64 (0)), .own (n + 4) (x.1) 0 ((secM b (mnH b - 1)).1).length, .own (n + 5) 0 0 0, .own (n + 6) 0 0 0, .v (.bool false), .v (.slice none 0 0)]), none, some (.row 104 9 (x.1) (((secM b (mnH b - 1)).1).map secN)), y, g] ++ List.replicate x.2 none) ++ [])) ∨ (∃ X, ¬ frOk b ∧ r = .v (.bool false) ∧ H' = Hn n (some (.box 29 z) :: X))) := by
 refine AC.body 136 Tryz.func26 rfl rfl Tryz.ntmps26 fun base => ?_
 refine AW.seq' ?_
 refine AW.region ?_
 refine AO.c ?_
 refine AO.nil ?_
 refine SQ.normal ?_
 refine AW.seq' ?_
 refine AW.region ?_
 iterate 4 refine AO.c ?_
 refine AO.call1 Tryz.func67 rfl rfl (ehdr_Get _ (by assumption) (by omega)) ?_
 iterate 3 refine AO.c ?_
 refine AO.ww ?_
 refine AO.sst ?_
 refine AO.c ?_
 refine AO.nil ?_
 refine SQ.normal ?_
 refine AW.seq' ?_
 refine AW.seq' ?_
 refine AW.region ?_
 iterate 3 refine AO.c ?_
 iterate 6 refine AO.gx ?_
 refine AO.c ?_
 refine AO.nil ?_
 refine SQ.normal ?_
 refine AW.iteB (GL.ev _) (fun h0 => ?_) (fun h0 => ?_)
 ·
  simp only [Bool.or_eq_true, Bool.not_eq_true', decide_eq_false_iff_not, decide_eq_true_eq] at h0
  have hno : ¬ frOk b := fun h => by rcases h0 with h0 | h0; exact h0 h.1; have := h.2.1; omega
  refine AW.seq' ?_
  refine AW.region ?_
  refine AO.c ?_
  refine AO.nil ?_
  refine SQ.normal ?_
  refine AW.ret ?_
  refine SQ.ret ?_
  exact FinC.ret Gh.refl (.inr ⟨_, hno, rfl, rfl⟩) (.inr rfl)
 ·
  simp only [Bool.or_eq_false_iff, Bool.not_eq_false', decide_eq_true_eq, decide_eq_false_iff_not] at h0
  obtain ⟨hk, hl⟩ := h0
  simp only [if_pos hk]
  have hmay := hk.2.1
  unfold HdD.may MayHd at hmay
  have hmn : ((mnH b : Nat) : Int) = (hdOf b).many := by unfold mnH; omega
  refine AW.skip ?_
  refine SQ.normal ?_
  refine AW.seq' ?_
  refine AW.seq' ?_
  refine AW.region ?_
  iterate 3 refine AO.c ?_
  refine AO.nil ?_
  refine SQ.normal ?_
  refine AW.block' ?_
  refine AW.loopU2 [.k, .f, .f, .k, .F, .F, .F, .f, .f, .f, .k, .k, .F, .F, .F, .F, .F, .F, .F, .F, .F, .F, .F, .F, .f, .f, .f, .f, .f, .f, .f] (fun (i ep : Nat) => [(32, .v (.int .i64 (i)))]) (fun i ep => Hn n (([some (.box 29 z), some (.map ((([] : List (Int × Int))).map (mE kI vI))), some (.box 88 [.rd 1 (bys b), .own (n + 3) (ep) 0 ((hdsN b i).length), .omap (n + 1), .v (.int .i64 (0)), .own (n + 4) (0) 0 (([] : List SecD)).length, .own (n + 5) 0 0 0, .own (n + 6) 0 0 0, .v (.bool false), .v (.slice none 0 0)]), some (.row 157 10 (ep) ((hdsN b i).map shA)), some (.row 104 9 (0) ((([] : List SecD)).map secN)), y, g, some (.box 154 (hdA (hdOf b)))] ++ List.replicate i none) ++ [])) (fun m i ep => (i ≤ mnH b ∧ m = mnH b - i) ∧ ∀ k, k < i → hdOk1 b k) (mnH b) (0) (0) ⟨by omega, fun k hk => by omega⟩ (by first | rfl | (simp; done)) (by first | rfl | (simp; done)) ?_
  rintro m0 i ep ⟨hx1, hx2⟩
  refine AW.seq' ?_
  refine AW.region ?_
  refine AO.c ?_
  refine AO.nil ?_
  refine SQ.normal ?_
  refine AW.seq' ?_
  refine AW.iteB (GL.ev _) (fun h1 => ?_) (fun h1 => ?_)
  ·
   rw [decide_eq_true_eq] at h1
   have hi : i < mnH b := by omega
   have hln := hdsN_len b i
   refine AW.skip ?_
   refine SQ.normal ?_
   refine AW.seq' ?_
   refine AW.block' ?_
   refine AW.seq' ?_
   refine AW.region ?_
   iterate 2 refine AO.c ?_
   refine AO.nil ?_
   refine SQ.normal ?_
   refine AW.seq' ?_
   apply AW.mid
   case h =>
    refine AW.drawsZ [14] (.one 0 false (.one 1 false (.one 2 false (.one 3 false (.one 4 false (.one 5 false (.one 6 false (.one 7 false (.one 8 false (.two 9 13 (.one 10 false (.one 11 false (.pur 12 (.one 13 true (.one 14 true (.one 15 false .nil)))))) (.one 9 true (.one 10 false (.one 11 false (.pur 12 (.one 14 true (.one 15 false .nil)))))))))))))))) (by kernel_rfl) rfl (by kernel_rfl) ?_
    iterate 7 refine AZ.c rfl ?_
    iterate 2 refine AZ.oo rfl ?_
    refine AZ.two ?_ ?_
    · refine AZi.call1 rfl Tryz.func68 rfl rfl (shdr_Get b ((hdOf b).at_ + 64 * (i : Int)) hB (by omega) (by unfold I64; omega)) ?_
      iterate 2 refine AZ.c rfl ?_
      refine AZ.p rfl ?_
      refine AZ.mkk rfl ?_
      refine AZ.sst rfl rfl ?_
      refine AZ.c rfl ?_
      exact AZ.done ⟨rfl, rfl⟩
    · refine AZi.mkk rfl ?_
      refine AZ.call1 rfl Tryz.func68 rfl rfl (shdr_Get b ((hdOf b).at_ + 64 * (i : Int)) hB (by omega) (by unfold I64; omega)) ?_
      iterate 2 refine AZ.c rfl ?_
      refine AZ.p rfl ?_
      refine AZ.sst rfl rfl ?_
      refine AZ.c rfl ?_
      exact AZ.done ⟨rfl, rfl⟩
   refine SQ.normal ?_
   refine AW.seq' ?_
   refine AW.seq' ?_
   refine AW.region ?_
   iterate 3 refine AO.c ?_
   iterate 7 refine AO.gx ?_
   refine AO.c ?_
   refine AO.nil ?_
   refine SQ.normal ?_
   refine AW.iteB (GL.ev _) (fun h2 => ?_) (fun h2 => ?_)
   ·
    have hno : ¬ frOk b := fun h => by
     have q := h.2.2.1 i hi
     have q2 := q.2.1
     unfold shK at q2
     simp only [if_pos q.1, decide_eq_true q.1, Bool.not_true, Bool.false_or, Bool.and_eq_true, decide_eq_true_eq] at h2
     have q3 := q2 (by omega)
     rw [q3] at h2
     exact absurd h2.2 (by decide)
    refine AW.seq' ?_
    refine AW.region ?_
    refine AO.c ?_
    refine AO.nil ?_
    refine SQ.normal ?_
    refine AW.ret ?_
    refine SQ.ret <| BQ.ret <| SQ.ret <| AW.out <| LU.ret <| BQ.ret <| SQ.ret ?_
    exact FinC.ret Gh.refl (.inr ⟨_, hno, rfl, rfl⟩) (.inr rfl)
   ·
    have hsk : ShOk b ((hdOf b).at_ + 64 * (i : Int)) := by
     by_cases q : ShOk b ((hdOf b).at_ + 64 * (i : Int))
     · exact q
     · rw [decide_eq_false q] at h2; cases h2
    have hz0 : i = 0 → shK b i = zeroSh := fun q0 => by
     rw [decide_eq_true (show (i : Int) = 0 by omega)] at h2
     simp only [if_pos hsk, decide_eq_true hsk, Bool.not_true, Bool.false_or, Bool.true_and, Bool.and_true, Bool.not_eq_false', Bool.and_eq_true, decide_eq_true_eq] at h2
     exact sh_ext0 h2
    simp only [if_pos hsk]
    have hsa := sh_all hsk
    refine AW.skip ?_
    refine SQ.normal ?_
    refine AW.seq' ?_
    refine AW.seq' ?_
    refine AW.drawsZ [] (.one 0 false (.one 1 false (.one 2 false (.one 3 false (.one 4 false (.one 5 true (.one 6 false (.one 7 false (.one 8 false (.one 9 false (.one 10 false (.one 11 false (.one 12 false (.one 13 false (.one 14 false (.one 15 false (.one 16 false (.one 17 false (.one 18 false (.one 19 false (.one 20 false (.one 21 false (.one 22 false (.one 23 false (.one 24 false (.one 25 false (.one 26 false (.one 27 false (.one 28 false (.one 29 false (.one 30 false .nil))))))))))))))))))))))))))))))) (by kernel_rfl) rfl (by kernel_rfl) ?_
    iterate 3 refine AZ.c rfl ?_
    iterate 2 refine AZ.gx rfl ?_
    refine AZ.gxcall1 rfl Tryz.func69 rfl rfl (fun hgd => obj_known _) ?_
    iterate 15 refine AZ.gx rfl ?_
    refine AZ.gxoo rfl ?_
    iterate 8 refine AZ.gx rfl ?_
    refine AZ.c rfl ?_
    refine AZ.done ?_
    refine SQ.normal ?_
    refine AW.iteB (GL.ev _) (fun h3 => ?_) (fun h3 => ?_)
    ·
     have hno : ¬ frOk b := fun h => by
      have q := (h.2.2.1 i hi).2.2
      unfold shK at q
      simp only [Bool.and_eq_true, Bool.or_eq_true, decide_eq_true_eq, Bool.not_eq_true'] at h3
      have q := q (by omega)
      rcases h3.2 with (h | h) | h
      · rw [q.1] at h; cases h
      · exact h q.2.1
      · omega
     refine AW.seq' ?_
     refine AW.region ?_
     refine AO.c ?_
     refine AO.nil ?_
     refine SQ.normal ?_
     refine AW.ret ?_
     refine SQ.ret <| BQ.ret <| SQ.ret <| AW.out <| LU.ret <| BQ.ret <| SQ.ret ?_
     exact FinC.ret Gh.refl (.inr ⟨_, hno, rfl, rfl⟩) (.inr rfl)
    ·
     have hall : ∀ k, k < i + 1 → hdOk1 b k := fun k hk => by
      by_cases q : k = i
      · subst q
        refine ⟨hsk, hz0, fun q0 => ?_⟩
        rw [decide_eq_true (show (k : Int) > 0 by omega)] at h3
        simp only [Bool.true_and, Bool.or_eq_false_iff, Bool.not_eq_false', Bool.and_eq_false_iff, decide_eq_false_iff_not, Decidable.not_not] at h3
        unfold shK
        exact ⟨h3.1.1, h3.1.2, by omega⟩
      · exact hx2 k (by omega)
     refine AW.skip ?_
     refine SQ.normal ?_
     refine AW.drawsZ [7, 10] (.one 1 false (.one 2 false (.one 3 false (.one 4 false (.one 5 false (.pur 0 (.one 6 true (.one 7 true (.one 8 false (.one 9 false (.one 10 true .nil))))))))))) (by kernel_rfl) rfl (by kernel_rfl) ?_
     iterate 5 refine AZ.c rfl ?_
     refine AZ.p rfl ?_
     refine AZ.rr rfl ?_
     refine AZ.ww rfl rfl ?_
     iterate 2 refine AZ.c rfl ?_
     refine AZ.sst rfl rfl ?_
     refine AZ.done ?_
     refine BQ.normal ?_
     refine SQ.normal ?_
     refine AW.region ?_
     refine AO.oo ?_
     refine AO.c ?_
     refine AO.nil ?_
     exact AW.backE [.k, .f, .f, .k, .F, .F, .F, .f, .f, .f, .k, .k, .F, .F, .F, .F, .F, .F, .F, .F, .F, .F, .F, .F, .f, .f, .f, .f, .f, .f, .f] (i) (m0 - 1) (i + 1, ep + 1) (by omega) (by (try dsimp only); exact ⟨by omega, hall⟩) (rfl) (by first | (rw [hdsN_succ, List.map_append, List.length_append]; done) | (rw [hdsN_succ, List.map_append, List.length_append]; rfl))
  ·
   rw [decide_eq_false_iff_not] at h1
   have hi : i = mnH b := by omega
   subst hi
   refine AW.exit ?_
   refine SQ.exit <| AW.out <| LU.exit <| BQ.exit ?_
   refine SQ.normal ?_
   refine AW.seq' ?_
   refine AW.seq' ?_
   refine AW.ghost (Gh.freezeC 2 1 (by simp) (by simp [hdsN_len]; omega)) ?_
   refine AW.region ?_
   iterate 3 refine AO.c ?_
   refine AO.callB [.rd 1 (bys b), .rd 10 ((hdsN b (mnH b)).map shA)] Tryz.func70 rfl rfl (obj_is b (hdsN b (mnH b)) (hdOf b).names 3 (by rw [hdsN_len]; omega)) ⟨_, rfl⟩ rfl ?_
   refine AO.c ?_
   refine AO.nil ?_
   refine SQ.normal ?_
   refine AW.iteB (GL.ev _) (fun h4 => ?_) (fun h4 => ?_)
   ·
    rw [Bool.not_eq_true'] at h4
    have hno : ¬ frOk b := fun h => by rw [h.2.2.2.1] at h4; cases h4
    refine AW.seq' ?_
    refine AW.region ?_
    refine AO.c ?_
    refine AO.nil ?_
    refine SQ.normal ?_
    refine AW.ret ?_
    refine SQ.ret ?_
    exact FinC.ret Gh.refl (.inr ⟨_, hno, rfl, rfl⟩) (.inr rfl)
   ·
    rw [Bool.not_eq_false'] at h4
    have his := h4
    unfold isF at his
    simp only [Bool.and_eq_true, decide_eq_true_eq] at his
    rw [hdsN_len] at his
    have hgnm : (hdsN b (mnH b)).getD (hdOf b).names.toNat default = shK b (hdOf b).names.toNat := hdsN_get (by omega)
    have htn := tell_ok (hx2 (hdOf b).names.toNat (by omega))
    have htold := obj_told b (hdsN b (mnH b)) (hdOf b).names ⟨by omega, by rw [hdsN_len]; omega⟩ hb (by rw [hgnm]; exact htn)
    rw [hgnm] at htold
    refine AW.skip ?_
    refine SQ.normal ?_
    refine AW.seq' ?_
    refine AW.seq' ?_
    refine AW.region ?_
    iterate 4 refine AO.c ?_
    refine AO.o (by simp [hdsN_len]; omega) ?_
    refine AO.eq 110 (av' := .rd 10 (((hdsN b (mnH b)).drop 1).map shA)) (by show AV.rd 10 (List.drop 1 (List.take (((List.map shA _).length : Int)).toNat _)) = _; rw [Int.toNat_natCast, List.take_length, List.map_drop]) ?_
    refine AO.c ?_
    refine AO.eq 111 (av' := .v (.int .i64 ((mnH b : Int) - 1))) (by rw [List.length_drop, hdsN_len]; congr 2; omega) ?_
    refine AO.c ?_
    refine AO.nil ?_
    refine SQ.normal ?_
    refine AW.block' ?_
    refine AW.loopU3 [.k, .f, .f, .k, .F, .F, .F, .F, .F, .F, .F, .F, .F, .F, .F, .F, .F, .f, .f, .k, .k, .k, .F, .F, .f, .f, .f, .f, .f, .f, .f] (fun (k j2 ep2 : Nat) => [(112, .v (.int .i64 (k)))]) (fun k j2 ep2 => Hn n ((([some (.box 29 z), some (.map (((secM b k).2).map (mE kI vI))), some (.box 88 [.rd 1 (bys b), .rd 10 ((hdsN b (mnH b)).map shA), .omap (n + 1), .v (.int .i64 (0)), .own (n + 4) (ep2) 0 ((secM b k).1).length, .own (n + 5) 0 0 0, .own (n + 6) 0 0 0, .v (.bool false), .v (.slice none 0 0)]), none, some (.row 104 9 (ep2) (((secM b k).1).map secN)), y, g, some (.box 154 (hdA (hdOf b)))] ++ List.replicate (mnH b) none) ++ List.replicate j2 none) ++ [])) (fun m k j2 ep2 => (k ≤ mnH b - 1 ∧ m = mnH b - 1 - k) ∧ ∀ q, 1 ≤ q → q < k + 1 → (nmK b q).isSome = true) (mnH b - 1) (0) (0) (0) ⟨by omega, fun q h1 h2 => by omega⟩ (by first | rfl | (simp; done)) (by simp [secM]) ?_
    rintro m1 k j2 ep2 ⟨hy1, hy2⟩
    refine AW.seq' ?_
    refine AW.region ?_
    refine AO.c ?_
    refine AO.nil ?_
    refine SQ.normal ?_
    refine AW.seq' ?_
    refine AW.iteB (GL.ev _) (fun h5 => ?_) (fun h5 => ?_)
    ·
     rw [decide_eq_true_eq] at h5
     have hkk : k + 1 < mnH b := by omega
     have hgn : (hdsN b (mnH b)).getD ((k : Int) + 1).toNat default = shK b (k + 1) := by rw [show ((k : Int) + 1).toNat = k + 1 by omega]; exact hdsN_get hkk
     have hgk : ((hdsN b (mnH b)).drop 1).getD k default = shK b (k + 1) := by rw [List.getD_eq_getElem?_getD, List.getElem?_drop, Nat.add_comm 1 k, ← List.getD_eq_getElem?_getD]; exact hdsN_get hkk
     have hok1 := hx2 (k + 1) hkk
     have htk := tell_ok hok1
     have hsl := secM_len b k
     have hsa := sh_all hok1.1
     have htl := told_len b (shK b (hdOf b).names.toNat)
     have hat : A0 Tryz.prog 71 [.rd 1 (bys (toldF b (shK b (hdOf b).names.toNat))), .v (.int .i64 (shK b (k + 1)).a0)] (fun ret => ret = .tup [.v (.string ((nmK b (k + 1)).getD noS)), .v (.bool (nmK b (k + 1)).isSome)]) := strtab_At _ _ (told_bytes hB _) (by omega) (by unfold I64; unfold shK; omega)
     refine AW.skip ?_
     refine SQ.normal ?_
     refine AW.seq' ?_
     refine AW.block' ?_
     refine AW.seq' ?_
     refine AW.region ?_
     refine AO.c ?_
     refine AO.o (by rw [List.length_drop, hdsN_len]; omega) ?_
     refine AO.c ?_
     refine AO.eq 116 (av' := .agg (shA (shK b (k + 1)))) (by rw [hgk]) ?_
     refine AO.ww ?_
     refine AO.c ?_
     refine AO.sst ?_
     refine AO.nil ?_
     refine SQ.normal ?_
     refine AW.seq' ?_
     refine AW.drawsZ [] (.one 0 false (.one 1 false (.one 2 false (.one 4 false (.one 5 false (.one 3 true (.one 6 true (.one 7 false (.one 8 false (.one 9 false (.one 10 false (.one 11 false .nil)))))))))))) (by kernel_rfl) rfl (by kernel_rfl) ?_
     iterate 5 refine AZ.c rfl ?_
     refine AZ.callB [.rd 1 (bys b), .rd 10 ((hdsN b (mnH b)).map shA)] rfl Tryz.func72 rfl rfl htold ⟨_, rfl⟩ rfl ?_
     refine AZ.call1 rfl Tryz.func71 rfl rfl (hat) ?_
     iterate 5 refine AZ.c rfl ?_
     refine AZ.done ?_
     refine SQ.normal ?_
     refine AW.seq' ?_
     refine AW.seq' ?_
     refine AW.region ?_
     iterate 2 refine AO.c ?_
     refine AO.nil ?_
     refine SQ.normal ?_
     refine AW.iteB (GL.ev _) (fun h6 => ?_) (fun h6 => ?_)
     ·
      rw [Bool.not_eq_true'] at h6
      have hno : ¬ frOk b := fun h => by have := h.2.2.2.2 (k + 1) (by omega) hkk; rw [this] at h6; cases h6
      refine AW.seq' ?_
      refine AW.region ?_
      refine AO.c ?_
      refine AO.nil ?_
      refine SQ.normal ?_
      refine AW.ret ?_
      refine SQ.ret <| BQ.ret <| SQ.ret <| AW.out <| LU.ret <| BQ.ret <| SQ.ret ?_
      exact FinC.ret Gh.refl (.inr ⟨_, hno, rfl, rfl⟩) (.inr rfl)
     ·
      rw [Bool.not_eq_false'] at h6
      have hal2 : ∀ q, 1 ≤ q → q < k + 1 + 1 → (nmK b q).isSome = true := fun q q1 q2 => by
       by_cases hq : q = k + 1
       · rw [hq]; exact h6
       · exact hy2 q q1 (by omega)
      refine AW.skip ?_
      refine SQ.normal ?_
      refine AW.region ?_
      iterate 2 refine AO.c ?_
      refine AO.oo ?_
      iterate 2 refine AO.c ?_
      refine AO.callC (av := .tup []) (H2 := Hn n (((([some (.box 29 z), some (.map (((secM b (k + 1)).2).map (mE kI vI))), some (.box 88 [.rd 1 (bys b), .rd 10 ((hdsN b (mnH b)).map shA), .omap (n + 1), .v (.int .i64 (0)), .own (n + 4) ((if (shK b (k + 1)).a1 = 1 ∨ (shK b (k + 1)).a1 = 8 then ep2 + 1 else ep2)) 0 ((secM b (k + 1)).1).length, .own (n + 5) 0 0 0, .own (n + 6) 0 0 0, .v (.bool false), .v (.slice none 0 0)]), none, some (.row 104 9 ((if (shK b (k + 1)).a1 = 1 ∨ (shK b (k + 1)).a1 = 8 then ep2 + 1 else ep2)) (((secM b (k + 1)).1).map secN)), y, g, some (.box 154 (hdA (hdOf b)))] ++ List.replicate (mnH b) none) ++ List.replicate j2 none) ++ [some (.box 157 (shA (shK b (k + 1))))]) ++ [none])) Tryz.func73 rfl rfl (AC.cong (obj_sort n z b (hdsN b (mnH b)) (secM b k).2 (secM b k).1 ((k : Int) + 1) 0 ((nmK b (k + 1)).getD noS) 0 0 0 0 false y g ([some (.box 154 (hdA (hdOf b)))] ++ List.replicate (mnH b) none ++ List.replicate j2 none ++ [some (.box 157 (shA (shK b (k + 1))))]) ep2 (shK b (k + 1)) hgn ⟨by omega, by rw [hdsN_len]; omega⟩ hb (by omega) (by omega) htk) (by simp) (fun r H' h => ⟨h.1, h.2.trans (by rw [← secM_S, ← secM_M]; simp)⟩)) ?_
      refine AO.nil ?_
      refine BQ.normal ?_
      refine SQ.normal ?_
      refine AW.region ?_
      refine AO.oo ?_
      refine AO.c ?_
      refine AO.nil ?_
      exact AW.backE [.k, .f, .f, .k, .F, .F, .F, .F, .F, .F, .F, .F, .F, .F, .F, .F, .F, .f, .f, .k, .k, .k, .F, .F, .f, .f, .f, .f, .f, .f, .f] (j2) (m1 - 1) (k + 1, j2 + 2, (if (shK b (k + 1)).a1 = 1 ∨ (shK b (k + 1)).a1 = 8 then ep2 + 1 else ep2)) (by omega) (by (try dsimp only); exact ⟨by omega, hal2⟩) (by first | rfl | (simp; done)) (by first | rfl | (simp; done))
    ·
     rw [decide_eq_false_iff_not] at h5
     have hke : k = mnH b - 1 := by omega
     subst hke
     refine AW.exit ?_
     refine SQ.exit <| AW.out <| LU.exit <| BQ.exit ?_
     refine SQ.normal ?_
     refine AW.seq' ?_
     refine AW.region ?_
     refine AO.c ?_
     refine AO.nil ?_
     refine SQ.normal ?_
     refine AW.ret ?_
     refine FinC.eqH (H' := Hn n ([some (.box 29 z), some (.map (((secM b (mnH b - 1)).2).map (mE kI vI))), some (.box 88 [.rd 1 (bys b), .rd 10 ((hdsN b (mnH b)).map shA), .omap (n + 1), .v (.int .i64 (0)), .own (n + 4) (ep2) 0 ((secM b (mnH b - 1)).1).length, .own (n + 5) 0 0 0, .own (n + 6) 0 0 0, .v (.bool false), .v (.slice none 0 0)]), none, some (.row 104 9 (ep2) (((secM b (mnH b - 1)).1).map secN)), y, g] ++ ([some (.box 154 (hdA (hdOf b)))] ++ List.replicate (mnH b) none ++ List.replicate j2 none))) (by simp) ?_
     exact FinC.ret Gh.dropT (.inl ⟨(ep2, ([some (.box 154 (hdA (hdOf b)))] ++ List.replicate (mnH b) none ++ List.replicate j2 none : List (Option AB)).length), ⟨hk, by omega, hx2, h4, fun q q1 q2 => hy2 q q1 (by omega)⟩, rfl, by rw [List.append_nil]⟩) (.inr rfl)
end Go.Proofs.YtdniaamhbfadnaaGreat.AL
namespace Go.Proofs.YtdniaamhbfadnaaGreat.AL
open Go Go.RowKit Go.Proofs.YtdniaamhbfadnaaGreat.Base
set_option linter.unusedVariables false
set_option linter.unusedSimpArgs false
set_option maxRecDepth 4000
set_option synthInstance.maxSize 1000
set_option synthInstance.maxHeartbeats 200000
@[reducible] def numM (b : List Int) : List (Int × Int) := (secM b (mnH b - 1)).2
def numF (b : List Int) (q : Int) : Int := (aget (numM b) q).getD 0
def isS (h : ShD) : Prop := h.a1 = 1 ∨ h.a1 = 8
instance isSDec (h : ShD) : Decidable (isS h) := by unfold isS; infer_instance
theorem secM_get (b : List Int) (q : Int) : ∀ k : Nat, aget (secM b k).2 q = if 1 ≤ q ∧ q ≤ k ∧ isS (shK b q.toNat) then some ((secM b q.toNat).1.length : Int) else none := by
 intro k
 induction k with
 | zero => rw [if_neg (by omega)]; rfl
 | succ k ih =>
  rw [secM_M]
  split
  · rename_i h
    rw [aget_aput]
    split
    · rename_i h2
      subst h2
      have e : ((k : Int) + 1).toNat = k + 1 := by omega
      rw [e, if_pos ⟨by omega, by omega, h⟩, secM_S, if_pos h, List.length_append]; simp
    · rw [ih]
      by_cases h3 : 1 ≤ q ∧ q ≤ k ∧ isS (shK b q.toNat)
      · rw [if_pos h3, if_pos ⟨h3.1, by omega, h3.2.2⟩]
      · rw [if_neg h3, if_neg fun h4 => h3 ⟨h4.1, by omega, h4.2.2⟩]
  · rename_i h
    rw [ih]
    by_cases h3 : 1 ≤ q ∧ q ≤ k ∧ isS (shK b q.toNat)
    · rw [if_pos h3, if_pos ⟨h3.1, by omega, h3.2.2⟩]
    · rw [if_neg h3, if_neg fun h4 => h3 ⟨h4.1, by
       by_cases h5 : q = (k : Int) + 1
       · subst h5
         have e : ((k : Int) + 1).toNat = k + 1 := by omega
         rw [e] at h4
         exact absurd h4.2.2 h
       · omega, h4.2.2⟩]
theorem secM_mono (b : List Int) : ∀ k q : Nat, q ≤ k → (secM b q).1.length ≤ (secM b k).1.length := by
 intro k
 induction k with
 | zero => intro q h; rw [show q = 0 by omega]; exact Nat.le_refl _
 | succ k ih =>
  intro q h
  by_cases h2 : q = k + 1
  · rw [h2]; exact Nat.le_refl _
  · have := ih q (by omega)
    rw [secM_S]
    split
    · rw [List.length_append]; omega
    · exact this
theorem secM_pos {b : List Int} {q : Nat} (h0 : 1 ≤ q) (h : isS (shK b q)) : 1 ≤ (secM b q).1.length := by
 obtain ⟨k, rfl⟩ : ∃ k, q = k + 1 := ⟨q - 1, by omega⟩
 rw [secM_S, if_pos (show (shK b (k + 1)).a1 = 1 ∨ (shK b (k + 1)).a1 = 8 from h), List.length_append]; simp
theorem num_rng {b : List Int} {q v : Int} (h : aget (numM b) q = some v) : 1 ≤ v ∧ v ≤ (secM b (mnH b - 1)).1.length := by
 rw [secM_get] at h
 split at h
 · rename_i h1
   obtain rfl := Option.some.inj h
   have h2 := secM_pos (b := b) (q := q.toNat) (by omega) h1.2.2
   have h3 := secM_mono b (mnH b - 1) q.toNat (by omega)
   omega
 · cases h
def SecD.lnk (s : SecD) (l : Int) : SecD := { s with link := l }
def lnkM (b : List Int) : Nat → List SecD
 | 0 => (secM b (mnH b - 1)).1
 | i + 1 => match aget (numM b) (i : Int) with
  | none => lnkM b i
  | some v => (lnkM b i).set (v - 1).toNat (((lnkM b i).getD (v - 1).toNat default).lnk (numF b (shK b i).a6))
def lnk1 (b : List Int) (i : Nat) : Prop := (aget (numM b) (i : Int)).isSome = true → (shK b i).a7 = 0 ∧ (band (shK b i).a2 128 ≠ 0 → (aget (numM b) (shK b i).a6).isSome = true) ∧ (band (shK b i).a2 128 = 0 → (shK b i).a6 = 0)
def lnkOk (b : List Int) : Prop := ∀ i, i < mnH b → lnk1 b i
theorem lnkM_len (b : List Int) : ∀ i, (lnkM b i).length = (secM b (mnH b - 1)).1.length := by
 intro i
 induction i with
 | zero => rfl
 | succ i ih => rw [lnkM]; split; exact ih; rw [List.length_set, ih]
theorem lnkM_none {b : List Int} {i : Nat} (h : aget (numM b) (i : Int) = none) : lnkM b (i + 1) = lnkM b i := by rw [lnkM, h]
theorem lnkM_some {b : List Int} {i : Nat} {v : Int} (h : aget (numM b) (i : Int) = some v) : lnkM b (i + 1) = (lnkM b i).set (v - 1).toNat (((lnkM b i).getD (v - 1).toNat default).lnk (numF b (shK b i).a6)) := by rw [lnkM, h]
theorem secN_getD {l : List SecD} {i : Nat} (h : i < l.length) : (l.map secN).getD i [] = secN (l.getD i default) := by
 rw [List.getD_eq_getElem?_getD, List.getElem?_map, List.getElem?_eq_getElem h, List.getD_eq_getElem?_getD, List.getElem?_eq_getElem h]; rfl
set_option maxHeartbeats 4000000 in
theorem obj_links (n : Nat) (z : List AV) (b : List Int) (hf : frOk b) (y g : Option AB) (j ep : Nat) : AC Tryz.prog 27 (Hn n (([some (.box 29 z), some (.map ((numM b).map (mE kI vI))), some (.box 88 [.rd 1 (bys b), .rd 10 ((hdsN b (mnH b)).map shA), .omap (n + 1), .v (.int .i64 (0)), .own (n + 4) (ep) 0 ((secM b (mnH b - 1)).1).length, .own (n + 5) 0 0 0, .own (n + 6) 0 0 0, .v (.bool false), .v (.slice none 0 0)]), none, some (.row 104 9 (ep) (((secM b (mnH b - 1)).1).map secN)), y, g] ++ List.replicate j none) ++ [])) [.box (n + 2) 0] (fun r H' => (∃ x : Nat, lnkOk b ∧ r = .v (.bool true) ∧ H' = Hn n (([some (.box 29 z), some (.map ((numM b).map (mE kI vI))), some (.box 88 [.rd 1 (bys b), .rd 10 ((hdsN b (mnH b)).map shA), .omap (n + 1), .v (.int .i64 (0)), .own (n + 4) (ep) 0 (lnkM b (mnH b)).length, .own (n + 5) 0 0 0, .own (n + 6) 0 0 0, .v (.bool false), .v (.slice none 0 0)]), none, some (.row 104 9 (ep) ((lnkM b (mnH b)).map secN)), y, g] ++ List.replicate x none) ++ [])) ∨ (∃ X, ¬ lnkOk b ∧ r = .v (.bool false) ∧ H' = Hn n (some (.box 29 z) :: X))) := by
 have hsl := (secM_len b (mnH b - 1)).1
 have hmay := hf.1.2.1
 unfold HdD.may MayHd at hmay
 have hmn : ((mnH b : Nat) : Int) = (hdOf b).many := by unfold mnH; omega
 refine AC.body 75 Tryz.func27 rfl rfl Tryz.ntmps27 fun base => ?_
 refine AW.seq' ?_
 refine AW.region ?_
 refine AO.c ?_
 refine AO.nil ?_
 refine SQ.normal ?_
 refine AW.seq' ?_
 refine AW.seq' ?_
 refine AW.region ?_
 iterate 5 refine AO.c ?_
 refine AO.eq 13 (av' := .v (.int .i64 (mnH b))) (by rw [hdsN_len]) ?_
 refine AO.c ?_
 refine AO.nil ?_
 refine SQ.normal ?_
 refine AW.block' ?_
 refine AW.loopU2 [.k, .F, .f, .f, .f, .k, .k, .k, .F, .F, .F, .F, .F, .F, .F, .f, .f, .f, .f] (fun (i j2 : Nat) => [(14, .v (.int .i64 (i)))]) (fun i j2 => Hn n (([some (.box 29 z), some (.map ((numM b).map (mE kI vI))), some (.box 88 [.rd 1 (bys b), .rd 10 ((hdsN b (mnH b)).map shA), .omap (n + 1), .v (.int .i64 (0)), .own (n + 4) (ep) 0 (lnkM b i).length, .own (n + 5) 0 0 0, .own (n + 6) 0 0 0, .v (.bool false), .v (.slice none 0 0)]), none, some (.row 104 9 (ep) ((lnkM b i).map secN)), y, g] ++ List.replicate j2 none) ++ [])) (fun m i j2 => (i ≤ mnH b ∧ m = mnH b - i) ∧ ∀ q, q < i → lnk1 b q) (mnH b) (0) (j) ⟨by omega, fun q h => by omega⟩ (by first | rfl | (simp; done)) (by first | rfl | (simp; done)) ?_
 rintro m0 i j2 ⟨hx1, hx2⟩
 refine AW.seq' ?_
 refine AW.region ?_
 refine AO.c ?_
 refine AO.nil ?_
 refine SQ.normal ?_
 refine AW.seq' ?_
 refine AW.iteB (GL.ev _) (fun h0 => ?_) (fun h0 => ?_)
 ·
  rw [decide_eq_true_eq] at h0
  have hi : i < mnH b := by omega
  refine AW.skip ?_
  refine SQ.normal ?_
  refine AW.seq' ?_
  refine AW.block' ?_
  refine AW.seq' ?_
  refine AW.region ?_
  refine AO.c ?_
  refine AO.o (by rw [hdsN_len]; omega) ?_
  refine AO.c ?_
  refine AO.eq 18 (av' := .agg (shA (shK b i))) (by rw [hdsN_get hi]) ?_
  refine AO.ww ?_
  refine AO.c ?_
  refine AO.sst ?_
  refine AO.nil ?_
  refine SQ.normal ?_
  refine AW.seq' ?_
  refine AW.region ?_
  iterate 11 refine AO.c ?_
  refine AO.nil ?_
  refine SQ.normal ?_
  refine AW.seq' ?_
  refine AW.seq' ?_
  refine AW.region ?_
  iterate 2 refine AO.c ?_
  refine AO.nil ?_
  refine SQ.normal ?_
  refine AW.iteB (GL.ev _) (fun h1 => ?_) (fun h1 => ?_)
  ·
   have hv : aget (numM b) (i : Int) = none := by simpa using h1
   have hall : ∀ q, q < i + 1 → lnk1 b q := fun q hq => by
    by_cases e : q = i
    · subst e; intro h2; rw [hv] at h2; cases h2
    · exact hx2 q (by omega)
   refine AW.exit ?_
   refine SQ.exit <| BQ.exit ?_
   refine SQ.normal ?_
   refine AW.region ?_
   refine AO.oo ?_
   refine AO.c ?_
   refine AO.nil ?_
   exact AW.backE [.k, .F, .f, .f, .f, .k, .k, .k, .F, .F, .F, .F, .F, .F, .F, .f, .f, .f, .f] (j2) (m0 - 1) (i + 1, j2 + 1) (by omega) (by (try dsimp only); exact ⟨by omega, hall⟩) (by first | rfl | (simp; done)) (by first | (rw [lnkM_none hv]; done) | (rw [lnkM_none hv]; rfl))
  ·
   obtain ⟨v, hv⟩ : ∃ v, aget (numM b) (i : Int) = some v := Option.isSome_iff_exists.1 (by simpa using h1)
   have hvr := num_rng hv
   have hvd : (aget (numM b) (i : Int)).getD 0 = v := by rw [hv]; rfl
   rw [hvd]
   refine AW.skip ?_
   refine SQ.normal ?_
   refine AW.seq' ?_
   refine AW.drawsZ [] (.one 0 false (.one 1 false (.one 2 false (.one 3 false (.one 4 false (.one 5 false (.one 6 false (.one 7 false (.one 8 false (.one 9 false (.one 10 false (.one 11 false .nil)))))))))))) (by kernel_rfl) rfl (by kernel_rfl) ?_
   iterate 12 refine AZ.c rfl ?_
   refine AZ.done ?_
   refine SQ.normal ?_
   refine AW.seq' ?_
   refine AW.seq' ?_
   refine AW.region ?_
   iterate 4 refine AO.c ?_
   iterate 8 refine AO.gx ?_
   iterate 2 refine AO.c ?_
   iterate 9 refine AO.gx ?_
   refine AO.c ?_
   refine AO.nil ?_
   refine SQ.normal ?_
   refine AW.iteB (GL.ev _) (fun h2 => ?_) (fun h2 => ?_)
   ·
    have hno : ¬ lnkOk b := fun h => by
     have q := h i hi (by rw [hv]; rfl)
     simp only [Bool.or_eq_true, Bool.and_eq_true, decide_eq_true_eq, Bool.not_eq_true'] at h2
     rcases h2 with (h2 | h2) | h2
     · exact h2 q.1
     · have := q.2.1 h2.1; rw [this] at h2; cases h2.2
     · exact h2.2 (q.2.2 h2.1)
    refine AW.seq' ?_
    refine AW.region ?_
    refine AO.c ?_
    refine AO.nil ?_
    refine SQ.normal ?_
    refine AW.ret ?_
    refine SQ.ret <| BQ.ret <| SQ.ret <| AW.out <| LU.ret <| BQ.ret <| SQ.ret ?_
    exact FinC.ret Gh.refl (.inr ⟨_, hno, rfl, rfl⟩) (.inr rfl)
   ·
    have hall : ∀ q, q < i + 1 → lnk1 b q := fun q hq => by
     by_cases e : q = i
     · subst e; intro _
       simp only [Bool.or_eq_false_iff, Bool.and_eq_false_iff, decide_eq_false_iff_not, Bool.not_eq_false', Decidable.not_not] at h2
       exact ⟨h2.1.1, fun e => h2.1.2.resolve_left e, fun e => h2.2.resolve_left (fun c => c e)⟩
     · exact hx2 q (by omega)
    refine AW.skip ?_
    refine SQ.normal ?_
    refine AW.region ?_
    iterate 6 refine AO.c ?_
    refine AO.oo ?_
    refine AO.c ?_
    refine AO.o (by rw [lnkM_len]; omega) ?_
    refine AO.c ?_
    refine AO.stR ((lnkM b (i + 1)).map secN) (by rw [List.length_map, lnkM_len]; omega) ?_ ?_
    · rw [show 0 + (v - 1).toNat = (v - 1).toNat by omega, secN_getD (by rw [lnkM_len]; omega), lnkM_some hv, List.map_set]; rfl
    refine AO.nil ?_
    refine BQ.normal ?_
    refine SQ.normal ?_
    refine AW.region ?_
    refine AO.oo ?_
    refine AO.c ?_
    refine AO.nil ?_
    exact AW.backE [.k, .F, .f, .f, .f, .k, .k, .k, .F, .F, .F, .F, .F, .F, .F, .f, .f, .f, .f] (j2) (m0 - 1) (i + 1, j2 + 1) (by omega) (by (try dsimp only); exact ⟨by omega, hall⟩) (by first | rfl | (simp; done)) (by first | (rw [lnkM_len, lnkM_len]; done) | (rw [lnkM_len, lnkM_len]; rfl))
 ·
  rw [decide_eq_false_iff_not] at h0
  have hi : i = mnH b := by omega
  subst hi
  refine AW.exit ?_
  refine SQ.exit <| AW.out <| LU.exit <| BQ.exit ?_
  refine SQ.normal ?_
  refine AW.seq' ?_
  refine AW.region ?_
  refine AO.c ?_
  refine AO.nil ?_
  refine SQ.normal ?_
  refine AW.ret ?_
  exact FinC.ret Gh.refl (.inl ⟨j2, hx2, rfl, rfl⟩) (.inr rfl)
end Go.Proofs.YtdniaamhbfadnaaGreat.AL
namespace Go.Proofs.YtdniaamhbfadnaaGreat.AL
open Go Go.RowKit Go.Proofs.YtdniaamhbfadnaaGreat.Base
set_option linter.unusedVariables false
set_option linter.unusedSimpArgs false
set_option maxRecDepth 4000
set_option synthInstance.maxSize 1000
set_option synthInstance.maxHeartbeats 200000
def symX (M : List (Int × Int)) (e : EntD) : Int := if e.idx = 65521 then -1 else if e.idx > 0 then (aget M e.idx).getD 0 else 0
def symF (M : List (Int × Int)) (e : EntD) (nm : ByteArray) : SymD := ⟨nm, e.bind, e.typ, symX M e, e.val, e.size⟩
def symG (M : List (Int × Int)) (e : EntD) (nb : List Int) : Bool := (atF nb e.name).isSome && (decide (e.idx = 65521) || !decide (e.idx > 0) || decide ((aget M e.idx).getD 0 > 0))
set_option maxHeartbeats 2000000 in
theorem obj_readSym (n : Nat) (z : List AV) (b : List Int) (Lh : List ShD) (M : List (Int × Int)) (tb : Int) (e4 m4 e6 m6 : Nat) (hs : Bool) (s4 g : Option AB) (X : List (Option AB)) {lx : Nat} [le : LEN X lx] (e5 : Nat) (Y : List SymD) (e : EntD) (nb : List Int) (hY : Y.length ≤ 1000000) (hB : Bytes nb) (hn : nb.length ≤ 1000000) (hnm : I64 e.name) : AC Tryz.prog 75 (Hn n ([some (.box 29 z), some (.map (M.map (mE kI vI))), some (.box 88 [.rd 1 (bys b), .rd 10 (Lh.map shA), .omap (n + 1), .v (.int .i64 (tb)), .own (n + 4) e4 0 m4, .own (n + 5) (e5) 0 (Y).length, .own (n + 6) e6 0 m6, .v (.bool hs), .v (.slice none 0 0)]), none, s4, some (.row 82 6 (e5) ((Y).map symA)), g] ++ X)) [.box (n + 2) 0, .agg (entA e), .rd 1 (bys nb)] (fun r H' => r = .v (.bool (symG M e nb)) ∧ H' = Hn n (([some (.box 29 z), some (.map (M.map (mE kI vI))), some (.box 88 [.rd 1 (bys b), .rd 10 (Lh.map shA), .omap (n + 1), .v (.int .i64 (tb)), .own (n + 4) e4 0 m4, .own (n + 5) (e5 + 1) 0 (Y ++ [(symF M e ((atF nb e.name).getD noS))]).length, .own (n + 6) e6 0 m6, .v (.bool hs), .v (.slice none 0 0)]), none, s4, some (.row 82 6 (e5 + 1) ((Y ++ [(symF M e ((atF nb e.name).getD noS))]).map symA)), g] ++ X) ++ [none, none])) := by
 refine AC.body 63 Tryz.func75 rfl rfl Tryz.ntmps75 fun base => ?_
 refine AW.seq' ?_
 refine AW.region ?_
 refine AO.ww ?_
 refine AO.c ?_
 refine AO.nil ?_
 refine SQ.normal ?_
 refine AW.seq' ?_
 refine AW.region ?_
 iterate 3 refine AO.c ?_
 refine AO.call1 Tryz.func71 rfl rfl (strtab_At nb e.name hB (by omega) hnm) ?_
 iterate 5 refine AO.c ?_
 refine AO.nil ?_
 refine SQ.normal ?_
 refine AW.seq' ?_
 refine AW.region ?_
 iterate 10 refine AO.c ?_
 refine AO.ww ?_
 refine AO.sst ?_
 refine AO.nil ?_
 refine SQ.normal ?_
 refine AW.seq' ?_
 refine AW.block' ?_
 refine AW.seq' ?_
 refine AW.region ?_
 iterate 4 refine AO.c ?_
 refine AO.nil ?_
 refine SQ.normal ?_
 refine AW.iteB (GL.ev _) (fun h0 => ?_) (fun h0 => ?_)
 ·
  rw [decide_eq_true_eq] at h0
  have hsf : (symF M e ((atF nb e.name).getD noS)) = ⟨(atF nb e.name).getD noS, e.bind, e.typ, -1, e.val, e.size⟩ := by unfold symF symX; rw [if_pos h0]
  refine AW.region ?_
  refine AO.c ?_
  refine AO.sst ?_
  refine AO.nil ?_
  refine BQ.normal ?_
  refine SQ.normal ?_
  refine AW.seq' ?_
  refine AW.drawsZ [8, 12] (.one 1 false (.one 2 false (.one 3 false (.one 4 false (.one 5 false (.one 6 false (.pur 0 (.one 7 true (.one 8 true (.one 9 false (.one 10 false (.one 11 false (.one 12 true .nil))))))))))))) (by kernel_rfl) rfl (by kernel_rfl) ?_
  iterate 6 refine AZ.c rfl ?_
  refine AZ.p rfl ?_
  refine AZ.rr rfl ?_
  refine AZ.ww rfl rfl ?_
  iterate 3 refine AZ.c rfl ?_
  refine AZ.sst rfl rfl ?_
  refine AZ.done ?_
  refine SQ.normal ?_
  refine AW.seq' ?_
  refine AW.region ?_
  iterate 2 refine AO.c ?_
  refine AO.nil ?_
  refine SQ.normal ?_
  refine AW.ret ?_
  refine FinC.ret Gh.dropX ⟨?_, ?_⟩ (.inr rfl)
  · show AV.v _ = AV.v _
    congr 2
    unfold symG
    first | (simp [h0]; done) | (simp [h0, h1]; done) | (rw [Bool.eq_iff_iff]; simp [h0, h1])
  · rw [show (symF M e ((atF nb e.name).getD noS)) = _ from hsf, List.map_append]; simp
 ·
  rw [decide_eq_false_iff_not] at h0
  refine AW.seq' ?_
  refine AW.region ?_
  iterate 4 refine AO.c ?_
  refine AO.nil ?_
  refine SQ.normal ?_
  refine AW.iteB (GL.ev _) (fun h1 => ?_) (fun h1 => ?_)
  ·
   rw [decide_eq_true_eq] at h1
   have hsf : (symF M e ((atF nb e.name).getD noS)) = ⟨(atF nb e.name).getD noS, e.bind, e.typ, (aget M e.idx).getD 0, e.val, e.size⟩ := by unfold symF symX; rw [if_neg h0, if_pos h1]
   refine AW.seq' ?_
   refine AW.drawsZ [8] (.one 0 false (.one 1 false (.one 2 false (.one 3 false (.one 4 false (.one 5 false (.one 6 false (.one 7 false (.one 8 true .nil))))))))) (by kernel_rfl) rfl (by kernel_rfl) ?_
   iterate 8 refine AZ.c rfl ?_
   refine AZ.sst rfl rfl ?_
   refine AZ.done ?_
   refine SQ.normal ?_
   refine AW.region ?_
   iterate 2 refine AO.c ?_
   iterate 3 refine AO.gx ?_
   iterate 2 refine AO.c ?_
   refine AO.nil ?_
   refine BQ.normal ?_
   refine SQ.normal ?_
   refine AW.seq' ?_
   refine AW.drawsZ [8, 12] (.one 1 false (.one 2 false (.one 3 false (.one 4 false (.one 5 false (.one 6 false (.pur 0 (.one 7 true (.one 8 true (.one 9 false (.one 10 false (.one 11 false (.one 12 true .nil))))))))))))) (by kernel_rfl) rfl (by kernel_rfl) ?_
   iterate 6 refine AZ.c rfl ?_
   refine AZ.p rfl ?_
   refine AZ.rr rfl ?_
   refine AZ.ww rfl rfl ?_
   iterate 3 refine AZ.c rfl ?_
   refine AZ.sst rfl rfl ?_
   refine AZ.done ?_
   refine SQ.normal ?_
   refine AW.seq' ?_
   refine AW.region ?_
   iterate 2 refine AO.c ?_
   refine AO.nil ?_
   refine SQ.normal ?_
   refine AW.ret ?_
   refine FinC.ret Gh.dropX ⟨?_, ?_⟩ (.inr rfl)
   · show AV.v _ = AV.v _
     congr 2
     unfold symG
     first | (simp [h0]; done) | (simp [h0, h1]; done) | (rw [Bool.eq_iff_iff]; simp [h0, h1])
   · rw [show (symF M e ((atF nb e.name).getD noS)) = _ from hsf, List.map_append]; simp
  ·
   rw [decide_eq_false_iff_not] at h1
   have hsf : (symF M e ((atF nb e.name).getD noS)) = ⟨(atF nb e.name).getD noS, e.bind, e.typ, 0, e.val, e.size⟩ := by unfold symF symX; rw [if_neg h0, if_neg h1]
   refine AW.skip ?_
   refine BQ.normal ?_
   refine SQ.normal ?_
   refine AW.seq' ?_
   refine AW.drawsZ [8, 12] (.one 1 false (.one 2 false (.one 3 false (.one 4 false (.one 5 false (.one 6 false (.pur 0 (.one 7 true (.one 8 true (.one 9 false (.one 10 false (.one 11 false (.one 12 true .nil))))))))))))) (by kernel_rfl) rfl (by kernel_rfl) ?_
   iterate 6 refine AZ.c rfl ?_
   refine AZ.p rfl ?_
   refine AZ.rr rfl ?_
   refine AZ.ww rfl rfl ?_
   iterate 3 refine AZ.c rfl ?_
   refine AZ.sst rfl rfl ?_
   refine AZ.done ?_
   refine SQ.normal ?_
   refine AW.seq' ?_
   refine AW.region ?_
   iterate 2 refine AO.c ?_
   refine AO.nil ?_
   refine SQ.normal ?_
   refine AW.ret ?_
   refine FinC.ret Gh.dropX ⟨?_, ?_⟩ (.inr rfl)
   · show AV.v _ = AV.v _
     congr 2
     unfold symG
     first | (simp [h0]; done) | (simp [h0, h1]; done) | (rw [Bool.eq_iff_iff]; simp [h0, h1])
   · rw [show (symF M e ((atF nb e.name).getD noS)) = _ from hsf, List.map_append]; simp
end Go.Proofs.YtdniaamhbfadnaaGreat.AL
namespace Go.Proofs.YtdniaamhbfadnaaGreat.AL
open Go Go.RowKit Go.Proofs.YtdniaamhbfadnaaGreat.Base
set_option linter.unusedVariables false
set_option linter.unusedSimpArgs false
set_option maxRecDepth 4000
set_option synthInstance.maxSize 1000
set_option synthInstance.maxHeartbeats 200000
def entK (b : List Int) (i k : Nat) : EntD := entOf (toldF b (shK b i)) (24 * k)
def syN (b : List Int) (i : Nat) : List Int := toldF b (shK b (shK b i).a6.toNat)
def ent1 (b : List Int) (i k : Nat) : Prop := SymOk (toldF b (shK b i)) (24 * k) ∧ symG (numM b) (entK b i k) (syN b i) = true
def symK (b : List Int) (i k : Nat) : SymD := symF (numM b) (entK b i k) ((atF (syN b i) (entK b i k).name).getD noS)
def symL (b : List Int) (i n : Nat) : List SymD := (List.range n).map (symK b i)
def locE (b : List Int) (i n : Nat) : Int := ((List.range n).countP fun k => decide ((entK b i k).bind = 0) : Nat)
def syMany (b : List Int) (i : Nat) : Nat := (shK b i).a5.toNat / 24
def symOk1 (b : List Int) (i : Nat) : Prop := (shK b i).a5 % 24 = 0 ∧ isF (hdsN b (mnH b)) (shK b i).a6 3 = true ∧ (∀ k, k < syMany b i → ent1 b i k) ∧ (shK b i).a9 = 24 ∧ locE b i (syMany b i) = (shK b i).a7
def tbOk (b : List Int) (i tb : Nat) (Y : List SymD) : Prop := (tb = 0 ∧ Y = [] ∧ ∀ q, q < i → (shK b q).a1 ≠ 2) ∨ (0 < tb ∧ tb < i ∧ (shK b tb).a1 = 2 ∧ (∀ q, q < i → (shK b q).a1 = 2 → q = tb) ∧ symOk1 b tb ∧ Y = symL b tb (syMany b tb))
def symsOk (b : List Int) (q : Nat) : Prop := 0 < q ∧ q < mnH b ∧ (shK b q).a1 = 2 ∧ (∀ q', q' < mnH b → (shK b q').a1 = 2 → q' = q) ∧ symOk1 b q
theorem symL_succ (b : List Int) (i n : Nat) : symL b i (n + 1) = symL b i n ++ [symK b i n] := by unfold symL; rw [List.range_succ, List.map_append]; rfl
theorem symL_len (b : List Int) (i n : Nat) : (symL b i n).length = n := by unfold symL; simp
theorem locE_succ (b : List Int) (i n : Nat) : locE b i (n + 1) = locE b i n + if (entK b i n).bind = 0 then 1 else 0 := by
 unfold locE
 rw [List.range_succ, List.countP_append]
 by_cases h : (entK b i n).bind = 0 <;> simp [h]
theorem locE_le (b : List Int) (i n : Nat) : 0 ≤ locE b i n ∧ locE b i n ≤ n := by
 unfold locE
 have := List.countP_le_length (p := fun k => decide ((entK b i k).bind = 0)) (l := List.range n)
 rw [List.length_range] at this
 omega
theorem shK_all {b : List Int} {k : Nat} (h : hdOk1 b k) : (0 ≤ (shK b k).a0 ∧ (shK b k).a0 ≤ 2147483647) ∧ (0 ≤ (shK b k).a1 ∧ (shK b k).a1 ≤ 2147483647) ∧ (0 ≤ (shK b k).a2 ∧ (shK b k).a2 ≤ 2147483647) ∧ (0 ≤ (shK b k).a4 ∧ (shK b k).a4 ≤ 2147483647) ∧ (0 ≤ (shK b k).a5 ∧ (shK b k).a5 ≤ 2147483647) ∧ (0 ≤ (shK b k).a6 ∧ (shK b k).a6 ≤ 2147483647) ∧ (0 ≤ (shK b k).a7 ∧ (shK b k).a7 ≤ 2147483647) ∧ (0 ≤ (shK b k).a8 ∧ (shK b k).a8 ≤ 2147483647) ∧ (0 ≤ (shK b k).a9 ∧ (shK b k).a9 ≤ 2147483647) := sh_all h.1
theorem told_size {b : List Int} {h : ShD} (ht : TellOk b h) (h8 : h.a1 ≠ 8) : ((toldF b h).length : Int) = h.a5 := by
 unfold TellOk at ht
 unfold toldF
 rw [if_neg h8, List.length_drop, List.length_take]
 omega
set_option maxHeartbeats 4000000 in
theorem obj_readSyms (n : Nat) (z : List AV) (b : List Int) (hB : Bytes b) (hf : frOk b) (g : Option AB) (j ep : Nat) : AC Tryz.prog 28 (Hn n (([some (.box 29 z), some (.map ((numM b).map (mE kI vI))), some (.box 88 [.rd 1 (bys b), .rd 10 ((hdsN b (mnH b)).map shA), .omap (n + 1), .v (.int .i64 (0)), .own (n + 4) ep 0 (lnkM b (mnH b)).length, .own (n + 5) (0) 0 (([] : List SymD)).length, .own (n + 6) 0 0 0, .v (.bool false), .v (.slice none 0 0)]), none, some (.row 104 9 ep ((lnkM b (mnH b)).map secN)), some (.row 82 6 (0) ((([] : List SymD)).map symA)), g] ++ List.replicate j none) ++ [])) [.box (n + 2) 0] (fun r H' => (∃ x : Nat × Nat × Nat, symsOk b x.1 ∧ r = .v (.bool true) ∧ H' = Hn n (([some (.box 29 z), some (.map ((numM b).map (mE kI vI))), some (.box 88 [.rd 1 (bys b), .rd 10 ((hdsN b (mnH b)).map shA), .omap (n + 1), .v (.int .i64 ((x.1 : Int))), .own (n + 4) ep 0 (lnkM b (mnH b)).length, .own (n + 5) (x.2.1) 0 (symL b x.1 (syMany b x.1)).length, .own (n + 6) 0 0 0, .v (.bool false), .v (.slice none 0 0)]), none, some (.row 104 9 ep ((lnkM b (mnH b)).map secN)), some (.row 82 6 (x.2.1) ((symL b x.1 (syMany b x.1)).map symA)), g] ++ List.replicate x.2.2 none) ++ [])) ∨ (∃ X, (∀ q, ¬ symsOk b q) ∧ r = .v (.bool false) ∧ H' = Hn n (some (.box 29 z) :: X))) := by
 have hmay := hf.1.2.1
 unfold HdD.may MayHd at hmay
 have hmn : ((mnH b : Nat) : Int) = (hdOf b).many := by unfold mnH; omega
 have hbl := hf.2.1
 refine AC.body 92 Tryz.func28 rfl rfl Tryz.ntmps28 fun base => ?_
 refine AW.seq' ?_
 refine AW.region ?_
 refine AO.c ?_
 refine AO.nil ?_
 refine SQ.normal ?_
 refine AW.seq' ?_
 refine AW.seq' ?_
 refine AW.region ?_
 iterate 5 refine AO.c ?_
 refine AO.eq 14 (av' := .v (.int .i64 (mnH b))) (by rw [hdsN_len]) ?_
 refine AO.c ?_
 refine AO.nil ?_
 refine SQ.normal ?_
 refine AW.block' ?_
 refine AW.loopU4 [.k, .F, .f, .f, .f, .f, .k, .k, .k, .F, .F, .F, .F, .F, .F, .F, .F, .F, .f, .f, .f, .f] (fun (i j2 e5 : Nat) (tY : Nat × List SymD) => [(15, .v (.int .i64 (i)))]) (fun i j2 e5 tY => Hn n (([some (.box 29 z), some (.map ((numM b).map (mE kI vI))), some (.box 88 [.rd 1 (bys b), .rd 10 ((hdsN b (mnH b)).map shA), .omap (n + 1), .v (.int .i64 ((tY.1 : Int))), .own (n + 4) ep 0 (lnkM b (mnH b)).length, .own (n + 5) (e5) 0 (tY.2).length, .own (n + 6) 0 0 0, .v (.bool false), .v (.slice none 0 0)]), none, some (.row 104 9 ep ((lnkM b (mnH b)).map secN)), some (.row 82 6 (e5) ((tY.2).map symA)), g] ++ List.replicate j2 none) ++ [])) (fun m i j2 e5 tY => (i ≤ mnH b ∧ m = mnH b - i) ∧ tbOk b i tY.1 tY.2) (mnH b) (0) (j) (0) ((0, [])) ⟨by omega, .inl ⟨rfl, rfl, fun q h => by omega⟩⟩ (by first | rfl | (simp; done)) (by first | rfl | (simp; done)) ?_
 rintro m0 i j2 e5 tY ⟨hx1, hx2⟩
 obtain ⟨tb, Y⟩ := tY
 dsimp only at hx1 hx2 ⊢
 refine AW.seq' ?_
 refine AW.region ?_
 refine AO.c ?_
 refine AO.nil ?_
 refine SQ.normal ?_
 refine AW.seq' ?_
 refine AW.iteB (GL.ev _) (fun h0 => ?_) (fun h0 => ?_)
 ·
  rw [decide_eq_true_eq] at h0
  have hi : i < mnH b := by omega
  have hok1 := hf.2.2.1 i hi
  have hsa := shK_all hok1
  refine AW.skip ?_
  refine SQ.normal ?_
  refine AW.seq' ?_
  refine AW.block' ?_
  refine AW.seq' ?_
  refine AW.region ?_
  refine AO.c ?_
  refine AO.o (by rw [hdsN_len]; omega) ?_
  refine AO.c ?_
  refine AO.eq 19 (av' := .agg (shA (shK b i))) (by rw [hdsN_get hi]) ?_
  refine AO.ww ?_
  refine AO.c ?_
  refine AO.sst ?_
  refine AO.nil ?_
  refine SQ.normal ?_
  refine AW.seq' ?_
  refine AW.seq' ?_
  refine AW.region ?_
  iterate 3 refine AO.c ?_
  refine AO.nil ?_
  refine SQ.normal ?_
  refine AW.iteB (GL.ev _) (fun h1 => ?_) (fun h1 => ?_)
  ·
   rw [decide_eq_true_eq] at h1
   have hnx : tbOk b (i + 1) tb Y := by
    rcases hx2 with ⟨q1, q2, q3⟩ | ⟨q1, q2, q3, q4, q5, q6⟩
    · refine .inl ⟨q1, q2, fun q hq => ?_⟩
      by_cases e : q = i
      · subst e; exact h1
      · exact q3 q (by omega)
    · refine .inr ⟨q1, by omega, q3, fun q hq hq2 => ?_, q5, q6⟩
      by_cases e : q = i
      · subst e; exact absurd hq2 h1
      · exact q4 q (by omega) hq2
   refine AW.exit ?_
   refine SQ.exit <| BQ.exit ?_
   refine SQ.normal ?_
   refine AW.region ?_
   refine AO.oo ?_
   refine AO.c ?_
   refine AO.nil ?_
   exact AW.backE [.k, .F, .f, .f, .f, .f, .k, .k, .k, .F, .F, .F, .F, .F, .F, .F, .F, .F, .f, .f, .f, .f] (j2) (m0 - 1) (i + 1, j2 + 1, e5, (tb, Y)) (by omega) (by (try dsimp only); exact ⟨by omega, hnx⟩) (by first | rfl | (simp; done)) (by first | rfl | (simp; done))
  ·
   rw [decide_eq_false_iff_not, Decidable.not_not] at h1
   have htk := tell_ok hok1
   have hge : (hdsN b (mnH b)).getD ((i : Int)).toNat default = shK b i := by rw [Int.toNat_natCast]; exact hdsN_get hi
   have htold := obj_told b (hdsN b (mnH b)) (i : Int) ⟨by omega, by rw [hdsN_len]; omega⟩ (by omega) (by rw [hge]; exact htk)
   rw [hge] at htold
   have hts := told_size htk (by omega)
   have htl2 := told_len b (shK b i)
   refine AW.skip ?_
   refine SQ.normal ?_
   refine AW.seq' ?_
   refine AW.seq' ?_
   refine AW.region ?_
   iterate 6 refine AO.c ?_
   iterate 2 refine AO.gx ?_
   refine AO.gxoo ?_
   refine AO.gx ?_
   iterate 2 refine AO.c ?_
   iterate 3 refine AO.gx ?_
   refine AO.gxcallB [.rd 1 (bys b), .rd 10 ((hdsN b (mnH b)).map shA)] Tryz.func70 rfl rfl (fun hgd => obj_is b (hdsN b (mnH b)) (shK b i).a6 3 (by rw [hdsN_len]; omega)) ⟨_, rfl⟩ rfl ?_
   refine AO.gx ?_
   refine AO.c ?_
   refine AO.nil ?_
   refine SQ.normal ?_
   refine AW.iteB (GL.ev _) (fun h2 => ?_) (fun h2 => ?_)
   ·
    have hno : ∀ q, ¬ symsOk b q := fun q h => by
     have e := h.2.2.2.1 i hi h1
     subst e
     have hs := h.2.2.2.2
     rcases hx2 with ⟨q1, q2, q3⟩ | ⟨q1, q2, q3, q4, q5, q6⟩
     · rw [hs.2.1, decide_eq_false (by omega : ¬ (tb : Int) > 0)] at h2
       simp [hs.1] at h2
     · have := h.2.2.2.1 tb (by omega) q3; omega
    refine AW.seq' ?_
    refine AW.region ?_
    refine AO.c ?_
    refine AO.nil ?_
    refine SQ.normal ?_
    refine AW.ret ?_
    refine SQ.ret <| BQ.ret <| SQ.ret <| AW.out <| LU.ret <| BQ.ret <| SQ.ret ?_
    exact FinC.ret Gh.refl (.inr ⟨_, hno, rfl, rfl⟩) (.inr rfl)
   ·
    simp only [Bool.or_eq_false_iff, decide_eq_false_iff_not, Bool.not_eq_false', Decidable.not_not] at h2
    have h2f : tb = 0 ∧ (shK b i).a5 % 24 = 0 ∧ isF (hdsN b (mnH b)) (shK b i).a6 3 = true := ⟨by omega, h2.1.2, h2.2⟩
    obtain ⟨rfl, hmod, his⟩ := h2f
    obtain ⟨_, rfl, hnone⟩ : 0 = 0 ∧ Y = [] ∧ ∀ q, q < i → (shK b q).a1 ≠ 2 := by
     rcases hx2 with ⟨_, q2, q3⟩ | ⟨q1, _⟩
     · exact ⟨rfl, q2, q3⟩
     · omega
    have his2 := his
    unfold isF at his2
    simp only [Bool.and_eq_true, decide_eq_true_eq] at his2
    rw [hdsN_len] at his2
    have hge6 : (hdsN b (mnH b)).getD (shK b i).a6.toNat default = shK b (shK b i).a6.toNat := hdsN_get (by omega)
    have htoldn := obj_told b (hdsN b (mnH b)) (shK b i).a6 ⟨by omega, by rw [hdsN_len]; omega⟩ (by omega) (by rw [hge6]; exact tell_ok (hf.2.2.1 _ (by omega)))
    rw [hge6] at htoldn
    refine AW.skip ?_
    refine SQ.normal ?_
    refine AW.seq' ?_
    refine AW.region ?_
    iterate 4 refine AO.c ?_
    refine AO.sst ?_
    refine AO.nil ?_
    refine SQ.normal ?_
    refine AW.seq' ?_
    refine AW.region ?_
    iterate 2 refine AO.c ?_
    refine AO.callB [.rd 1 (bys b), .rd 10 ((hdsN b (mnH b)).map shA)] Tryz.func72 rfl rfl htold ⟨_, rfl⟩ rfl ?_
    iterate 2 refine AO.c ?_
    refine AO.nil ?_
    refine SQ.normal ?_
    refine AW.seq' ?_
    refine AW.seq' ?_
    refine AW.region ?_
    refine AO.c ?_
    refine AO.nil ?_
    refine SQ.normal ?_
    refine AW.block' ?_
    refine AW.loopU3 [.k, .f, .f, .f, .k, .k, .k, .k, .f, .f, .f, .f, .f, .k, .k, .k, .F, .F, .F, .F, .F, .F, .F, .F, .F, .f, .f, .f, .f] (fun (k j3 e6 : Nat) => [(6, .v (.int .i64 (locE b i k))), (7, .v (.int .i64 (24 * (k : Int))))]) (fun k j3 e6 => Hn n ((([some (.box 29 z), some (.map ((numM b).map (mE kI vI))), some (.box 88 [.rd 1 (bys b), .rd 10 ((hdsN b (mnH b)).map shA), .omap (n + 1), .v (.int .i64 ((i : Int))), .own (n + 4) ep 0 (lnkM b (mnH b)).length, .own (n + 5) (e6) 0 (symL b i k).length, .own (n + 6) 0 0 0, .v (.bool false), .v (.slice none 0 0)]), none, some (.row 104 9 ep ((lnkM b (mnH b)).map secN)), some (.row 82 6 (e6) ((symL b i k).map symA)), g] ++ List.replicate j2 none ++ [some (.box 157 (shA (shK b i)))]) ++ List.replicate j3 none) ++ [])) (fun m k j3 e6 => (k ≤ syMany b i ∧ m = syMany b i - k) ∧ ∀ q, q < k → ent1 b i q) (syMany b i) (0) (0) (e5) ⟨by omega, fun q h => by omega⟩ (by first | rfl | (simp; done)) (by simp [symL]) ?_
    rintro m1 k j3 e6 ⟨hy1, hy2⟩
    refine AW.seq' ?_
    refine AW.seq' ?_
    refine AW.region ?_
    iterate 4 refine AO.c ?_
    refine AO.nil ?_
    refine SQ.normal ?_
    refine AW.iteB (GL.ev _) (fun h3 => ?_) (fun h3 => ?_)
    ·
     rw [decide_eq_true_eq] at h3
     have hk : k < syMany b i := by unfold syMany; omega
     have hk24 : 24 * (k : Int) + 24 ≤ (shK b i).a5 := by unfold syMany at hk; omega
     have hlc := locE_le b i k
     refine AW.skip ?_
     refine SQ.normal ?_
     refine AW.seq' ?_
     refine AW.block' ?_
     refine AW.seq' ?_
     refine AW.region ?_
     iterate 2 refine AO.c ?_
     refine AO.call1 Tryz.func74 rfl rfl (sym_Get (toldF b (shK b i)) (24 * (k : Int)) (told_bytes hB _) (by omega) (by unfold I64; omega)) ?_
     iterate 3 refine AO.c ?_
     refine AO.ww ?_
     refine AO.sst ?_
     refine AO.c ?_
     refine AO.nil ?_
     refine SQ.normal ?_
     refine AW.seq' ?_
     refine AW.seq' ?_
     rcases Decidable.em (SymOk (toldF b (shK b i)) (24 * (k : Int))) with hq | hq
     ·
      simp only [if_pos hq, decide_eq_true hq]
      have hqo : MayE (entK b i k) := hq.2.2.2
      unfold MayE at hqo
      have hnl : (syN b i).length ≤ b.length := told_len b _
      refine AW.drawsZ [9] (.one 0 false (.one 1 false (.one 2 false (.one 3 false (.one 4 false (.one 5 false (.one 6 false (.one 7 false (.one 8 true (.one 9 true (.one 10 false (.one 11 false .nil)))))))))))) (by kernel_rfl) rfl (by kernel_rfl) ?_
      iterate 3 refine AZ.c rfl ?_
      refine AZ.eq 62 (av' := .v (.bool false)) rfl ?_
      refine AZ.gkc rfl rfl ?_
      refine AZ.gkc rfl rfl ?_
      refine AZ.gkc rfl rfl ?_
      refine AZ.gkc rfl rfl ?_
      refine AZ.gkc rfl rfl ?_
      refine AZ.gkB [.rd 1 (bys b), .rd 10 ((hdsN b (mnH b)).map shA)] rfl Tryz.func72 rfl rfl rfl htoldn ⟨_, rfl⟩ rfl ?_
      refine AZ.gkL (av := .v (.bool (symG (numM b) (entK b i k) (syN b i)))) (H2 := Hn n (((([some (.box 29 z), some (.map ((numM b).map (mE kI vI))), some (.box 88 [.rd 1 (bys b), .rd 10 ((hdsN b (mnH b)).map shA), .omap (n + 1), .v (.int .i64 ((i : Int))), .own (n + 4) ep 0 (lnkM b (mnH b)).length, .own (n + 5) (e6 + 1) 0 (symL b i (k + 1)).length, .own (n + 6) 0 0 0, .v (.bool false), .v (.slice none 0 0)]), none, some (.row 104 9 ep ((lnkM b (mnH b)).map secN)), some (.row 82 6 (e6 + 1) ((symL b i (k + 1)).map symA)), g] ++ List.replicate j2 none ++ [some (.box 157 (shA (shK b i)))]) ++ List.replicate j3 none) ++ [some (.box 166 (entA (entK b i k)))]) ++ [none, none])) rfl rfl Tryz.func75 rfl rfl rfl (AC.cong (obj_readSym n z b (hdsN b (mnH b)) (numM b) i ep (lnkM b (mnH b)).length 0 0 false (some (.row 104 9 ep ((lnkM b (mnH b)).map secN))) g (List.replicate j2 none ++ [some (.box 157 (shA (shK b i)))] ++ List.replicate j3 none ++ [some (.box 166 (entA (entK b i k)))]) e6 (symL b i k) (entK b i k) (syN b i) (by rw [symL_len]; omega) (told_bytes hB _) (by omega) (by unfold I64; omega)) (by simp [entK, entA]) (fun r H' h => ⟨h.1, h.2.trans (by rw [symL_succ]; simp [symK, entK, entA, syN])⟩)) ?_
      refine AZ.gkc rfl rfl ?_
      refine AZ.eq 70 (av' := cv (!false) (.v (.bool (!symG (numM b) (entK b i k) (syN b i))))) rfl ?_
      refine AZ.c rfl ?_
      refine AZ.done ?_
      refine SQ.normal ?_
      refine AW.iteB (GL.ev _) (fun h4 => ?_) (fun h4 => ?_)
      ·
       have hno : ∀ q, ¬ symsOk b q := fun q h => by
        have e := h.2.2.2.1 i hi h1
        subst e
        have := (h.2.2.2.2.2.2.1 k hk).2
        rw [this] at h4; cases h4
       refine AW.seq' ?_
       refine AW.region ?_
       refine AO.c ?_
       refine AO.nil ?_
       refine SQ.normal ?_
       refine AW.ret ?_
       refine SQ.ret <| BQ.ret <| SQ.ret <| AW.out <| LU.ret <| BQ.ret <| SQ.ret <| BQ.ret <| SQ.ret <| AW.out <| LU.ret <| BQ.ret <| SQ.ret ?_
       exact FinC.ret Gh.refl (.inr ⟨_, hno, rfl, rfl⟩) (.inr rfl)
      ·
       have hal2 : ∀ q, q < k + 1 → ent1 b i q := fun q hq2 => by
        by_cases e : q = k
        · subst e; exact ⟨hq, by simpa using h4⟩
        · exact hy2 q (by omega)
       refine AW.skip ?_
       refine SQ.normal ?_
       refine AW.seq' ?_
       refine AW.region ?_
       iterate 3 refine AO.c ?_
       refine AO.nil ?_
       refine SQ.normal ?_
       refine AW.iteB (GL.ev _) (fun h5 => ?_) (fun h5 => ?_)
       ·
        try simp only [Bool.and_eq_true, Bool.or_eq_true, Bool.not_eq_true', Bool.and_eq_false_iff, Bool.or_eq_false_iff, decide_eq_true_eq, decide_eq_false_iff_not, bys_length] at h5
        refine AW.region ?_
        refine AO.c ?_
        refine AO.oo ?_
        refine AO.c ?_
        refine AO.nil ?_
        refine BQ.normal ?_
        refine SQ.normal ?_
        refine AW.region ?_
        refine AO.c ?_
        refine AO.oo ?_
        refine AO.c ?_
        refine AO.nil ?_
        exact AW.backE [.k, .f, .f, .f, .k, .k, .k, .k, .f, .f, .f, .f, .f, .k, .k, .k, .F, .F, .F, .F, .F, .F, .F, .F, .F, .f, .f, .f, .f] (j3) (m1 - 1) (k + 1, j3 + 3, e6 + 1) (by omega) (by (try dsimp only); exact ⟨by omega, hal2⟩) (by first | (simp [locE_succ, h5]; done) | (simp [locE_succ, h5]; omega)) (by first | rfl | (simp; done))
       ·
        try simp only [Bool.and_eq_true, Bool.or_eq_true, Bool.not_eq_true', Bool.and_eq_false_iff, Bool.or_eq_false_iff, decide_eq_true_eq, decide_eq_false_iff_not, bys_length] at h5
        refine AW.skip ?_
        refine BQ.normal ?_
        refine SQ.normal ?_
        refine AW.region ?_
        refine AO.c ?_
        refine AO.oo ?_
        refine AO.c ?_
        refine AO.nil ?_
        exact AW.backE [.k, .f, .f, .f, .k, .k, .k, .k, .f, .f, .f, .f, .f, .k, .k, .k, .F, .F, .F, .F, .F, .F, .F, .F, .F, .f, .f, .f, .f] (j3) (m1 - 1) (k + 1, j3 + 3, e6 + 1) (by omega) (by (try dsimp only); exact ⟨by omega, hal2⟩) (by first | (simp [locE_succ, h5]; done) | (simp [locE_succ, h5]; omega)) (by first | rfl | (simp; done))
     ·
      simp only [if_neg hq, decide_eq_false hq]
      refine AW.drawsZ [] (.one 0 false (.one 1 false (.one 2 false (.one 3 false (.one 4 false (.one 5 false (.one 6 false (.one 7 false (.one 8 true (.one 9 true (.one 10 false (.one 11 false .nil)))))))))))) (by kernel_rfl) rfl (by kernel_rfl) ?_
      iterate 3 refine AZ.c rfl ?_
      refine AZ.eq 62 (av' := .v (.bool true)) rfl ?_
      refine AZ.sk rfl rfl ?_
      refine AZ.sk rfl rfl ?_
      refine AZ.sk rfl rfl ?_
      refine AZ.sk rfl rfl ?_
      refine AZ.sk rfl rfl ?_
      refine AZ.sk rfl rfl ?_
      refine AZ.sk rfl rfl ?_
      refine AZ.sk rfl rfl ?_
      refine AZ.eq 70 (av' := cv (!true) (.v (.bool true))) rfl ?_
      refine AZ.c rfl ?_
      refine AZ.done ?_
      refine SQ.normal ?_
      refine AW.iteB (GL.ev _) (fun h4 => ?_) (fun h4 => ?_)
      ·
       have hno : ∀ q, ¬ symsOk b q := fun q h => by
        obtain rfl := h.2.2.2.1 i hi h1
        exact hq (h.2.2.2.2.2.2.1 k hk).1
       refine AW.seq' ?_
       refine AW.region ?_
       refine AO.c ?_
       refine AO.nil ?_
       refine SQ.normal ?_
       refine AW.ret ?_
       refine SQ.ret <| BQ.ret <| SQ.ret <| AW.out <| LU.ret <| BQ.ret <| SQ.ret <| BQ.ret <| SQ.ret <| AW.out <| LU.ret <| BQ.ret <| SQ.ret ?_
       exact FinC.ret Gh.refl (.inr ⟨_, hno, rfl, rfl⟩) (.inr rfl)
      ·
       exfalso
       simp at h4
    ·
     rw [decide_eq_false_iff_not] at h3
     have hk : k = syMany b i := by unfold syMany at *; omega
     subst hk
     have hlc := locE_le b i (syMany b i)
     refine AW.exit ?_
     refine SQ.exit <| AW.out <| LU.exit <| BQ.exit ?_
     refine SQ.normal ?_
     refine AW.seq' ?_
     refine AW.region ?_
     iterate 4 refine AO.c ?_
     iterate 4 refine AO.gx ?_
     refine AO.c ?_
     refine AO.nil ?_
     refine SQ.normal ?_
     refine AW.iteB (GL.ev _) (fun h6 => ?_) (fun h6 => ?_)
     ·
      have hno : ∀ q, ¬ symsOk b q := fun q h => by
       have e := h.2.2.2.1 i hi h1
       subst e
       have hs := h.2.2.2.2.2.2.2
       simp [hs.1, hs.2] at h6
      refine AW.seq' ?_
      refine AW.region ?_
      refine AO.c ?_
      refine AO.nil ?_
      refine SQ.normal ?_
      refine AW.ret ?_
      refine BQ.ret <| SQ.ret <| AW.out <| LU.ret <| BQ.ret <| SQ.ret ?_
      exact FinC.ret Gh.refl (.inr ⟨_, hno, rfl, rfl⟩) (.inr rfl)
     ·
      simp only [Bool.or_eq_false_iff, decide_eq_false_iff_not, Decidable.not_not] at h6
      have hi0 : 0 < i := by
       rcases Nat.eq_zero_or_pos i with e | e
       · have := hok1.2.1 e; rw [this] at h1; cases h1
       · exact e
      have hnx : tbOk b (i + 1) i (symL b i (syMany b i)) := .inr ⟨hi0, by omega, h1, fun q hq hq2 => by
       by_cases e : q = i
       · exact e
       · exact absurd hq2 (hnone q (by omega)), ⟨hmod, his, hy2, h6.1, h6.2⟩, rfl⟩
      refine AW.skip ?_
      refine BQ.normal ?_
      refine SQ.normal ?_
      refine AW.region ?_
      refine AO.oo ?_
      refine AO.c ?_
      refine AO.nil ?_
      exact AW.backE [.k, .F, .f, .f, .f, .f, .k, .k, .k, .F, .F, .F, .F, .F, .F, .F, .F, .F, .f, .f, .f, .f] (j2) (m0 - 1) (i + 1, j2 + (1 + j3), e6, (i, symL b i (syMany b i))) (by omega) (by (try dsimp only); exact ⟨by omega, hnx⟩) (by first | rfl | (simp; done)) ((Hn_rep (b := j2 + (1 + j3)) (by first | (simp; done) | (simp; omega))).trans (by (try dsimp only) <;> rfl))
 ·
  rw [decide_eq_false_iff_not] at h0
  have hi : i = mnH b := by omega
  subst hi
  refine AW.exit ?_
  refine SQ.exit <| AW.out <| LU.exit <| BQ.exit ?_
  refine SQ.normal ?_
  refine AW.seq' ?_
  refine AW.region ?_
  iterate 6 refine AO.c ?_
  refine AO.nil ?_
  refine SQ.normal ?_
  refine AW.ret ?_
  rcases hx2 with ⟨q1, q2, q3⟩ | ⟨q1, q2, q3, q4, q5, q6⟩
  · subst q1
    exact FinC.ret Gh.refl (.inr ⟨_, fun q h => q3 q h.2.1 h.2.2.1, by rw [decide_eq_false (by omega)]; rfl, rfl⟩) (.inr rfl)
  · subst q6
    exact FinC.ret Gh.refl (.inl ⟨(tb, e5, j2), ⟨q1, q2, q3, q4, q5⟩, by rw [decide_eq_true (by omega)]; rfl, rfl⟩) (.inr rfl)
end Go.Proofs.YtdniaamhbfadnaaGreat.AL
