/- A part of the proof: rules of an own logic over blocks, and what functions of the program compute, each by its own contract; the conditions stand with each. -/
import Derived.Test.YtiomdnmicagdcaaGreatCg
import Derived.Test.YtiomdnmicagdcaaGreatCd
import Derived.Test.YtiomdnmicagdcaaGreatCe
import Derived.Laws.IdiomCopy
import Derived.Lib.AppendZerosOnto
import Derived.Lib.Overlaps
import Derived.Shelf.Spec.SlicesInsert
import Derived.Shelf.Spec.SlicesInsertGrow
namespace Go.Proofs.YtiomdnmicagdcaaGreat.AL
open Go Go.RowKit Go.Proofs.YtiomdnmicagdcaaGreat.Base
set_option linter.unusedVariables false
set_option linter.unusedSimpArgs false
set_option maxRecDepth 4000
set_option synthInstance.maxSize 1000
set_option synthInstance.maxHeartbeats 200000
def PartD.toldN (p : PartD) (b : List Int) : PartD := ⟨p.h, { data := #[] }, b⟩
def ref4 (o : ObjD) : List PartD := (zPart :: o.secs.map secPart) ++ midF o (atF8 o) ++ [symPt o (atF8 o)] ++ [strPt o]
def refL (o : ObjD) : List PartD := ref4 o ++ [shsPt.toldN (tabOf (pNames o)).1]
theorem sigPart_len (at_ : Int) (o : ObjD) : (sigPart at_ o).length ≤ 1 := by unfold sigPart; split <;> simp
theorem preF_eq4 (o : ObjD) : preF o = ref4 o ++ [shsPt] := rfl
theorem ref4_len (o : ObjD) : (ref4 o).length = o.secs.length + (midF o (atF8 o)).length + 3 := by
 have := preF_len o
 rw [preF_eq4, List.length_append, List.length_singleton] at this; omega
theorem pNames_eq4 (o : ObjD) : pNames o = (ref4 o).map (·.name) ++ [nShs] := by
 unfold pNames; rw [preF_eq4, List.map_append]; rfl
theorem refL_len (o : ObjD) : (refL o).length = (preF o).length := by
 unfold refL; rw [preF_eq4]; simp
theorem refL_get {o : ObjD} {i : Nat} (h : i < (preF o).length) : ((finF o).getD i default).b = ((refL o).getD i default).b ∧ ∀ body, headOf i body ((finF o).getD i default) = headOf i body (((refL o).getD i default).named ((tabOf (pNames o)).2.1.getD i 0)) := by
 rw [finF_get h, tblF_get h]
 have hl := ref4_len o
 have hp := preF_len o
 by_cases hi : i = (preF o).length - 1
 · rw [if_pos hi]
   have e : (refL o).getD i default = shsPt.toldN (tabOf (pNames o)).1 := by
    unfold refL
    rw [List.getD_eq_getElem?_getD, List.getElem?_append_right (by omega), show i - (ref4 o).length = 0 by omega]; rfl
   rw [e]
   exact ⟨rfl, fun body => rfl⟩
 · rw [if_neg hi]
   have e : (refL o).getD i default = (preF o).getD i default := by
    unfold refL
    rw [preF_eq4, List.getD_eq_getElem?_getD, List.getD_eq_getElem?_getD, List.getElem?_append_left (by omega), List.getElem?_append_left (by omega)]
   rw [e]
   exact ⟨rfl, fun body => rfl⟩
theorem ref_BeginR (h : HdD) (hh : h.ok) : A1 Tryz.prog 116 [.v (.int .i64 (h.at_)), .v (.int .i64 (h.many)), .v (.int .i64 (h.names))] 5 1 (bys (if h.may then h.bytes else [])) := by
 have hh0 := hh.1
 refine A1.body 38 (NIr.h) Tryz.func116 rfl rfl Tryz.ntmps116 fun base n0 => ?_
 refine AW.seq' ?_
 refine AW.region ?_
 refine AO.c ?_
 refine AO.nil ?_
 refine SQ.normal ?_
 refine AW.seq' ?_
 refine AW.region ?_
 refine AO.c ?_
 refine AO.call1 Tryz.func157 rfl rfl (ref_fits _ (by assumption)) ?_
 refine AO.c ?_
 refine AO.nil ?_
 refine SQ.normal ?_
 refine AW.seq' ?_
 refine AW.seq' ?_
 refine AW.region ?_
 iterate 3 refine AO.c ?_
 iterate 2 refine AO.gx ?_
 iterate 2 refine AO.c ?_
 iterate 2 refine AO.gx ?_
 iterate 2 refine AO.c ?_
 iterate 2 refine AO.gx ?_
 iterate 2 refine AO.c ?_
 iterate 3 refine AO.gx ?_
 refine AO.c ?_
 refine AO.nil ?_
 refine SQ.normal ?_
 refine AW.iteB (GL.ev _) (fun h0 => ?_) (fun h0 => ?_)
 ·
  simp only [Bool.or_eq_true, Bool.not_eq_true', decide_eq_true_eq] at h0
  have hno : ¬ h.may := by
   intro hm
   unfold HdD.may MayHd at hm
   rcases h0 with (((h0 | h0) | h0) | h0) | h0
   · unfold fitsB at h0; simp at h0; omega
   all_goals omega
  refine AW.seq' ?_
  refine AW.region ?_
  refine AO.c ?_
  refine AO.nil ?_
  refine SQ.normal ?_
  refine AW.ret ?_
  refine SQ.ret ?_
  refine FinO.ret 6 (Gh.adoptB 6 5) rfl ?_ ?_ (.inr rfl)
  · rw [if_neg hno]
  · rw [if_neg hno]; rfl
 ·
  simp only [Bool.or_eq_false_iff, Bool.not_eq_false', decide_eq_false_iff_not] at h0
  have hm : h.may := by
   have h1 := h0.1.1.1.1
   unfold fitsB at h1
   simp only [Bool.and_eq_true, decide_eq_true_eq] at h1
   unfold HdD.may MayHd
   omega
  have hnu := nums_hd hm
  have h64 := numL_64 hh
  have hnl : (numsF (numL h)).length = 48 := by
   have h1 := congrArg List.length hnu
   rw [List.length_append, hdB_len] at h1
   have h2 : identL.length = 16 := rfl
   omega
  refine AW.skip ?_
  refine SQ.normal ?_
  refine AW.seq' ?_
  refine AW.region ?_
  refine AO.ww ?_
  refine AO.c ?_
  refine AO.nil ?_
  refine SQ.normal ?_
  refine AW.seq' ?_
  refine AW.region ?_
  iterate 4 refine AO.c ?_
  refine AO.rr ?_
  refine AO.eq 35 (av' := .rd 1 ((numL h).map iA)) rfl ?_
  refine AO.call1 Tryz.func156 rfl rfl (ref_Nums _ (by simp) h64) ?_
  refine AO.ww ?_
  refine AO.c ?_
  refine AO.nil ?_
  refine SQ.normal ?_
  refine AW.ret ?_
  refine FinO.ret 6 (Gh.refl) rfl ?_ ?_ (.inr rfl)
  · rw [if_pos hm, ← hnu]; rfl
  · rw [if_pos hm, bys_length, hdB_len, hnl]
set_option maxHeartbeats 4000000 in
theorem ref_BytesR (o : ObjD) (h : LayH o) : A1 Tryz.prog 69 [.agg (objA o)] 5 1 (bys (bytesF o)) := by
 have hq := h.small
 have hso := h.ok
 have s1 := hq.secs
 have s2 := hq.syms
 have s3 := h.gs
 have s4 := h.sg
 have hml := midF_len o (atF8 o)
 have hml0 := midF_len o 0
 have hpl := preF_len o
 have h4l := ref4_len o
 have hrl := refL_len o
 have hps := pre_small h
 have hfl := finF_len o
 have hns := pre_names h
 have hnl : (pNames o).length = (preF o).length := by unfold pNames; rw [List.length_map]
 have hfull : ((ref4 o).take (ref4 o).length).map (·.name) ++ [nShs] = pNames o := by rw [List.take_of_length_le (Nat.le_refl _), pNames_eq4]
 have htp := tabOf_pl (pNames o)
 have htl := tabOf_len hns
 have hel := entsF_len o (tabOf (namesOf o)).2.1 o.syms.length
 have hnt := tabOf_len (names_small h)
 have hnn : (namesOf o).length = o.syms.length := by unfold namesOf; simp
 have hrp := relPs_len 0 o.secs 1
 have hsp0 := sigPart_len 0 o
 have hsp1 := sigPart_len (atF8 o) o
 have hrp2 := relPs_len (atF8 o) o.secs 1
 refine A1.body 165 (NIr.h) Tryz.func69 rfl rfl Tryz.ntmps69 fun base n0 => ?_
 refine AW.seq' ?_
 refine AW.region ?_
 refine AO.ww ?_
 refine AO.c ?_
 refine AO.nil ?_
 refine SQ.normal ?_
 refine AW.seq' ?_
 refine AW.region ?_
 refine AO.c ?_
 refine AO.ghost (Gh.tell 16 (.agg [.v (.int .i64 0), .v (.int .i64 0), .v (.int .i64 0), .v (.int .i64 0), .v (.int .i64 0), .v (.int .i64 0), .v (.int .i64 0), .v (.int .i64 0), .v (.int .i64 0), .v (.int .i64 0), .v (.string { data := #[] }), .rd 1 (bys [])])) ?_
 refine AO.eq 16 (av' := .agg (partA zPart)) rfl ?_
 refine AO.ww ?_
 refine AO.c ?_
 refine AO.nil ?_
 refine SQ.normal ?_
 refine AW.seq' ?_
 refine AW.seq' ?_
 refine AW.region ?_
 refine AO.c ?_
 refine AO.nil ?_
 refine SQ.normal ?_
 refine AW.block' ?_
 refine AW.loopU2 [.f, .k, .f, .k, .k, .F, .F, .F, .F, .F, .F, .F, .F, .F, .F, .F, .F, .F, .F, .F, .F, .F, .F, .F, .F] (fun (i ep : Nat) => [(3, .own (n0 + 1) ep 0 (pA o i).length), (4, .v (.int .i64 (i)))]) (fun i ep => Hn n0 (([some (.box 61 (objA o)), some (.row 210 12 (ep) ((pA o i).map partA))] ++ List.replicate i none) ++ [])) (fun m i ep => i ≤ o.secs.length ∧ m = o.secs.length - i) (o.secs.length) (0) (0) ⟨by omega, by omega⟩ (by first | rfl | (simp; done)) (by first | rfl | (simp; done)) ?_
 rintro m0 i ep ⟨hx1, hx2⟩
 refine AW.seq' ?_
 refine AW.seq' ?_
 refine AW.region ?_
 iterate 5 refine AO.c ?_
 refine AO.nil ?_
 refine SQ.normal ?_
 refine AW.iteB (GL.ev _) (fun h0 => ?_) (fun h0 => ?_)
 ·
  rw [decide_eq_true_eq] at h0
  have hi : i < o.secs.length := by omega
  have hsec := hq.sec _ (sec_in hi)
  have hps1 := pA_succ hi
  have hpal := pA_len (o := o) (i := i) (by omega)
  generalize hse : o.secs.getD i default = s at hsec hps1
  refine AW.skip ?_
  refine SQ.normal ?_
  refine AW.seq' ?_
  refine AW.block' ?_
  refine AW.seq' ?_
  refine AW.region ?_
  iterate 3 refine AO.c ?_
  refine AO.oo ?_
  refine AO.c ?_
  refine AO.eq 29 (av' := .agg (secA s)) (by rw [hse]) ?_
  refine AO.ww ?_
  refine AO.sst ?_
  refine AO.nil ?_
  refine SQ.normal ?_
  refine AW.region ?_
  iterate 19 refine AO.c ?_
  refine AO.eq 48 (av' := .agg (partA (secPart s))) rfl ?_
  refine AO.rr ?_
  refine AO.ww ?_
  refine AO.c ?_
  refine AO.nil ?_
  refine BQ.normal ?_
  refine SQ.normal ?_
  refine AW.region ?_
  refine AO.c ?_
  refine AO.oo ?_
  refine AO.c ?_
  refine AO.nil ?_
  exact AW.backE [.f, .k, .f, .k, .k, .F, .F, .F, .F, .F, .F, .F, .F, .F, .F, .F, .F, .F, .F, .F, .F, .F, .F, .F, .F] (i) (m0 - 1) (i + 1, ep + 1) (by omega) (by (try dsimp only); exact ⟨by omega, by omega⟩) (by first | ((try dsimp only); rw [hps1, List.length_append]; done) | ((try dsimp only); rw [hps1, List.length_append]; rfl)) (by first | (rw [hps1, List.map_append]; done) | (rw [hps1, List.map_append]; rfl))
 ·
  rw [decide_eq_false_iff_not] at h0
  have hpal := pA_len (o := o) (i := i) (by omega)
  refine AW.exit ?_
  refine SQ.exit <| AW.out <| LU.exit <| BQ.exit ?_
  refine SQ.normal ?_
  refine AW.seq' ?_
  refine AW.drawsZ [] (.one 0 false (.one 1 false (.one 2 false (.one 6 false (.one 3 true (.one 4 false (.one 5 false (.one 7 true (.one 8 false (.one 9 false (.one 10 false .nil))))))))))) (by kernel_rfl) rfl (by kernel_rfl) ?_
  iterate 4 refine AZ.c rfl ?_
  refine AZ.call1 rfl Tryz.func111 rfl rfl ((ref_relParts o 0 h).a0 (by rw [List.length_map]; omega)) ?_
  refine AZ.c rfl ?_
  refine AZ.oo rfl ?_
  refine AZ.call1 rfl Tryz.func112 rfl rfl ((ref_groupParts o 0 h).a0 (by rw [List.length_map, List.length_append, List.length_map]; have := sigPart_len 0 o; omega)) ?_
  refine AZ.c rfl ?_
  refine AZ.oo rfl ?_
  refine AZ.eq 60 (av' := .v (.int .i64 (atF8 o))) (by rw [atF8_eq, pA_len (by omega)]; unfold midF; simp only [List.length_append, List.length_map]; congr 2; omega) ?_
  refine AZ.c rfl ?_
  refine AZ.done ?_
  refine SQ.normal ?_
  refine AW.seq' ?_
  refine AW.region ?_
  skip
  iterate 3 refine AO.c ?_
  refine AO.call1 Tryz.func111 rfl rfl ((ref_relParts o (atF8 o) h).a0 (by rw [List.length_map]; omega)) ?_
  refine AO.ww ?_
  refine AO.c ?_
  refine AO.nil ?_
  refine SQ.normal ?_
  refine AW.seq' ?_
  refine AW.region ?_
  iterate 3 refine AO.c ?_
  refine AO.call1 Tryz.func112 rfl rfl ((ref_groupParts o (atF8 o) h).a0 (by rw [List.length_map, List.length_append, List.length_map]; have := sigPart_len (atF8 o) o; omega)) ?_
  refine AO.ww ?_
  refine AO.c ?_
  refine AO.nil ?_
  refine SQ.normal ?_
  refine AW.seq' ?_
  refine AW.region ?_
  iterate 3 refine AO.c ?_
  refine AO.call1 Tryz.func113 rfl rfl ((ref_symParts o (atF8 o) h (at_range h)).a0 (by simp)) ?_
  refine AO.ww ?_
  refine AO.c ?_
  refine AO.nil ?_
  refine SQ.normal ?_
  refine AW.seq' ?_
  refine AW.eqH (H' := Hn n0 (([some (.box 61 (objA o)), some (.row 210 12 (ep + 1 + 1 + 1) ((ref4 o).map partA))] ++ List.replicate i none) ++ [])) (by rw [pA_all (by omega)]; unfold ref4 midF; simp only [List.map_append, List.append_assoc]; rfl) ?_
  refine AW.region ?_
  refine AO.eq 3 (av' := .own (n0 + 1) (ep + 1 + 1 + 1) 0 (ref4 o).length) (by congr 1; rw [h4l, pA_len (by omega)]; unfold midF; simp only [List.length_append, List.length_map, List.length_cons, List.length_nil]; omega) ?_
  refine AO.c ?_
  refine AO.nil ?_
  refine SQ.normal ?_
  refine AW.seq' ?_
  refine AW.seq' ?_
  refine AW.region ?_
  refine AO.c ?_
  refine AO.nil ?_
  refine SQ.normal ?_
  refine AW.block' ?_
  refine AW.ghost (Gh.adoptM 7 9 1) ?_
  refine AW.loopU2 [.f, .f, .f, .k, .f, .f, .f, .k, .k, .F, .F, .F, .F, .F, .F, .F, .F, .F, .F, .F, .F, .F, .F, .F, .F, .F, .F, .F, .f, .f, .f, .f] (fun (k ep2 : Nat) => [(7, .own (n0 + zadd (zadd (0 + 1 + 1) i) 0) ep2 0 k), (8, .v (.int .i64 (k)))]) (fun k ep2 => Hn n0 ([some (.box 61 (objA o)), some (.row 210 12 (ep + 1 + 1 + 1) ((ref4 o).map partA))] ++ List.replicate i none ++ [some (.row 9 1 ep2 ((((ref4 o).take k).map (·.name)).map sA))])) (fun m k ep2 => k ≤ (ref4 o).length ∧ m = (ref4 o).length - k) ((ref4 o).length) (0) (0) ⟨by omega, by omega⟩ (by first | rfl | (simp; done)) (by simp) ?_
  rintro m1 k ep2 ⟨hk1, hk2⟩
  refine AW.seq' ?_
  refine AW.seq' ?_
  refine AW.region ?_
  iterate 4 refine AO.c ?_
  refine AO.nil ?_
  refine SQ.normal ?_
  refine AW.iteB (GL.ev _) (fun h1 => ?_) (fun h1 => ?_)
  ·
   rw [decide_eq_true_eq] at h1
   have hk : k < (ref4 o).length := by omega
   refine AW.skip ?_
   refine SQ.normal ?_
   refine AW.seq' ?_
   refine AW.block' ?_
   refine AW.region ?_
   iterate 3 refine AO.c ?_
   refine AO.oo ?_
   refine AO.c ?_
   refine AO.ldR1 (partA ((ref4 o).getD k default)) (.v (.string ((ref4 o).getD k default).name)) (by rw [show 0 + ((k : Int)).toNat = k by omega, part_at hk]) rfl ?_
   refine AO.rr ?_
   refine AO.ww ?_
   refine AO.c ?_
   refine AO.nil ?_
   refine BQ.normal ?_
   refine SQ.normal ?_
   refine AW.region ?_
   refine AO.c ?_
   refine AO.oo ?_
   refine AO.c ?_
   refine AO.nil ?_
   exact AW.backU [.f, .f, .f, .k, .f, .f, .f, .k, .k, .F, .F, .F, .F, .F, .F, .F, .F, .F, .F, .F, .F, .F, .F, .F, .F, .F, .F, .F, .f, .f, .f, .f] (m1 - 1) (k + 1, ep2 + 1) (by omega) (by (try dsimp only); exact ⟨by omega, by omega⟩) (by first | rfl | (simp; done)) (by first | (rw [map_take_succ _ hk, List.map_append]; done) | (rw [map_take_succ _ hk, List.map_append]; rfl))
  ·
   rw [decide_eq_false_iff_not] at h1
   refine AW.exit ?_
   refine SQ.exit <| AW.out <| LU.exit <| BQ.exit ?_
   refine SQ.normal ?_
   refine AW.seq' ?_
   refine AW.region ?_
   refine AO.c ?_
   refine AO.rr ?_
   refine AO.ww ?_
   refine AO.c ?_
   refine AO.nil ?_
   refine SQ.normal ?_
   refine AW.seq' ?_
   refine AW.ghost (Gh.freezeM 7 sA (pNames o) (by rw [← hfull, show k = (ref4 o).length by omega, List.map_append]; rfl) (by first | omega | (simp only [List.length_map, List.length_cons, List.length_nil, List.length_append]; omega) | (simp; omega)) (by omega)) ?_
   refine AW.region ?_
   refine AO.c ?_
   refine AO.call1 Tryz.func114 rfl rfl (ref_Make _ (by omega) (by assumption)) ?_
   iterate 5 refine AO.c ?_
   refine AO.nil ?_
   refine SQ.normal ?_
   refine AW.seq' ?_
   refine AW.region ?_
   iterate 4 refine AO.c ?_
   refine AO.eq 101 (av' := .agg (partA (shsPt.toldN (tabOf (pNames o)).1))) rfl ?_
   refine AO.rr ?_
   refine AO.ww ?_
   refine AO.c ?_
   refine AO.nil ?_
   refine SQ.normal ?_
   refine AW.seq' ?_
   refine AW.ghost (Gh.freezeM 3 partA (refL o) (by unfold refL; rw [List.map_append]; rfl) (by first | omega | (simp only [List.length_map, List.length_cons, List.length_nil, List.length_append]; omega) | (simp; omega)) (by omega)) ?_
   refine AW.region ?_
   refine AO.c ?_
   refine AO.nil ?_
   refine SQ.normal ?_
   refine AW.seq' ?_
   refine AW.region ?_
   refine AO.c ?_
   refine AO.nil ?_
   refine SQ.normal ?_
   refine AW.seq' ?_
   refine AW.seq' ?_
   refine AW.region ?_
   refine AO.c ?_
   refine AO.nil ?_
   refine SQ.normal ?_
   refine AW.block' ?_
   refine AW.ghost (Gh.adoptB 11 5) ?_
   refine AW.ghost (Gh.adoptB 12 5) ?_
   refine AW.loopU3 [.f, .f, .f, .k, .f, .f, .f, .f, .f, .f, .k, .k, .k, .k, .F, .F, .F, .F, .F, .F, .F, .F, .F, .F, .F, .F, .F, .F, .F, .F, .F, .F, .f, .f, .f, .f, .f, .f, .f] (fun (k e4 e5 : Nat) => [(11, .own (n0 + zadd (zadd (0 + 1 + 1) i) (0 + 1)) e4 0 (layN (finF o) k).1.length), (12, .own (n0 + zadd (zadd (0 + 1 + 1) i) (0 + 1 + 1)) e5 0 (layN (finF o) k).2.length), (13, .v (.int .i64 (k)))]) (fun k e4 e5 => Hn n0 (([some (.box 61 (objA o)), none] ++ List.replicate i none ++ [none, some (.row 5 1 e4 (bys (layN (finF o) k).1)), some (.row 5 1 e5 (bys (layN (finF o) k).2))]) ++ List.replicate k none ++ [])) (fun m k e4 e5 => k ≤ (finF o).length ∧ m = (finF o).length - k) ((finF o).length) (0) (0) (0) ⟨by omega, by omega⟩ (by first | rfl | (simp; done)) (by simp [layN]) ?_
   rintro m2 k e4 e5 ⟨hx3, hx4⟩
   refine AW.seq' ?_
   refine AW.seq' ?_
   refine AW.region ?_
   iterate 4 refine AO.c ?_
   refine AO.nil ?_
   refine SQ.normal ?_
   refine AW.iteB (GL.ev _) (fun h2 => ?_) (fun h2 => ?_)
   ·
    rw [decide_eq_true_eq] at h2
    have hkk : k < (preF o).length := by omega
    have hpo := fin_ok h hkk
    have hll := layN_len h k (by omega)
    have hrg := refL_get hkk
    have hst : layN (finF o) (k + 1) = ((layN (finF o) k).1 ++ ((finF o).getD k default).b, (layN (finF o) k).2 ++ putH (headOf k (layN (finF o) k).1 ((finF o).getD k default))) := rfl
    have hok := headOf_ok (i := k) (body := (layN (finF o) k).1) hpo (by omega)
    have hpb := hpo.2
    rw [hrg.1, hrg.2] at hst
    rw [hrg.2] at hok
    rw [hrg.1] at hpb
    generalize hqe : (refL o).getD k default = q at hst hok hpb
    have hph := putH_len (headOf k (layN (finF o) k).1 (q.named ((tabOf (pNames o)).2.1.getD k 0)))
    unfold putH at hph
    refine AW.skip ?_
    refine SQ.normal ?_
    refine AW.seq' ?_
    refine AW.block' ?_
    refine AW.seq' ?_
    refine AW.region ?_
    iterate 2 refine AO.c ?_
    refine AO.oo ?_
    iterate 2 refine AO.c ?_
    refine AO.eq 114 (av' := .agg (shA q.h)) (by rw [hqe]) ?_
    refine AO.ww ?_
    refine AO.sst ?_
    refine AO.nil ?_
    refine SQ.normal ?_
    refine AW.seq' ?_
    refine AW.region ?_
    iterate 2 refine AO.c ?_
    refine AO.oo ?_
    iterate 2 refine AO.c ?_
    refine AO.sst ?_
    refine AO.nil ?_
    refine SQ.normal ?_
    refine AW.seq' ?_
    refine AW.seq' ?_
    refine AW.region ?_
    iterate 2 refine AO.c ?_
    refine AO.nil ?_
    refine SQ.normal ?_
    refine AW.iteB (GL.ev _) (fun h3 => ?_) (fun h3 => ?_)
    ·
     rw [decide_eq_true_eq] at h3
     refine AW.region ?_
     iterate 2 refine AO.c ?_
     refine AO.oo ?_
     refine AO.c ?_
     refine AO.sst ?_
     refine AO.nil ?_
     refine SQ.normal ?_
     refine AW.seq' ?_
     refine AW.seq' ?_
     refine AW.region ?_
     iterate 3 refine AO.c ?_
     iterate 3 refine AO.gx ?_
     refine AO.c ?_
     refine AO.nil ?_
     refine SQ.normal ?_
     refine AW.iteB (GL.ev _) (fun h4 => ?_) (fun h4 => ?_)
     ·
      simp only [Bool.and_eq_true, decide_eq_true_eq] at h4
      refine AW.region ?_
      iterate 2 refine AO.c ?_
      refine AO.oo ?_
      iterate 2 refine AO.c ?_
      refine AO.eq 137 (av' := .rd 1 (bys q.b)) (by rw [hqe]) ?_
      iterate 2 refine AO.c ?_
      refine AO.sst ?_
      refine AO.nil ?_
      refine SQ.normal ?_
      refine AW.seq' ?_
      refine AW.region ?_
      iterate 3 refine AO.c ?_
      refine AO.oo ?_
      iterate 2 refine AO.c ?_
      refine AO.eq 145 (av' := .rd 1 (bys q.b)) (by rw [hqe]) ?_
      refine AO.ww ?_
      refine AO.c ?_
      refine AO.nil ?_
      refine SQ.normal ?_
      refine AW.region ?_
      iterate 2 refine AO.c ?_
      refine AO.eq 148 (av' := .agg (shA (headOf k (layN (finF o) k).1 (q.named ((tabOf (pNames o)).2.1.getD k 0))))) (by first | (exfalso; omega) | (rw [headOf_a (p := q.named ((tabOf (pNames o)).2.1.getD k 0)) (show ¬ k = 0 by omega) (show q.h.a1 ≠ 8 by omega)]; rfl) | (rw [headOf_b (p := q.named ((tabOf (pNames o)).2.1.getD k 0)) (show ¬ k = 0 by omega) (show q.h.a1 = 8 by omega)]; rfl) | (rw [headOf_c (show k = 0 by omega)]; rfl)) ?_
      refine AO.call1 Tryz.func115 rfl rfl (ref_HeadBytes (headOf k (layN (finF o) k).1 (q.named ((tabOf (pNames o)).2.1.getD k 0))) hok) ?_
      refine AO.ww ?_
      refine AO.c ?_
      refine AO.nil ?_
      refine BQ.normal ?_
      refine SQ.normal ?_
      refine AW.region ?_
      refine AO.c ?_
      refine AO.oo ?_
      refine AO.c ?_
      refine AO.nil ?_
      exact AW.backE [.f, .f, .f, .k, .f, .f, .f, .f, .f, .f, .k, .k, .k, .k, .F, .F, .F, .F, .F, .F, .F, .F, .F, .F, .F, .F, .F, .F, .F, .F, .F, .F, .f, .f, .f, .f, .f, .f, .f] (k) (m2 - 1) (k + 1, e4 + 1, e5 + 1) (by omega) (by (try dsimp only); exact ⟨by omega, by omega⟩) (by first | ((try dsimp only); rw [hst, List.length_append, List.length_append]; done) | ((try dsimp only); rw [hst, List.length_append, List.length_append]; rfl)) (by first | (rw [hst]; done) | (rw [hst]; rfl))
     ·
      simp only [Bool.and_eq_false_iff, decide_eq_false_iff_not] at h4
      refine AW.skip ?_
      refine SQ.normal ?_
      refine AW.seq' ?_
      refine AW.region ?_
      iterate 3 refine AO.c ?_
      refine AO.oo ?_
      iterate 2 refine AO.c ?_
      refine AO.eq 145 (av' := .rd 1 (bys q.b)) (by rw [hqe]) ?_
      refine AO.ww ?_
      refine AO.c ?_
      refine AO.nil ?_
      refine SQ.normal ?_
      refine AW.region ?_
      iterate 2 refine AO.c ?_
      refine AO.eq 148 (av' := .agg (shA (headOf k (layN (finF o) k).1 (q.named ((tabOf (pNames o)).2.1.getD k 0))))) (by first | (exfalso; omega) | (rw [headOf_a (p := q.named ((tabOf (pNames o)).2.1.getD k 0)) (show ¬ k = 0 by omega) (show q.h.a1 ≠ 8 by omega)]; rfl) | (rw [headOf_b (p := q.named ((tabOf (pNames o)).2.1.getD k 0)) (show ¬ k = 0 by omega) (show q.h.a1 = 8 by omega)]; rfl) | (rw [headOf_c (show k = 0 by omega)]; rfl)) ?_
      refine AO.call1 Tryz.func115 rfl rfl (ref_HeadBytes (headOf k (layN (finF o) k).1 (q.named ((tabOf (pNames o)).2.1.getD k 0))) hok) ?_
      refine AO.ww ?_
      refine AO.c ?_
      refine AO.nil ?_
      refine BQ.normal ?_
      refine SQ.normal ?_
      refine AW.region ?_
      refine AO.c ?_
      refine AO.oo ?_
      refine AO.c ?_
      refine AO.nil ?_
      exact AW.backE [.f, .f, .f, .k, .f, .f, .f, .f, .f, .f, .k, .k, .k, .k, .F, .F, .F, .F, .F, .F, .F, .F, .F, .F, .F, .F, .F, .F, .F, .F, .F, .F, .f, .f, .f, .f, .f, .f, .f] (k) (m2 - 1) (k + 1, e4 + 1, e5 + 1) (by omega) (by (try dsimp only); exact ⟨by omega, by omega⟩) (by first | ((try dsimp only); rw [hst, List.length_append, List.length_append]; done) | ((try dsimp only); rw [hst, List.length_append, List.length_append]; rfl)) (by first | (rw [hst]; done) | (rw [hst]; rfl))
    ·
     rw [decide_eq_false_iff_not] at h3
     refine AW.skip ?_
     refine SQ.normal ?_
     refine AW.seq' ?_
     refine AW.seq' ?_
     refine AW.region ?_
     iterate 3 refine AO.c ?_
     iterate 3 refine AO.gx ?_
     refine AO.c ?_
     refine AO.nil ?_
     refine SQ.normal ?_
     refine AW.iteB (GL.ev _) (fun h4 => ?_) (fun h4 => ?_)
     ·
      simp only [Bool.and_eq_true, decide_eq_true_eq] at h4
      refine AW.region ?_
      iterate 2 refine AO.c ?_
      refine AO.oo ?_
      iterate 2 refine AO.c ?_
      refine AO.eq 137 (av' := .rd 1 (bys q.b)) (by rw [hqe]) ?_
      iterate 2 refine AO.c ?_
      refine AO.sst ?_
      refine AO.nil ?_
      refine SQ.normal ?_
      refine AW.seq' ?_
      refine AW.region ?_
      iterate 3 refine AO.c ?_
      refine AO.oo ?_
      iterate 2 refine AO.c ?_
      refine AO.eq 145 (av' := .rd 1 (bys q.b)) (by rw [hqe]) ?_
      refine AO.ww ?_
      refine AO.c ?_
      refine AO.nil ?_
      refine SQ.normal ?_
      refine AW.region ?_
      iterate 2 refine AO.c ?_
      refine AO.eq 148 (av' := .agg (shA (headOf k (layN (finF o) k).1 (q.named ((tabOf (pNames o)).2.1.getD k 0))))) (by first | (exfalso; omega) | (rw [headOf_a (p := q.named ((tabOf (pNames o)).2.1.getD k 0)) (show ¬ k = 0 by omega) (show q.h.a1 ≠ 8 by omega)]; rfl) | (rw [headOf_b (p := q.named ((tabOf (pNames o)).2.1.getD k 0)) (show ¬ k = 0 by omega) (show q.h.a1 = 8 by omega)]; rfl) | (rw [headOf_c (show k = 0 by omega)]; rfl)) ?_
      refine AO.call1 Tryz.func115 rfl rfl (ref_HeadBytes (headOf k (layN (finF o) k).1 (q.named ((tabOf (pNames o)).2.1.getD k 0))) hok) ?_
      refine AO.ww ?_
      refine AO.c ?_
      refine AO.nil ?_
      refine BQ.normal ?_
      refine SQ.normal ?_
      refine AW.region ?_
      refine AO.c ?_
      refine AO.oo ?_
      refine AO.c ?_
      refine AO.nil ?_
      exact AW.backE [.f, .f, .f, .k, .f, .f, .f, .f, .f, .f, .k, .k, .k, .k, .F, .F, .F, .F, .F, .F, .F, .F, .F, .F, .F, .F, .F, .F, .F, .F, .F, .F, .f, .f, .f, .f, .f, .f, .f] (k) (m2 - 1) (k + 1, e4 + 1, e5 + 1) (by omega) (by (try dsimp only); exact ⟨by omega, by omega⟩) (by first | ((try dsimp only); rw [hst, List.length_append, List.length_append]; done) | ((try dsimp only); rw [hst, List.length_append, List.length_append]; rfl)) (by first | (rw [hst]; done) | (rw [hst]; rfl))
     ·
      simp only [Bool.and_eq_false_iff, decide_eq_false_iff_not] at h4
      refine AW.skip ?_
      refine SQ.normal ?_
      refine AW.seq' ?_
      refine AW.region ?_
      iterate 3 refine AO.c ?_
      refine AO.oo ?_
      iterate 2 refine AO.c ?_
      refine AO.eq 145 (av' := .rd 1 (bys q.b)) (by rw [hqe]) ?_
      refine AO.ww ?_
      refine AO.c ?_
      refine AO.nil ?_
      refine SQ.normal ?_
      refine AW.region ?_
      iterate 2 refine AO.c ?_
      refine AO.eq 148 (av' := .agg (shA (headOf k (layN (finF o) k).1 (q.named ((tabOf (pNames o)).2.1.getD k 0))))) (by first | (exfalso; omega) | (rw [headOf_a (p := q.named ((tabOf (pNames o)).2.1.getD k 0)) (show ¬ k = 0 by omega) (show q.h.a1 ≠ 8 by omega)]; rfl) | (rw [headOf_b (p := q.named ((tabOf (pNames o)).2.1.getD k 0)) (show ¬ k = 0 by omega) (show q.h.a1 = 8 by omega)]; rfl) | (rw [headOf_c (show k = 0 by omega)]; rfl)) ?_
      refine AO.call1 Tryz.func115 rfl rfl (ref_HeadBytes (headOf k (layN (finF o) k).1 (q.named ((tabOf (pNames o)).2.1.getD k 0))) hok) ?_
      refine AO.ww ?_
      refine AO.c ?_
      refine AO.nil ?_
      refine BQ.normal ?_
      refine SQ.normal ?_
      refine AW.region ?_
      refine AO.c ?_
      refine AO.oo ?_
      refine AO.c ?_
      refine AO.nil ?_
      exact AW.backE [.f, .f, .f, .k, .f, .f, .f, .f, .f, .f, .k, .k, .k, .k, .F, .F, .F, .F, .F, .F, .F, .F, .F, .F, .F, .F, .F, .F, .F, .F, .F, .F, .f, .f, .f, .f, .f, .f, .f] (k) (m2 - 1) (k + 1, e4 + 1, e5 + 1) (by omega) (by (try dsimp only); exact ⟨by omega, by omega⟩) (by first | ((try dsimp only); rw [hst, List.length_append, List.length_append]; done) | ((try dsimp only); rw [hst, List.length_append, List.length_append]; rfl)) (by first | (rw [hst]; done) | (rw [hst]; rfl))
   ·
    rw [decide_eq_false_iff_not] at h2
    have hif : k = (finF o).length := by omega
    have hll := layN_len h (finF o).length (by omega)
    have hll2 := layN_len h k (by omega)
    have heh := hdI_len ⟨64 + (layN (finF o) (finF o).length).1.length, (finF o).length, ((finF o).length : Int) - 1⟩
    have hhd : (HdD.mk (64 + (layN (finF o) (finF o).length).1.length) (finF o).length ((finF o).length - 1)).ok := by unfold HdD.ok I64; dsimp only; omega
    refine AW.exit ?_
    refine SQ.exit <| AW.out <| LU.exit <| BQ.exit ?_
    refine SQ.normal ?_
    refine AW.seq' ?_
    skip
    refine AW.region ?_
    refine AO.ghost (Gh.freezeE 11 (li' := (layN (finF o) (finF o).length).1) (by rw [hif]) (by rw [hif]) (by omega)) ?_
    refine AO.ghost (Gh.freezeE 12 (li' := (layN (finF o) (finF o).length).2) (by rw [hif]) (by rw [hif]) (by omega)) ?_
    iterate 2 refine AO.c ?_
    refine AO.oo ?_
    iterate 2 refine AO.c ?_
    refine AO.eq 155 (av' := .v (.int .i64 (finF o).length)) (by rw [hrl, hfl]) ?_
    iterate 2 refine AO.c ?_
    refine AO.eq 157 (av' := .v (.int .i64 (finF o).length)) (by rw [hrl, hfl]) ?_
    refine AO.oo ?_
    refine AO.callR Tryz.func116 rfl rfl (ref_BeginR ⟨64 + (layN (finF o) (finF o).length).1.length, (finF o).length, ((finF o).length : Int) - 1⟩ hhd) (by rw [bys_length]) ?_
    refine AO.c ?_
    refine AO.nil ?_
    refine SQ.normal ?_
    refine AW.seq' ?_
    refine AW.region ?_
    iterate 2 refine AO.c ?_
    refine AO.ww ?_
    refine AO.c ?_
    refine AO.ww ?_
    refine AO.c ?_
    refine AO.nil ?_
    refine SQ.normal ?_
    refine AW.ret ?_
    refine FinO.ret 2 (Gh.refl) rfl ?_ ?_ (.inr rfl)
    · rfl
    · rw [bys_length]; unfold bytesF putEh; simp only [List.length_append]
theorem ref_May8 (o : ObjD) (ho : o.ok) (hg : o.groups.length ≤ 900000) (hsg : o.sig.length ≤ 1000000) (hgs : GSmall o.groups) : A0 Tryz.prog 31 [.agg (objA o)] (fun ret => ret = .v (.bool (mayP o))) := by
 refine A0.body 12 Tryz.func31 rfl rfl Tryz.ntmps31 fun base n0 => ?_
 refine AW.seq' ?_
 refine AW.region ?_
 refine AO.ww ?_
 refine AO.c ?_
 refine AO.nil ?_
 refine SQ.normal ?_
 refine AW.seq' ?_
 refine AW.region ?_
 refine AO.c ?_
 refine AO.call1 Tryz.func54 rfl rfl (ref_Shape o ho hgs) ?_
 refine AO.c ?_
 refine AO.nil ?_
 refine SQ.normal ?_
 refine AW.seq' ?_
 refine AW.seq' ?_
 refine AW.region ?_
 iterate 2 refine AO.c ?_
 refine AO.nil ?_
 refine SQ.normal ?_
 refine AW.iteB (GL.ev _) (fun h0 => ?_) (fun h0 => ?_)
 ·
  rw [Bool.not_eq_true'] at h0
  refine AW.seq' ?_
  refine AW.region ?_
  refine AO.c ?_
  refine AO.nil ?_
  refine SQ.normal ?_
  refine AW.ret ?_
  refine SQ.ret ?_
  refine Fin.ret (Gh.refl) noid1 ?_
  unfold mayP; rw [h0]; rfl
 ·
  rw [Bool.not_eq_false'] at h0
  have hL : LayH o := ⟨ho, h0, hg, hsg⟩
  refine AW.skip ?_
  refine SQ.normal ?_
  refine AW.seq' ?_
  refine AW.region ?_
  refine AO.c ?_
  refine AO.call1 Tryz.func69 rfl rfl ((ref_BytesR o hL).a0 (by rw [bys_length]; exact bytesF_len hL)) ?_
  iterate 3 refine AO.c ?_
  refine AO.nil ?_
  refine SQ.normal ?_
  refine AW.ret ?_
  refine Fin.ret (Gh.refl) noid1 ?_
  unfold mayP; rw [h0, show decide ((bytesF o).length ≤ 16384) = decide (((bytesF o).length : Int) ≤ 16384) by rw [Bool.eq_iff_iff]; simp; omega]; rfl
end Go.Proofs.YtiomdnmicagdcaaGreat.AL
namespace Go.Proofs.YtiomdnmicagdcaaGreat.AL
open Go Go.RowKit Go.Proofs.YtiomdnmicagdcaaGreat.Base
set_option linter.unusedVariables false
set_option linter.unusedSimpArgs false
set_option maxRecDepth 4000
set_option synthInstance.maxSize 1000
set_option synthInstance.maxHeartbeats 200000
open Go.Lib Go.Shelf Go.Proofs
theorem run_copy_sz {P : Program} (w : World) (dT sT ty elem : TypeId) (b o dLen dCap : Nat) (a : Addr) (sLen sCap sz : Nat) (cs : List Value)
 (hu : P.underlying dT = some (.slice elem)) (hs : (P.info? elem).map (·.size) = some sz) (hn : cs.length = Nat.min sLen dLen * sz)
 (hsrc : ∀ j v, cs[j]? = some v → w.cell? (a.add j) = some v) (hc : ∀ j, j < cs.length → (w.cell? ⟨b, o + j, none⟩).isSome = true) (hf : ∀ j, j < cs.length → w.frozen? ⟨b, o + j, none⟩ = false) (h1 : ∀ v ∈ cs, v.oneCell' = true) :
 (Builtin.copy_ #[dT, sT] ty #[.slice (some ⟨b, o, none⟩) dLen dCap, .slice (some a) sLen sCap]).run P w = .ok (goInt (Nat.min sLen dLen)) (w.setCells b o cs) := by
 have hl := run_loadCells_list (P := P) w a cs hsrc
 have hst := run_storeCells_cells (P := P) b o cs 0 w (by simpa using hc) (by simpa using hf) h1
 cases hq : P.info? elem with
 | none => simp [hq] at hs
 | some i =>
  have hi : i.size = sz := by simpa [hq] using hs
  simp [Builtin.copy_, run_underlying hu, Builtin.lenOf, Builtin.firstCells, sizeOf, typeInfo, hq, hi, ← hn, hl, hst]
theorem isSome_setCells' (b : Nat) (vs : List Value) (o : Nat) (w : World) (h : ∀ j, j < vs.length → (w.cell? ⟨b, o + j, none⟩).isSome = true) (k : Nat) (hk : (w.cell? ⟨b, k, none⟩).isSome = true) : ((w.setCells b o vs).cell? ⟨b, k, none⟩).isSome = true := by
 by_cases hin : o ≤ k ∧ k < o + vs.length
 · have := World.cell?_setCells_in b vs o w h (k - o) (by omega)
   rw [show o + (k - o) = k by omega] at this
   rw [this]; rfl
 · rw [World.cell?_setCells_out b vs o w ⟨b, k, none⟩ (fun _ _ => by show k < o ∨ o + vs.length ≤ k; omega)]
   exact hk
set_option maxHeartbeats 1000000 in
set_option maxRecDepth 100000 in
theorem ins_shift (b n c i vb vc : Nat) (cs vs : List Value) (w : World) (hi : i < n) (hroom : n + 1 ≤ c) (hc63 : c ≤ 9223372036854775807) (hvb : vb ≠ b)
 (hcl : cs.length = n * 3) (hvl : vs.length = 3)
 (hcs : ∀ j v, cs[j]? = some v → w.cell? ⟨b, j, none⟩ = some v) (hsp : ∀ j, j < (n + 1) * 3 → (w.cell? ⟨b, j, none⟩).isSome = true) (hfz : ∀ j, j < (n + 1) * 3 → w.frozen? ⟨b, j, none⟩ = false)
 (hvs : ∀ j v, vs[j]? = some v → w.cell? ⟨vb, j, none⟩ = some v) (h1c : ∀ v ∈ cs, v.oneCell' = true) (h1v : ∀ v ∈ vs, v.oneCell' = true)
 (tA tB : TypeId) (kA kB : Nat) (hsa : w.shape? vb = some (tA, kA)) (hsb : w.shape? b = some (tB, kB)) (hkB : kB ≠ 0) (hfa : w.frozen? ⟨vb, 0, none⟩ = false) (hfe : w.frozen? ⟨vb, kA, none⟩ = false) :
 Calls Tryz.prog 68 #[.slice (some ⟨b, 0, none⟩) n c, .int .i64 i, .slice (some ⟨vb, 0, none⟩) 1 vc] w fun e w' =>
  e = .returned (.slice (some ⟨b, 0, none⟩) (n + 1) c) ∧ w' = (w.drew.setCells b ((i + 1) * 3) (cs.drop (i * 3))).setCells b (i * 3) vs := by
 have hz2 : ¬ ((i : Int) = (n : Int)) := by omega
 have hw1 : IntKind.i64.wrap ((i : Int) + 1) = (i : Int) + 1 := by rw [IntKind.wrap_i64]; omega
 have hb1 : (0 : Int) ≤ (i : Int) + 1 := by omega
 have hin : i ≤ n := by omega
 have htn : ((i : Int) + 1).toNat = i + 1 := by omega
 have hb2 : ¬ (c = i + 1) := by omega
 have hb3 : (i : Int) ≤ (n : Int) + 1 := by omega
 have hb4 : ¬ (c = i) := by omega
 have hsz : (Tryz.prog.info? 41).map (·.size) = some 3 := by kernel_rfl
 have hu : Tryz.prog.underlying 26 = some (.slice 41) := TU.h
 have hz : ∀ w, (Go.sizeOf 41).run Tryz.prog w = .ok 3 w := fun w => by
  obtain ⟨i0, hi0, hi1⟩ : ∃ i0, Tryz.prog.info? 41 = some i0 ∧ i0.size = 3 := by
   cases hq : Tryz.prog.info? 41 with
   | none => rw [hq] at hsz; cases hsz
   | some i0 => rw [hq] at hsz; exact ⟨i0, rfl, by simpa using hsz⟩
  simp [sizeOf, typeInfo, hi0, hi1]
 have hov : ∀ lb cb, (callFunc 109 #[.slice (some ⟨vb, 0, none⟩) 1 vc, .slice (some ⟨b, (i + 1) * 3, none⟩) lb cb]).run Tryz.prog w = .ok (.value (.bool false)) w := fun lb cb => by
  rw [run_callFunc_extern Tryz.func109 (by kernel_rfl) (by kernel_rfl) (by kernel_rfl) (e := Extern.SlicesOverlaps.overlaps #[26, 26] #[4]) (by kernel_rfl),
   Lib.run_overlaps_apart w 26 4 41 hu 3 hz ⟨vb, 0, none⟩ ⟨b, (i + 1) * 3, none⟩ 1 vc lb cb hvb tA tB kA kB hsa hsb hkB hfa hfe]
  rfl
 have hdl : (cs.drop (i * 3)).length = (n - i) * 3 := by rw [List.length_drop, hcl]; omega
 have hcp1 : ∀ ty dc sc, (Builtin.copy_ #[26, 26] ty #[.slice (some ⟨b, (i + 1) * 3, none⟩) (n - i) dc, .slice (some ⟨b, i * 3, none⟩) (n + 1 - i) sc]).run Tryz.prog w.drew = .ok (goInt (Nat.min (n + 1 - i) (n - i))) (w.drew.setCells b ((i + 1) * 3) (cs.drop (i * 3))) := fun ty dc sc =>
  run_copy_sz w.drew _ _ ty 41 b ((i + 1) * 3) (n - i) dc ⟨b, i * 3, none⟩ (n + 1 - i) sc 3 (cs.drop (i * 3)) hu hsz (by rw [hdl]; simp only [Nat.min_def]; split <;> omega)
   (fun j v hj => by rw [Addr.add_lit]; exact hcs (i * 3 + j) v (by rwa [List.getElem?_drop] at hj))
   (fun j hj => hsp _ (by omega)) (fun j hj => hfz _ (by omega)) (fun v hv => h1c v (List.mem_of_mem_drop hv))
 obtain ⟨W1, hW1⟩ : ∃ W1, W1 = w.drew.setCells b ((i + 1) * 3) (cs.drop (i * 3)) := ⟨_, rfl⟩
 have hsp1 : ∀ k, k < (n + 1) * 3 → (W1.cell? ⟨b, k, none⟩).isSome = true := fun k hk => by
  rw [hW1]
  exact isSome_setCells' b (cs.drop (i * 3)) ((i + 1) * 3) w.drew (fun j hj => hsp _ (by rw [hdl] at hj; omega)) _ (hsp k hk)
 have hcp2 : ∀ (W : World), (∀ x, W.cell? x = W1.cell? x) → (∀ x, W.frozen? x = W1.frozen? x) → ∀ ty dc, (Builtin.copy_ #[26, 26] ty #[.slice (some ⟨b, i * 3, none⟩) (n + 1 - i) dc, .slice (some ⟨vb, 0, none⟩) 1 vc]).run Tryz.prog W = .ok (goInt (Nat.min 1 (n + 1 - i))) (W.setCells b (i * 3) vs) := fun W hWc hWf ty dc =>
  run_copy_sz W _ _ ty 41 b (i * 3) (n + 1 - i) dc ⟨vb, 0, none⟩ 1 vc 3 vs hu hsz (by rw [hvl]; simp only [Nat.min_def]; split <;> omega)
   (fun j v hj => by
    rw [Addr.add_lit, hWc, hW1, World.cell?_setCells_out b _ _ _ _ (fun h _ => absurd h hvb), Nat.zero_add]
    exact hvs j v hj)
   (fun j hj => by rw [hWc]; exact hsp1 _ (by omega)) (fun j hj => by rw [hWf, hW1, World.frozen?_setCells]; exact hfz _ (by omega)) h1v
 rw [← hW1] at hcp1
 have mixed : Tryz.prog.follows .mixedOrders = true := rfl
 go_enter Tryz.func68, Tryz.ntmps68
 go_wp2_with (simp only [hov])
 go_region_law_o (refine step_copy_runI rfl _ _ 26 26 rfl _ _ (by simp [Act.eval, Act.put]) (by simp [Act.eval, Act.put]) (hcp1 _ _ _) ?_)
 go_wp2_with (at_builtin; refine wpList_copy_runI _ rfl _ _ 26 26 rfl _ _ rfl rfl (hcp2 _ (fun _ => rfl) (fun _ => rfl) _ _) ?_)
 go_ret
 first | exact ⟨rfl, rfl⟩ | exact ⟨rfl, by rw [hW1]⟩
set_option maxHeartbeats 1000000 in
set_option maxRecDepth 100000 in
theorem ins_end (base : Nat) (v : Value) (n vb vc : Nat) (xs vs : List Value) (w : World) (hown : w.ownsRow base 41 3 v n xs) (hvl : vs.length = 3) (hvs : ∀ j v, vs[j]? = some v → w.cell? ⟨vb, j, none⟩ = some v) (h1v : ∀ v ∈ vs, v.oneCell' = true) (hn : n ≤ 1000000) (hbase : base ≤ w.heap.size) :
 Calls Tryz.prog 68 #[v, .int .i64 n, .slice (some ⟨vb, 0, none⟩) 1 vc] w fun e w' => ∃ v', e = .returned v' ∧ w'.ownsRow base 41 3 v' (n + 1) (xs ++ vs) ∧ w.grownBy w' v.ownBlock ∧ (v'.ownBlock = v.ownBlock ∨ v'.ownBlock = some w.heap.size) := by
 obtain ⟨i0, hi0, hz0, hs0, hby⟩ := info_parts (TI.h (P := Tryz.prog) (t := 41))
 obtain ⟨v', w', hrun, h2, h3, h4⟩ := run_append_src (P := Tryz.prog) (t := 26) (ty := 26) (e := 41) TU.h hi0 hz0 hs0 hby (by rfl) (by decide) hown (A := some ⟨vb, 0, none⟩) (m := 1) (c := vc) (news := vs) (by rw [hvl]) (fun _ => ⟨_, rfl, fun j u hj => by rw [Addr.add_lit, Nat.zero_add]; exact hvs j u hj⟩) h1v (by unfold maxLen; omega) (by omega) hbase
 have mixed : Tryz.prog.follows .mixedOrders = true := rfl
 rcases hown.2 with ⟨rfl, rfl⟩ | ⟨g, cap, cur, rfl, _, _, hnc, hcm, _⟩
 · go_enter Tryz.func68, Tryz.ntmps68
   go_wp2_with (at_builtin; refine Lib.wpList_append_run _ rfl _ _ _ _ rfl _ _ rfl rfl _ _ hrun ?_)
   go_ret
   exact ⟨v', rfl, h2, h3, h4⟩
 · unfold maxLen at hcm
   go_enter Tryz.func68, Tryz.ntmps68
   go_wp2_with (at_builtin; refine Lib.wpList_append_run _ rfl _ _ _ _ rfl _ _ rfl rfl _ _ hrun ?_)
   all_goals (go_ret; exact ⟨v', rfl, h2, h3, h4⟩)
set_option maxHeartbeats 1000000 in
set_option maxRecDepth 100000 in
theorem ins_grow (b n c i vb vc : Nat) (cs vs : List Value) (w : World) (hi : i < n) (hnc : n ≤ c) (hroom : c < n + 1) (hbig : n ≤ 1000000)
 (hcl : cs.length = n * 3) (hvl : vs.length = 3)
 (hcs : ∀ j v, cs[j]? = some v → w.cell? ⟨b, j, none⟩ = some v)
 (hvs : ∀ j v, vs[j]? = some v → w.cell? ⟨vb, j, none⟩ = some v) (h1c : ∀ v ∈ cs, v.oneCell' = true) (h1v : ∀ v ∈ vs, v.oneCell' = true) :
 Calls Tryz.prog 68 #[.slice (some ⟨b, 0, none⟩) n c, .int .i64 i, .slice (some ⟨vb, 0, none⟩) 1 vc] w fun e w' =>
  ∃ z : Value, z.cells.size = 3 ∧ e = .returned (.slice (some ⟨w.heap.size, 0, none⟩) (n + 1) (grownCap w (n + 1) c 41)) ∧
  w' = (((w.alloc (.cells ((cs.take (i * 3)).toArray ++ Builtin.zeroCells z.cells (n + 1 - i) ++ Builtin.zeroCells z.cells (grownCap w (n + 1) c 41 - (n + 1))) 41)).drew.setCells w.heap.size (i * 3) vs).drew).setCells w.heap.size ((i + 1) * 3) (cs.drop (i * 3)) := by
 obtain ⟨i0, hi0, hz0, hzs, hzb⟩ := info_parts (TI.h (P := Tryz.prog) (t := 41))
 have hsz : (Tryz.prog.info? 41).map (·.size) = some 3 := by rw [hi0]; simp [hzs]
 have hu : Tryz.prog.underlying 26 = some (.slice 41) := TU.h
 have hu3 : Tryz.prog.underlying 3 = some (.int .i64) := TU.h
 obtain ⟨z, hzz⟩ : ∃ z, i0.zero = some z := ⟨_, hz0⟩
 have hzc : z.cells.size = 3 := by rw [hz0] at hzz; obtain rfl := Option.some.inj hzz; rfl
 suffices key : Calls Tryz.prog 68 #[.slice (some ⟨b, 0, none⟩) n c, .int .i64 i, .slice (some ⟨vb, 0, none⟩) 1 vc] w fun e w' => e = .returned (.slice (some ⟨w.heap.size, 0, none⟩) (n + 1) (grownCap w (n + 1) c 41)) ∧
  w' = (((w.alloc (.cells ((cs.take (i * 3)).toArray ++ Builtin.zeroCells z.cells (n + 1 - i) ++ Builtin.zeroCells z.cells (grownCap w (n + 1) c 41 - (n + 1))) 41)).drew.setCells w.heap.size (i * 3) vs).drew).setCells w.heap.size ((i + 1) * 3) (cs.drop (i * 3)) from
  key.mono fun e w' h => ⟨z, hzc, h⟩
 have hz2 : ¬ ((i : Int) = (n : Int)) := by omega
 have hz3 : (c : Int) < (n : Int) + 1 := by omega
 have hbw : b < w.heap.size := block_lt_of_cell (hcs 0 _ (List.getElem?_eq_getElem (by omega)))
 have hvw : vb < w.heap.size := block_lt_of_cell (hvs 0 _ (List.getElem?_eq_getElem (by omega)))
 have hkk : (n : Int) + 1 - (i : Int) = ((n + 1 - i : Nat) : Int) := by omega
 have hik : i + (n + 1 - i) = n + 1 := by omega
 have hold : (Builtin.firstCells i0.size i (.slice (some ⟨b, 0, none⟩) i c)).run Tryz.prog w.drew = .ok (cs.take (i * 3)).toArray w.drew := by
  rw [hzs]
  exact run_firstCells_some w.drew 3 i ⟨b, 0, none⟩ i c (cs.take (i * 3)) (by rw [List.length_take]; omega) (fun j v hj => by
   rw [Addr.add_lit]
   rw [List.getElem?_take] at hj
   split at hj
   · rw [Nat.zero_add]; exact hcs j v hj
   · cases hj)
 have hrz : ∀ ty, (Builtin.append_ #[26, 3] ty #[.slice (some ⟨b, 0, none⟩) i c, .int .i64 ((n : Int) + 1 - (i : Int))]).run Tryz.prog w =
  .ok (.slice (some ⟨w.heap.size, 0, none⟩) (n + 1) (grownCap w (n + 1) c 41)) (w.drew.alloc (.cells ((cs.take (i * 3)).toArray ++ Builtin.zeroCells z.cells (n + 1 - i) ++ Builtin.zeroCells z.cells (grownCap w (n + 1) c 41 - (n + 1))) 41)) := fun ty => by
  have h := Lib.run_append_grow_zeros w 26 3 ty 41 i0 z .i64 .i64 hu hu3 hi0 hzz (some ⟨b, 0, none⟩) i c (cs.take (i * 3)) hold (n + 1 - i) (by omega) (by omega) (by omega) (by omega) (by rw [hzb]; omega) (by rw [hzb, hik]; exact growslice_fits hroom (by omega))
  rw [hik] at h
  rw [hkk]
  exact h
 obtain ⟨G, hG⟩ : ∃ G, G = grownCap w (n + 1) c 41 := ⟨_, rfl⟩
 obtain ⟨ROW, hROW⟩ : ∃ ROW : Array Value, ROW = (cs.take (i * 3)).toArray ++ Builtin.zeroCells z.cells (n + 1 - i) ++ Builtin.zeroCells z.cells (G - (n + 1)) := ⟨_, rfl⟩
 rw [← hG] at hrz ⊢
 rw [← hROW] at hrz ⊢
 have hRl : (n + 1) * 3 ≤ ROW.size := by
  have hzn : ∀ k, (Builtin.zeroCells z.cells k).size = k * 3 := fun k => by rw [size_zeroCells, hzc]
  rw [hROW, Array.size_append, Array.size_append, hzn, hzn]
  simp
  omega
 obtain ⟨W1, hW1⟩ : ∃ W1, W1 = w.drew.alloc (.cells ROW 41) := ⟨_, rfl⟩
 rw [← hW1] at hrz
 have hN : ∀ j, j < (n + 1) * 3 → (W1.cell? ⟨w.heap.size, j, none⟩).isSome = true := fun j hj => by
  rw [hW1, World.cell?_alloc_at (w := w.drew) ROW _ w.heap.size j rfl, Array.getElem?_eq_getElem (by omega)]; rfl
 have hNf : ∀ j, W1.frozen? ⟨w.heap.size, j, none⟩ = false := fun j => by rw [hW1]; exact World.frozen?_alloc_at (w := w.drew) ROW _ w.heap.size j rfl
 have hOb : ∀ j v, w.cell? ⟨b, j, none⟩ = some v → W1.cell? ⟨b, j, none⟩ = some v := fun j v h => by rw [hW1, World.cell?_alloc_past (w := w.drew) _ b j hbw]; exact h
 have hOv : ∀ j v, w.cell? ⟨vb, j, none⟩ = some v → W1.cell? ⟨vb, j, none⟩ = some v := fun j v h => by rw [hW1, World.cell?_alloc_past (w := w.drew) _ vb j hvw]; exact h
 have hcpA : ∀ (W : World), (∀ x, W.cell? x = W1.cell? x) → (∀ x, W.frozen? x = W1.frozen? x) → ∀ ty dc, (Builtin.copy_ #[26, 26] ty #[.slice (some ⟨w.heap.size, i * 3, none⟩) (n + 1 - i) dc, .slice (some ⟨vb, 0, none⟩) 1 vc]).run Tryz.prog W = .ok (goInt (Nat.min 1 (n + 1 - i))) (W.setCells w.heap.size (i * 3) vs) := fun W hWc hWf ty dc =>
  run_copy_sz W _ _ ty 41 w.heap.size (i * 3) (n + 1 - i) dc ⟨vb, 0, none⟩ 1 vc 3 vs hu hsz (by rw [hvl]; simp only [Nat.min_def]; split <;> omega)
   (fun j v hj => by rw [Addr.add_lit, hWc, Nat.zero_add]; exact hOv _ v (hvs j v hj))
   (fun j hj => by rw [hWc]; exact hN _ (by omega)) (fun j hj => by rw [hWf]; exact hNf _) h1v
 have hGn : n + 1 ≤ G := by rw [hG]; exact grownCap_ge w _ _ _
 have hG63 : G ≤ 9223372036854775807 := by
  have := grownCap_le_maxLen w (n + 1) c 41 (by unfold maxLen; omega)
  rw [← hG] at this
  unfold maxLen at this
  omega
 have hGi : ¬ (G = i) := by omega
 have hGim : ¬ (G = i + 1) := by omega
 have hci : ¬ (c = i) := by omega
 have hbN : b ≠ w.heap.size := by omega
 have hdl : (cs.drop (i * 3)).length = (n - i) * 3 := by rw [List.length_drop, hcl]; omega
 have hcpB : ∀ (W : World), (∀ x, W.cell? x = (W1.setCells w.heap.size (i * 3) vs).cell? x) → (∀ x, W.frozen? x = (W1.setCells w.heap.size (i * 3) vs).frozen? x) → ∀ ty dc sc, (Builtin.copy_ #[26, 26] ty #[.slice (some ⟨w.heap.size, (i + 1) * 3, none⟩) (n - i) dc, .slice (some ⟨b, i * 3, none⟩) (n - i) sc]).run Tryz.prog W = .ok (goInt (Nat.min (n - i) (n - i))) (W.setCells w.heap.size ((i + 1) * 3) (cs.drop (i * 3))) := fun W hWc hWf ty dc sc =>
  run_copy_sz W _ _ ty 41 w.heap.size ((i + 1) * 3) (n - i) dc ⟨b, i * 3, none⟩ (n - i) sc 3 (cs.drop (i * 3)) hu hsz (by rw [hdl]; simp only [Nat.min_def]; split <;> omega)
   (fun j v hj => by
    rw [Addr.add_lit, hWc, World.cell?_setCells_out _ _ _ _ _ (fun h _ => absurd h hbN)]
    exact hOb _ v (hcs (i * 3 + j) v (by rwa [List.getElem?_drop] at hj)))
   (fun j hj => by rw [hWc]; exact isSome_setCells' w.heap.size vs (i * 3) W1 (fun t ht => hN _ (by omega)) _ (hN _ (by omega)))
   (fun j hj => by rw [hWf, World.frozen?_setCells]; exact hNf _) (fun v hv => h1c v (List.mem_of_mem_drop hv))
 subst hW1
 have hE1 : ∀ x, ((w.alloc (.cells ROW 41)).drew).cell? x = (w.drew.alloc (.cells ROW 41)).cell? x := fun x => rfl
 have hE2 : ∀ x, ((w.alloc (.cells ROW 41)).drew).frozen? x = (w.drew.alloc (.cells ROW 41)).frozen? x := fun x => rfl
 have hF1 : ∀ x, (((w.alloc (.cells ROW 41)).drew.setCells w.heap.size (i * 3) vs).drew).cell? x = ((w.drew.alloc (.cells ROW 41)).setCells w.heap.size (i * 3) vs).cell? x := fun x => rfl
 have hF2 : ∀ x, (((w.alloc (.cells ROW 41)).drew.setCells w.heap.size (i * 3) vs).drew).frozen? x = ((w.drew.alloc (.cells ROW 41)).setCells w.heap.size (i * 3) vs).frozen? x := fun x => rfl
 have hw1 : IntKind.i64.wrap ((i : Int) + 1) = (i : Int) + 1 := by rw [IntKind.wrap_i64]; omega
 have hb1 : (0 : Int) ≤ (i : Int) + 1 := by omega
 have hin : i ≤ n := by omega
 have htn : ((i : Int) + 1).toNat = i + 1 := by omega
 have hb3 : (i : Int) ≤ (n : Int) := by omega
 have mixed : Tryz.prog.follows .mixedOrders = true := rfl
 clear hkk hik hold hROW hG hRl
 go_enter Tryz.func68, Tryz.ntmps68
 go_wp2_with (first
  | (at_builtin; refine Lib.wpList_append_run _ rfl _ _ _ _ rfl _ _ rfl rfl _ _ (hrz _) ?_)
  | (at_builtin; refine wpList_copy_runI _ rfl _ _ 26 26 rfl _ _ rfl rfl (hcpA _ hE1 hE2 _ _) ?_)
  | (at_builtin; refine wpList_copy_runI _ rfl _ _ 26 26 rfl _ _ rfl rfl (hcpB _ (fun _ => rfl) (fun _ => rfl) _ _ _) ?_))
 go_region_law_o (refine step_copy_runI rfl _ _ 26 26 rfl (.slice (some ⟨w.heap.size, (i + 1) * 3, none⟩) (n - i) (G - (i + 1))) (.slice (some ⟨b, i * 3, none⟩) (n - i) (c - i)) (by simp [Act.eval, Act.put]) (by simp [Act.eval, Act.put]) (hcpB _ hF1 hF2 3 (G - (i + 1)) (c - i)) ?_)
 go_wp2
 go_ret
 exact ⟨rfl, rfl⟩
theorem setCells_row (b : Nat) (t : TypeId) : ∀ (vs : List Value) (o : Nat) (w : World) (cur : Array Value), w.heap[b]? = some (.cells cur t (0, 0)) → o + vs.length ≤ cur.size → (w.setCells b o vs).heap[b]? = some (.cells ⟨layAt cur.toList o vs⟩ t (0, 0)) := by
 intro vs
 induction vs with
 | nil =>
  intro o w cur h _
  rw [World.setCells, h]
  unfold layAt
  simp
 | cons v r ih =>
  intro o w cur h hl
  rw [List.length_cons] at hl
  rw [World.setCells, ih (o + 1) _ (cur.setIfInBounds o v) (heap_setCell_same w b o cur t v h) (by rw [Array.size_setIfInBounds]; omega)]
  congr 3
  apply List.ext_getElem?
  intro j
  rw [layAt_get (by simp; omega), layAt_get (by simp; omega)]
  rw [Array.toList_setIfInBounds]
  by_cases hj : j = o
  · subst hj
    rw [if_neg (by omega), if_pos ⟨by omega, by simp⟩, List.getElem?_set_self (by simp; omega)]; simp
  · by_cases h2 : o + 1 ≤ j ∧ j < o + 1 + r.length
    · rw [if_pos h2, if_pos ⟨by omega, by simp; omega⟩, show j - o = (j - (o + 1)) + 1 by omega, List.getElem?_cons_succ]
    · rw [if_neg h2, if_neg (by simp; omega), List.getElem?_set_ne (by omega)]
theorem setCells_other (b : Nat) : ∀ (vs : List Value) (o : Nat) (w : World) (k : Nat), k ≠ b → (w.setCells b o vs).heap[k]? = w.heap[k]? := by
 intro vs
 induction vs with
 | nil => intro o w k h; rfl
 | cons v r ih => intro o w k h; rw [World.setCells, ih _ _ _ h, heap_setCell_other _ _ _ _ h]
theorem setCells_rest (b : Nat) : ∀ (vs : List Value) (o : Nat) (w : World), (w.setCells b o vs).os = w.os ∧ (w.setCells b o vs).tape = w.tape ∧ (w.setCells b o vs).output = w.output ∧ (w.setCells b o vs).heap.size = w.heap.size := by
 intro vs
 induction vs with
 | nil => intro o w; exact ⟨rfl, rfl, rfl, rfl⟩
 | cons v r ih =>
  intro o w
  obtain ⟨h1, h2, h3, h4⟩ := ih (o + 1) (w.setCell ⟨b, o, none⟩ v)
  rw [World.setCells]
  exact ⟨h1, h2, h3, by rw [h4]; simp⟩
theorem lay_ins {xs vs : List Value} {cur : List Value} {a m k : Nat} (hx : cur.take m = xs) (hm : m ≤ cur.length) (ha : a ≤ m) (hk : vs.length = k) (hl : m + k ≤ cur.length) :
 (layAt (layAt cur (a + k) (xs.drop a)) a vs).take (m + k) = xs.take a ++ vs ++ xs.drop a := by
 have hxl : xs.length = m := by rw [← hx, List.length_take]; omega
 have hg : ∀ j, j < m → cur[j]? = xs[j]? := fun j hj => by rw [← hx, List.getElem?_take, if_pos hj]
 apply List.ext_getElem?
 intro j
 rw [List.getElem?_take]
 by_cases hj : j < m + k
 · rw [if_pos hj, layAt_get (by rw [layAt_length (by rw [List.length_drop]; omega)]; omega), layAt_get (by rw [List.length_drop]; omega), List.length_drop]
   by_cases h1 : j < a
   · rw [if_neg (by omega), if_neg (by omega), List.append_assoc, List.getElem?_append_left (by rw [List.length_take]; omega), List.getElem?_take, if_pos h1, hg j (by omega)]
   · by_cases h2 : j < a + k
     · rw [if_pos (by omega), List.append_assoc, List.getElem?_append_right (by rw [List.length_take]; omega), List.length_take, Nat.min_eq_left (by omega), List.getElem?_append_left (by omega)]
     · rw [if_neg (by omega), if_pos (by omega), List.getElem?_append_right (by rw [List.length_append, List.length_take]; omega), List.length_append, List.length_take, Nat.min_eq_left (by omega), hk]
 · rw [if_neg hj, List.getElem?_eq_none]
   simp only [List.length_append, List.length_take, List.length_drop]
   omega
theorem ins_run (base : Nat) (v : Value) (n i vb vc : Nat) (xs vs : List Value) (w : World) (vcur : Array Value) (tv : TypeId) (hown : w.ownsRow base 41 3 v n xs) (hi : i ≤ n) (hn : n ≤ 1000000) (hbase : base ≤ w.heap.size)
 (hv : w.heap[vb]? = some (.cells vcur tv (0, 0))) (hvl : vs.length = 3) (hvs : vcur.toList.take 3 = vs) (h1x : ∀ x ∈ xs, x.oneCell' = true) (h1v : ∀ x ∈ vs, x.oneCell' = true) (hne : v.ownBlock ≠ some vb) :
 Calls Tryz.prog 68 #[v, .int .i64 i, .slice (some ⟨vb, 0, none⟩) 1 vc] w fun e w' => ∃ v', e = .returned v' ∧ w'.ownsRow base 41 3 v' (n + 1) (xs.take (i * 3) ++ vs ++ xs.drop (i * 3)) ∧ w.grownBy w' v.ownBlock ∧ (v'.ownBlock = v.ownBlock ∨ v'.ownBlock = some w.heap.size) := by
 have hvc : ∀ j v, vs[j]? = some v → w.cell? ⟨vb, j, none⟩ = some v := fun j u hj => by
  rw [← hvs, List.getElem?_take] at hj
  split at hj
  · unfold World.cell?; simp only [hv]; simpa using hj
  · cases hj
 have hxl := hown.1
 by_cases he : i = n
 · subst he
   have := ins_end base v i vb vc xs vs w hown hvl hvc h1v hn hbase
   rw [List.take_of_length_le (by omega), List.drop_of_length_le (by omega), List.append_nil]
   exact this
 · rcases hown.2 with ⟨rfl, rfl⟩ | ⟨g, cap, cur, rfl, hg1, hg2, hnc, hcm, hcs, htk⟩
   · omega
   · unfold maxLen at hcm
     have hcl : cur.toList.length = cap * 3 := by simpa using hcs
     have hxc : ∀ j v, xs[j]? = some v → w.cell? ⟨g, j, none⟩ = some v := fun j u hj => by
      rw [← htk, List.getElem?_take] at hj
      split at hj
      · unfold World.cell?; simp only [hg2]; simpa using hj
      · cases hj
     have hgs : g < w.heap.size := (Array.getElem?_eq_some_iff.1 hg2).1
     have hvbs : vb < w.heap.size := (Array.getElem?_eq_some_iff.1 hv).1
     have hgv : vb ≠ g := fun e => hne (by rw [e]; rfl)
     by_cases hroom : n + 1 ≤ cap
     · have hsp : ∀ j, j < (n + 1) * 3 → (w.cell? ⟨g, j, none⟩).isSome = true := fun j hj => by
        unfold World.cell?; simp only [hg2]
        rw [if_neg (by simp), Array.getElem?_eq_getElem (by omega)]; rfl
       refine (ins_shift g n cap i vb vc xs vs w (by omega) hroom (by omega) hgv hxl hvl hxc hsp (fun j _ => frozen_of_row w g j cur 41 hg2) hvc h1x h1v tv 41 vcur.size cur.size (by simp [World.shape?, hv]) (by simp [World.shape?, hg2]) (by omega) (frozen_of_row w vb 0 vcur tv hv) (frozen_of_row w vb _ vcur tv hv)).mono ?_
       rintro e w' ⟨rfl, rfl⟩
       have hd : (xs.drop (i * 3)).length = (n - i) * 3 := by rw [List.length_drop, hxl]; omega
       have s1 := setCells_row g 41 (xs.drop (i * 3)) ((i + 1) * 3) w.drew cur hg2 (by rw [hd]; omega)
       have s2 := setCells_row g 41 vs (i * 3) _ _ s1 (by rw [hvl]; show _ ≤ (layAt cur.toList _ _).length; rw [layAt_length (by rw [hd, hcl]; omega), hcl]; omega)
       have r1 := setCells_rest g (xs.drop (i * 3)) ((i + 1) * 3) w.drew
       have r2 := setCells_rest g vs (i * 3) (w.drew.setCells g ((i + 1) * 3) (xs.drop (i * 3)))
       have hli := lay_ins (a := i * 3) (m := n * 3) (k := 3) htk (by omega) (by omega) hvl (by omega)
       refine ⟨_, rfl, ⟨?_, .inr ⟨g, cap, _, rfl, hg1, s2, hroom, by unfold maxLen; omega, ?_, ?_⟩⟩, ⟨by rw [r2.1, r1.1]; rfl, by rw [r2.2.1, r1.2.1]; rfl, by rw [r2.2.2.1, r1.2.2.1]; rfl, by rw [r2.2.2.2, r1.2.2.2]; exact Nat.le_refl _, fun k hk hkr => ?_⟩, .inl rfl⟩
       · simp only [List.length_append, List.length_take, List.length_drop]; omega
       · show (layAt (layAt cur.toList _ _) _ _).length = _
         rw [layAt_length (by rw [layAt_length (by rw [hd, hcl]; omega), hcl]; omega), layAt_length (by rw [hd, hcl]; omega), hcl]
       · rw [show (i + 1) * 3 = i * 3 + 3 by omega, show (n + 1) * 3 = n * 3 + 3 by omega]
         exact hli
       · have hkg : k ≠ g := fun e => hkr (by rw [e]; rfl)
         rw [setCells_other _ _ _ _ _ hkg, setCells_other _ _ _ _ _ hkg]; rfl
     · refine (ins_grow g n cap i vb vc xs vs w (by omega) hnc (by omega) hn hxl hvl hxc hvc h1x h1v).mono ?_
       rintro e w' ⟨z, hz3, rfl, rfl⟩
       have hzn : ∀ k, (Builtin.zeroCells z.cells k).size = k * 3 := fun k => by rw [size_zeroCells, hz3]
       have hGn : n + 1 ≤ grownCap w (n + 1) cap 41 := grownCap_ge w _ _ _
       have hG63 := grownCap_le_maxLen w (n + 1) cap 41 (by unfold maxLen; omega)
       generalize grownCap w (n + 1) cap 41 = G at hGn hG63
       have hrow : ((xs.take (i * 3)).toArray ++ Builtin.zeroCells z.cells (n + 1 - i) ++ Builtin.zeroCells z.cells (G - (n + 1))).size = G * 3 := by
        rw [Array.size_append, Array.size_append, hzn, hzn]
        simp [List.length_take, hxl]
        omega
       have htake : ((xs.take (i * 3)).toArray ++ Builtin.zeroCells z.cells (n + 1 - i) ++ Builtin.zeroCells z.cells (G - (n + 1))).toList.take (i * 3) = xs.take (i * 3) := by
        simp only [Array.toList_append, List.append_assoc]
        rw [List.take_append_of_le_length (by simp [List.length_take, hxl]; omega), List.take_of_length_le (by simp [List.length_take]; omega)]
       generalize (xs.take (i * 3)).toArray ++ Builtin.zeroCells z.cells (n + 1 - i) ++ Builtin.zeroCells z.cells (G - (n + 1)) = ROW at hrow htake
       have hd : (xs.drop (i * 3)).length = (n - i) * 3 := by rw [List.length_drop, hxl]; omega
       have h0 : (w.alloc (.cells ROW 41)).drew.heap[w.heap.size]? = some (.cells ROW 41 (0, 0)) := heap_alloc_new w _
       have hrl : ROW.toList.length = G * 3 := by simpa using hrow
       have s1 := setCells_row w.heap.size 41 vs (i * 3) (w.alloc (.cells ROW 41)).drew ROW h0 (by rw [hvl, hrow]; omega)
       have s2 := setCells_row w.heap.size 41 (xs.drop (i * 3)) ((i + 1) * 3) ((w.alloc (.cells ROW 41)).drew.setCells w.heap.size (i * 3) vs).drew _ s1 (by show _ ≤ (layAt ROW.toList _ _).length; rw [layAt_length (by rw [hvl, hrl]; omega), hd, hrl]; omega)
       have r1 := setCells_rest w.heap.size vs (i * 3) (w.alloc (.cells ROW 41)).drew
       have r2 := setCells_rest w.heap.size (xs.drop (i * 3)) ((i + 1) * 3) ((w.alloc (.cells ROW 41)).drew.setCells w.heap.size (i * 3) vs).drew
       refine ⟨_, rfl, ⟨?_, .inr ⟨w.heap.size, G, _, rfl, hbase, s2, hGn, hG63, ?_, ?_⟩⟩, ⟨by rw [r2.1]; exact r1.1, by rw [r2.2.1]; exact r1.2.1, by rw [r2.2.2.1]; exact r1.2.2.1, by rw [r2.2.2.2]; show _ ≤ (World.setCells _ _ _ _).heap.size; rw [r1.2.2.2]; show w.heap.size ≤ (w.heap.push _).size; rw [Array.size_push]; omega, fun k hk hkr => ?_⟩, .inr rfl⟩
       · simp only [List.length_append, List.length_take, List.length_drop]; omega
       · show (layAt (layAt ROW.toList _ _) _ _).length = _
         rw [layAt_length (by rw [layAt_length (by rw [hvl, hrl]; omega), hd, hrl]; omega), layAt_length (by rw [hvl, hrl]; omega), hrl]
       · apply List.ext_getElem?
         intro j
         rw [List.getElem?_take]
         show (if j < (n + 1) * 3 then (layAt (layAt ROW.toList _ _) _ _)[j]? else none) = _
         by_cases hj : j < (n + 1) * 3
         · rw [if_pos hj, layAt_get (by rw [layAt_length (by rw [hvl, hrl]; omega), hd, hrl]; omega), layAt_get (by rw [hvl, hrl]; omega), hd, hvl]
           by_cases h1 : j < i * 3
           · rw [if_neg (by omega), if_neg (by omega), List.append_assoc, List.getElem?_append_left (by rw [List.length_take]; omega), ← htake, List.getElem?_take, if_pos h1]
           · by_cases h2 : j < (i + 1) * 3
             · rw [if_neg (by omega), if_pos (by omega), List.append_assoc, List.getElem?_append_right (by rw [List.length_take]; omega), List.length_take, Nat.min_eq_left (by omega), List.getElem?_append_left (by omega)]
             · rw [if_pos (by omega), List.getElem?_append_right (by rw [List.length_append, List.length_take]; omega), List.length_append, List.length_take, Nat.min_eq_left (by omega), hvl]
               congr 1; omega
         · rw [if_neg hj, List.getElem?_eq_none]
           simp only [List.length_append, List.length_take, List.length_drop]
           omega
       · have hkg : k ≠ w.heap.size := by omega
         rw [setCells_other _ _ _ _ _ hkg]
         show (World.setCells _ _ _ _).heap[k]? = _
         rw [setCells_other _ _ _ _ _ hkg]
         exact heap_alloc_old w _ (by omega)
theorem ins_AC (H : List (Option AB)) (id idv ep epv i : Nat) (rows : List (List AV)) (rowv : List AV) (hH : H[id]? = some (some (.row 41 3 ep rows))) (hV : H[idv]? = some (some (.row 41 3 epv [rowv]))) (hne : id ≠ idv) (hi : i ≤ rows.length) (hn : rows.length ≤ 1000000) :
 AC Tryz.prog 68 H [.own id ep 0 rows.length, .v (.int .i64 i), .own idv epv 0 1] (fun r H' => r = .own id (ep + 1) 0 (rows.length + 1) ∧ H' = H.set id (some (.row 41 3 (ep + 1) (rows.take i ++ [rowv] ++ rows.drop i)))) := by
 intro base σ w vs hh hl hv
 obtain ⟨v0, v1, v2, rfl⟩ : ∃ v0 v1 v2, vs = [v0, v1, v2] := by
  match vs, hl with
  | [a, b, c], _ => exact ⟨a, b, c, rfl⟩
 have h0 := hv 0 _ v0 rfl rfl
 have h1 := hv 1 _ v1 rfl rfl
 have h2 := hv 2 _ v2 rfl rfl
 cases h1
 obtain ⟨xs, hown, hrows⟩ := hh.live id _ hH
 obtain ⟨vs, hownv, hrowv⟩ := hh.live idv _ hV
 have hown : w.ownsRow base.b 41 3 (σ id) rows.length xs := hown
 have hownv : w.ownsRow base.b 41 3 (σ idv) 1 vs := hownv
 have e0 : v0 = σ id := by
  cases h0 with
  | own h _ =>
   obtain ⟨_, A, c, A', h5, rfl, _, h6⟩ := (h.2 _ _ _ _ hH).2 rfl
   obtain rfl := h6 rfl
   exact h5.symm
 have e2 : v2 = σ idv := by
  cases h2 with
  | own h _ =>
   obtain ⟨_, A, c, A', h5, rfl, _, h6⟩ := (h.2 _ _ _ _ hV).2 rfl
   obtain rfl := h6 rfl
   exact h5.symm
 subst e0; subst e2
 rcases hownv.2 with ⟨_, h⟩ | ⟨vb, vc, vcur, hσv, hvb, hvh, hvc, hvm, hvs, hvt⟩
 · cases h
 · have hvl : vs.length = 3 := hownv.1
   have hnb : (σ id).ownBlock ≠ some vb := fun e => by
    have hblk : blkOf (σ id) = some vb := by
     rcases hown.2 with ⟨h6, _⟩ | ⟨g, cap, cur, h6, _⟩
     · rw [h6] at e; cases e
     · rw [h6] at e ⊢; exact e
    exact hne (hh.apart id idv _ _ vb hH hV hblk (by show blkOf (σ idv) = _; rw [hσv]; rfl))
   rw [hσv]
   refine (ins_run base.b (σ id) rows.length i vb vc xs vs w vcur 41 hown hi hn hh.bs hvh hvl hvt hrows.2.2.1 hrowv.2.2.1 hnb).mono ?_
   rintro e w' ⟨v', rfl, q1, q2, q3⟩
   have hlen : (rows.take i ++ [rowv] ++ rows.drop i).length = rows.length + 1 := by
    simp only [List.length_append, List.length_take, List.length_drop, List.length_singleton]; omega
   have hr3 : RowsR ⟨w, H, σ, base.F⟩ 3 (rows.take i ++ [rowv] ++ rows.drop i) (xs.take (i * 3) ++ vs ++ xs.drop (i * 3)) := ((hrows.takeI hi).append hrowv).append (hrows.dropI hi)
   have hrel : Rel base σ ⟨[.any], H⟩ ⟨#[undef], []⟩ w := ⟨hh, ⟨rfl, fun i av h => by
    cases i with
    | zero => obtain rfl := Option.some.inj h; exact ⟨_, rfl, .any _⟩
    | succ i => simp at h⟩, rfl⟩
   obtain ⟨σ', r1, r2⟩ := regrown (s := ⟨[.any], H⟩) hrel hH hr3 (by rw [hlen]; exact q1) q2 q3 (some 0)
   obtain ⟨x, r3, r4⟩ := r1.2.1.2 0 (.own id (ep + 1) 0 (rows.take i ++ [rowv] ++ rows.drop i).length) rfl
   obtain rfl : v' = x := Option.some.inj r3
   rw [hlen] at r4
   exact ⟨v', _, _, σ', rfl, r1.1, r2, r4, rfl, rfl⟩
end Go.Proofs.YtiomdnmicagdcaaGreat.AL
namespace Go.Proofs.YtiomdnmicagdcaaGreat.AL
open Go Go.RowKit Go.Proofs.YtiomdnmicagdcaaGreat.Base
set_option linter.unusedVariables false
set_option linter.unusedSimpArgs false
set_option maxRecDepth 4000
set_option synthInstance.maxSize 1000
set_option synthInstance.maxHeartbeats 200000
instance tuErr2 : TU Tryz.prog 30 (.interface #[("Error", 261)]) := ⟨by kernel_rfl⟩
instance tcCode2 : TCMP Tryz.prog 67 := ⟨by kernel_rfl⟩
structure DefD where
 name : ByteArray
 obj : Int
 sym : Int
 deriving Inhabited
structure TabD where
 dropped : List (List Bool)
 defs : List DefD
 deriving Inhabited
structure PlcD where
 obj : Int
 sec : Int
 at_ : Int
 deriving Inhabited
@[reducible] def defA (d : DefD) : List AV := [.v (.string d.name), .v (.int .i64 d.obj), .v (.int .i64 d.sym)]
@[reducible] def drA (l : List Bool) : List AV := [.rd 1 (l.map bA)]
@[reducible] def tabA (t : TabD) : List AV := [.rd 1 (t.dropped.map drA), .rd 3 (t.defs.map defA)]
@[reducible] def plcA (p : PlcD) : List AV := [.v (.int .i64 p.obj), .v (.int .i64 p.sec), .v (.int .i64 p.at_)]
def cmpS (a b : ByteArray) : Int := if sLt a b = true then -1 else if sLt b a = true then 1 else 0
def zDef : DefD := ⟨noS, 0, 0⟩
def lowF (l : List DefD) (nm : ByteArray) : Nat := l.countP fun d => sLt d.name nm
def findB (l : List DefD) (nm : ByteArray) : Bool := decide (lowF l nm < l.length) && decide (cmpS (l.getD (lowF l nm) default).name nm = 0)
def findD (l : List DefD) (nm : ByteArray) : DefD := if findB l nm = true then l.getD (lowF l nm) default else zDef
def Srt (l : List DefD) : Prop := ∀ i j, i < j → j < l.length → sLt (l.getD i default).name (l.getD j default).name = true
theorem low_eq {l : List DefD} {nm : ByteArray} {i : Nat} (hi : i ≤ l.length) (h1 : ∀ k, k < i → sLt (l.getD k default).name nm = true) (h2 : ∀ k, i ≤ k → k < l.length → sLt (l.getD k default).name nm = false) : lowF l nm = i := by
 unfold lowF
 conv => lhs; rw [← List.take_append_drop i l]
 rw [List.countP_append]
 have e1 : (l.take i).countP (fun d => sLt d.name nm) = i := by
  have : (l.take i).countP (fun d => sLt d.name nm) = (l.take i).length := by
   rw [List.countP_eq_length]
   intro d hd
   obtain ⟨k, hk, rfl⟩ := List.getElem_of_mem hd
   rw [List.length_take] at hk
   have := h1 k (by omega)
   rw [List.getD_eq_getElem?_getD, List.getElem?_eq_getElem (by omega)] at this
   simpa using this
  rw [this, List.length_take]; omega
 have e2 : (l.drop i).countP (fun d => sLt d.name nm) = 0 := by
  rw [List.countP_eq_zero]
  intro d hd
  obtain ⟨k, hk, rfl⟩ := List.getElem_of_mem hd
  rw [List.length_drop] at hk
  have := h2 (i + k) (by omega) (by omega)
  rw [List.getD_eq_getElem?_getD, List.getElem?_eq_getElem (by omega)] at this
  simpa using this
 rw [e1, e2]; rfl
theorem cmp_lt {a b : ByteArray} : cmpS a b < 0 ↔ sLt a b = true := by
 unfold cmpS
 cases h : sLt a b <;> cases h' : sLt b a <;> simp
def defB (s : SymD) (dr : List Bool) : Bool := decide (s.bind ≠ 0) && (decide (s.sec < 0) || (decide (s.sec > 0) && !dr.getD (s.sec - 1).toNat default))
/-- Where a symbol of an object itself is, and the error's number. -/
def placeF (l : List ObjD) (t : TabD) (o s : Int) : PlcD × Int :=
 if ((l.getD o.toNat default).syms.getD s.toNat default).sec ≤ 0 then (⟨0, 0, ((l.getD o.toNat default).syms.getD s.toNat default).val⟩, 0)
 else if (t.dropped.getD o.toNat default).getD (((l.getD o.toNat default).syms.getD s.toNat default).sec - 1).toNat default = true then (⟨0, 0, 0⟩, 4)
 else (⟨o, ((l.getD o.toNat default).syms.getD s.toNat default).sec, ((l.getD o.toNat default).syms.getD s.toNat default).val⟩, 0)
structure TabW (l : List ObjD) (t : TabD) : Prop where
 many : l.length ≤ 1000000 ∧ t.defs.length ≤ 1000000
 len : t.dropped.length = l.length
 row : ∀ i, i < l.length → (t.dropped.getD i default).length = (l.getD i default).secs.length
 sec : ∀ i k, i < l.length → k < (l.getD i default).syms.length → ((l.getD i default).syms.getD k default).sec ≤ (l.getD i default).secs.length ∧ -1 ≤ ((l.getD i default).syms.getD k default).sec
 szs : ∀ i, i < l.length → (l.getD i default).syms.length ≤ 1000000 ∧ (l.getD i default).secs.length ≤ 1000000
 defs : ∀ k, k < t.defs.length → 0 ≤ (t.defs.getD k default).obj ∧ (t.defs.getD k default).obj < l.length ∧ 0 ≤ (t.defs.getD k default).sym ∧ (t.defs.getD k default).sym < (l.getD (t.defs.getD k default).obj.toNat default).syms.length
 srt : Srt t.defs
def whereF (l : List ObjD) (t : TabD) (o s : Int) : PlcD × Int :=
 if o < 0 ∨ o ≥ l.length ∨ s < 0 ∨ s ≥ (l.getD o.toNat default).syms.length then (⟨0, 0, 0⟩, 1)
 else if ((l.getD o.toNat default).syms.getD s.toNat default).bind = 0 then placeF l t o s
 else if findB t.defs ((l.getD o.toNat default).syms.getD s.toNat default).name = true then placeF l t (findD t.defs ((l.getD o.toNat default).syms.getD s.toNat default).name).obj (findD t.defs ((l.getD o.toNat default).syms.getD s.toNat default).name).sym
 else if ((l.getD o.toNat default).syms.getD s.toNat default).bind = 2 then (⟨0, 0, 0⟩, 0) else (⟨0, 0, 0⟩, 4)
theorem cmp_isNaN (a : ByteArray) : A0 Tryz.prog 117 [.v (.string a)] (fun ret => ret = .v (.bool false)) := by
 refine A0.body 6 Tryz.func117 rfl rfl Tryz.ntmps117 fun base n0 => ?_
 refine AW.seq' ?_
 refine AW.region ?_
 refine AO.c ?_
 refine AO.nil ?_
 refine SQ.normal ?_
 refine AW.seq' ?_
 refine AW.region ?_
 iterate 4 refine AO.c ?_
 refine AO.nil ?_
 refine SQ.normal ?_
 refine AW.ret ?_
 refine Fin.ret (Gh.refl) noid1 ?_
 simp [packA]
theorem cmp_Compare (a b : ByteArray) : A0 Tryz.prog 72 [.v (.string a), .v (.string b)] (fun ret => ret = .v (.int .i64 (cmpS a b))) := by
 refine A0.body 20 Tryz.func72 rfl rfl Tryz.ntmps72 fun base n0 => ?_
 refine AW.seq' ?_
 refine AW.region ?_
 refine AO.c ?_
 refine AO.nil ?_
 refine SQ.normal ?_
 refine AW.seq' ?_
 refine AW.region ?_
 refine AO.c ?_
 refine AO.call1 Tryz.func117 rfl rfl (cmp_isNaN _) ?_
 refine AO.c ?_
 refine AO.nil ?_
 refine SQ.normal ?_
 refine AW.seq' ?_
 refine AW.region ?_
 refine AO.c ?_
 refine AO.call1 Tryz.func117 rfl rfl (cmp_isNaN _) ?_
 refine AO.c ?_
 refine AO.nil ?_
 refine SQ.normal ?_
 refine AW.seq' ?_
 refine AW.seq' ?_
 refine AW.region ?_
 refine AO.c ?_
 refine AO.nil ?_
 refine SQ.normal ?_
 refine AW.iteB (GL.ev _) (fun h0 => ?_) (fun h0 => ?_)
 ·
  cases h0
 ·
  skip
  refine AW.skip ?_
  refine SQ.normal ?_
  refine AW.seq' ?_
  refine AW.seq' ?_
  refine AW.region ?_
  refine AO.c ?_
  refine AO.nil ?_
  refine SQ.normal ?_
  refine AW.iteB (GL.ev _) (fun h2 => ?_) (fun h2 => ?_)
  ·
   cases h2
  ·
   skip
   refine AW.skip ?_
   refine SQ.normal ?_
   refine AW.seq' ?_
   refine AW.seq' ?_
   refine AW.region ?_
   iterate 3 refine AO.c ?_
   refine AO.nil ?_
   refine SQ.normal ?_
   refine AW.iteB (GL.ev _) (fun h3 => ?_) (fun h3 => ?_)
   ·
    skip
    refine AW.seq' ?_
    refine AW.region ?_
    refine AO.c ?_
    refine AO.nil ?_
    refine SQ.normal ?_
    refine AW.ret ?_
    refine SQ.ret ?_
    refine Fin.ret (Gh.refl) noid1 ?_
    show AV.v _ = AV.v _
    congr 2
    unfold cmpS
    simp [*]
   ·
    skip
    refine AW.skip ?_
    refine SQ.normal ?_
    refine AW.seq' ?_
    refine AW.seq' ?_
    refine AW.region ?_
    iterate 3 refine AO.c ?_
    refine AO.nil ?_
    refine SQ.normal ?_
    refine AW.iteB (GL.ev _) (fun h4 => ?_) (fun h4 => ?_)
    ·
     skip
     refine AW.seq' ?_
     refine AW.region ?_
     refine AO.c ?_
     refine AO.nil ?_
     refine SQ.normal ?_
     refine AW.ret ?_
     refine SQ.ret ?_
     refine Fin.ret (Gh.refl) noid1 ?_
     show AV.v _ = AV.v _
     congr 2
     unfold cmpS
     simp [*]
    ·
     skip
     refine AW.skip ?_
     refine SQ.normal ?_
     refine AW.seq' ?_
     refine AW.region ?_
     refine AO.c ?_
     refine AO.nil ?_
     refine SQ.normal ?_
     refine AW.ret ?_
     refine Fin.ret (Gh.refl) noid1 ?_
     show AV.v _ = AV.v _
     congr 2
     unfold cmpS
     simp [*]
theorem names_byName (d : DefD) (nm : ByteArray) : A0 Tryz.prog 37 [.agg (defA d), .v (.string nm)] (fun ret => ret = .v (.int .i64 (cmpS d.name nm))) := by
 refine A0.body 9 Tryz.func37 rfl rfl Tryz.ntmps37 fun base n0 => ?_
 refine AW.seq' ?_
 refine AW.region ?_
 refine AO.ww ?_
 refine AO.c ?_
 refine AO.nil ?_
 refine SQ.normal ?_
 refine AW.seq' ?_
 refine AW.region ?_
 iterate 3 refine AO.c ?_
 refine AO.call1 Tryz.func72 rfl rfl (cmp_Compare _ _) ?_
 refine AO.c ?_
 refine AO.nil ?_
 refine SQ.normal ?_
 refine AW.ret ?_
 refine Fin.ret (Gh.refl) noid1 ?_
 first | rfl | (simp [packA]; done)
set_option maxHeartbeats 1000000 in
theorem names_search (l : List DefD) (nm : ByteArray) (hl : l.length ≤ 1000000) (hs : Srt l) : A0 Tryz.prog 36 [.rd 3 (l.map defA), .v (.string nm), .fn 37 []] (fun ret => ret = .tup [.v (.int .i64 ((lowF l nm : Int))), .v (.bool (findB l nm))]) := by
 refine A0.body 49 Tryz.func36 rfl rfl Tryz.ntmps36 fun base n0 => ?_
 refine AW.seq' ?_
 refine AW.region ?_
 iterate 2 refine AO.c ?_
 refine AO.nil ?_
 refine SQ.normal ?_
 refine AW.seq' ?_
 refine AW.region ?_
 iterate 3 refine AO.c ?_
 refine AO.nil ?_
 refine SQ.normal ?_
 refine AW.seq' ?_
 refine AW.region ?_
 iterate 3 refine AO.c ?_
 refine AO.nil ?_
 refine SQ.normal ?_
 refine AW.seq' ?_
 refine AW.block' ?_
 refine AW.loopU2 [.k, .k, .k, .f, .f, .f, .f, .f, .k, .k, .k, .F, .F, .F, .F, .f, .f, .f, .f, .f, .f] (fun (i j : Nat) => [(9, .v (.int .i64 (i))), (10, .v (.int .i64 (j)))]) (fun i j => Hn n0 []) (fun m i j => (i ≤ j ∧ j ≤ l.length ∧ m = j - i) ∧ (∀ k, k < i → sLt (l.getD k default).name nm = true) ∧ ∀ k, j ≤ k → k < l.length → sLt (l.getD k default).name nm = false) (l.length) (0) (l.length) ⟨by omega, fun k h => by omega, fun k h1 h2 => by omega⟩ (by first | rfl | (simp; done)) (by first | rfl | (simp; done)) ?_
 rintro m0 i j ⟨hx1, hx2, hx3⟩
 refine AW.seq' ?_
 refine AW.seq' ?_
 refine AW.region ?_
 iterate 3 refine AO.c ?_
 refine AO.nil ?_
 refine SQ.normal ?_
 refine AW.iteB (GL.ev _) (fun h0 => ?_) (fun h0 => ?_)
 ·
  rw [decide_eq_true_eq] at h0
  have hij : i < j := by omega
  refine AW.skip ?_
  refine SQ.normal ?_
  refine AW.block' ?_
  refine AW.seq' ?_
  refine AW.region ?_
  iterate 2 refine AO.c ?_
  iterate 2 refine AO.oo ?_
  refine AO.eq 21 (av' := .v (.int .u64 (((i + j : Nat)) : Int))) (by rw [Int.natCast_add]) ?_
  refine AO.oo ?_
  refine AO.eq 22 (av' := .v (.int .u64 ((((i + j) / 2 : Nat)) : Int))) (by congr 2) ?_
  refine AO.oo ?_
  refine AO.eq 23 (av' := .v (.int .i64 ((((i + j) / 2 : Nat)) : Int))) rfl ?_
  refine AO.c ?_
  refine AO.nil ?_
  refine SQ.normal ?_
  refine AW.seq' ?_
  refine AW.region ?_
  iterate 3 refine AO.c ?_
  refine AO.oo ?_
  iterate 2 refine AO.c ?_
  refine AO.callF (args' := [.agg (defA (l.getD ((i + j) / 2) default)), .v (.string nm)]) (fun _ _ h => by cases h) Tryz.func37 rfl rfl (names_byName _ _) rfl ?_
  refine AO.c ?_
  refine AO.nil ?_
  refine SQ.normal ?_
  refine AW.iteB (GL.ev _) (fun h1 => ?_) (fun h1 => ?_)
  ·
   rw [decide_eq_true_eq] at h1
   have h1b := cmp_lt.1 h1
   have ha : ∀ k, k < (i + j) / 2 + 1 → sLt (l.getD k default).name nm = true := fun k hk => by
    by_cases e : k = (i + j) / 2
    · rw [e]; exact h1b
    · exact sLt_trans (hs k ((i + j) / 2) (by omega) (by omega)) h1b
   refine AW.region ?_
   refine AO.c ?_
   refine AO.oo ?_
   refine AO.c ?_
   refine AO.nil ?_
   refine BQ.normal ?_
   exact AW.backU [.k, .k, .k, .f, .f, .f, .f, .f, .k, .k, .k, .F, .F, .F, .F, .f, .f, .f, .f, .f, .f] (j - ((i + j) / 2 + 1)) ((i + j) / 2 + 1, j) (by omega) (by (try dsimp only); exact ⟨by omega, ha, hx3⟩) (by first | rfl | (simp; done)) (by first | rfl | (simp; done))
  ·
   rw [decide_eq_false_iff_not, cmp_lt] at h1
   have h1b : sLt (l.getD ((i + j) / 2) default).name nm = false := by simpa using h1
   have hb : ∀ k, (i + j) / 2 ≤ k → k < l.length → sLt (l.getD k default).name nm = false := fun k hk hkl => by
    by_cases e : k = (i + j) / 2
    · rw [e]; exact h1b
    · cases hq : sLt (l.getD k default).name nm with
      | false => rfl
      | true => have := sLt_trans (hs ((i + j) / 2) k (by omega) hkl) hq; rw [h1b] at this; cases this
   refine AW.region ?_
   iterate 2 refine AO.c ?_
   refine AO.nil ?_
   refine BQ.normal ?_
   exact AW.backU [.k, .k, .k, .f, .f, .f, .f, .f, .k, .k, .k, .F, .F, .F, .F, .f, .f, .f, .f, .f, .f] ((i + j) / 2 - i) (i, (i + j) / 2) (by omega) (by (try dsimp only); exact ⟨by omega, hx2, hb⟩) (by first | rfl | (simp; done)) (by first | rfl | (simp; done))
 ·
  rw [decide_eq_false_iff_not] at h0
  have hij : i = j := by omega
  subst hij
  have hlow := low_eq (by omega) hx2 hx3
  refine AW.exit ?_
  refine SQ.exit <| AW.out <| LU.exit <| BQ.exit ?_
  refine SQ.normal ?_
  refine AW.seq' ?_
  refine AW.region ?_
  iterate 5 refine AO.c ?_
  iterate 3 refine AO.gx ?_
  refine AO.gxo (fun h => by rw [decide_eq_true_eq] at h; omega) ?_
  iterate 2 refine AO.gx ?_
  refine AO.gxcallF (args' := [.agg (defA (l.getD i default)), .v (.string nm)]) (fun _ _ h => by cases h) Tryz.func37 rfl rfl (fun _ => names_byName _ _) rfl ?_
  refine AO.gx ?_
  iterate 3 refine AO.c ?_
  refine AO.nil ?_
  refine SQ.normal ?_
  refine AW.ret ?_
  refine Fin.ret (Gh.refl) noid2 ?_
  unfold findB; rw [hlow]; simp [packA]
theorem names_Find (t : TabD) (nm : ByteArray) (hl : t.defs.length ≤ 1000000) (hs : Srt t.defs) : A0 Tryz.prog 12 [.agg (tabA t), .v (.string nm)] (fun ret => ret = .tup [.agg (defA (findD t.defs nm)), .v (.bool (findB t.defs nm))]) := by
 have hsr : A0 Tryz.prog 36 [.rd 3 (t.defs.map defA), .v (.string nm), .v (.func (.func 37) #[] #[])] (fun r => r = .tup [.v (.int .i64 (lowF t.defs nm : Int)), .v (.bool (findB t.defs nm))]) := A0.fn0 (pre := [.rd 3 (t.defs.map defA), .v (.string nm)]) (names_search t.defs nm hl hs)
 refine A0.body 23 Tryz.func12 rfl rfl Tryz.ntmps12 fun base n0 => ?_
 refine AW.seq' ?_
 refine AW.region ?_
 iterate 2 refine AO.ww ?_
 refine AO.c ?_
 refine AO.nil ?_
 refine SQ.normal ?_
 refine AW.seq' ?_
 refine AW.region ?_
 iterate 3 refine AO.c ?_
 refine AO.call1 Tryz.func36 rfl rfl (hsr) ?_
 iterate 5 refine AO.c ?_
 refine AO.nil ?_
 refine SQ.normal ?_
 refine AW.seq' ?_
 refine AW.seq' ?_
 refine AW.region ?_
 iterate 2 refine AO.c ?_
 refine AO.nil ?_
 refine SQ.normal ?_
 refine AW.iteB (GL.ev _) (fun h0 => ?_) (fun h0 => ?_)
 ·
  rw [Bool.not_eq_true'] at h0
  have e : findD t.defs nm = zDef := by unfold findD; rw [h0]; rfl
  refine AW.seq' ?_
  refine AW.region ?_
  refine AO.c ?_
  refine AO.sst ?_
  refine AO.c ?_
  refine AO.nil ?_
  refine SQ.normal ?_
  refine AW.ret ?_
  refine SQ.ret ?_
  refine Fin.ret (Gh.refl) noid2 ?_
  rw [e, h0]; rfl
 ·
  rw [Bool.not_eq_false'] at h0
  have e : findD t.defs nm = t.defs.getD (lowF t.defs nm) default := by unfold findD; rw [if_pos h0]
  have hlt : lowF t.defs nm < t.defs.length := by unfold findB at h0; simp only [Bool.and_eq_true, decide_eq_true_eq] at h0; exact h0.1
  refine AW.skip ?_
  refine SQ.normal ?_
  refine AW.seq' ?_
  refine AW.region ?_
  iterate 3 refine AO.c ?_
  refine AO.o (by omega) ?_
  refine AO.c ?_
  refine AO.sst ?_
  refine AO.c ?_
  refine AO.nil ?_
  refine SQ.normal ?_
  refine AW.ret ?_
  refine Fin.ret (Gh.refl) noid2 ?_
  rw [e, h0]; rfl
theorem names_defines (s : SymD) (dr : List Bool) (h : s.sec ≤ dr.length ∧ -1 ≤ s.sec ∧ dr.length ≤ 1000000) : A0 Tryz.prog 29 [.agg (symA s), .rd 1 (dr.map bA)] (fun ret => ret = .v (.bool (defB s dr))) := by
 refine A0.body 27 Tryz.func29 rfl rfl Tryz.ntmps29 fun base n0 => ?_
 refine AW.seq' ?_
 refine AW.region ?_
 refine AO.ww ?_
 refine AO.c ?_
 refine AO.nil ?_
 refine SQ.normal ?_
 refine AW.seq' ?_
 refine AW.region ?_
 iterate 4 refine AO.c ?_
 iterate 11 refine AO.gx ?_
 refine AO.gxo (fun _ => by omega) ?_
 refine AO.gxo (fun h => by simp at h; omega) ?_
 iterate 4 refine AO.gx ?_
 iterate 2 refine AO.c ?_
 refine AO.nil ?_
 refine SQ.normal ?_
 refine AW.ret ?_
 refine Fin.ret (Gh.refl) noid1 ?_
 unfold defB; simp [packA]
set_option maxHeartbeats 1000000 in
theorem names_place (l : List ObjD) (t : TabD) (o s : Int) (hw : TabW l t) (ho : 0 ≤ o ∧ o < l.length) (hs : 0 ≤ s ∧ s < (l.getD o.toNat default).syms.length) : A0 Tryz.prog 38 [.rd 5 (l.map objA), .agg (tabA t), .v (.int .i64 (o)), .v (.int .i64 (s))] (fun ret => ret = .tup [.agg (plcA (placeF l t o s).1), .v (ifV 67 (placeF l t o s).2)]) := by
 have hsc := hw.sec o.toNat s.toNat (by omega) (by omega)
 have hrow := hw.row o.toNat (by omega)
 have hlen := hw.len
 have hsz := hw.szs o.toNat (by omega)
 refine A0.body 43 Tryz.func38 rfl rfl Tryz.ntmps38 fun base n0 => ?_
 refine AW.seq' ?_
 refine AW.region ?_
 iterate 2 refine AO.ww ?_
 refine AO.c ?_
 refine AO.nil ?_
 refine SQ.normal ?_
 refine AW.seq' ?_
 refine AW.region ?_
 iterate 2 refine AO.c ?_
 refine AO.o (by omega) ?_
 iterate 3 refine AO.c ?_
 refine AO.o (by omega) ?_
 refine AO.c ?_
 refine AO.ww ?_
 refine AO.sst ?_
 refine AO.nil ?_
 refine SQ.normal ?_
 refine AW.seq' ?_
 refine AW.seq' ?_
 refine AW.region ?_
 iterate 3 refine AO.c ?_
 refine AO.nil ?_
 refine SQ.normal ?_
 refine AW.iteB (GL.ev _) (fun h0 => ?_) (fun h0 => ?_)
 ·
  rw [decide_eq_true_eq] at h0
  have e : placeF l t o s = (⟨0, 0, ((l.getD o.toNat default).syms.getD s.toNat default).val⟩, 0) := by unfold placeF; rw [if_pos h0]
  refine AW.seq' ?_
  refine AW.region ?_
  iterate 3 refine AO.c ?_
  refine AO.sst ?_
  refine AO.c ?_
  refine AO.nil ?_
  refine SQ.normal ?_
  refine AW.ret ?_
  refine SQ.ret ?_
  refine Fin.ret (Gh.refl) noid2 ?_
  rw [e]; rfl
 ·
  rw [decide_eq_false_iff_not] at h0
  refine AW.skip ?_
  refine SQ.normal ?_
  refine AW.seq' ?_
  refine AW.seq' ?_
  refine AW.drawsZ [] (.one 0 false (.one 1 false (.one 2 false (.one 3 false (.one 4 false (.one 5 false (.one 6 false (.one 7 false (.one 8 false (.one 9 false .nil)))))))))) (by kernel_rfl) rfl (by kernel_rfl) ?_
  iterate 3 refine AZ.c rfl ?_
  refine AZ.o rfl (by omega) ?_
  iterate 3 refine AZ.c rfl ?_
  refine AZ.o rfl (by omega) ?_
  refine AZ.o rfl (by omega) ?_
  refine AZ.c rfl ?_
  refine AZ.done ?_
  refine SQ.normal ?_
  refine AW.iteB (GL.ev _) (fun h1 => ?_) (fun h1 => ?_)
  ·
   have e : placeF l t o s = (⟨0, 0, 0⟩, 4) := by unfold placeF; rw [if_neg h0, if_pos h1]
   refine AW.seq' ?_
   refine AW.region ?_
   iterate 2 refine AO.c ?_
   refine AO.sst ?_
   refine AO.c ?_
   refine AO.nil ?_
   refine SQ.normal ?_
   refine AW.ret ?_
   refine SQ.ret ?_
   refine Fin.ret (Gh.refl) noid2 ?_
   rw [e]; rfl
  ·
   have e : placeF l t o s = (⟨o, ((l.getD o.toNat default).syms.getD s.toNat default).sec, ((l.getD o.toNat default).syms.getD s.toNat default).val⟩, 0) := by unfold placeF; rw [if_neg h0, if_neg (by rw [h1]; decide)]
   refine AW.skip ?_
   refine SQ.normal ?_
   refine AW.seq' ?_
   refine AW.region ?_
   iterate 6 refine AO.c ?_
   refine AO.sst ?_
   refine AO.c ?_
   refine AO.nil ?_
   refine SQ.normal ?_
   refine AW.ret ?_
   refine Fin.ret (Gh.refl) noid2 ?_
   rw [e]; rfl
set_option maxHeartbeats 1000000 in
theorem names_Where (l : List ObjD) (t : TabD) (o s : Int) (hw : TabW l t) : A0 Tryz.prog 14 [.rd 5 (l.map objA), .agg (tabA t), .v (.int .i64 (o)), .v (.int .i64 (s))] (fun ret => ret = .tup [.agg (plcA (whereF l t o s).1), .v (ifV 67 (whereF l t o s).2)]) := by
 have hmy := hw.many
 refine A0.body 78 Tryz.func14 rfl rfl Tryz.ntmps14 fun base n0 => ?_
 refine AW.seq' ?_
 refine AW.region ?_
 iterate 2 refine AO.ww ?_
 refine AO.c ?_
 refine AO.nil ?_
 refine SQ.normal ?_
 refine AW.seq' ?_
 refine AW.seq' ?_
 refine AW.region ?_
 iterate 3 refine AO.c ?_
 iterate 4 refine AO.gx ?_
 iterate 2 refine AO.c ?_
 iterate 2 refine AO.gx ?_
 iterate 2 refine AO.c ?_
 iterate 3 refine AO.gx ?_
 refine AO.gxo (fun h => by simp at h; omega) ?_
 iterate 4 refine AO.gx ?_
 refine AO.c ?_
 refine AO.nil ?_
 refine SQ.normal ?_
 refine AW.iteB (GL.ev _) (fun h0 => ?_) (fun h0 => ?_)
 ·
  have hno : o < 0 ∨ o ≥ l.length ∨ s < 0 ∨ s ≥ (l.getD o.toNat default).syms.length := by simp only [Bool.or_eq_true, decide_eq_true_eq] at h0; omega
  have e : whereF l t o s = (⟨0, 0, 0⟩, 1) := by unfold whereF; rw [if_pos hno]
  refine AW.seq' ?_
  refine AW.region ?_
  iterate 2 refine AO.c ?_
  refine AO.sst ?_
  refine AO.c ?_
  refine AO.nil ?_
  refine SQ.normal ?_
  refine AW.ret ?_
  refine SQ.ret ?_
  refine Fin.ret (Gh.refl) noid2 ?_
  rw [e]; rfl
 ·
  have hyes : ¬ (o < 0 ∨ o ≥ l.length ∨ s < 0 ∨ s ≥ (l.getD o.toNat default).syms.length) := by simp only [Bool.or_eq_false_iff, decide_eq_false_iff_not] at h0; omega
  refine AW.skip ?_
  refine SQ.normal ?_
  refine AW.seq' ?_
  refine AW.region ?_
  iterate 2 refine AO.c ?_
  refine AO.o (by omega) ?_
  iterate 3 refine AO.c ?_
  refine AO.o (by omega) ?_
  refine AO.c ?_
  refine AO.ww ?_
  refine AO.sst ?_
  refine AO.nil ?_
  refine SQ.normal ?_
  refine AW.seq' ?_
  refine AW.seq' ?_
  refine AW.region ?_
  iterate 3 refine AO.c ?_
  refine AO.nil ?_
  refine SQ.normal ?_
  refine AW.iteB (GL.ev _) (fun h1 => ?_) (fun h1 => ?_)
  ·
   rw [decide_eq_true_eq] at h1
   have e : whereF l t o s = placeF l t o s := by unfold whereF; rw [if_neg hyes, if_pos h1]
   refine AW.seq' ?_
   refine AW.region ?_
   iterate 4 refine AO.c ?_
   refine AO.call1 Tryz.func38 rfl rfl (names_place l t o s hw (by omega) (by omega)) ?_
   iterate 2 refine AO.c ?_
   refine AO.sst ?_
   refine AO.c ?_
   refine AO.nil ?_
   refine SQ.normal ?_
   refine AW.ret ?_
   refine SQ.ret ?_
   refine Fin.ret (Gh.refl) noid2 ?_
   rw [e]; rfl
  ·
   rw [decide_eq_false_iff_not] at h1
   refine AW.skip ?_
   refine SQ.normal ?_
   refine AW.seq' ?_
   refine AW.seq' ?_
   refine AW.region ?_
   iterate 3 refine AO.c ?_
   refine AO.call1 Tryz.func12 rfl rfl (names_Find t _ hmy.2 hw.srt) ?_
   iterate 3 refine AO.c ?_
   refine AO.ww ?_
   refine AO.sst ?_
   refine AO.c ?_
   refine AO.nil ?_
   refine SQ.normal ?_
   refine AW.seq' ?_
   refine AW.region ?_
   refine AO.c ?_
   refine AO.nil ?_
   refine SQ.normal ?_
   refine AW.iteB (GL.ev _) (fun h2 => ?_) (fun h2 => ?_)
   ·
    have e : whereF l t o s = placeF l t (findD t.defs ((l.getD o.toNat default).syms.getD s.toNat default).name).obj (findD t.defs ((l.getD o.toNat default).syms.getD s.toNat default).name).sym := by unfold whereF; rw [if_neg hyes, if_neg h1, if_pos h2]
    have hfe : findD t.defs ((l.getD o.toNat default).syms.getD s.toNat default).name = t.defs.getD (lowF t.defs ((l.getD o.toNat default).syms.getD s.toNat default).name) default := by unfold findD; rw [if_pos h2]
    have hlt : lowF t.defs ((l.getD o.toNat default).syms.getD s.toNat default).name < t.defs.length := by unfold findB at h2; simp only [Bool.and_eq_true, decide_eq_true_eq] at h2; exact h2.1
    have hdd := hw.defs _ hlt
    rw [← hfe] at hdd
    have hfd : (0 ≤ (findD t.defs ((l.getD o.toNat default).syms.getD s.toNat default).name).obj ∧ (findD t.defs ((l.getD o.toNat default).syms.getD s.toNat default).name).obj < l.length) ∧ 0 ≤ (findD t.defs ((l.getD o.toNat default).syms.getD s.toNat default).name).sym ∧ (findD t.defs ((l.getD o.toNat default).syms.getD s.toNat default).name).sym < (l.getD (findD t.defs ((l.getD o.toNat default).syms.getD s.toNat default).name).obj.toNat default).syms.length := ⟨⟨hdd.1, hdd.2.1⟩, hdd.2.2.1, hdd.2.2.2⟩
    refine AW.seq' ?_
    refine AW.region ?_
    iterate 6 refine AO.c ?_
    refine AO.call1 Tryz.func38 rfl rfl (names_place l t _ _ hw hfd.1 hfd.2) ?_
    iterate 2 refine AO.c ?_
    refine AO.sst ?_
    refine AO.c ?_
    refine AO.nil ?_
    refine SQ.normal ?_
    refine AW.ret ?_
    refine SQ.ret ?_
    refine Fin.ret (Gh.refl) noid2 ?_
    rw [e]; rfl
   ·
    skip
    refine AW.skip ?_
    refine SQ.normal ?_
    refine AW.seq' ?_
    refine AW.seq' ?_
    refine AW.region ?_
    iterate 3 refine AO.c ?_
    refine AO.nil ?_
    refine SQ.normal ?_
    refine AW.iteB (GL.ev _) (fun h3 => ?_) (fun h3 => ?_)
    ·
     rw [decide_eq_true_eq] at h3
     have e : whereF l t o s = (⟨0, 0, 0⟩, 0) := by unfold whereF; rw [if_neg hyes, if_neg h1, if_neg (by rw [h2]; decide), if_pos h3]
     refine AW.seq' ?_
     refine AW.region ?_
     refine AO.c ?_
     refine AO.sst ?_
     refine AO.c ?_
     refine AO.nil ?_
     refine SQ.normal ?_
     refine AW.ret ?_
     refine SQ.ret ?_
     refine Fin.ret (Gh.refl) noid2 ?_
     rw [e]; rfl
    ·
     rw [decide_eq_false_iff_not] at h3
     have e : whereF l t o s = (⟨0, 0, 0⟩, 4) := by unfold whereF; rw [if_neg hyes, if_neg h1, if_neg (by rw [h2]; decide), if_neg h3]
     refine AW.skip ?_
     refine SQ.normal ?_
     refine AW.seq' ?_
     refine AW.region ?_
     iterate 2 refine AO.c ?_
     refine AO.sst ?_
     refine AO.c ?_
     refine AO.nil ?_
     refine SQ.normal ?_
     refine AW.ret ?_
     refine Fin.ret (Gh.refl) noid2 ?_
     rw [e]; rfl
end Go.Proofs.YtiomdnmicagdcaaGreat.AL
namespace Go.Proofs.YtiomdnmicagdcaaGreat.AL
open Go Go.RowKit Go.Proofs.YtiomdnmicagdcaaGreat.Base
set_option linter.unusedVariables false
set_option linter.unusedSimpArgs false
set_option maxRecDepth 4000
set_option synthInstance.maxSize 1000
set_option synthInstance.maxHeartbeats 200000
theorem Hn_repJ {n a b : Nat} {L : List (Option AB)} (h : a = b) : Hn n ((L ++ List.replicate a none) ++ []) = Hn n ((L ++ List.replicate b none) ++ []) := by rw [h]
def gNmL (o : ObjD) : List ByteArray := o.groups.map fun g => (o.syms.getD g.sym.toNat default).name
def gNk (l : List ObjD) (i k : Nat) : ByteArray := ((l.getD i default).syms.getD ((l.getD i default).groups.getD k default).sym.toNat default).name
/-- The names of the groups ahead of group k of object i. -/
def gBef (l : List ObjD) (i k : Nat) : List ByteArray := (l.take i).flatMap gNmL ++ (gNmL (l.getD i default)).take k
def seenS (M : List (ByteArray × Int)) (s : ByteArray) : List (ByteArray × Int) := aput M s ((aget M s).getD 0 + 1)
def seenM (L : List ByteArray) : List (ByteArray × Int) := L.foldl seenS []
def cntB (L : List ByteArray) (s : ByteArray) : Nat := L.countP fun x => decide (x = s)
def ahB (l : List ObjD) (i k : Nat) : Bool := decide (0 < cntB (gBef l i k) (gNk l i k))
def memSet (b : Bool) (r : List Bool) (m : List Int) : List Bool := m.foldl (fun r n => r.set (n - 1).toNat b) r
def dropK (l : List ObjD) (i : Nat) : Nat → List Bool
 | 0 => List.replicate (l.getD i default).secs.length false
 | k + 1 => memSet (ahB l i k) (dropK l i k) ((l.getD i default).groups.getD k default).mem
def dropR (l : List ObjD) (i : Nat) : List Bool := dropK l i (l.getD i default).groups.length
def dropF (l : List ObjD) (n : Nat) : List (List Bool) := (List.range n).map (dropR l)
structure GrpW (l : List ObjD) : Prop where
 many : l.length ≤ 1000000
 grps : ∀ i, i < l.length → (l.getD i default).groups.length ≤ 900000 ∧ (l.getD i default).syms.length ≤ 1000000 ∧ (l.getD i default).secs.length ≤ 1000000
 sym : ∀ i k, i < l.length → k < (l.getD i default).groups.length → 0 ≤ ((l.getD i default).groups.getD k default).sym ∧ ((l.getD i default).groups.getD k default).sym < (l.getD i default).syms.length
 mem : ∀ i k, i < l.length → k < (l.getD i default).groups.length → ((l.getD i default).groups.getD k default).mem.length ≤ 1000000 ∧ ∀ q, q < ((l.getD i default).groups.getD k default).mem.length → 1 ≤ ((l.getD i default).groups.getD k default).mem.getD q default ∧ ((l.getD i default).groups.getD k default).mem.getD q default ≤ (l.getD i default).secs.length
theorem seen_get : ∀ (L : List ByteArray) (M : List (ByteArray × Int)) (s : ByteArray), (aget (L.foldl seenS M) s).getD 0 = (aget M s).getD 0 + (cntB L s : Int) := by
 intro L
 induction L with
 | nil => intro M s; simp [cntB]
 | cons a L ih =>
  intro M s
  rw [List.foldl_cons, ih, seenS, aget_aput, cntB, cntB, List.countP_cons]
  by_cases h : a = s
  · subst h; simp; omega
  · simp [h]
theorem seenM_get (L : List ByteArray) (s : ByteArray) : (aget (seenM L) s).getD 0 = (cntB L s : Int) := by
 have := seen_get L [] s
 rw [show (aget ([] : List (ByteArray × Int)) s).getD 0 = 0 from rfl] at this
 unfold seenM; omega
theorem memSet_len (b : Bool) : ∀ (m : List Int) (r : List Bool), (memSet b r m).length = r.length := by
 intro m
 induction m with
 | nil => intro r; rfl
 | cons x m ih => intro r; show (memSet b (r.set _ b) m).length = _; rw [ih, List.length_set]
theorem dropK_len (l : List ObjD) (i : Nat) : ∀ k, (dropK l i k).length = (l.getD i default).secs.length := by
 intro k
 induction k with
 | zero => simp [dropK]
 | succ k ih => rw [dropK, memSet_len, ih]
theorem memSet_snoc (b : Bool) (r : List Bool) {m : List Int} {q : Nat} (h : q < m.length) : memSet b r (m.take (q + 1)) = (memSet b r (m.take q)).set (m.getD q default - 1).toNat b := by
 unfold memSet
 rw [List.take_succ_eq_append_getElem h, List.foldl_append, List.getD_eq_getElem?_getD, List.getElem?_eq_getElem h]; rfl
theorem gN_len (o : ObjD) : (gNmL o).length = o.groups.length := by unfold gNmL; simp
theorem gN_get {l : List ObjD} {i k : Nat} (h : k < (l.getD i default).groups.length) : (gNmL (l.getD i default)).take (k + 1) = (gNmL (l.getD i default)).take k ++ [gNk l i k] := by
 unfold gNmL gNk
 rw [List.take_succ_eq_append_getElem (by rw [List.length_map]; exact h), List.getElem_map, List.getD_eq_getElem?_getD (l := (l.getD i default).groups), List.getElem?_eq_getElem h]; rfl
theorem gBef_succ {l : List ObjD} {i k : Nat} (h : k < (l.getD i default).groups.length) : gBef l i (k + 1) = gBef l i k ++ [gNk l i k] := by
 unfold gBef; rw [gN_get h, List.append_assoc]
theorem gBef_next {l : List ObjD} {i : Nat} (h : i < l.length) : gBef l (i + 1) 0 = gBef l i (l.getD i default).groups.length := by
 unfold gBef
 rw [List.take_of_length_le (l := gNmL (l.getD i default)) (by rw [gN_len]; exact Nat.le_refl _), List.take_succ_eq_append_getElem h, List.flatMap_append]
 simp [List.getD_eq_getElem?_getD, List.getElem?_eq_getElem h]
theorem seenM_snoc (L : List ByteArray) (s : ByteArray) : seenM (L ++ [s]) = aput (seenM L) s ((aget (seenM L) s).getD 0 + 1) := by
 unfold seenM; rw [List.foldl_append]; rfl
theorem gBef_len {l : List ObjD} (hw : GrpW l) : ∀ i, i ≤ l.length → ((l.take i).flatMap gNmL).length ≤ 900000 * i := by
 intro i
 induction i with
 | zero => intro _; simp
 | succ i ih =>
  intro hi
  rw [List.take_succ_eq_append_getElem (by omega), List.flatMap_append, List.length_append]
  have h1 := ih (by omega)
  have h2 := (hw.grps i (by omega)).1
  rw [List.getD_eq_getElem?_getD, List.getElem?_eq_getElem (by omega)] at h2
  have h3 : (List.flatMap gNmL [l[i]]).length = l[i].groups.length := by simp [gN_len]
  rw [h3]
  simp at h2
  omega
theorem gBef_bd {l : List ObjD} (hw : GrpW l) {i k : Nat} (hi : i < l.length) : (gBef l i k).length ≤ 1000000000000 := by
 have h1 := gBef_len hw i (by omega)
 have h2 := hw.many
 have h3 := (hw.grps i hi).1
 unfold gBef
 rw [List.length_append, List.length_take, gN_len]
 omega
theorem dropF_len (l : List ObjD) (n : Nat) : (dropF l n).length = n := by unfold dropF; simp
theorem dropF_succ (l : List ObjD) (n : Nat) : dropF l (n + 1) = dropF l n ++ [dropR l n] := by unfold dropF; rw [List.range_succ, List.map_append]; rfl
set_option maxHeartbeats 4000000 in
theorem names_drop (l : List ObjD) (hw : GrpW l) : A0 Tryz.prog 28 [.rd 5 (l.map objA)] (fun ret => ret = .rd 1 ((dropF l l.length).map drA)) := by
 have hmy := hw.many
 refine A0.body 65 Tryz.func28 rfl rfl Tryz.ntmps28 fun base n0 => ?_
 refine AW.seq' ?_
 refine AW.region ?_
 refine AO.c ?_
 refine AO.nil ?_
 refine SQ.normal ?_
 refine AW.seq' ?_
 refine AW.region ?_
 refine AO.c ?_
 refine AO.nil ?_
 refine SQ.normal ?_
 refine AW.seq' ?_
 refine AW.region ?_
 refine AO.ww ?_
 refine AO.c ?_
 refine AO.nil ?_
 refine SQ.normal ?_
 refine AW.seq' ?_
 refine AW.seq' ?_
 refine AW.ghost (Gh.mapM 0 kS vI) ?_
 refine AW.ghost (Gh.adoptM 3 89 1) ?_
 refine AW.region ?_
 iterate 3 refine AO.c ?_
 refine AO.nil ?_
 refine SQ.normal ?_
 refine AW.block' ?_
 refine AW.loopU3 [.f, .f, .f, .k, .k, .F, .f, .k, .k, .k, .F, .F, .F, .F, .F, .F] (fun (i j ep : Nat) => [(3, .own (n0 + 1) ep 0 (dropF l i).length), (16, .v (.int .i64 (i)))]) (fun i j ep => Hn n0 (([some (.map ((seenM (gBef l i 0)).map (mE kS vI))), some (.row 89 1 (ep) ((dropF l i).map drA))] ++ List.replicate j none) ++ [])) (fun m i j ep => i ≤ l.length ∧ m = l.length - i) (l.length) (0) (0) (0) ⟨by omega, by omega⟩ (by first | rfl | (simp [dropF]; done)) (by simp [dropF, gBef, seenM]) ?_
 rintro m0 i j ep ⟨hx1, hx2⟩
 refine AW.seq' ?_
 refine AW.region ?_
 refine AO.c ?_
 refine AO.nil ?_
 refine SQ.normal ?_
 refine AW.seq' ?_
 refine AW.iteB (GL.ev _) (fun h0 => ?_) (fun h0 => ?_)
 ·
  rw [decide_eq_true_eq] at h0
  have hi : i < l.length := by omega
  have hgr := hw.grps i hi
  have hdf := dropF_len l i
  refine AW.skip ?_
  refine SQ.normal ?_
  refine AW.seq' ?_
  refine AW.block' ?_
  refine AW.seq' ?_
  refine AW.region ?_
  refine AO.oo ?_
  refine AO.c ?_
  refine AO.ww ?_
  refine AO.sst ?_
  refine AO.nil ?_
  refine SQ.normal ?_
  refine AW.seq' ?_
  refine AW.region ?_
  iterate 3 refine AO.c ?_
  refine AO.ww ?_
  refine AO.c ?_
  refine AO.nil ?_
  refine SQ.normal ?_
  refine AW.seq' ?_
  refine AW.seq' ?_
  refine AW.region ?_
  iterate 4 refine AO.c ?_
  refine AO.nil ?_
  refine SQ.normal ?_
  refine AW.block' ?_
  refine AW.loopU2 [.f, .f, .f, .k, .k, .f, .k, .k, .f, .f, .f, .f, .f, .f, .k, .k, .k, .F, .k, .k, .k, .F, .F, .F, .F, .f, .f, .f, .f, .f] (fun (k j2 : Nat) => [(27, .v (.int .i64 (k)))]) (fun k j2 => Hn n0 ((([some (.map ((seenM (gBef l i k)).map (mE kS vI))), some (.row 89 1 (ep) ((dropF l i).map drA))] ++ List.replicate j none ++ [some (.box 61 (objA (l.getD i default))), some (.row 4 1 0 ((dropK l i k).map bA))]) ++ List.replicate j2 none) ++ [])) (fun m k j2 => k ≤ (l.getD i default).groups.length ∧ m = (l.getD i default).groups.length - k) ((l.getD i default).groups.length) (0) (0) ⟨by omega, by omega⟩ (by first | rfl | (simp; done)) (by simp [dropK]) ?_
  rintro m1 k j2 ⟨hy1, hy2⟩
  refine AW.seq' ?_
  refine AW.region ?_
  refine AO.c ?_
  refine AO.nil ?_
  refine SQ.normal ?_
  refine AW.seq' ?_
  refine AW.iteB (GL.ev _) (fun h1 => ?_) (fun h1 => ?_)
  ·
   rw [decide_eq_true_eq] at h1
   have hk : k < (l.getD i default).groups.length := by omega
   have hsy := hw.sym i k hi hk
   have hmm := hw.mem i k hi hk
   have hdk := dropK_len l i k
   have hgb := gBef_bd hw (k := k) hi
   have hct := seenM_get (gBef l i k) (gNk l i k)
   have hcl : cntB (gBef l i k) (gNk l i k) ≤ (gBef l i k).length := List.countP_le_length
   have hb : decide ((aget (seenM (gBef l i k)) (gNk l i k)).getD 0 > 0) = ahB l i k := by rw [hct]; unfold ahB; rw [Bool.eq_iff_iff]; simp
   refine AW.skip ?_
   refine SQ.normal ?_
   refine AW.seq' ?_
   refine AW.block' ?_
   refine AW.seq' ?_
   refine AW.region ?_
   refine AO.oo ?_
   refine AO.c ?_
   refine AO.ww ?_
   refine AO.sst ?_
   refine AO.nil ?_
   refine SQ.normal ?_
   refine AW.seq' ?_
   refine AW.region ?_
   iterate 4 refine AO.c ?_
   refine AO.o (by omega) ?_
   iterate 3 refine AO.c ?_
   refine AO.nil ?_
   refine SQ.normal ?_
   refine AW.seq' ?_
   refine AW.seq' ?_
   refine AW.region ?_
   iterate 4 refine AO.c ?_
   refine AO.nil ?_
   refine SQ.normal ?_
   refine AW.block' ?_
   refine AW.loopU [.f, .f, .f, .k, .k, .f, .k, .k, .f, .f, .k, .f, .f, .f, .k, .k, .k, .F, .k, .k, .k, .F, .f, .f, .f, .k, .k, .k, .F, .F, .f, .f, .f, .f, .f, .f, .f] (fun (q : Nat) => [(41, .v (.int .i64 (q)))]) (fun q => Hn n0 ((([some (.map ((seenM (gBef l i k)).map (mE kS vI))), some (.row 89 1 (ep) ((dropF l i).map drA))] ++ List.replicate j none ++ [some (.box 61 (objA (l.getD i default))), some (.row 4 1 0 ((memSet (ahB l i k) (dropK l i k) (((l.getD i default).groups.getD k default).mem.take q)).map bA))]) ++ List.replicate j2 none) ++ [some (.box 121 (grpA ((l.getD i default).groups.getD k default)))])) (fun m q => q ≤ ((l.getD i default).groups.getD k default).mem.length ∧ m = ((l.getD i default).groups.getD k default).mem.length - q) (((l.getD i default).groups.getD k default).mem.length) (0) ⟨by omega, by omega⟩ (by first | rfl | (simp; done)) (by simp [memSet]) ?_
   rintro m2 q ⟨hz1, hz2⟩
   refine AW.seq' ?_
   refine AW.region ?_
   refine AO.c ?_
   refine AO.nil ?_
   refine SQ.normal ?_
   refine AW.seq' ?_
   refine AW.iteB (GL.ev _) (fun h2 => ?_) (fun h2 => ?_)
   ·
    rw [decide_eq_true_eq] at h2
    have hq : q < ((l.getD i default).groups.getD k default).mem.length := by omega
    have hn := hmm.2 q hq
    have hml := memSet_len (ahB l i k) (((l.getD i default).groups.getD k default).mem.take q) (dropK l i k)
    refine AW.skip ?_
    refine SQ.normal ?_
    refine AW.seq' ?_
    refine AW.block' ?_
    refine AW.seq' ?_
    refine AW.region ?_
    refine AO.oo ?_
    iterate 2 refine AO.c ?_
    refine AO.nil ?_
    refine SQ.normal ?_
    refine AW.region ?_
    iterate 2 refine AO.c ?_
    refine AO.oo ?_
    iterate 4 refine AO.c ?_
    refine AO.eq 51 (av' := .v (.bool (ahB l i k))) (by rw [← hb]; rfl) ?_
    refine AO.o (by omega) ?_
    refine AO.sst ?_
    refine AO.nil ?_
    refine BQ.normal ?_
    refine SQ.normal ?_
    refine AW.region ?_
    refine AO.oo ?_
    refine AO.c ?_
    refine AO.nil ?_
    exact AW.backU [.f, .f, .f, .k, .k, .f, .k, .k, .f, .f, .k, .f, .f, .f, .k, .k, .k, .F, .k, .k, .k, .F, .f, .f, .f, .k, .k, .k, .F, .F, .f, .f, .f, .f, .f, .f, .f] (m2 - 1) (q + 1) (by omega) (by (try dsimp only); exact ⟨by omega, by omega⟩) (by first | rfl | (simp; done)) (by (try dsimp only); rw [memSet_snoc _ _ hq, Nat.zero_add])
   ·
    rw [decide_eq_false_iff_not] at h2
    have hq : q = ((l.getD i default).groups.getD k default).mem.length := by omega
    subst hq
    rw [List.take_length]
    refine AW.exit ?_
    refine SQ.exit <| AW.out <| LU.exit <| BQ.exit ?_
    refine SQ.normal ?_
    refine AW.region ?_
    iterate 3 refine AO.c ?_
    refine AO.o (by have := hct; unfold gNk at this hcl; omega) ?_
    refine AO.sst ?_
    refine AO.nil ?_
    refine BQ.normal ?_
    refine SQ.normal ?_
    refine AW.region ?_
    refine AO.oo ?_
    refine AO.c ?_
    refine AO.nil ?_
    exact AW.backE [.f, .f, .f, .k, .k, .f, .k, .k, .f, .f, .f, .f, .f, .f, .k, .k, .k, .F, .k, .k, .k, .F, .F, .F, .F, .f, .f, .f, .f, .f] (j2) (m1 - 1) (k + 1, j2 + 1) (by omega) (by (try dsimp only); exact ⟨by omega, by omega⟩) (by first | rfl | (simp; done)) (by first | ((try dsimp only); rw [gBef_succ hk, seenM_snoc]; done) | ((try dsimp only); rw [gBef_succ hk, seenM_snoc]; rfl))
  ·
   rw [decide_eq_false_iff_not] at h1
   have hk : k = (l.getD i default).groups.length := by omega
   subst hk
   refine AW.exit ?_
   refine SQ.exit <| AW.out <| LU.exit <| BQ.exit ?_
   refine SQ.normal ?_
   have hdl := dropK_len l i (l.getD i default).groups.length
   refine AW.ghost (Gh.freezeM 7 bA (dropR l i) (by rfl) (by show (dropK l i _).length = _; omega) (by show (dropK l i _).length ≤ _; omega)) ?_
   refine AW.region ?_
   iterate 2 refine AO.c ?_
   refine AO.rr ?_
   refine AO.ww ?_
   refine AO.c ?_
   refine AO.nil ?_
   refine BQ.normal ?_
   refine SQ.normal ?_
   refine AW.region ?_
   refine AO.oo ?_
   refine AO.c ?_
   refine AO.nil ?_
   exact AW.backE [.f, .f, .f, .k, .k, .F, .f, .k, .k, .k, .F, .F, .F, .F, .F, .F] (j) (m0 - 1) (i + 1, j + (2 + j2), ep + 1) (by omega) (by (try dsimp only); exact ⟨by omega, by omega⟩) (by (try dsimp only); rw [dropF_succ]; simp) ((Hn_repJ (b := j + (2 + j2)) (by first | (simp; done) | (simp; omega))).trans (by (try dsimp only); rw [gBef_next hi, dropF_succ, List.map_append]; rfl))
 ·
  rw [decide_eq_false_iff_not] at h0
  have hi : i = l.length := by omega
  subst hi
  refine AW.exit ?_
  refine SQ.exit <| AW.out <| LU.exit <| BQ.exit ?_
  refine SQ.normal ?_
  refine AW.seq' ?_
  refine AW.ghost (Gh.freezeM 3 drA (dropF l l.length) rfl (by rw [dropF_len]) (by rw [dropF_len]; omega)) ?_
  refine AW.region ?_
  iterate 2 refine AO.c ?_
  refine AO.nil ?_
  refine SQ.normal ?_
  refine AW.ret ?_
  refine Fin.ret (Gh.refl) noid1 ?_
  first | rfl | (simp [packA]; done)
end Go.Proofs.YtiomdnmicagdcaaGreat.AL
namespace Go.Proofs.YtiomdnmicagdcaaGreat.AL
open Go Go.RowKit Go.Proofs.YtiomdnmicagdcaaGreat.Base
set_option linter.unusedVariables false
set_option linter.unusedSimpArgs false
set_option maxRecDepth 4000
set_option synthInstance.maxSize 1000
set_option synthInstance.maxHeartbeats 200000
def bindD (l : List ObjD) (d : DefD) : Int := ((l.getD d.obj.toNat default).syms.getD d.sym.toNat default).bind
def DefIn (l : List ObjD) (d : DefD) : Prop := 0 ≤ d.obj ∧ d.obj < l.length ∧ 0 ≤ d.sym ∧ d.sym < (l.getD d.obj.toNat default).syms.length
def insD (L : List DefD) (i : Nat) (d : DefD) : List DefD := L.take i ++ [d] ++ L.drop i
/-- Definitions with one more. -/
def addF (l : List ObjD) (L : List DefD) (d : DefD) : List DefD :=
 if findB L d.name = true then (if bindD l (L.getD (lowF L d.name) default) = 2 ∧ bindD l d = 1 then L.set (lowF L d.name) d else L) else insD L (lowF L d.name) d
def addB (l : List ObjD) (L : List DefD) (d : DefD) : Bool := findB L d.name && decide (bindD l (L.getD (lowF L d.name) default) = 1) && decide (bindD l d = 1)
def addE (L : List DefD) (d : DefD) (ep : Nat) : Nat := if findB L d.name = true then ep else ep + 1
theorem low_le (L : List DefD) (nm : ByteArray) : lowF L nm ≤ L.length := List.countP_le_length
theorem ins_map (L : List DefD) (i : Nat) (d : DefD) : (L.map defA).take i ++ [defA d] ++ (L.map defA).drop i = (insD L i d).map defA := by
 unfold insD; simp
theorem def_at {L : List DefD} {i : Nat} (h : i < L.length) : (L.map defA)[i]? = some (defA (L.getD i default)) := by
 rw [List.getElem?_map, List.getElem?_eq_getElem h, List.getD_eq_getElem?_getD, List.getElem?_eq_getElem h]; rfl
theorem set_def {L : List DefD} {i : Nat} {d : DefD} (h : i < L.length) : (L.map defA).set i (layAt ((L.map defA).getD i []) 0 (defA d)) = (L.set i d).map defA := by
 have e : (L.map defA).getD i [] = defA (L.getD i default) := by rw [List.getD_eq_getElem?_getD, def_at h]; rfl
 rw [e, List.map_set]
 rfl
theorem ins_H {n k kv ep epv i m : Nat} {H L2 : List (Option AB)} {rows : List (List AV)} {row : List AV} [gb : GB H k (.row 41 3 ep rows)] [gv : GB H kv (.row 41 3 epv [row])] (hne : k ≠ kv) (hm : rows.length = m) (hi : i ≤ m) (hn : m ≤ 1000000) [sb : SB H k (some (.row 41 3 (ep + 1) (rows.take i ++ [row] ++ rows.drop i))) L2] : AC Tryz.prog 68 (Hn n H) [.own (n + k) ep 0 m, .v (.int .i64 i), .own (n + kv) epv 0 1] (fun r H' => r = .own (n + k) (ep + 1) 0 (m + 1) ∧ H' = Hn n L2) := by
 subst hm
 have h := ins_AC (Hn n H) (n + k) (n + kv) ep epv i rows row (by rw [Hn_get]; exact gb.h) (by rw [Hn_get]; exact gv.h) (by omega) hi hn
 rw [Hn_set, sb.h] at h
 exact h
theorem insD_len {L : List DefD} {i : Nat} (h : i ≤ L.length) (d : DefD) : (insD L i d).length = L.length + 1 := by
 unfold insD; simp; omega
set_option maxHeartbeats 4000000 in
theorem names_add (n : Nat) (z0 : Option AB) (drs : List (List AV)) (l : List ObjD) (L : List DefD) (ep : Nat) (d : DefD) (X : List (Option AB)) {lx : Nat} [le : LEN X lx] (hs : Srt L) (hn : L.length ≤ 999999) (hl : l.length ≤ 1000000) (hL : ∀ k, k < L.length → DefIn l (L.getD k default)) (hd : DefIn l d) : AC Tryz.prog 30 (Hn n ([z0, some (.box 28 [.rd 1 drs, .own (n + 2) (ep) 0 (L).length]), some (.row 41 3 (ep) ((L).map defA))] ++ X)) [.box (n + 1) 0, .rd 5 (l.map objA), .agg (defA d)] (fun r H' => r = .v (.bool (addB l L d)) ∧ H' = Hn n (([z0, some (.box 28 [.rd 1 drs, .own (n + 2) (addE L d ep) 0 (addF l L d).length]), some (.row 41 3 (addE L d ep) ((addF l L d).map defA))] ++ X) ++ [none, none])) := by
 have hsr : A0 Tryz.prog 36 [.rd 3 (L.map defA), .v (.string d.name), .v (.func (.func 37) #[] #[])] (fun r => r = .tup [.v (.int .i64 (lowF L d.name : Int)), .v (.bool (findB L d.name))]) := A0.fn0 (pre := [.rd 3 (L.map defA), .v (.string d.name)]) (names_search L d.name (by omega) hs)
 have hlo := low_le L d.name
 unfold DefIn at hd
 refine AC.body 83 Tryz.func30 rfl rfl Tryz.ntmps30 fun base => ?_
 refine AW.seq' ?_
 refine AW.region ?_
 refine AO.ww ?_
 refine AO.c ?_
 refine AO.nil ?_
 refine SQ.normal ?_
 refine AW.seq' ?_
 refine AW.drawsZ [] (.one 0 false (.one 1 false (.one 2 false (.one 3 false (.one 4 false (.one 5 false (.one 6 true (.one 7 false (.one 8 false (.one 9 false (.one 10 false (.one 11 false .nil)))))))))))) (by kernel_rfl) rfl (by kernel_rfl) ?_
 iterate 6 refine AZ.c rfl ?_
 refine AZ.callO 2 [.rd 3 (L.map defA), .v (.string d.name), .v (.func (.func 37) #[] #[])] rfl Tryz.func36 rfl rfl (by exact ⟨showOwn (by simp) rfl, .inl rfl, .inl rfl, trivial⟩) (by rw [List.length_map]; omega) hsr ?_
 iterate 5 refine AZ.c rfl ?_
 refine AZ.done ?_
 refine SQ.normal ?_
 refine AW.seq' ?_
 refine AW.seq' ?_
 refine AW.region ?_
 iterate 2 refine AO.c ?_
 refine AO.nil ?_
 refine SQ.normal ?_
 refine AW.iteB (GL.ev _) (fun h0 => ?_) (fun h0 => ?_)
 ·
  rw [Bool.not_eq_true'] at h0
  have e1 : addF l L d = insD L (lowF L d.name) d := by unfold addF; rw [if_neg (by rw [h0]; decide)]
  have e2 : addB l L d = false := by unfold addB; rw [h0]; rfl
  have e3 : addE L d ep = ep + 1 := by unfold addE; rw [if_neg (by rw [h0]; decide)]
  have e4 := insD_len hlo d
  refine AW.seq' ?_
  refine AW.drawsZ [8, 11] (.one 1 false (.one 2 false (.one 3 false (.one 4 false (.one 5 false (.one 6 false (.pur 0 (.one 7 true (.one 8 true (.one 9 false (.one 10 false (.one 11 true .nil)))))))))))) (by kernel_rfl) rfl (by kernel_rfl) ?_
  iterate 6 refine AZ.c rfl ?_
  refine AZ.p rfl ?_
  refine AZ.mkk rfl ?_
  refine AZ.callL rfl rfl Tryz.func68 rfl rfl (ins_H (k := 2) (kv := zadd (0 + 1 + 1 + 1) (zadd lx (0 + 1))) (ep := ep) (epv := 0) (rows := L.map defA) (row := defA d) (i := (lowF L d.name)) (by simp only [zadd]; omega) (by rw [List.length_map]) hlo (by omega)) ?_
  iterate 2 refine AZ.c rfl ?_
  refine AZ.sst rfl rfl ?_
  refine AZ.done ?_
  refine SQ.normal ?_
  refine AW.seq' ?_
  refine AW.region ?_
  refine AO.c ?_
  refine AO.nil ?_
  refine SQ.normal ?_
  refine AW.ret ?_
  refine SQ.ret ?_
  exact FinC.ret Gh.dropX ⟨by rw [e2]; rfl, by rw [e1, e3, e4, ← ins_map]; rfl⟩ (.inr rfl)
 ·
  rw [Bool.not_eq_false'] at h0
  have hlt : lowF L d.name < L.length := by unfold findB at h0; simp only [Bool.and_eq_true, decide_eq_true_eq] at h0; exact h0.1
  have hh := hL _ hlt
  unfold DefIn at hh
  have e3 : addE L d ep = ep := by unfold addE; rw [if_pos h0]
  refine AW.skip ?_
  refine SQ.normal ?_
  refine AW.seq' ?_
  refine AW.region ?_
  iterate 5 refine AO.c ?_
  refine AO.oo ?_
  refine AO.ldRN (defA (L.getD (lowF L d.name) default)) (defA (L.getD (lowF L d.name) default)) (by first | (rw [Nat.zero_add]; exact def_at hlt) | (rw [show 0 + (((lowF L d.name) : Int)).toNat = (lowF L d.name) by omega]; exact def_at hlt)) (by exact (by decide : 0 < 3)) (by exact (by decide : 0 + 3 ≤ 3)) rfl ?_
  refine AO.ww ?_
  refine AO.sst ?_
  refine AO.nil ?_
  refine SQ.normal ?_
  refine AW.seq' ?_
  refine AW.drawsZ [] (.one 0 false (.one 1 false (.one 2 false (.one 3 false (.one 4 false (.one 5 false (.one 6 false (.one 7 false (.one 8 false (.one 9 false (.one 10 false (.one 11 false (.one 12 false (.one 13 false (.one 14 false (.one 15 false (.one 16 false (.one 17 false (.one 18 false (.one 19 false (.one 20 false (.one 21 false (.one 22 false (.one 23 false .nil)))))))))))))))))))))))) (by kernel_rfl) rfl (by kernel_rfl) ?_
  iterate 3 refine AZ.c rfl ?_
  refine AZ.oo rfl ?_
  iterate 4 refine AZ.c rfl ?_
  refine AZ.oo rfl ?_
  iterate 5 refine AZ.c rfl ?_
  refine AZ.oo rfl ?_
  iterate 4 refine AZ.c rfl ?_
  refine AZ.oo rfl ?_
  iterate 4 refine AZ.c rfl ?_
  refine AZ.done ?_
  refine SQ.normal ?_
  refine AW.seq' ?_
  refine AW.seq' ?_
  refine AW.region ?_
  iterate 3 refine AO.c ?_
  iterate 2 refine AO.gx ?_
  refine AO.c ?_
  refine AO.nil ?_
  refine SQ.normal ?_
  refine AW.iteB (GL.ev _) (fun h1 => ?_) (fun h1 => ?_)
  ·
   simp only [Bool.and_eq_true, decide_eq_true_eq] at h1
   have e1 : addF l L d = L.set (lowF L d.name) d := by unfold addF; rw [if_pos h0, if_pos (show bindD l _ = 2 ∧ bindD l d = 1 from h1)]
   refine AW.drawsZ [7] (.one 0 false (.one 1 false (.one 2 false (.one 3 false (.one 4 false (.one 5 false (.one 6 false (.one 7 true .nil)))))))) (by kernel_rfl) rfl (by kernel_rfl) ?_
   iterate 6 refine AZ.c rfl ?_
   refine AZ.o rfl (by omega) ?_
   refine AZ.stR ((L.set (lowF L d.name) d).map defA) rfl rfl (by rw [List.length_map]; omega) ?_ ?_
   · first | (rw [Nat.zero_add]; exact set_def hlt) | (rw [show 0 + (((lowF L d.name) : Int)).toNat = (lowF L d.name) by omega]; exact set_def hlt)
   refine AZ.done ?_
   refine SQ.normal ?_
   refine AW.seq' ?_
   refine AW.region ?_
   iterate 3 refine AO.c ?_
   iterate 2 refine AO.gx ?_
   iterate 2 refine AO.c ?_
   refine AO.nil ?_
   refine SQ.normal ?_
   refine AW.ret ?_
   exact FinC.ret Gh.dropX ⟨by unfold addB; rw [h0]; rfl, by rw [e1, e3, List.length_set]; rfl⟩ (.inr rfl)
  ·
   simp only [Bool.and_eq_false_iff, decide_eq_false_iff_not] at h1
   have e1 : addF l L d = L := by
    unfold addF
    rw [if_pos h0, if_neg]
    rintro ⟨c1, c2⟩
    rcases h1 with h1 | h1
    · exact h1 c1
    · exact h1 c2
   refine AW.skip ?_
   refine SQ.normal ?_
   refine AW.seq' ?_
   refine AW.region ?_
   iterate 3 refine AO.c ?_
   iterate 2 refine AO.gx ?_
   iterate 2 refine AO.c ?_
   refine AO.nil ?_
   refine SQ.normal ?_
   refine AW.ret ?_
   exact FinC.ret Gh.dropX ⟨by unfold addB; rw [h0]; rfl, by rw [e1, e3]; rfl⟩ (.inr rfl)
end Go.Proofs.YtiomdnmicagdcaaGreat.AL
