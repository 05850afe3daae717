/- A part of the proof: rules of an own logic over blocks, and what functions of the program compute, each by its own contract; the conditions stand with each. -/
import Derived.Test.YtiomdnmicagdcaaCh
import Derived.Test.YtiomdnmicagdcaaCd
namespace Go.Proofs.Ytiomdnmicagdcaa.AL
open Go Go.RowKit Go.Proofs.Ytiomdnmicagdcaa.Base
set_option linter.unusedVariables false
set_option linter.unusedSimpArgs false
set_option maxRecDepth 4000
set_option synthInstance.maxSize 1000
set_option synthInstance.maxHeartbeats 200000
theorem grN_len {l : List ObjD} (hw : ResW l) : (grN l).length ≤ 1024 := by
 have h1 := namK_len l (secI l l.length).pcs (secI l l.length).bg (dI l l.length) (dI l l.length).length
 have h2 := dI_len hw l.length (Nat.le_refl _)
 have h3 := hw.len
 unfold grN; omega
theorem ndA_len {l : List ObjD} (hw : GraphW l) : (ndA l).length ≤ 6000000 ∧ (secI l l.length).nodes.length = (ndA l).length := by
 have h1 := secI_len hw l.length (Nat.le_refl _)
 have h2 := hw.rw_.len
 unfold ndA
 rw [List.length_map]
 omega
theorem grF_no {l : List ObjD} {e : ByteArray} (h0 : resE l = 0) (h1 : grE l = 0) (h2 : ∀ q, q < (grN l).length → ((grN l).getD q default).name ≠ e) : grF l e = (zGr, 5) := by
 unfold grF
 rw [if_neg (fun c => c h0), if_neg (fun c => c h1)]
 have h : (grN l).find? (fun d => decide (d.name = e)) = none := by
  rw [List.find?_eq_none]
  intro x hx
  obtain ⟨k, hk, rfl⟩ := List.getElem_of_mem hx
  have := h2 k hk
  rw [List.getD_eq_getElem?_getD, List.getElem?_eq_getElem hk] at this
  rw [decide_eq_true_eq]
  exact this
 rw [h]
theorem grF_yes {l : List ObjD} {e : ByteArray} {k : Nat} (h0 : resE l = 0) (h1 : grE l = 0) (hk : k < (grN l).length) (h2 : ∀ q, q < k → ((grN l).getD q default).name ≠ e) (h3 : ((grN l).getD k default).name = e) : grF l e = (⟨(ndA l).map (setE l), ((grN l).getD k default).obj, ((grN l).getD k default).sym, grN l⟩, 0) := by
 unfold grF
 rw [if_neg (fun c => c h0), if_neg (fun c => c h1)]
 have h : (grN l).find? (fun d => decide (d.name = e)) = some ((grN l).getD k default) := by
  rw [List.find?_eq_some_iff_getElem]
  refine ⟨decide_eq_true h3, k, hk, ?_, fun j hj => ?_⟩
  · rw [List.getD_eq_getElem?_getD, List.getElem?_eq_getElem hk]; rfl
  · have := h2 j hj
    rw [List.getD_eq_getElem?_getD, List.getElem?_eq_getElem (by omega)] at this
    rw [Bool.not_eq_true', decide_eq_false_iff_not]
    exact this
 rw [h]
theorem edT_zero (l : List ObjD) : edT l 0 = ndA l := by unfold edT; simp
set_option maxHeartbeats 16000000 in
theorem graph_Build (l : List ObjD) (hok : ∀ o ∈ l, o.ok) (hf : fewB l = true) (e : ByteArray) : A0 Try.prog 6 [.rd 5 (l.map objA), .v (.string e)] (fun ret => ret = .tup [.agg (graphA (grF l e).1), .v (ifV 57 (grF l e).2)]) := by
 have hk := few_lok hok hf
 have hfw := few_W hf
 have hrl : ∀ i k, i < l.length → k < (l.getD i default).secs.length → ((l.getD i default).secs.getD k default).rels.length ≤ 1000000 := fun i k hi hk2 => by have := ((hfw.2.1 _ (getD_in hi)).sec _ (getD_in hk2)).2; omega
 refine A0.body 90 Try.func6 rfl rfl Try.ntmps6 fun base n0 => ?_
 refine AW.seq' ?_
 refine AW.region ?_
 refine AO.ww ?_
 refine AO.c ?_
 refine AO.nil ?_
 refine SQ.normal ?_
 refine AW.seq' ?_
 refine AW.region ?_
 refine AO.c ?_
 refine AO.call1 Try.func10 rfl rfl (names_ResolveV l hk) ?_
 iterate 3 refine AO.c ?_
 refine AO.ww ?_
 refine AO.sst ?_
 refine AO.c ?_
 refine AO.nil ?_
 refine SQ.normal ?_
 refine AW.seq' ?_
 refine AW.seq' ?_
 refine AW.region ?_
 iterate 2 refine AO.c ?_
 refine AO.nil ?_
 refine SQ.normal ?_
 refine AW.iteB (GL.ev _) (fun h0 => ?_) (fun h0 => ?_)
 ·
  rw [decide_eq_true_eq] at h0
  have hg : grF l e = (zGr, resE l) := by unfold grF; rw [if_pos h0]
  refine AW.seq' ?_
  refine AW.region ?_
  iterate 2 refine AO.c ?_
  refine AO.sst ?_
  refine AO.c ?_
  refine AO.nil ?_
  refine SQ.normal ?_
  refine AW.ret ?_
  refine SQ.ret ?_
  refine Fin.ret (Gh.tellC 0 [.rd 14 (([] : List NodeD).map nodeA), .v (.int .i64 (0)), .v (.int .i64 (0)), .rd 3 (([] : List DefD).map defA)]) noid2 ?_
  rw [hg]; rfl
 ·
  rw [decide_eq_false_iff_not, ne_eq, Decidable.not_not] at h0
  have hmay := resE_0 h0
  have hGW := graph_w hok hf hmay
  have hw := hGW.rw_
  have hMG := map_g hmay hGW
  have hnd := ndA_len hGW
  have hgl := grN_len hw
  rw [resT_0 h0]
  refine AW.skip ?_
  refine SQ.normal ?_
  refine AW.seq' ?_
  refine AW.region ?_
  iterate 2 refine AO.c ?_
  iterate 3 refine AO.ww ?_
  refine AO.c ?_
  refine AO.ww ?_
  refine AO.c ?_
  refine AO.nil ?_
  refine SQ.normal ?_
  refine AW.seq' ?_
  refine AW.ghost (Gh.mapM 2 kP vP) ?_
  refine AW.ghost (Gh.mapM 3 kP vI) ?_
  refine AW.ghost (Gh.mapM 4 kP vI) ?_
  refine AW.ghost (Gh.adoptC 5 3 36 14 rfl) ?_
  refine AW.region ?_
  refine AO.c ?_
  refine AO.callE (α := Nat) (av := fun _ => .tup []) (H2 := fun y => Hn n0 (([some (.box 28 [.v (.slice none 0 0), .v (.int .i64 (0)), .v (.int .i64 (0)), .v (.slice none 0 0)]), some (.box 62 (tabA ⟨dropF l l.length, dI l l.length⟩)), some (.map (((secI l l.length).pcs).map (mE kP vP))), some (.map (((secI l l.length).bg).map (mE kP vI))), some (.map ((([] : List ((Int × Int) × Int))).map (mE kP vI))), some (.box 69 [.rd 5 (l.map objA), .rd 1 ((dropF l l.length).map drA), .rd 3 ((dI l l.length).map defA), .own (n0 + 6) ((secI l l.length).nodes.length) 0 ((secI l l.length).nodes).length, .omap (n0 + 2), .omap (n0 + 3), .omap (n0 + 4)]), some (.row 36 14 ((secI l l.length).nodes.length) (((secI l l.length).nodes).map nodeA))] ++ List.replicate y none) ++ [])) (p := fun _ => True) Try.func11 rfl rfl (AC.cong (graph_sections n0 (some (.box 28 [.v (.slice none 0 0), .v (.int .i64 (0)), .v (.int .i64 (0)), .v (.slice none 0 0)])) (some (.box 62 (tabA ⟨dropF l l.length, dI l l.length⟩))) l ((dI l l.length).map defA) hGW 0) (by simp) (fun r H' h => by
   obtain ⟨x, q1, q2⟩ := h
   exact ⟨x, q1, q2.trans (by rfl), trivial⟩)) ?_
  intro x1 _
  refine AO.nil ?_
  refine SQ.normal ?_
  refine AW.seq' ?_
  refine AW.region ?_
  refine AO.c ?_
  refine AO.callE (α := Nat) (av := fun _ => .tup []) (H2 := fun y => Hn n0 (([some (.box 28 [.v (.slice none 0 0), .v (.int .i64 (0)), .v (.int .i64 (0)), .v (.slice none 0 0)]), some (.box 62 (tabA ⟨dropF l l.length, dI l l.length⟩)), some (.map (((secI l l.length).pcs).map (mE kP vP))), some (.map (((secI l l.length).bg).map (mE kP vI))), some (.map (((uqI l l.length)).map (mE kP vI))), some (.box 69 [.rd 5 (l.map objA), .rd 1 ((dropF l l.length).map drA), .rd 3 ((dI l l.length).map defA), .own (n0 + 6) ((ndA l).length) 0 ((ndA l)).length, .omap (n0 + 2), .omap (n0 + 3), .omap (n0 + 4)]), some (.row 36 14 ((ndA l).length) ((edT l (0)).map nodeA))] ++ List.replicate y none) ++ [])) (p := fun _ => True) Try.func12 rfl rfl (AC.cong (graph_marks n0 (some (.box 28 [.v (.slice none 0 0), .v (.int .i64 (0)), .v (.int .i64 (0)), .v (.slice none 0 0)])) (some (.box 62 (tabA ⟨dropF l l.length, dI l l.length⟩))) l hk hw (secI l l.length).nodes (secI l l.length).pcs (secI l l.length).bg (secI l l.length).nodes.length (by omega) (nodes_flags hGW) x1) (by rfl) (fun r H' h => by
   obtain ⟨x, q1, q2⟩ := h
   exact ⟨x, q1, q2.trans (by rw [hnd.2, edT_zero]; rfl), trivial⟩)) ?_
  intro x2 _
  refine AO.nil ?_
  refine SQ.normal ?_
  refine AW.seq' ?_
  refine AW.seq' ?_
  refine AW.region ?_
  iterate 6 refine AO.c ?_
  refine AO.nil ?_
  refine SQ.normal ?_
  refine AW.block' ?_
  refine AW.loopU2 [.f, .k, .f, .f, .k, .f, .f, .f, .k, .F, .F, .F, .f, .f, .f, .f, .k, .k, .k, .F, .F, .F, .F, .F, .F, .f, .f] (fun (i j : Nat) => [(39, .v (.int .i64 ((i : Int))))]) (fun i j => Hn n0 (([some (.box 28 [.v (.slice none 0 0), .v (.int .i64 (0)), .v (.int .i64 (0)), .v (.slice none 0 0)]), some (.box 62 (tabA ⟨dropF l l.length, dI l l.length⟩)), some (.map (((secI l l.length).pcs).map (mE kP vP))), some (.map (((secI l l.length).bg).map (mE kP vI))), some (.map (((uqI l l.length)).map (mE kP vI))), some (.box 69 [.rd 5 (l.map objA), .rd 1 ((dropF l l.length).map drA), .rd 3 ((dI l l.length).map defA), .own (n0 + 6) ((ndA l).length) 0 ((ndA l)).length, .omap (n0 + 2), .omap (n0 + 3), .omap (n0 + 4)]), some (.row 36 14 ((ndA l).length) ((edT l (i)).map nodeA))] ++ List.replicate j none) ++ [])) (fun m i j => (i ≤ (ndA l).length ∧ m = (ndA l).length - i) ∧ ∀ q, q < i → (edX l ((ndA l).getD q default)).2 = 0) ((ndA l).length) (0) (x2) ⟨by omega, fun q h => by omega⟩ (by first | rfl | (simp; done)) (by first | rfl | (simp; done)) ?_
  rintro m0 i j ⟨hx1, hx2⟩
  refine AW.seq' ?_
  refine AW.region ?_
  refine AO.c ?_
  refine AO.nil ?_
  refine SQ.normal ?_
  refine AW.seq' ?_
  refine AW.iteB (GL.ev _) (fun h1 => ?_) (fun h1 => ?_)
  ·
   rw [decide_eq_true_eq] at h1
   have hi : i < (ndA l).length := by omega
   have hnr := ndA_rng hGW hrl (getD_in hi)
   have hel := edT_len l i
   refine AW.skip ?_
   refine SQ.normal ?_
   refine AW.seq' ?_
   refine AW.block' ?_
   refine AW.seq' ?_
   refine AW.region ?_
   refine AO.c ?_
   refine AO.oo ?_
   refine AO.ldRN (nodeA ((ndA l).getD i default)) (nodeA ((ndA l).getD i default)) (by first | (rw [Nat.zero_add]; exact edT_at hi) | exact edT_at hi) (by exact (by decide : 0 < 14)) (by exact (by decide : 0 + 14 ≤ 14)) rfl ?_
   refine AO.ww ?_
   refine AO.c ?_
   refine AO.sst ?_
   refine AO.nil ?_
   refine SQ.normal ?_
   refine AW.seq' ?_
   apply AW.midE
   case h =>
    refine AW.drawsZ [7, 13] (.one 5 false (.one 6 false (.pur 0 (.pur 1 (.pur 2 (.pur 4 (.two 3 7 (.one 7 true (.one 8 false (.one 9 false (.one 11 false (.one 12 false (.pur 10 (.one 13 true (.one 14 false .nil)))))))) (.one 3 false (.one 8 false (.one 9 false (.one 11 false (.one 12 false (.pur 10 (.one 13 true (.one 14 false .nil))))))))))))))) (by kernel_rfl) rfl (by kernel_rfl) ?_
    iterate 2 refine AZ.c rfl ?_
    iterate 4 refine AZ.p rfl ?_
    refine AZ.two ?_ ?_
    · refine AZi.c rfl ?_
      refine AZ.callE (α := Nat) (av := fun _ => .tup [.rd 5 ((edX l ((ndA l).getD i default)).1.map edgeA), .v (ifV 57 (edX l ((ndA l).getD i default)).2)]) (H2 := fun y => Hn n0 (([some (.box 28 [.v (.slice none 0 0), .v (.int .i64 (0)), .v (.int .i64 (0)), .v (.slice none 0 0)]), some (.box 62 (tabA ⟨dropF l l.length, dI l l.length⟩)), some (.map (((secI l l.length).pcs).map (mE kP vP))), some (.map (((secI l l.length).bg).map (mE kP vI))), some (.map (((uqI l l.length)).map (mE kP vI))), some (.box 69 [.rd 5 (l.map objA), .rd 1 ((dropF l l.length).map drA), .rd 3 ((dI l l.length).map defA), .own (n0 + 6) ((ndA l).length) 0 ((ndA l)).length, .omap (n0 + 2), .omap (n0 + 3), .omap (n0 + 4)]), some (.row 36 14 ((ndA l).length) ((edT l (i)).map nodeA))] ++ List.replicate j none) ++ ([some (.box 36 (nodeA ((ndA l).getD i default)))] ++ List.replicate y none))) (p := fun _ => True) rfl rfl Try.func13 rfl rfl (AC.cong (graph_edges n0 (some (.box 28 [.v (.slice none 0 0), .v (.int .i64 (0)), .v (.int .i64 (0)), .v (.slice none 0 0)])) (some (.box 62 (tabA ⟨dropF l l.length, dI l l.length⟩))) l hk hw (edT l i) (secI l l.length).pcs (secI l l.length).bg (uqI l l.length) hMG (ndA l).length (List.replicate j none ++ [some (.box 36 (nodeA ((ndA l).getD i default)))]) ((ndA l).getD i default) hnr.1 hnr.2.1 hnr.2.2) (by simp [edT_len]) (fun r H' h => by
       obtain ⟨x, q1, q2⟩ := h
       exact ⟨x, q1, q2.trans (by simp [edT_len]), trivial⟩)) ?_
      intro d1 _
      iterate 2 refine AZ.c rfl ?_
      refine AZ.o rfl (by omega) ?_
      refine AZ.c rfl ?_
      refine AZ.p rfl ?_
      refine AZ.stR ((edT l (i + 1)).map nodeA) rfl rfl (by rw [List.length_map, edT_len]; exact ⟨by omega, by decide⟩) ?_ ?_
      · rw [Nat.zero_add, Int.toNat_natCast]; exact edT_row hi
      refine AZ.c rfl ?_
      exact AZ.done ⟨rfl, d1, rfl⟩
    · refine AZi.callE (α := Nat) (av := fun _ => .tup [.rd 5 ((edX l ((ndA l).getD i default)).1.map edgeA), .v (ifV 57 (edX l ((ndA l).getD i default)).2)]) (H2 := fun y => Hn n0 (([some (.box 28 [.v (.slice none 0 0), .v (.int .i64 (0)), .v (.int .i64 (0)), .v (.slice none 0 0)]), some (.box 62 (tabA ⟨dropF l l.length, dI l l.length⟩)), some (.map (((secI l l.length).pcs).map (mE kP vP))), some (.map (((secI l l.length).bg).map (mE kP vI))), some (.map (((uqI l l.length)).map (mE kP vI))), some (.box 69 [.rd 5 (l.map objA), .rd 1 ((dropF l l.length).map drA), .rd 3 ((dI l l.length).map defA), .own (n0 + 6) ((ndA l).length) 0 ((ndA l)).length, .omap (n0 + 2), .omap (n0 + 3), .omap (n0 + 4)]), some (.row 36 14 ((ndA l).length) ((edT l (i)).map nodeA))] ++ List.replicate j none) ++ ([some (.box 36 (nodeA ((ndA l).getD i default)))] ++ List.replicate y none))) (p := fun _ => True) rfl rfl Try.func13 rfl rfl (AC.cong (graph_edges n0 (some (.box 28 [.v (.slice none 0 0), .v (.int .i64 (0)), .v (.int .i64 (0)), .v (.slice none 0 0)])) (some (.box 62 (tabA ⟨dropF l l.length, dI l l.length⟩))) l hk hw (edT l i) (secI l l.length).pcs (secI l l.length).bg (uqI l l.length) hMG (ndA l).length (List.replicate j none ++ [some (.box 36 (nodeA ((ndA l).getD i default)))]) ((ndA l).getD i default) hnr.1 hnr.2.1 hnr.2.2) (by simp [edT_len]) (fun r H' h => by
       obtain ⟨x, q1, q2⟩ := h
       exact ⟨x, q1, q2.trans (by simp [edT_len]), trivial⟩)) ?_
      intro d1 _
      iterate 3 refine AZ.c rfl ?_
      refine AZ.o rfl (by omega) ?_
      refine AZ.c rfl ?_
      refine AZ.p rfl ?_
      refine AZ.stR ((edT l (i + 1)).map nodeA) rfl rfl (by rw [List.length_map, edT_len]; exact ⟨by omega, by decide⟩) ?_ ?_
      · rw [Nat.zero_add, Int.toNat_natCast]; exact edT_row hi
      refine AZ.c rfl ?_
      exact AZ.done ⟨rfl, d1, rfl⟩
   intro d1
   refine SQ.normal ?_
   refine AW.seq' ?_
   refine AW.region ?_
   iterate 2 refine AO.c ?_
   refine AO.nil ?_
   refine SQ.normal ?_
   refine AW.iteB (GL.ev _) (fun h2 => ?_) (fun h2 => ?_)
   ·
    rw [decide_eq_true_eq] at h2
    have hfe : grE l = (edX l ((ndA l).getD i default)).2 := firE_at (f := fun x => (edX l x).2) hi hx2 h2
    have hg : grF l e = (zGr, (edX l ((ndA l).getD i default)).2) := by unfold grF; rw [if_neg (fun c => c h0), if_pos (by rw [hfe]; exact h2), hfe]
    refine AW.seq' ?_
    refine AW.region ?_
    iterate 2 refine AO.c ?_
    refine AO.sst ?_
    refine AO.c ?_
    refine AO.nil ?_
    refine SQ.normal ?_
    refine AW.ret ?_
    refine BQ.ret <| SQ.ret <| AW.out <| LU.ret <| BQ.ret <| SQ.ret ?_
    refine Fin.ret (Gh.tellC 0 [.rd 14 (([] : List NodeD).map nodeA), .v (.int .i64 (0)), .v (.int .i64 (0)), .rd 3 (([] : List DefD).map defA)]) noid2 ?_
    rw [hg]; rfl
   ·
    rw [decide_eq_false_iff_not, ne_eq, Decidable.not_not] at h2
    have hal : ∀ q, q < i + 1 → (edX l ((ndA l).getD q default)).2 = 0 := fun q hq => by
     by_cases c : q = i
     · rw [c]; exact h2
     · exact hx2 q (by omega)
    refine AW.skip ?_
    refine BQ.normal ?_
    refine SQ.normal ?_
    refine AW.region ?_
    refine AO.oo ?_
    refine AO.c ?_
    refine AO.nil ?_
    exact AW.backE [.f, .k, .f, .f, .k, .f, .f, .f, .k, .F, .F, .F, .f, .f, .f, .f, .k, .k, .k, .F, .F, .F, .F, .F, .F, .f, .f] (j) (m0 - 1) (i + 1, j + (1 + d1)) (by omega) (by (try dsimp only); exact ⟨by omega, hal⟩) (by first | rfl | (simp; done)) ((Hn_repJ (b := j + (1 + d1)) (by first | (simp; done) | (simp; omega))).trans (by (try dsimp only) <;> rfl))
  ·
   rw [decide_eq_false_iff_not] at h1
   have hi : i = (ndA l).length := by omega
   subst hi
   have hz : grE l = 0 := firE_zero (f := fun x => (edX l x).2) hx2
   rw [edT_all]
   refine AW.exit ?_
   refine SQ.exit <| AW.out <| LU.exit <| BQ.exit ?_
   refine SQ.normal ?_
   refine AW.seq' ?_
   apply AW.midF
   case h =>
    refine AW.draws [5, 8] 9 _ (by kernel_rfl) rfl rfl ?_
    refine AY.c 4 rfl (by kernel_rfl) ?_
    refine AY.p 0 rfl (by kernel_rfl) ?_
    refine AY.p 1 rfl (by kernel_rfl) ?_
    refine AY.p 2 rfl (by kernel_rfl) ?_
    refine AY.triZ 3 5 7 (.two 5 7 (.one 6 false (.one 7 true (.one 8 true .nil))) (.one 5 true (.one 6 false (.one 8 true .nil)))) (.one 3 false (.one 6 false (.one 7 true (.one 8 true .nil)))) (.two 3 5 (.one 5 true (.one 6 false (.one 8 true .nil))) (.one 3 false (.one 6 false (.one 8 true .nil)))) [true, true, true, false, true, false, false, false, false] (by kernel_rfl) (by kernel_rfl) (by kernel_rfl) ?_ ?_ ?_
    · refine AZi.c rfl ?_
      refine AZ.two ?_ ?_
      · refine AZi.callE (α := Nat) (av := fun _ => .rd 3 ((grN l).map defA)) (H2 := fun y => Hn n0 ((([some (.box 28 [.v (.slice none 0 0), .v (.int .i64 (0)), .v (.int .i64 (0)), .v (.slice none 0 0)]), some (.box 62 (tabA ⟨dropF l l.length, dI l l.length⟩)), some (.map (((secI l l.length).pcs).map (mE kP vP))), some (.map (((secI l l.length).bg).map (mE kP vI))), some (.map (((uqI l l.length)).map (mE kP vI))), some (.box 69 [.rd 5 (l.map objA), .rd 1 ((dropF l l.length).map drA), .rd 3 ((dI l l.length).map defA), .own (n0 + 6) ((ndA l).length) 0 ((ndA l)).length, .omap (n0 + 2), .omap (n0 + 3), .omap (n0 + 4)]), some (.row 36 14 ((ndA l).length) (((ndA l).map (setE l)).map nodeA))] ++ List.replicate j none) ++ List.replicate y none) ++ [])) (p := fun _ => True) rfl rfl Try.func14 rfl rfl (AC.cong (graph_defined n0 (some (.box 28 [.v (.slice none 0 0), .v (.int .i64 (0)), .v (.int .i64 (0)), .v (.slice none 0 0)])) (some (.box 62 (tabA ⟨dropF l l.length, dI l l.length⟩))) l hk hw ((ndA l).map (setE l)) (secI l l.length).pcs (secI l l.length).bg (uqI l l.length) hMG (ndA l).length (List.replicate j none)) (by simp; done) (fun r H' ⟨x, q1, q2⟩ => ⟨x, q1, q2.trans (by simp; done), trivial⟩)) ?_
        intro d2 _
        refine AZ.c rfl ?_
        refine AZ.mkk rfl ?_
        refine AZ.sst rfl rfl ?_
        refine AZ.ghost (Gh.freezeC (zadd (zadd (zadd (0 + 1 + 1 + 1 + 1 + 1 + 1 + 1) j) d2) 0) 0 (by simp) (by simp; omega)) ?_
        obtain ⟨b2, hb2⟩ : ∃ b2, ([] : List (Option AB)).length = b2 := ⟨_, rfl⟩
        obtain ⟨a2, ha2⟩ : ∃ a2, ([some (.box 62 (tabA ⟨dropF l l.length, dI l l.length⟩)), some (.map (((secI l l.length).pcs).map (mE kP vP))), some (.map (((secI l l.length).bg).map (mE kP vI))), some (.map (((uqI l l.length)).map (mE kP vI))), some (.box 69 [.rd 5 (l.map objA), .rd 1 ((dropF l l.length).map drA), .rd 3 ((dI l l.length).map defA), .own (n0 + 6) ((ndA l).length) 0 ((ndA l)).length, .omap (n0 + 2), .omap (n0 + 3), .omap (n0 + 4)]), none] ++ List.replicate j none ++ List.replicate d2 none : List (Option AB)).length = a2 := ⟨_, rfl⟩
        refine AZ.eq 11 (av' := .box (n0 + zadd (zadd (0 + 1) a2) 0) 0) (by simp [zadd] at ha2 ⊢; omega) ?_
        refine AZ.ghost (Gh.canon (z := some (.box 28 [.v (.slice none 0 0), .v (.int .i64 (0)), .v (.int .i64 (0)), .v (.slice none 0 0)])) (g := some (.box 28 [.rd 14 (((ndA l).map (setE l)).map nodeA), .v (.int .i64 (0)), .v (.int .i64 (0)), .rd 3 ((grN l).map defA)])) ([some (.box 62 (tabA ⟨dropF l l.length, dI l l.length⟩)), some (.map (((secI l l.length).pcs).map (mE kP vP))), some (.map (((secI l l.length).bg).map (mE kP vI))), some (.map (((uqI l l.length)).map (mE kP vI))), some (.box 69 [.rd 5 (l.map objA), .rd 1 ((dropF l l.length).map drA), .rd 3 ((dI l l.length).map defA), .own (n0 + 6) ((ndA l).length) 0 ((ndA l)).length, .omap (n0 + 2), .omap (n0 + 3), .omap (n0 + 4)]), none] ++ List.replicate j none ++ List.replicate d2 none) ([]) (by simp; done) ha2 hb2) ?_
        exact AZ.done ⟨rfl, a2, b2, rfl⟩
      · refine AZi.mkk rfl ?_
        refine AZ.callE (α := Nat) (av := fun _ => .rd 3 ((grN l).map defA)) (H2 := fun y => Hn n0 (((([some (.box 28 [.v (.slice none 0 0), .v (.int .i64 (0)), .v (.int .i64 (0)), .v (.slice none 0 0)]), some (.box 62 (tabA ⟨dropF l l.length, dI l l.length⟩)), some (.map (((secI l l.length).pcs).map (mE kP vP))), some (.map (((secI l l.length).bg).map (mE kP vI))), some (.map (((uqI l l.length)).map (mE kP vI))), some (.box 69 [.rd 5 (l.map objA), .rd 1 ((dropF l l.length).map drA), .rd 3 ((dI l l.length).map defA), .own (n0 + 6) ((ndA l).length) 0 ((ndA l)).length, .omap (n0 + 2), .omap (n0 + 3), .omap (n0 + 4)]), some (.row 36 14 ((ndA l).length) (((ndA l).map (setE l)).map nodeA))] ++ List.replicate j none) ++ [some (.box 28 [.v (.slice none 0 0), .v (.int .i64 (0)), .v (.int .i64 (0)), .v (.slice none 0 0)])]) ++ List.replicate y none) ++ [])) (p := fun _ => True) rfl rfl Try.func14 rfl rfl (AC.cong (graph_defined n0 (some (.box 28 [.v (.slice none 0 0), .v (.int .i64 (0)), .v (.int .i64 (0)), .v (.slice none 0 0)])) (some (.box 62 (tabA ⟨dropF l l.length, dI l l.length⟩))) l hk hw ((ndA l).map (setE l)) (secI l l.length).pcs (secI l l.length).bg (uqI l l.length) hMG (ndA l).length (List.replicate j none ++ [some (.box 28 [.v (.slice none 0 0), .v (.int .i64 (0)), .v (.int .i64 (0)), .v (.slice none 0 0)])])) (by simp; done) (fun r H' ⟨x, q1, q2⟩ => ⟨x, q1, q2.trans (by simp; done), trivial⟩)) ?_
        intro d2 _
        refine AZ.c rfl ?_
        refine AZ.sst rfl rfl ?_
        refine AZ.ghost (Gh.freezeC (zadd (zadd (0 + 1 + 1 + 1 + 1 + 1 + 1 + 1) j) 0) 0 (by simp) (by simp; omega)) ?_
        obtain ⟨b2, hb2⟩ : ∃ b2, (List.replicate d2 none : List (Option AB)).length = b2 := ⟨_, rfl⟩
        obtain ⟨a2, ha2⟩ : ∃ a2, ([some (.box 62 (tabA ⟨dropF l l.length, dI l l.length⟩)), some (.map (((secI l l.length).pcs).map (mE kP vP))), some (.map (((secI l l.length).bg).map (mE kP vI))), some (.map (((uqI l l.length)).map (mE kP vI))), some (.box 69 [.rd 5 (l.map objA), .rd 1 ((dropF l l.length).map drA), .rd 3 ((dI l l.length).map defA), .own (n0 + 6) ((ndA l).length) 0 ((ndA l)).length, .omap (n0 + 2), .omap (n0 + 3), .omap (n0 + 4)]), none] ++ List.replicate j none : List (Option AB)).length = a2 := ⟨_, rfl⟩
        refine AZ.eq 11 (av' := .box (n0 + zadd (zadd (0 + 1) a2) 0) 0) (by simp [zadd] at ha2 ⊢; omega) ?_
        refine AZ.ghost (Gh.canon (z := some (.box 28 [.v (.slice none 0 0), .v (.int .i64 (0)), .v (.int .i64 (0)), .v (.slice none 0 0)])) (g := some (.box 28 [.rd 14 (((ndA l).map (setE l)).map nodeA), .v (.int .i64 (0)), .v (.int .i64 (0)), .rd 3 ((grN l).map defA)])) ([some (.box 62 (tabA ⟨dropF l l.length, dI l l.length⟩)), some (.map (((secI l l.length).pcs).map (mE kP vP))), some (.map (((secI l l.length).bg).map (mE kP vI))), some (.map (((uqI l l.length)).map (mE kP vI))), some (.box 69 [.rd 5 (l.map objA), .rd 1 ((dropF l l.length).map drA), .rd 3 ((dI l l.length).map defA), .own (n0 + 6) ((ndA l).length) 0 ((ndA l)).length, .omap (n0 + 2), .omap (n0 + 3), .omap (n0 + 4)]), none] ++ List.replicate j none) (List.replicate d2 none) (by simp; done) ha2 hb2) ?_
        exact AZ.done ⟨rfl, a2, b2, rfl⟩
    · refine AZi.callE (α := Nat) (av := fun _ => .rd 3 ((grN l).map defA)) (H2 := fun y => Hn n0 ((([some (.box 28 [.v (.slice none 0 0), .v (.int .i64 (0)), .v (.int .i64 (0)), .v (.slice none 0 0)]), some (.box 62 (tabA ⟨dropF l l.length, dI l l.length⟩)), some (.map (((secI l l.length).pcs).map (mE kP vP))), some (.map (((secI l l.length).bg).map (mE kP vI))), some (.map (((uqI l l.length)).map (mE kP vI))), some (.box 69 [.rd 5 (l.map objA), .rd 1 ((dropF l l.length).map drA), .rd 3 ((dI l l.length).map defA), .own (n0 + 6) ((ndA l).length) 0 ((ndA l)).length, .omap (n0 + 2), .omap (n0 + 3), .omap (n0 + 4)]), some (.row 36 14 ((ndA l).length) (((ndA l).map (setE l)).map nodeA))] ++ List.replicate j none) ++ List.replicate y none) ++ [])) (p := fun _ => True) rfl rfl Try.func14 rfl rfl (AC.cong (graph_defined n0 (some (.box 28 [.v (.slice none 0 0), .v (.int .i64 (0)), .v (.int .i64 (0)), .v (.slice none 0 0)])) (some (.box 62 (tabA ⟨dropF l l.length, dI l l.length⟩))) l hk hw ((ndA l).map (setE l)) (secI l l.length).pcs (secI l l.length).bg (uqI l l.length) hMG (ndA l).length (List.replicate j none)) (by simp; done) (fun r H' ⟨x, q1, q2⟩ => ⟨x, q1, q2.trans (by simp; done), trivial⟩)) ?_
      intro d2 _
      iterate 2 refine AZ.c rfl ?_
      refine AZ.mkk rfl ?_
      refine AZ.sst rfl rfl ?_
      refine AZ.ghost (Gh.freezeC (zadd (zadd (zadd (0 + 1 + 1 + 1 + 1 + 1 + 1 + 1) j) d2) 0) 0 (by simp) (by simp; omega)) ?_
      obtain ⟨b2, hb2⟩ : ∃ b2, ([] : List (Option AB)).length = b2 := ⟨_, rfl⟩
      obtain ⟨a2, ha2⟩ : ∃ a2, ([some (.box 62 (tabA ⟨dropF l l.length, dI l l.length⟩)), some (.map (((secI l l.length).pcs).map (mE kP vP))), some (.map (((secI l l.length).bg).map (mE kP vI))), some (.map (((uqI l l.length)).map (mE kP vI))), some (.box 69 [.rd 5 (l.map objA), .rd 1 ((dropF l l.length).map drA), .rd 3 ((dI l l.length).map defA), .own (n0 + 6) ((ndA l).length) 0 ((ndA l)).length, .omap (n0 + 2), .omap (n0 + 3), .omap (n0 + 4)]), none] ++ List.replicate j none ++ List.replicate d2 none : List (Option AB)).length = a2 := ⟨_, rfl⟩
      refine AZ.eq 11 (av' := .box (n0 + zadd (zadd (0 + 1) a2) 0) 0) (by simp [zadd] at ha2 ⊢; omega) ?_
      refine AZ.ghost (Gh.canon (z := some (.box 28 [.v (.slice none 0 0), .v (.int .i64 (0)), .v (.int .i64 (0)), .v (.slice none 0 0)])) (g := some (.box 28 [.rd 14 (((ndA l).map (setE l)).map nodeA), .v (.int .i64 (0)), .v (.int .i64 (0)), .rd 3 ((grN l).map defA)])) ([some (.box 62 (tabA ⟨dropF l l.length, dI l l.length⟩)), some (.map (((secI l l.length).pcs).map (mE kP vP))), some (.map (((secI l l.length).bg).map (mE kP vI))), some (.map (((uqI l l.length)).map (mE kP vI))), some (.box 69 [.rd 5 (l.map objA), .rd 1 ((dropF l l.length).map drA), .rd 3 ((dI l l.length).map defA), .own (n0 + 6) ((ndA l).length) 0 ((ndA l)).length, .omap (n0 + 2), .omap (n0 + 3), .omap (n0 + 4)]), none] ++ List.replicate j none ++ List.replicate d2 none) ([]) (by simp; done) ha2 hb2) ?_
      exact AZ.done ⟨rfl, a2, b2, rfl⟩
    · refine AZi.mkk rfl ?_
      refine AZ.two ?_ ?_
      · refine AZi.c rfl ?_
        refine AZ.callE (α := Nat) (av := fun _ => .rd 3 ((grN l).map defA)) (H2 := fun y => Hn n0 (((([some (.box 28 [.v (.slice none 0 0), .v (.int .i64 (0)), .v (.int .i64 (0)), .v (.slice none 0 0)]), some (.box 62 (tabA ⟨dropF l l.length, dI l l.length⟩)), some (.map (((secI l l.length).pcs).map (mE kP vP))), some (.map (((secI l l.length).bg).map (mE kP vI))), some (.map (((uqI l l.length)).map (mE kP vI))), some (.box 69 [.rd 5 (l.map objA), .rd 1 ((dropF l l.length).map drA), .rd 3 ((dI l l.length).map defA), .own (n0 + 6) ((ndA l).length) 0 ((ndA l)).length, .omap (n0 + 2), .omap (n0 + 3), .omap (n0 + 4)]), some (.row 36 14 ((ndA l).length) (((ndA l).map (setE l)).map nodeA))] ++ List.replicate j none) ++ [some (.box 28 [.v (.slice none 0 0), .v (.int .i64 (0)), .v (.int .i64 (0)), .v (.slice none 0 0)])]) ++ List.replicate y none) ++ [])) (p := fun _ => True) rfl rfl Try.func14 rfl rfl (AC.cong (graph_defined n0 (some (.box 28 [.v (.slice none 0 0), .v (.int .i64 (0)), .v (.int .i64 (0)), .v (.slice none 0 0)])) (some (.box 62 (tabA ⟨dropF l l.length, dI l l.length⟩))) l hk hw ((ndA l).map (setE l)) (secI l l.length).pcs (secI l l.length).bg (uqI l l.length) hMG (ndA l).length (List.replicate j none ++ [some (.box 28 [.v (.slice none 0 0), .v (.int .i64 (0)), .v (.int .i64 (0)), .v (.slice none 0 0)])])) (by simp; done) (fun r H' ⟨x, q1, q2⟩ => ⟨x, q1, q2.trans (by simp; done), trivial⟩)) ?_
        intro d2 _
        refine AZ.c rfl ?_
        refine AZ.sst rfl rfl ?_
        refine AZ.ghost (Gh.freezeC (zadd (zadd (0 + 1 + 1 + 1 + 1 + 1 + 1 + 1) j) 0) 0 (by simp) (by simp; omega)) ?_
        obtain ⟨b2, hb2⟩ : ∃ b2, (List.replicate d2 none : List (Option AB)).length = b2 := ⟨_, rfl⟩
        obtain ⟨a2, ha2⟩ : ∃ a2, ([some (.box 62 (tabA ⟨dropF l l.length, dI l l.length⟩)), some (.map (((secI l l.length).pcs).map (mE kP vP))), some (.map (((secI l l.length).bg).map (mE kP vI))), some (.map (((uqI l l.length)).map (mE kP vI))), some (.box 69 [.rd 5 (l.map objA), .rd 1 ((dropF l l.length).map drA), .rd 3 ((dI l l.length).map defA), .own (n0 + 6) ((ndA l).length) 0 ((ndA l)).length, .omap (n0 + 2), .omap (n0 + 3), .omap (n0 + 4)]), none] ++ List.replicate j none : List (Option AB)).length = a2 := ⟨_, rfl⟩
        refine AZ.eq 11 (av' := .box (n0 + zadd (zadd (0 + 1) a2) 0) 0) (by simp [zadd] at ha2 ⊢; omega) ?_
        refine AZ.ghost (Gh.canon (z := some (.box 28 [.v (.slice none 0 0), .v (.int .i64 (0)), .v (.int .i64 (0)), .v (.slice none 0 0)])) (g := some (.box 28 [.rd 14 (((ndA l).map (setE l)).map nodeA), .v (.int .i64 (0)), .v (.int .i64 (0)), .rd 3 ((grN l).map defA)])) ([some (.box 62 (tabA ⟨dropF l l.length, dI l l.length⟩)), some (.map (((secI l l.length).pcs).map (mE kP vP))), some (.map (((secI l l.length).bg).map (mE kP vI))), some (.map (((uqI l l.length)).map (mE kP vI))), some (.box 69 [.rd 5 (l.map objA), .rd 1 ((dropF l l.length).map drA), .rd 3 ((dI l l.length).map defA), .own (n0 + 6) ((ndA l).length) 0 ((ndA l)).length, .omap (n0 + 2), .omap (n0 + 3), .omap (n0 + 4)]), none] ++ List.replicate j none) (List.replicate d2 none) (by simp; done) ha2 hb2) ?_
        exact AZ.done ⟨rfl, a2, b2, rfl⟩
      · refine AZi.callE (α := Nat) (av := fun _ => .rd 3 ((grN l).map defA)) (H2 := fun y => Hn n0 (((([some (.box 28 [.v (.slice none 0 0), .v (.int .i64 (0)), .v (.int .i64 (0)), .v (.slice none 0 0)]), some (.box 62 (tabA ⟨dropF l l.length, dI l l.length⟩)), some (.map (((secI l l.length).pcs).map (mE kP vP))), some (.map (((secI l l.length).bg).map (mE kP vI))), some (.map (((uqI l l.length)).map (mE kP vI))), some (.box 69 [.rd 5 (l.map objA), .rd 1 ((dropF l l.length).map drA), .rd 3 ((dI l l.length).map defA), .own (n0 + 6) ((ndA l).length) 0 ((ndA l)).length, .omap (n0 + 2), .omap (n0 + 3), .omap (n0 + 4)]), some (.row 36 14 ((ndA l).length) (((ndA l).map (setE l)).map nodeA))] ++ List.replicate j none) ++ [some (.box 28 [.v (.slice none 0 0), .v (.int .i64 (0)), .v (.int .i64 (0)), .v (.slice none 0 0)])]) ++ List.replicate y none) ++ [])) (p := fun _ => True) rfl rfl Try.func14 rfl rfl (AC.cong (graph_defined n0 (some (.box 28 [.v (.slice none 0 0), .v (.int .i64 (0)), .v (.int .i64 (0)), .v (.slice none 0 0)])) (some (.box 62 (tabA ⟨dropF l l.length, dI l l.length⟩))) l hk hw ((ndA l).map (setE l)) (secI l l.length).pcs (secI l l.length).bg (uqI l l.length) hMG (ndA l).length (List.replicate j none ++ [some (.box 28 [.v (.slice none 0 0), .v (.int .i64 (0)), .v (.int .i64 (0)), .v (.slice none 0 0)])])) (by simp; done) (fun r H' ⟨x, q1, q2⟩ => ⟨x, q1, q2.trans (by simp; done), trivial⟩)) ?_
        intro d2 _
        iterate 2 refine AZ.c rfl ?_
        refine AZ.sst rfl rfl ?_
        refine AZ.ghost (Gh.freezeC (zadd (zadd (0 + 1 + 1 + 1 + 1 + 1 + 1 + 1) j) 0) 0 (by simp) (by simp; omega)) ?_
        obtain ⟨b2, hb2⟩ : ∃ b2, (List.replicate d2 none : List (Option AB)).length = b2 := ⟨_, rfl⟩
        obtain ⟨a2, ha2⟩ : ∃ a2, ([some (.box 62 (tabA ⟨dropF l l.length, dI l l.length⟩)), some (.map (((secI l l.length).pcs).map (mE kP vP))), some (.map (((secI l l.length).bg).map (mE kP vI))), some (.map (((uqI l l.length)).map (mE kP vI))), some (.box 69 [.rd 5 (l.map objA), .rd 1 ((dropF l l.length).map drA), .rd 3 ((dI l l.length).map defA), .own (n0 + 6) ((ndA l).length) 0 ((ndA l)).length, .omap (n0 + 2), .omap (n0 + 3), .omap (n0 + 4)]), none] ++ List.replicate j none : List (Option AB)).length = a2 := ⟨_, rfl⟩
        refine AZ.eq 11 (av' := .box (n0 + zadd (zadd (0 + 1) a2) 0) 0) (by simp [zadd] at ha2 ⊢; omega) ?_
        refine AZ.ghost (Gh.canon (z := some (.box 28 [.v (.slice none 0 0), .v (.int .i64 (0)), .v (.int .i64 (0)), .v (.slice none 0 0)])) (g := some (.box 28 [.rd 14 (((ndA l).map (setE l)).map nodeA), .v (.int .i64 (0)), .v (.int .i64 (0)), .rd 3 ((grN l).map defA)])) ([some (.box 62 (tabA ⟨dropF l l.length, dI l l.length⟩)), some (.map (((secI l l.length).pcs).map (mE kP vP))), some (.map (((secI l l.length).bg).map (mE kP vI))), some (.map (((uqI l l.length)).map (mE kP vI))), some (.box 69 [.rd 5 (l.map objA), .rd 1 ((dropF l l.length).map drA), .rd 3 ((dI l l.length).map defA), .own (n0 + 6) ((ndA l).length) 0 ((ndA l)).length, .omap (n0 + 2), .omap (n0 + 3), .omap (n0 + 4)]), none] ++ List.replicate j none) (List.replicate d2 none) (by simp; done) ha2 hb2) ?_
        exact AZ.done ⟨rfl, a2, b2, rfl⟩
   intro a2 b2
   refine SQ.normal ?_
   refine AW.seq' ?_
   refine AW.seq' ?_
   refine AW.region ?_
   iterate 4 refine AO.c ?_
   refine AO.nil ?_
   refine SQ.normal ?_
   refine AW.block' ?_
   refine AW.loopU2 [.f, .k, .f, .f, .k, .f, .f, .f, .f, .f, .f, .k, .F, .F, .F, .F, .F, .F, .F, .f, .f, .k, .k, .k, .F, .F, .f] (fun (k j5 : Nat) => [(72, .v (.int .i64 ((k : Int))))]) (fun k j5 => Hn n0 (((([some (.box 28 [.v (.slice none 0 0), .v (.int .i64 (0)), .v (.int .i64 (0)), .v (.slice none 0 0)])] ++ List.replicate a2 none) ++ [some (.box 28 [.rd 14 (((ndA l).map (setE l)).map nodeA), .v (.int .i64 (0)), .v (.int .i64 (0)), .rd 3 ((grN l).map defA)])]) ++ List.replicate j5 none) ++ [])) (fun m k j5 => (k ≤ (grN l).length ∧ m = (grN l).length - k) ∧ ∀ q, q < k → ((grN l).getD q default).name ≠ e) ((grN l).length) (0) (b2) ⟨by omega, fun q h => by omega⟩ (by first | rfl | (simp; done)) (by simp) ?_
   rintro m1 k j5 ⟨hy1, hy2⟩
   refine AW.seq' ?_
   refine AW.region ?_
   refine AO.c ?_
   refine AO.nil ?_
   refine SQ.normal ?_
   refine AW.seq' ?_
   refine AW.iteB (GL.ev _) (fun h3 => ?_) (fun h3 => ?_)
   ·
    rw [decide_eq_true_eq] at h3
    have hkn : k < (grN l).length := by omega
    refine AW.skip ?_
    refine SQ.normal ?_
    refine AW.seq' ?_
    refine AW.block' ?_
    refine AW.seq' ?_
    refine AW.region ?_
    refine AO.oo ?_
    refine AO.c ?_
    refine AO.ww ?_
    refine AO.sst ?_
    refine AO.nil ?_
    refine SQ.normal ?_
    refine AW.seq' ?_
    refine AW.region ?_
    iterate 4 refine AO.c ?_
    refine AO.nil ?_
    refine SQ.normal ?_
    refine AW.iteB (GL.ev _) (fun h4 => ?_) (fun h4 => ?_)
    ·
     rw [decide_eq_true_eq, ba_eq] at h4
     have hg := grF_yes h0 hz hkn hy2 h4
     refine AW.seq' ?_
     apply AW.mid
     case h =>
      refine AW.drawsZ [5, 7] (.one 0 false (.one 1 false (.one 4 false (.pur 2 (.two 3 5 (.one 5 true (.one 6 false (.one 7 true .nil))) (.one 3 false (.one 6 false (.one 7 true .nil)))))))) (by kernel_rfl) rfl (by kernel_rfl) ?_
      iterate 3 refine AZ.c rfl ?_
      refine AZ.p rfl ?_
      refine AZ.two ?_ ?_
      · refine AZi.c rfl ?_
        refine AZ.sst rfl rfl ?_
        refine AZ.c rfl ?_
        refine AZ.sst rfl rfl ?_
        exact AZ.done ⟨rfl, rfl⟩
      · refine AZi.sst rfl rfl ?_
        iterate 2 refine AZ.c rfl ?_
        refine AZ.sst rfl rfl ?_
        exact AZ.done ⟨rfl, rfl⟩
     refine SQ.normal ?_
     refine AW.seq' ?_
     refine AW.region ?_
     refine AO.c ?_
     refine AO.sst ?_
     refine AO.c ?_
     refine AO.nil ?_
     refine SQ.normal ?_
     refine AW.ret ?_
     refine BQ.ret <| SQ.ret <| AW.out <| LU.ret <| BQ.ret <| SQ.ret ?_
     refine Fin.ret (Gh.refl) noid2 ?_
     rw [hg]; rfl
    ·
     rw [decide_eq_false_iff_not, ba_eq] at h4
     have hal2 : ∀ q, q < k + 1 → ((grN l).getD q default).name ≠ e := fun q hq => by
      by_cases c : q = k
      · rw [c]; exact h4
      · exact hy2 q (by omega)
     refine AW.skip ?_
     refine BQ.normal ?_
     refine SQ.normal ?_
     refine AW.region ?_
     refine AO.oo ?_
     refine AO.c ?_
     refine AO.nil ?_
     exact AW.backE [.f, .k, .f, .f, .k, .f, .f, .f, .f, .f, .f, .k, .F, .F, .F, .F, .F, .F, .F, .f, .f, .k, .k, .k, .F, .F, .f] (j5) (m1 - 1) (k + 1, j5 + 1) (by omega) (by (try dsimp only); exact ⟨by omega, hal2⟩) (by first | rfl | (simp; done)) (by first | rfl | (simp; done))
   ·
    rw [decide_eq_false_iff_not] at h3
    have hkn : k = (grN l).length := by omega
    subst hkn
    have hg := grF_no h0 hz hy2
    refine AW.exit ?_
    refine SQ.exit <| AW.out <| LU.exit <| BQ.exit ?_
    refine SQ.normal ?_
    refine AW.seq' ?_
    refine AW.region ?_
    iterate 2 refine AO.c ?_
    refine AO.sst ?_
    refine AO.c ?_
    refine AO.nil ?_
    refine SQ.normal ?_
    refine AW.ret ?_
    refine Fin.ret (Gh.tellC 0 [.rd 14 (([] : List NodeD).map nodeA), .v (.int .i64 (0)), .v (.int .i64 (0)), .rd 3 (([] : List DefD).map defA)]) noid2 ?_
    rw [hg]; rfl
end Go.Proofs.Ytiomdnmicagdcaa.AL
namespace Go.Proofs.Ytiomdnmicagdcaa.AL
open Go Go.RowKit Go.Proofs.Ytiomdnmicagdcaa.Base
set_option linter.unusedVariables false
set_option linter.unusedSimpArgs false
set_option maxRecDepth 4000
set_option synthInstance.maxSize 1000
set_option synthInstance.maxHeartbeats 200000
def sX (l : List ObjD) (x : NodeD) : SecD := (l.getD x.obj.toNat default).secs.getD (x.sec - 1).toNat default
theorem sX_nd (l : List ObjD) (i k : Nat) (s : SecD) (g : Int) (p : Int × Int) : sX l (secNd (i : Int) ((k : Int) + 1) s g p) = (l.getD i default).secs.getD k default := by
 unfold sX
 show (l.getD ((i : Int)).toNat default).secs.getD ((k : Int) + 1 - 1).toNat default = _
 rw [Int.toNat_natCast, show ((k : Int) + 1 - 1).toNat = k by omega]
theorem piece_in {s : SecD} (hk : kindB s = true) {q : Nat} (hq : q < (splitB s).length) : ((splitB s).getD q default).1 = tot ((splitB s).take q) ∧ 0 ≤ ((splitB s).getD q default).1 ∧ 0 ≤ ((splitB s).getD q default).2 ∧ ((splitB s).getD q default).1 + ((splitB s).getD q default).2 ≤ s.size := by
 have K := kind_facts hk
 have e := split_same K
 have ht := split_tot K
 rw [← e] at ht
 have hc : Cont 0 (splitB s) := by
  rw [e]
  unfold splitRB
  split
  · exact ⟨rfl, K.sz.1, trivial⟩
  · exact (splitR_cont (str := hasF s.flags 32) (e := s.ent) s.data 0 0 (Int.le_refl _)).1
 have h := cont_at (splitB s) 0 q hc hq
 have h2 : 0 ≤ tot ((splitB s).take q) := by
  have hc2 : ∀ (l : List (Int × Int)) (a : Int) (q : Nat), Cont a l → 0 ≤ tot (l.take q) := by
   intro l
   induction l with
   | nil => intro a q _; simp [tot]
   | cons p l ih =>
    intro a q hc
    cases q with
    | zero => simp [tot]
    | succ q =>
     rw [List.take_succ_cons, tot_cons]
     have := ih _ q hc.2.2
     have := hc.2.1
     omega
  exact hc2 _ 0 q hc
 omega
theorem splitR_pos {str : Bool} {e : Int} : ∀ (l : List Int) (a i : Int), a ≤ i → ∀ p ∈ splitR str e a i l, 0 < p.2 := by
 intro l
 induction l with
 | nil => intro a i _ p hp; cases hp
 | cons x l ih =>
  intro a i h p hp
  rw [splitR] at hp
  by_cases hq : (if str = true then x = 0 else i + 1 - a = e)
  · rw [if_pos hq] at hp
    rcases List.mem_cons.1 hp with rfl | hp
    · show 0 < i + 1 - a; omega
    · exact ih _ _ (Int.le_refl _) p hp
  · rw [if_neg hq] at hp
    exact ih _ _ (by omega) p hp
theorem piece_two {s : SecD} (hk : kindB s = true) (h : 1 < (splitB s).length) : ∀ p ∈ splitB s, 0 < p.2 := by
 have K := kind_facts hk
 rw [split_same K] at h ⊢
 unfold splitRB at h ⊢
 split
 · rename_i hf; rw [if_pos hf] at h; exact absurd h (by show ¬ 1 < 1; omega)
 · exact splitR_pos _ _ _ (Int.le_refl _)
structure Good (l : List ObjD) (N : List NodeD) : Prop where
 head : ∀ x, N[0]? = some x → x.pos = 0
 last : ∀ i x, N[i]? = some x → i + 1 = N.length → x.pos + x.size = (sX l x).size
 adj : ∀ (i : Nat) (x y : NodeD), N[i]? = some x → N[i + 1]? = some y → ((x.obj = y.obj ∧ x.sec = y.sec) ∧ y.pos = x.pos + x.size ∧ 0 < y.pos ∧ x.pos + x.size ≠ (sX l x).size) ∨ (¬ (x.obj = y.obj ∧ x.sec = y.sec) ∧ x.pos + x.size = (sX l x).size ∧ y.pos = 0)
theorem good_nil (l : List ObjD) : Good l [] := ⟨fun x h => by simp at h, fun i x h => by simp at h, fun i x y h => by simp at h⟩
theorem good_app {l : List ObjD} {N M : List NodeD} (hN : Good l N) (hM : Good l M) (hd : ∀ x ∈ N, ∀ y ∈ M, ¬ (x.obj = y.obj ∧ x.sec = y.sec)) : Good l (N ++ M) := by
 by_cases h0 : N = []
 · subst h0; simpa using hM
 by_cases h1 : M = []
 · subst h1; simpa using hN
 have hN0 : 0 < N.length := List.length_pos_iff.2 h0
 have hM0 : 0 < M.length := List.length_pos_iff.2 h1
 refine ⟨fun x hx => ?_, fun i x hx hi => ?_, fun i x y hx hy => ?_⟩
 · rw [List.getElem?_append_left hN0] at hx; exact hN.head x hx
 · rw [List.length_append] at hi
   rw [List.getElem?_append_right (by omega)] at hx
   exact hM.last _ x hx (by omega)
 · by_cases c1 : i + 1 < N.length
   · rw [List.getElem?_append_left (by omega)] at hx
     rw [List.getElem?_append_left c1] at hy
     exact hN.adj i x y hx hy
   · by_cases c2 : i < N.length
     · have hi : i + 1 = N.length := by omega
       rw [List.getElem?_append_left c2] at hx
       rw [List.getElem?_append_right (by omega), show i + 1 - N.length = 0 by omega] at hy
       exact .inr ⟨hd x (List.mem_of_getElem? hx) y (List.mem_of_getElem? hy), hN.last i x hx hi, hM.head y hy⟩
     · rw [List.getElem?_append_right (by omega)] at hx
       rw [List.getElem?_append_right (by omega), show i + 1 - N.length = (i - N.length) + 1 by omega] at hy
       exact hM.adj _ x y hx hy
theorem nd_get {o n g : Int} {s : SecD} {q : Nat} {x : NodeD} (h : ((splitB s).map (secNd o n s g))[q]? = some x) : q < (splitB s).length ∧ x = secNd o n s g ((splitB s).getD q default) := by
 rw [List.getElem?_map] at h
 cases hq : (splitB s)[q]? with
 | none => rw [hq] at h; cases h
 | some p =>
  rw [hq] at h
  refine ⟨(List.getElem?_eq_some_iff.1 hq).1, ?_⟩
  rw [List.getD_eq_getElem?_getD, hq]
  exact (Option.some.inj h).symm
theorem good_block {l : List ObjD} {i k : Nat} {g : Int} (hk : kindB ((l.getD i default).secs.getD k default) = true) : Good l ((splitB ((l.getD i default).secs.getD k default)).map (secNd (i : Int) ((k : Int) + 1) ((l.getD i default).secs.getD k default) g)) := by
 generalize hs : (l.getD i default).secs.getD k default = s at hk
 have hsx : ∀ p, sX l (secNd (i : Int) ((k : Int) + 1) s g p) = s := fun p => (sX_nd l i k s g p).trans hs
 have ht : tot (splitB s) = s.size := by rw [split_same (kind_facts hk)]; exact split_tot (kind_facts hk)
 refine ⟨fun x hx => ?_, fun q x hx hq => ?_, fun q x y hx hy => ?_⟩
 · obtain ⟨h1, rfl⟩ := nd_get hx
   have := (piece_in hk h1).1
   show ((splitB s).getD 0 default).1 = 0
   rw [this]; simp [tot]
 · obtain ⟨h1, rfl⟩ := nd_get hx
   rw [hsx]
   rw [List.length_map] at hq
   have h2 := (piece_in hk h1).1
   have h3 := tot_take h1
   rw [List.take_of_length_le (by omega), ht] at h3
   show ((splitB s).getD q default).1 + ((splitB s).getD q default).2 = s.size
   omega
 · obtain ⟨h1, rfl⟩ := nd_get hx
   obtain ⟨h2, rfl⟩ := nd_get hy
   rw [hsx]
   have a1 := piece_in hk h1
   have a2 := piece_in hk h2
   have a3 := tot_take h1
   have p1 := piece_two hk (by omega) _ (getD_in h1)
   have p2 := piece_two hk (by omega) _ (getD_in h2)
   refine .inl ⟨⟨rfl, rfl⟩, ?_, ?_, ?_⟩
   · show ((splitB s).getD (q + 1) default).1 = ((splitB s).getD q default).1 + ((splitB s).getD q default).2
     omega
   · show 0 < ((splitB s).getD (q + 1) default).1
     omega
   · show ((splitB s).getD q default).1 + ((splitB s).getD q default).2 ≠ s.size
     omega
/-- All nodes are of what was there before. -/
def Below (N : List NodeD) (i k : Nat) : Prop := ∀ x ∈ N, x.obj < i ∨ (x.obj = i ∧ x.sec ≤ k)
theorem secI_good {l : List ObjD} (hm : AllMay l) : ∀ i, i ≤ l.length → Good l (secI l i).nodes ∧ Below (secI l i).nodes i 0 := by
 intro i
 induction i with
 | zero => intro _; exact ⟨good_nil l, fun x hx => by cases hx⟩
 | succ i ih =>
  intro hi
  obtain ⟨g0, b0⟩ := ih (by omega)
  have key : ∀ k, k ≤ (l.getD i default).secs.length → Good l (secK l i (secI l i) k).nodes ∧ Below (secK l i (secI l i) k).nodes i k := by
   intro k
   induction k with
   | zero => intro _; exact ⟨g0, b0⟩
   | succ k ihk =>
    intro hk
    obtain ⟨g1, b1⟩ := ihk (by omega)
    rw [secK]
    split
    · refine ⟨good_app g1 (good_block (sec_kind (may_shape hm (by omega)) (by omega)).1) fun x hx y hy => ?_, fun x hx => ?_⟩
      · obtain ⟨p, _, rfl⟩ := List.mem_map.1 hy
        intro c
        have c1 : x.obj = (i : Int) := c.1
        have c2 : x.sec = (k : Int) + 1 := c.2
        rcases b1 x hx with h | h <;> omega
      · rcases List.mem_append.1 hx with hx | hx
        · rcases b1 x hx with h | h
          · exact .inl h
          · exact .inr ⟨h.1, by omega⟩
        · obtain ⟨p, _, rfl⟩ := List.mem_map.1 hx
          refine .inr ⟨rfl, ?_⟩
          show (k : Int) + 1 ≤ ((k + 1 : Nat) : Int)
          omega
    · exact ⟨g1, fun x hx => by
       rcases b1 x hx with h | h
       · exact .inl h
       · exact .inr ⟨h.1, by omega⟩⟩
  obtain ⟨g2, b2⟩ := key _ (Nat.le_refl _)
  exact ⟨g2, fun x hx => by
   rcases b2 x hx with h | h
   · left; omega
   · left; omega⟩
theorem good_map {l : List ObjD} {N : List NodeD} {f : NodeD → NodeD} (hf : ∀ x, (f x).obj = x.obj ∧ (f x).sec = x.sec ∧ (f x).pos = x.pos ∧ (f x).size = x.size) (h : Good l N) : Good l (N.map f) := by
 have hs : ∀ x, sX l (f x) = sX l x := fun x => by unfold sX; rw [(hf x).1, (hf x).2.1]
 have hg : ∀ {i : Nat} {x : NodeD}, (N.map f)[i]? = some x → ∃ y, N[i]? = some y ∧ x = f y := fun {i x} hx => by
  rw [List.getElem?_map] at hx
  cases hq : N[i]? with
  | none => rw [hq] at hx; cases hx
  | some y => rw [hq] at hx; exact ⟨y, rfl, (Option.some.inj hx).symm⟩
 refine ⟨fun x hx => ?_, fun i x hx hi => ?_, fun i x y hx hy => ?_⟩
 · obtain ⟨y, h1, rfl⟩ := hg hx
   rw [(hf y).2.2.1]; exact h.head y h1
 · obtain ⟨y, h1, rfl⟩ := hg hx
   rw [(hf y).2.2.1, (hf y).2.2.2, hs]; exact h.last i y h1 (by rw [List.length_map] at hi; exact hi)
 · obtain ⟨u, h1, rfl⟩ := hg hx
   obtain ⟨v, h2, rfl⟩ := hg hy
   rw [(hf u).1, (hf u).2.1, (hf u).2.2.1, (hf u).2.2.2, hs, (hf v).1, (hf v).2.1, (hf v).2.2.1]
   exact h.adj i u v h1 h2
/-- Where the pieces' nodes are. -/
def PosI (st : SecSt) : Prop := ∀ key ps, aget st.pcs key = some ps → ∃ v : Nat, aget st.bg key = some (v : Int) ∧ ∀ q, q < ps.length → ∃ x, st.nodes[v + q]? = some x ∧ x.size = (ps.getD q default).2
theorem pos_step {st : SecSt} (h : PosI st) (o k : Int) (s : SecD) (g : Int) : PosI (secStep st o k s g) := by
 intro key ps hq
 have hq : aget (aput st.pcs (o, k) (splitB s)) key = some ps := hq
 show ∃ v : Nat, aget (aput st.bg (o, k) (st.nodes.length : Int)) key = some (v : Int) ∧ ∀ q, q < ps.length → ∃ x, (st.nodes ++ (splitB s).map (secNd o k s g))[v + q]? = some x ∧ x.size = (ps.getD q default).2
 rw [aget_aput] at hq
 rw [aget_aput]
 by_cases e : (o, k) = key
 · rw [if_pos e] at hq ⊢
   obtain rfl := Option.some.inj hq
   refine ⟨st.nodes.length, rfl, fun q hq => ⟨secNd o k s g ((splitB s).getD q default), ?_, rfl⟩⟩
   rw [List.getElem?_append_right (by omega), show st.nodes.length + q - st.nodes.length = q by omega, List.getElem?_map, List.getD_eq_getElem?_getD, List.getElem?_eq_getElem hq]; rfl
 · rw [if_neg e] at hq ⊢
   obtain ⟨v, h1, h2⟩ := h key ps hq
   refine ⟨v, h1, fun q hq => ?_⟩
   obtain ⟨x, h3, h4⟩ := h2 q hq
   exact ⟨x, by rw [List.getElem?_append_left (List.getElem?_eq_some_iff.1 h3).1]; exact h3, h4⟩
theorem secI_pos {l : List ObjD} : ∀ i, PosI (secI l i) := by
 intro i
 induction i with
 | zero => intro key ps h; cases h
 | succ i ih =>
  have key : ∀ k, PosI (secK l i (secI l i) k) := by
   intro k
   induction k with
   | zero => exact ih
   | succ k ihk =>
    rw [secK]
    split
    · exact pos_step ihk _ _ _ _
    · exact ihk
  exact key _
def grG (l : List ObjD) : List NodeD := (ndA l).map (setE l)
/-- A place is in its node. -/
theorem node_at {l : List ObjD} (hm : AllMay l) (hw : GraphW l) {p : PlcD} (h : 0 ≤ (nodeP (secI l l.length).pcs (secI l l.length).bg p).1) : (nodeP (secI l l.length).pcs (secI l l.length).bg p).1 < (grG l).length ∧ 0 ≤ (nodeP (secI l l.length).pcs (secI l l.length).bg p).2 ∧ (nodeP (secI l l.length).pcs (secI l l.length).bg p).2 ≤ ((grG l).getD (nodeP (secI l l.length).pcs (secI l l.length).bg p).1.toNat default).size := by
 have hG := map_g hm hw
 unfold nodeP at h ⊢
 by_cases hc : p.sec = 0 ∨ findG (pcsAt (secI l l.length).pcs p).length p.at_ 0 (pcsAt (secI l l.length).pcs p) < 0
 · rw [if_pos hc] at h; exact absurd h (by show ¬ (0 : Int) ≤ -1; decide)
 · rw [if_neg hc]
   have hfr := findG_rng (N := (pcsAt (secI l l.length).pcs p).length) (at_ := p.at_) (pcsAt (secI l l.length).pcs p) 0
   obtain ⟨q, h1, h2, h3⟩ := hfr.resolve_left (by omega)
   rw [Int.zero_add] at h2
   have hps : ∃ ps, aget (secI l l.length).pcs (p.obj, p.sec) = some ps ∧ pcsAt (secI l l.length).pcs p = ps := by
    unfold pcsAt at h1 ⊢
    cases hq : aget (secI l l.length).pcs (p.obj, p.sec) with
    | none => rw [hq] at h1; exact absurd h1 (by simp)
    | some ps => exact ⟨ps, rfl, rfl⟩
   obtain ⟨ps, hp1, hp2⟩ := hps
   rw [hp2] at h1 h2 h3 ⊢
   obtain ⟨v, hv1, hv2⟩ := secI_pos (l := l) l.length _ ps hp1
   obtain ⟨x, hx1, hx2⟩ := hv2 q h1
   have hpq := pcs_at (hG.pc _ _ hp1) q
   rw [h2, hv1]
   show (v : Int) + (q : Int) < _ ∧ 0 ≤ p.at_ - (ps.getD ((q : Int)).toNat default).1 ∧ p.at_ - (ps.getD ((q : Int)).toNat default).1 ≤ ((grG l).getD ((v : Int) + (q : Int)).toNat default).size
   rw [Int.toNat_natCast, show ((v : Int) + (q : Int)).toNat = v + q by omega]
   have hlt := (List.getElem?_eq_some_iff.1 hx1).1
   have hg : (grG l).getD (v + q) default = setE l (mrkN (uqI l l.length) x) := by
    unfold grG ndA
    rw [List.getD_eq_getElem?_getD, List.getElem?_map, List.getElem?_map, hx1]; rfl
   have hgl : (grG l).length = (secI l l.length).nodes.length := by unfold grG ndA; simp
   rw [hg, hgl]
   refine ⟨by omega, by omega, ?_⟩
   show p.at_ - (ps.getD q default).1 ≤ x.size
   rw [hx2]; omega
theorem sym_val {l : List ObjD} (hm : AllMay l) {i k : Nat} (hi : i < l.length) (hk : k < (l.getD i default).syms.length) : 0 ≤ ((l.getD i default).syms.getD k default).val := by
 have h := (shape_parts (may_shape hm hi)).2.2.2 k hk
 unfold symbolB at h
 rw [Int.toNat_natCast] at h
 cases hc : decide ((k : Int) = 0) with
 | true =>
  rw [hc] at h
  simp only [cond_true, Bool.and_eq_true, decide_eq_true_eq] at h
  omega
 | false =>
  rw [hc] at h
  obtain ⟨_, h2⟩ := bif_t h
  obtain ⟨h3, _⟩ := bif_t h2
  simp only [Bool.or_eq_false_iff, decide_eq_false_iff_not] at h3
  omega
theorem place_at {l : List ObjD} (hm : AllMay l) {t : TabD} {o s : Int} (ho : 0 ≤ o ∧ o < l.length) (hs : 0 ≤ s ∧ s < (l.getD o.toNat default).syms.length) (h0 : ¬ (placeF l t o s).1.sec > 0) : 0 ≤ (placeF l t o s).1.at_ := by
 have hv := sym_val hm (i := o.toNat) (k := s.toNat) (by omega) (by omega)
 unfold placeF at h0 ⊢
 split
 · exact hv
 · split
   · exact Int.le_refl 0
   · rename_i h1 h2
     rw [if_neg h1, if_neg h2] at h0
     have h0 : ¬ ((l.getD o.toNat default).syms.getD s.toNat default).sec > 0 := h0
     omega
theorem where_at {l : List ObjD} (hm : AllMay l) {o s : Int} (h0 : ¬ (whereF l ⟨dropF l l.length, dI l l.length⟩ o s).1.sec > 0) : 0 ≤ (whereF l ⟨dropF l l.length, dI l l.length⟩ o s).1.at_ := by
 have hz : (0 : Int) ≤ 0 := Int.le_refl 0
 unfold whereF at h0 ⊢
 split
 · exact hz
 · rename_i h1
   rw [if_neg h1] at h0
   split
   · rename_i h2
     rw [if_pos h2] at h0
     exact place_at hm (by omega) (by omega) h0
   · rename_i h2
     rw [if_neg h2] at h0
     split
     · rename_i h3
       rw [if_pos h3] at h0
       have hfd : DefIn l (findD (dI l l.length) ((l.getD o.toNat default).syms.getD s.toNat default).name) := by
        have h3 : findB (dI l l.length) ((l.getD o.toNat default).syms.getD s.toNat default).name = true := h3
        unfold findD
        rw [if_pos h3]
        exact dI_in l.length (Nat.le_refl _) _ (getD_in (find_yes h3).1)
       exact place_at hm ⟨hfd.1, hfd.2.1⟩ ⟨hfd.2.2.1, hfd.2.2.2⟩ h0
     · split <;> exact hz
theorem firE_all {α : Type} {f : α → Int} : ∀ {l : List α}, firE f l = 0 → ∀ a ∈ l, f a = 0 := by
 intro l
 induction l with
 | nil => intro _ a ha; cases ha
 | cons b l ih =>
  intro h a ha
  rw [firE] at h
  by_cases hb : f b ≠ 0
  · rw [if_pos hb] at h; exact absurd h hb
  · rw [if_neg hb] at h
    rcases List.mem_cons.1 ha with rfl | ha
    · exact Decidable.not_not.1 hb
    · exact ih h a ha
structure NodeF (l : List ObjD) (x : NodeD) : Prop where
 ob : 0 ≤ x.obj ∧ x.obj < l.length
 se : 1 ≤ x.sec ∧ x.sec ≤ (l.getD x.obj.toNat default).secs.length
 ok : (sX l x).ok
 fl : x.flags = (sX l x).flags
 nm : x.name = (sX l x).name
 h2 : hasF (sX l x).flags 2 = true
 fr : 0 ≤ (sX l x).flags ∧ (sX l x).flags ≤ 9223372036854775807
 sz : 0 ≤ x.size ∧ 0 ≤ x.pos ∧ x.pos + x.size ≤ (sX l x).size ∧ (sX l x).size ≤ 2147483647
 mg : hasF (sX l x).flags 16 = true → x.uniq = false ∧ x.edges = []
 ty : (sX l x).typ = 1 ∨ (sX l x).typ = 8
 dl : (sX l x).data.length ≤ 20000
 d1 : (sX l x).typ = 1 → x.data = ((sX l x).data.drop x.pos.toNat).take x.size.toNat ∧ x.pos + x.size ≤ (sX l x).data.length
 d8 : (sX l x).typ = 8 → x.data = []
 ed : x.edges = (sX l x).rels.map (relT l (secI l l.length).pcs (secI l l.length).bg x.obj)
 er : ∀ r ∈ (sX l x).rels, relE l (secI l l.length).pcs (secI l l.length).bg x.obj r = 0
 rl : (sX l x).rels.length ≤ 80
theorem node_f {l : List ObjD} (hok : ∀ o ∈ l, o.ok) (hf : fewB l = true) (hm : AllMay l) (he : grE l = 0) {x : NodeD} (hx : x ∈ grG l) : NodeF l x := by
 unfold grG at hx
 obtain ⟨z, hz, rfl⟩ := List.mem_map.1 hx
 have hze : (edX l z).2 = 0 := firE_all he z hz
 obtain ⟨y, ⟨i, k, hi, hk, hkp, p, hp, rfl⟩, rfl⟩ := ndA_of hz
 have hW := (few_W hf).2.1 _ (getD_in hi)
 have hWs := hW.sec _ (getD_in hk)
 have hkd := (sec_kind (may_shape hm hi) hk).1
 have K := kind_facts hkd
 have K2 := kind_more hkd
 have hS := sec_split hkd hWs.1
 have hsok := (hok _ (getD_in hi)).2.1 _ (getD_in hk)
 have hsx : sX l (setE l (mrkN (uqI l l.length) (secNd (i : Int) ((k : Int) + 1) ((l.getD i default).secs.getD k default) (sG l i k) p))) = (l.getD i default).secs.getD k default := sX_nd l i k ((l.getD i default).secs.getD k default) (sG l i k) p
 have hrx : relsX l (mrkN (uqI l l.length) (secNd (i : Int) ((k : Int) + 1) ((l.getD i default).secs.getD k default) (sG l i k) p)) = ((l.getD i default).secs.getD k default).rels := congrArg SecD.rels hsx
 obtain ⟨q, hq, hpq⟩ : ∃ q, q < (splitB ((l.getD i default).secs.getD k default)).length ∧ (splitB ((l.getD i default).secs.getD k default)).getD q default = p := by
  obtain ⟨q, hq, e⟩ := List.getElem_of_mem hp
  exact ⟨q, hq, by rw [List.getD_eq_getElem?_getD, List.getElem?_eq_getElem hq]; exact e⟩
 have hpi := piece_in hkd hq
 rw [hpq] at hpi
 have hedge : (setE l (mrkN (uqI l l.length) (secNd (i : Int) ((k : Int) + 1) ((l.getD i default).secs.getD k default) (sG l i k) p))).edges = ((l.getD i default).secs.getD k default).rels.map (relT l (secI l l.length).pcs (secI l l.length).bg (i : Int)) ∧ ∀ r ∈ ((l.getD i default).secs.getD k default).rels, relE l (secI l l.length).pcs (secI l l.length).bg (i : Int) r = 0 := by
  have h1 : firE (relE l (secI l l.length).pcs (secI l l.length).bg (i : Int)) ((l.getD i default).secs.getD k default).rels = 0 := by
   have : firE (relE l (secI l l.length).pcs (secI l l.length).bg (i : Int)) (relsX l (mrkN (uqI l l.length) (secNd (i : Int) ((k : Int) + 1) ((l.getD i default).secs.getD k default) (sG l i k) p))) = 0 := hze
   rw [hrx] at this; exact this
  refine ⟨?_, firE_all h1⟩
  show (edgF l (secI l l.length).pcs (secI l l.length).bg (mrkN (uqI l l.length) (secNd (i : Int) ((k : Int) + 1) ((l.getD i default).secs.getD k default) (sG l i k) p))).1 = _
  unfold edgF
  rw [hrx]
  show (if firE (relE l (secI l l.length).pcs (secI l l.length).bg (i : Int)) ((l.getD i default).secs.getD k default).rels = 0 then _ else _) = _
  rw [if_pos h1]; rfl
 have hkb : hasF ((l.getD i default).secs.getD k default).flags 2 = true := by
  unfold keptB at hkp
  rw [Bool.and_eq_true] at hkp
  exact hkp.1
 refine ⟨?_, ?_, ?_, ?_, ?_, ?_, ?_, ?_, ?_, ?_, ?_, ?_, ?_, ?_, ?_, ?_⟩
 · show 0 ≤ (i : Int) ∧ (i : Int) < l.length; omega
 · show 1 ≤ (k : Int) + 1 ∧ (k : Int) + 1 ≤ (l.getD ((i : Int)).toNat default).secs.length
   rw [Int.toNat_natCast]; omega
 · rw [hsx]; exact hsok
 · rw [hsx]; rfl
 · rw [hsx]; rfl
 · rw [hsx]; exact hkb
 · rw [hsx]; exact ⟨K.fl, hsok.2.2.1.2⟩
 · rw [hsx]
   show 0 ≤ p.2 ∧ 0 ≤ p.1 ∧ p.1 + p.2 ≤ _ ∧ _
   have := K.sz
   omega
 · rw [hsx]
   intro h16
   refine ⟨?_, ?_⟩
   · show (!hasF ((l.getD i default).secs.getD k default).flags 16 && _) = false
     rw [h16]; rfl
   · rw [hedge.1, List.length_eq_zero_iff.1 (K2.rl h16)]; rfl
 · rw [hsx]; exact K2.ty
 · rw [hsx]; exact hWs.1
 · rw [hsx]
   intro h1
   have := hS.2.2.2 h1 p hp
   refine ⟨?_, this.2.2⟩
   show (if ((l.getD i default).secs.getD k default).typ = 1 then _ else _) = _
   rw [if_pos h1]; rfl
 · rw [hsx]
   intro h8
   show (if ((l.getD i default).secs.getD k default).typ = 1 then _ else _) = _
   rw [if_neg (by omega)]
 · rw [hsx]; exact hedge.1
 · rw [hsx]; exact hedge.2
 · rw [hsx]; exact hWs.2
structure EdgeF (l : List ObjD) (r : RelD) (e : EdgeD) : Prop where
 to : -1 ≤ e.to ∧ e.to < (grG l).length
 no : e.to = -1 → 0 ≤ e.at_
 at_ : 0 ≤ e.to → 0 ≤ e.at_ ∧ e.at_ ≤ ((grG l).getD e.to.toNat default).size
 off : e.off = r.off
 typ : e.typ = r.typ
 add : e.add = r.add
theorem edge_f {l : List ObjD} (hm : AllMay l) (hw : GraphW l) {o : Int} {r : RelD} (he : relE l (secI l l.length).pcs (secI l l.length).bg o r = 0) : EdgeF l r (relT l (secI l l.length).pcs (secI l l.length).bg o r) := by
 unfold relE at he
 by_cases h1 : (whereF l ⟨dropF l l.length, dI l l.length⟩ o r.sym).2 ≠ 0
 · rw [if_pos h1] at he; exact absurd he h1
 rw [if_neg h1] at he
 unfold relT
 by_cases h2 : (whereF l ⟨dropF l l.length, dI l l.length⟩ o r.sym).1.sec > 0
 · rw [if_pos h2]
   by_cases h3 : (nodeP (secI l l.length).pcs (secI l l.length).bg (whereF l ⟨dropF l l.length, dI l l.length⟩ o r.sym).1).1 < 0
   · rw [if_pos ⟨h2, h3⟩] at he; cases he
   · have hn := node_at hm hw (p := (whereF l ⟨dropF l l.length, dI l l.length⟩ o r.sym).1) (by omega)
     refine ⟨⟨?_, hn.1⟩, fun h => ?_, fun _ => hn.2, rfl, rfl, rfl⟩
     · show -1 ≤ (nodeP _ _ _).1; omega
     · have h : (nodeP (secI l l.length).pcs (secI l l.length).bg (whereF l ⟨dropF l l.length, dI l l.length⟩ o r.sym).1).1 = -1 := h
       omega
 · rw [if_neg h2]
   have ha := where_at hm h2
   refine ⟨⟨Int.le_refl _, ?_⟩, fun _ => ha, fun h => absurd h (by show ¬ (0 : Int) ≤ -1; decide), rfl, rfl, rfl⟩
   show (-1 : Int) < _; omega
theorem nam_f {l : List ObjD} (hm : AllMay l) (hw : GraphW l) : ∀ k, k ≤ (dI l l.length).length → (∀ x ∈ namK l (secI l l.length).pcs (secI l l.length).bg (dI l l.length) k, ((0 ≤ x.obj ∧ x.obj < (grG l).length) ∧ 0 ≤ x.sym ∧ x.sym ≤ ((grG l).getD x.obj.toNat default).size) ∧ ∃ j, j < k ∧ x.name = ((dI l l.length).getD j default).name) ∧ Srt (namK l (secI l l.length).pcs (secI l l.length).bg (dI l l.length) k) := by
 intro k
 induction k with
 | zero => intro _; exact ⟨fun x hx => (by cases hx), fun i j _ h => absurd h (by show ¬ j < 0; omega)⟩
 | succ k ih =>
  intro hk
  obtain ⟨h1, h2⟩ := ih (by omega)
  rw [namK]
  split
  · rename_i hc
    have hn := node_at hm hw hc.2
    refine ⟨fun x hx => ?_, ?_⟩
    · rcases List.mem_append.1 hx with hx | hx
      · obtain ⟨a, j, b, c⟩ := h1 x hx
        exact ⟨a, j, by omega, c⟩
      · obtain rfl := List.mem_singleton.1 hx
        exact ⟨⟨⟨hc.2, hn.1⟩, hn.2⟩, k, by omega, rfl⟩
    · rw [srt_pw] at h2 ⊢
      rw [List.pairwise_append]
      refine ⟨h2, List.pairwise_singleton _ _, fun a ha b hb => ?_⟩
      obtain rfl := List.mem_singleton.1 hb
      obtain ⟨_, j, hj, hn2⟩ := h1 a ha
      show sLt a.name ((dI l l.length).getD k default).name = true
      rw [hn2]
      exact dI_srt l l.length j k hj (by omega)
  · exact ⟨fun x hx => by
     obtain ⟨a, j, b, c⟩ := h1 x hx
     exact ⟨a, j, by omega, c⟩, h2⟩
theorem grG_good {l : List ObjD} (hm : AllMay l) : Good l (grG l) := by
 unfold grG ndA
 exact good_map (f := setE l) (fun x => ⟨rfl, rfl, rfl, rfl⟩) (good_map (f := mrkN (uqI l l.length)) (fun x => ⟨rfl, rfl, rfl, rfl⟩) (secI_good hm l.length (Nat.le_refl _)).1)
end Go.Proofs.Ytiomdnmicagdcaa.AL
namespace Go.Proofs.Ytiomdnmicagdcaa.AL
open Go Go.RowKit Go.Proofs.Ytiomdnmicagdcaa.Base
set_option linter.unusedVariables false
set_option linter.unusedSimpArgs false
set_option maxRecDepth 4000
set_option synthInstance.maxSize 1000
set_option synthInstance.maxHeartbeats 200000
@[reducible] def nmT1 : ByteArray := ⟨#[46, 116, 101, 120, 116]⟩
@[reducible] def nmF1 : ByteArray := ⟨#[102]⟩
@[reducible] def nmG1 : ByteArray := ⟨#[103]⟩
@[reducible] def codeS (l : List RelD) : SecD := ⟨nmT1, 1, 6, 1, 0, 0, 8, [195, 0, 0, 0, 0, 0, 0, 0], l⟩
@[reducible] def rG : RelD := ⟨0, 1, 1, 3⟩
@[reducible] def sG1 : SecD := codeS [rG]
@[reducible] def fS : SymD := ⟨nmF1, 1, 0, 1, 0, 0⟩
@[reducible] def oG : ObjD := ⟨[sG1], [zSy, fS], [], false, []⟩
@[reducible] def eG : EdgeD := ⟨0, 1, 3, 0, 0⟩
@[reducible] def nG : NodeD := ⟨0, 1, 0, nmT1, 1, 6, 1, 0, 8, [195, 0, 0, 0, 0, 0, 0, 0], [eG], true, 0, 0⟩
@[reducible] def gG : GraphD := ⟨[nG], 0, 0, [⟨nmF1, 0, 0⟩]⟩
theorem oG_ok : ∀ o ∈ [oG], o.ok := by
 intro o ho
 obtain rfl := List.mem_singleton.1 ho
 refine ⟨by rw [maxLen_eq]; decide, fun s h => ?_, by rw [maxLen_eq]; decide, fun s h => ?_, by rw [maxLen_eq]; decide, fun s h => (by cases h), by rw [maxLen_eq]; decide, fun s h => (by cases h)⟩
 · obtain rfl := List.mem_singleton.1 h
   refine ⟨by rw [maxLen_eq]; decide, by decide, by decide, by decide, by decide, by decide, by decide, by rw [maxLen_eq]; decide, ?_, by rw [maxLen_eq]; decide, fun r h => ?_⟩
   · unfold Bytes; decide +kernel
   · obtain rfl := List.mem_singleton.1 h
     exact ⟨by decide, by decide, by decide, by decide⟩
 · simp only [List.mem_cons, List.not_mem_nil, or_false] at h
   rcases h with rfl | rfl <;> exact ⟨by rw [maxLen_eq]; decide, by decide, by decide, by decide, by decide, by decide⟩
theorem oG_1 : grF [oG] nmF1 = (gG, 0) := by kernel_rfl
theorem oG_2 : grF [oG] nmG1 = (zGr, 5) := by kernel_rfl
theorem up_B1 : A0 Try.prog 6 [.rd 5 ([oG].map objA), .v (.string nmF1)] (fun ret => ret = .tup [.agg (graphA gG), .v (ifV 57 0)]) := by
 have h := graph_Build [oG] oG_ok (by decide +kernel) nmF1
 rw [oG_1] at h
 exact h
theorem up_B2 : A0 Try.prog 6 [.rd 5 ([oG].map objA), .v (.string nmG1)] (fun ret => ret = .tup [.agg (graphA zGr), .v (ifV 57 5)]) := by
 have h := graph_Build [oG] oG_ok (by decide +kernel) nmG1
 rw [oG_2] at h
 exact h
theorem grF_err {l : List ObjD} {e : ByteArray} (h : (grF l e).2 ≠ 0) : (grF l e).1 = zGr := by
 unfold grF at h ⊢
 split
 · rfl
 · rename_i h1
   rw [if_neg h1] at h
   split
   · rfl
   · rename_i h2
     rw [if_neg h2] at h
     cases hq : (grN l).find? (fun d => decide (d.name = e)) with
     | none => rfl
     | some d => rw [hq] at h; exact absurd rfl h
theorem grF_ok {l : List ObjD} {e : ByteArray} (h : (grF l e).2 = 0) : resE l = 0 ∧ grE l = 0 ∧ ∃ d ∈ grN l, (grF l e).1 = ⟨grG l, d.obj, d.sym, grN l⟩ := by
 unfold grF at h ⊢
 by_cases h1 : resE l ≠ 0
 · rw [if_pos h1] at h; exact absurd h h1
 · rw [if_neg h1] at h ⊢
   by_cases h2 : grE l ≠ 0
   · rw [if_pos h2] at h; exact absurd h h2
   · rw [if_neg h2] at h ⊢
     refine ⟨Decidable.not_not.1 h1, Decidable.not_not.1 h2, ?_⟩
     cases hq : (grN l).find? (fun d => decide (d.name = e)) with
     | none => rw [hq] at h; exact absurd h (by show ¬ (5 : Int) = 0; decide)
     | some d => exact ⟨d, List.mem_of_find?_eq_some hq, rfl⟩
def all12 (l : List ObjD) (d : DefD) : List DefD := ⟨noS, d.obj, d.sym⟩ :: grN l
theorem and2z {n : Int} (h0 : 0 ≤ n) (h1 : n ≤ 9223372036854775807) (h : hasF n 2 = true) : decide (IntKind.i64.wrap (BitVec.ofInt IntKind.i64.bits n &&& BitVec.ofInt IntKind.i64.bits 2).toNat = 0) = false := by
 have h2 := and2 h0 h1
 rw [h] at h2
 rw [decide_eq_true_eq] at h2
 exact decide_eq_false h2
theorem getD_some {N : List NodeD} {i : Nat} (h : i < N.length) : N[i]? = some (N.getD i default) := by
 rw [List.getD_eq_getElem?_getD, List.getElem?_eq_getElem h]; rfl
theorem first_eq {l : List ObjD} {N : List NodeD} (hg : Good l N) {i : Nat} (hi : i < N.length) : (i = 0 ∨ (N.getD (i - 1) default).obj ≠ (N.getD i default).obj ∨ (N.getD (i - 1) default).sec ≠ (N.getD i default).sec) ↔ (N.getD i default).pos = 0 := by
 cases i with
 | zero => exact ⟨fun _ => hg.head _ (getD_some hi), fun _ => .inl rfl⟩
 | succ i =>
  rw [Nat.add_sub_cancel]
  rcases hg.adj i _ _ (getD_some (by omega)) (getD_some hi) with ⟨⟨a, b⟩, c, e, _⟩ | ⟨a, b, c⟩
  · constructor
    · rintro (h | h | h)
      · omega
      · exact absurd a h
      · exact absurd b h
    · intro h; omega
  · refine ⟨fun _ => c, fun _ => .inr ?_⟩
    by_cases h : (N.getD i default).obj = (N.getD (i + 1) default).obj
    · exact .inr fun h2 => a ⟨h, h2⟩
    · exact .inl h
theorem last_eq {l : List ObjD} {N : List NodeD} (hg : Good l N) {i : Nat} (hi : i < N.length) : (i + 1 = N.length ∨ (N.getD (min (i + 1) (N.length - 1)) default).obj ≠ (N.getD i default).obj ∨ (N.getD (min (i + 1) (N.length - 1)) default).sec ≠ (N.getD i default).sec) ↔ (N.getD i default).pos + (N.getD i default).size = (sX l (N.getD i default)).size := by
 by_cases h1 : i + 1 = N.length
 · exact ⟨fun _ => hg.last i _ (getD_some hi) h1, fun _ => .inl h1⟩
 · rw [show min (i + 1) (N.length - 1) = i + 1 by omega]
   rcases hg.adj i _ _ (getD_some hi) (getD_some (by omega)) with ⟨⟨a, b⟩, c, e, f⟩ | ⟨a, b, c⟩
   · constructor
     · rintro (h | h | h)
       · omega
       · exact absurd a.symm h
       · exact absurd b.symm h
     · intro h; exact absurd h f
   · refine ⟨fun _ => b, fun _ => .inr ?_⟩
     by_cases h : (N.getD (i + 1) default).obj = (N.getD i default).obj
     · exact .inr fun h2 => a ⟨h.symm, h2.symm⟩
     · exact .inl h
theorem prev_end {l : List ObjD} {N : List NodeD} (hg : Good l N) {i : Nat} (hi : i < N.length) (h : (N.getD i default).pos ≠ 0) : 0 < i ∧ (N.getD i default).pos = (N.getD (i - 1) default).pos + (N.getD (i - 1) default).size := by
 cases i with
 | zero => exact absurd (hg.head _ (getD_some hi)) h
 | succ i =>
  rw [Nat.add_sub_cancel]
  rcases hg.adj i _ _ (getD_some (by omega)) (getD_some hi) with ⟨_, c, _, _⟩ | ⟨_, _, c⟩
  · exact ⟨by omega, c⟩
  · exact absurd c h
theorem all_f {l : List ObjD} (hm : AllMay l) (hw : GraphW l) {d : DefD} (hd : d ∈ grN l) {k : Nat} (hk : k < (all12 l d).length) : ((0 ≤ ((all12 l d).getD k default).obj ∧ ((all12 l d).getD k default).obj < (grG l).length) ∧ 0 ≤ ((all12 l d).getD k default).sym ∧ ((all12 l d).getD k default).sym ≤ ((grG l).getD ((all12 l d).getD k default).obj.toNat default).size) ∧ (1 < k → sLt ((all12 l d).getD (k - 1) default).name ((all12 l d).getD k default).name = true) := by
 have h := nam_f hm hw (dI l l.length).length (Nat.le_refl _)
 have h1 : ∀ x ∈ grN l, _ := h.1
 have h2 : Srt (grN l) := h.2
 unfold all12 at hk ⊢
 cases k with
 | zero => exact ⟨(h1 d hd).1, fun c => by omega⟩
 | succ k =>
  have hk : k < (grN l).length := by simpa using hk
  refine ⟨(h1 _ (getD_in hk)).1, fun c => ?_⟩
  rw [Nat.add_sub_cancel]
  cases k with
  | zero => omega
  | succ k => exact h2 k (k + 1) (by omega) hk
theorem node_at12 {l : List ObjD} (hok : ∀ o ∈ l, o.ok) (hf : fewB l = true) (hm : AllMay l) (he : grE l = 0) (hw : GraphW l) {x : NodeD} (hx : x ∈ grG l) {k : Nat} (hk : k < x.edges.length) : k < (sX l x).rels.length ∧ EdgeF l ((sX l x).rels.getD k default) (x.edges.getD k default) := by
 have h := node_f hok hf hm he hx
 have hl : k < (sX l x).rels.length := by have := hk; rw [h.ed, List.length_map] at this; exact this
 refine ⟨hl, ?_⟩
 have e : x.edges.getD k default = relT l (secI l l.length).pcs (secI l l.length).bg x.obj ((sX l x).rels.getD k default) := by
  rw [h.ed, List.getD_eq_getElem?_getD, List.getElem?_map, List.getElem?_eq_getElem hl, List.getD_eq_getElem?_getD, List.getElem?_eq_getElem hl]; rfl
 rw [e]
 exact edge_f hm hw (h.er _ (getD_in hl))
theorem first_b {l : List ObjD} {N : List NodeD} (hg : Good l N) {i : Nat} (hi : i < N.length) : (decide ((i : Int) = 0) || decide ((N.getD (max ((i : Int) - 1) 0).toNat default).obj ≠ (N.getD i default).obj) || decide ((N.getD (max ((i : Int) - 1) 0).toNat default).sec ≠ (N.getD i default).sec)) = decide ((N.getD i default).pos = 0) := by
 rw [Bool.eq_iff_iff, show (max ((i : Int) - 1) 0).toNat = i - 1 by omega]
 simp only [Bool.or_eq_true, decide_eq_true_eq]
 rw [← first_eq hg hi]
 constructor
 · rintro ((h | h) | h)
   · exact .inl (by omega)
   · exact .inr (.inl h)
   · exact .inr (.inr h)
 · rintro (h | h | h)
   · exact .inl (.inl (by omega))
   · exact .inl (.inr h)
   · exact .inr h
theorem last_b {l : List ObjD} {N : List NodeD} (hg : Good l N) {i : Nat} (hi : i < N.length) : (decide ((i : Int) + 1 = (N.length : Int)) || decide ((N.getD (min ((i : Int) + 1) ((N.length : Int) - 1)).toNat default).obj ≠ (N.getD i default).obj) || decide ((N.getD (min ((i : Int) + 1) ((N.length : Int) - 1)).toNat default).sec ≠ (N.getD i default).sec)) = decide ((N.getD i default).pos + (N.getD i default).size = (sX l (N.getD i default)).size) := by
 rw [Bool.eq_iff_iff, show (min ((i : Int) + 1) ((N.length : Int) - 1)).toNat = min (i + 1) (N.length - 1) by omega]
 simp only [Bool.or_eq_true, decide_eq_true_eq]
 rw [← last_eq hg hi]
 constructor
 · rintro ((h | h) | h)
   · exact .inl (by omega)
   · exact .inr (.inl h)
   · exact .inr (.inr h)
 · rintro (h | h | h)
   · exact .inl (.inl (by omega))
   · exact .inl (.inr h)
   · exact .inr h
theorem law_code12 (l : List RelD) : A0 Try.prog 8 [.rd 4 (l.map relA)] (fun ret => ret = .agg (secA (codeS l))) := by
 refine A0.body 6 Try.func8 rfl rfl Try.ntmps8 fun base n0 => ?_
 refine AW.seq' ?_
 refine AW.region ?_
 refine AO.ww ?_
 refine AO.nil ?_
 refine SQ.normal ?_
 refine AW.seq' ?_
 refine AW.region ?_
 refine AO.rr ?_
 refine AO.eq 3 (av' := .rd 1 (bys [195, 0, 0, 0, 0, 0, 0, 0])) rfl ?_
 iterate 2 refine AO.c ?_
 refine AO.sst ?_
 refine AO.nil ?_
 refine SQ.normal ?_
 refine AW.ret ?_
 refine Fin.ret (Gh.refl) noid1 ?_
 first | rfl | (simp [packA]; done)
set_option maxHeartbeats 4000000 in
theorem up12  : A0 Try.prog 4 [] (fun ret => ret = .v (.bool true)) := by
 refine A0.body 65 Try.func4 rfl rfl Try.ntmps4 fun base n0 => ?_
 refine AW.seq' ?_
 refine AW.region ?_
 refine AO.c ?_
 refine AO.nil ?_
 refine SQ.normal ?_
 refine AW.seq' ?_
 refine AW.region ?_
 refine AO.c ?_
 refine AO.rr ?_
 refine AO.eq 8 (av' := .rd 4 (([rG] : List RelD).map relA)) rfl ?_
 refine AO.call1 Try.func8 rfl rfl (law_code12 [rG]) ?_
 refine AO.rr ?_
 refine AO.eq 10 (av' := .rd 9 (([sG1] : List SecD).map secA)) rfl ?_
 iterate 2 refine AO.c ?_
 refine AO.rr ?_
 refine AO.eq 13 (av' := .rd 6 (([zSy, fS] : List SymD).map symA)) rfl ?_
 refine AO.c ?_
 refine AO.ww ?_
 refine AO.sst ?_
 refine AO.nil ?_
 refine SQ.normal ?_
 refine AW.seq' ?_
 refine AW.region ?_
 refine AO.c ?_
 refine AO.ghost (Gh.tell 16 (.agg (objA oG))) ?_
 refine AO.rr ?_
 refine AO.eq 17 (av' := .rd 5 (([oG] : List ObjD).map objA)) rfl ?_
 refine AO.call1 Try.func6 rfl rfl (up_B1) ?_
 iterate 3 refine AO.c ?_
 refine AO.ww ?_
 refine AO.sst ?_
 refine AO.c ?_
 refine AO.nil ?_
 refine SQ.normal ?_
 refine AW.seq' ?_
 refine AW.region ?_
 refine AO.c ?_
 refine AO.ghost (Gh.tell 22 (.agg (objA oG))) ?_
 refine AO.rr ?_
 refine AO.eq 23 (av' := .rd 5 (([oG] : List ObjD).map objA)) rfl ?_
 refine AO.call1 Try.func6 rfl rfl (up_B2) ?_
 iterate 3 refine AO.c ?_
 refine AO.ww ?_
 refine AO.sst ?_
 refine AO.c ?_
 refine AO.nil ?_
 refine SQ.normal ?_
 refine AW.seq' ?_
 refine AW.seq' ?_
 refine AW.region ?_
 iterate 5 refine AO.c ?_
 iterate 2 refine AO.gx ?_
 iterate 2 refine AO.c ?_
 iterate 2 refine AO.gx ?_
 refine AO.gxoo ?_
 refine AO.c ?_
 refine AO.nil ?_
 refine SQ.normal ?_
 refine AW.iteB (GL.ev _) (fun h0 => ?_) (fun h0 => ?_)
 ·
  exfalso
  simp at h0
 ·
  skip
  refine AW.skip ?_
  refine SQ.normal ?_
  refine AW.seq' ?_
  refine AW.region ?_
  iterate 2 refine AO.c ?_
  refine AO.o (by decide) ?_
  refine AO.c ?_
  refine AO.eq 43 (av' := .agg (nodeA nG)) rfl ?_
  refine AO.ww ?_
  refine AO.sst ?_
  refine AO.nil ?_
  refine SQ.normal ?_
  refine AW.seq' ?_
  refine AW.region ?_
  iterate 4 refine AO.c ?_
  refine AO.eq 47 (av' := .v (.bool true)) (by first | rfl | (simp; done)) ?_
  refine AO.c ?_
  refine AO.gk rfl ?_
  refine AO.c ?_
  refine AO.gk rfl ?_
  refine AO.c ?_
  refine AO.gk rfl ?_
  refine AO.o (by decide) ?_
  refine AO.gk rfl ?_
  refine AO.c ?_
  refine AO.eq 52 (av' := .agg (edgeA eG)) rfl ?_
  refine AO.gk rfl ?_
  refine AO.c ?_
  refine AO.gk rfl ?_
  refine AO.c ?_
  refine AO.eq 54 (av' := .v (.bool true)) (by first | rfl | (simp; done)) ?_
  refine AO.pt rfl ?_
  refine AO.c ?_
  refine AO.gk rfl ?_
  refine AO.c ?_
  refine AO.gk rfl ?_
  refine AO.c ?_
  refine AO.eq 58 (av' := .v (.bool true)) (by first | rfl | (simp; done)) ?_
  refine AO.pt rfl ?_
  refine AO.c ?_
  refine AO.gk rfl ?_
  refine AO.c ?_
  refine AO.gk rfl ?_
  refine AO.c ?_
  refine AO.gk rfl ?_
  refine AO.c ?_
  refine AO.eq 63 (av' := .v (.bool true)) (by first | rfl | (simp; done)) ?_
  refine AO.pt rfl ?_
  refine AO.c ?_
  refine AO.nil ?_
  refine SQ.normal ?_
  refine AW.ret ?_
  refine Fin.ret (Gh.refl) noid1 ?_
  first | rfl | (simp [packA]; done)
end Go.Proofs.Ytiomdnmicagdcaa.AL
namespace Go.Proofs.Ytiomdnmicagdcaa.AL
open Go Go.RowKit Go.Proofs.Ytiomdnmicagdcaa.Base
set_option linter.unusedVariables false
set_option linter.unusedSimpArgs false
set_option maxRecDepth 4000
set_option synthInstance.maxSize 1000
set_option synthInstance.maxHeartbeats 200000
set_option maxHeartbeats 32000000 in
theorem graph_Whole (l : List ObjD) (hl : l.length ≤ 9223372036854775807) (hok : ∀ o ∈ l, o.ok) (e : ByteArray) : A0 Try.prog 3 [.rd 5 (l.map objA), .v (.string e)] (fun ret => ret = .v (.bool true)) := by
 refine A0.body 460 Try.func3 rfl rfl Try.ntmps3 fun base n0 => ?_
 refine AW.seq' ?_
 refine AW.region ?_
 refine AO.c ?_
 refine AO.nil ?_
 refine SQ.normal ?_
 refine AW.seq' ?_
 refine AW.region ?_
 refine AO.call1 Try.func4 rfl rfl (up12) ?_
 refine AO.c ?_
 refine AO.nil ?_
 refine SQ.normal ?_
 refine AW.seq' ?_
 refine AW.seq' ?_
 refine AW.region ?_
 refine AO.c ?_
 refine AO.call1 Try.func5 rfl rfl (law_Few l hl hok) ?_
 refine AO.c ?_
 refine AO.nil ?_
 refine SQ.normal ?_
 refine AW.iteB (GL.ev _) (fun h0 => ?_) (fun h0 => ?_)
 ·
  skip
  refine AW.seq' ?_
  refine AW.region ?_
  iterate 2 refine AO.c ?_
  refine AO.nil ?_
  refine SQ.normal ?_
  refine AW.ret ?_
  refine SQ.ret ?_
  refine Fin.ret (Gh.refl) noid1 ?_
  first | rfl | (simp [packA]; done)
 ·
  have hf := small_tt h0
  have hfw := few_W hf
  have hk := few_lok hok hf
  refine AW.skip ?_
  refine SQ.normal ?_
  refine AW.seq' ?_
  refine AW.region ?_
  iterate 2 refine AO.c ?_
  refine AO.call1 Try.func6 rfl rfl (graph_Build l hok hf e) ?_
  iterate 3 refine AO.c ?_
  refine AO.ww ?_
  refine AO.sst ?_
  refine AO.c ?_
  refine AO.nil ?_
  refine SQ.normal ?_
  refine AW.seq' ?_
  refine AW.seq' ?_
  refine AW.region ?_
  iterate 2 refine AO.c ?_
  refine AO.nil ?_
  refine SQ.normal ?_
  refine AW.iteB (GL.ev _) (fun h1 => ?_) (fun h1 => ?_)
  ·
   rw [decide_eq_true_eq] at h1
   rw [grF_err h1]
   refine AW.seq' ?_
   refine AW.region ?_
   iterate 2 refine AO.c ?_
   iterate 4 refine AO.gx ?_
   iterate 2 refine AO.c ?_
   refine AO.nil ?_
   refine SQ.normal ?_
   refine AW.ret ?_
   refine SQ.ret ?_
   refine Fin.ret (Gh.refl) noid1 ?_
   first | rfl | (simp [packA]; done)
  ·
   rw [decide_eq_false_iff_not, ne_eq, Decidable.not_not] at h1
   obtain ⟨hr0, he0, d, hd, hgf⟩ := grF_ok h1
   have hm := resE_0 hr0
   have hGW := graph_w hok hf hm
   have hgood := grG_good hm
   have hgl : (grG l).length ≤ 6000000 := by have := (ndA_len hGW).1; unfold grG; rw [List.length_map]; exact this
   have hnl := grN_len hGW.rw_
   rw [hgf]
   refine AW.skip ?_
   refine SQ.normal ?_
   refine AW.seq' ?_
   refine AW.seq' ?_
   refine AW.region ?_
   refine AO.c ?_
   refine AO.nil ?_
   refine SQ.normal ?_
   refine AW.block' ?_
   refine AW.loopU2 [.k, .f, .f, .f, .f, .k, .k, .f, .k, .F, .F, .F, .F, .F, .F, .F, .F, .F, .F, .F, .F, .F, .F, .F, .F, .F, .F, .F, .F, .F, .F, .F, .F, .F, .F, .F, .F, .F, .F, .F, .F, .F, .F, .F, .F, .F, .F, .F, .F, .F, .F, .F, .F, .F, .F, .F, .F, .F, .F, .F, .F, .F, .F, .F, .F, .f, .f, .f] (fun (i j : Nat) => [(8, .v (.int .i64 ((i : Int))))]) (fun i j => Hn n0 (([some (.box 28 [.rd 14 ((grG l).map nodeA), .v (.int .i64 (d.obj)), .v (.int .i64 (d.sym)), .rd 3 ((grN l).map defA)])] ++ List.replicate j none) ++ [])) (fun m i j => i ≤ (grG l).length ∧ m = (grG l).length - i) ((grG l).length) (0) (0) ⟨by omega, by omega⟩ (by first | rfl | (simp; done)) (by first | rfl | (simp; done)) ?_
   rintro m0 i j ⟨hx1, hx2⟩
   refine AW.seq' ?_
   refine AW.seq' ?_
   refine AW.region ?_
   iterate 5 refine AO.c ?_
   refine AO.nil ?_
   refine SQ.normal ?_
   refine AW.iteB (GL.ev _) (fun h2 => ?_) (fun h2 => ?_)
   ·
    have h2 : (i : Int) < ((grG l).length : Int) := of_decide_eq_true h2
    have hi : i < (grG l).length := by omega
    have hx := node_f hok hf hm he0 (getD_in hi)
    have hob := hx.ob
    have hse := hx.se
    have hs32 := (hGW.rw_.sy _ (show ((grG l).getD i default).obj.toNat < l.length by omega)).2
    have hsz := hx.sz
    have hdl := hx.dl
    have hrl := hx.rl
    have hpv := node_f hok hf hm he0 (getD_in (show (max ((i : Int) - 1) 0).toNat < (grG l).length by omega))
    have hps := hpv.sz
    refine AW.skip ?_
    refine SQ.normal ?_
    refine AW.seq' ?_
    refine AW.block' ?_
    refine AW.seq' ?_
    refine AW.region ?_
    iterate 3 refine AO.c ?_
    refine AO.oo ?_
    refine AO.c ?_
    refine AO.ww ?_
    refine AO.sst ?_
    refine AO.nil ?_
    refine SQ.normal ?_
    refine AW.seq' ?_
    refine AW.seq' ?_
    refine AW.region ?_
    iterate 4 refine AO.c ?_
    iterate 5 refine AO.gx ?_
    iterate 2 refine AO.c ?_
    iterate 3 refine AO.gx ?_
    refine AO.c ?_
    refine AO.nil ?_
    refine SQ.normal ?_
    refine AW.iteB (GL.ev _) (fun h3 => ?_) (fun h3 => ?_)
    ·
     exfalso
     simp only [Bool.or_eq_true, Bool.and_eq_true, decide_eq_true_eq, Bool.not_eq_true'] at h3
     omega
    ·
     skip
     refine AW.skip ?_
     refine SQ.normal ?_
     refine AW.seq' ?_
     refine AW.seq' ?_
     refine AW.drawsZ [] (.one 0 false (.one 1 false (.one 2 false (.one 3 false (.one 4 false (.one 5 false (.one 6 false (.one 7 false (.one 8 false (.one 9 false .nil)))))))))) (by kernel_rfl) rfl (by kernel_rfl) ?_
     iterate 5 refine AZ.c rfl ?_
     refine AZ.o rfl (by omega) ?_
     iterate 4 refine AZ.c rfl ?_
     refine AZ.done ?_
     refine SQ.normal ?_
     refine AW.iteB (GL.ev _) (fun h4 => ?_) (fun h4 => ?_)
     ·
      exfalso
      rw [decide_eq_true_eq] at h4
      omega
     ·
      skip
      refine AW.skip ?_
      refine SQ.normal ?_
      refine AW.seq' ?_
      refine AW.drawsZ [12] (.one 0 false (.one 1 false (.one 2 false (.one 3 false (.one 4 false (.one 5 false (.one 6 false (.one 7 false (.one 8 false (.one 9 false (.one 10 false (.one 11 true (.one 12 true .nil))))))))))))) (by kernel_rfl) rfl (by kernel_rfl) ?_
      iterate 3 refine AZ.c rfl ?_
      refine AZ.o rfl (by omega) ?_
      iterate 4 refine AZ.c rfl ?_
      refine AZ.o rfl (by omega) ?_
      refine AZ.o rfl (by omega) ?_
      refine AZ.c rfl ?_
      refine AZ.eq 85 (av' := .agg (secA (sX l ((grG l).getD i default)))) rfl ?_
      refine AZ.mkk rfl ?_
      refine AZ.sst rfl rfl ?_
      refine AZ.done ?_
      refine SQ.normal ?_
      refine AW.seq' ?_
      refine AW.region ?_
      refine AO.c ?_
      refine AO.call1 Try.func7 rfl rfl (ref_Has (sX l ((grG l).getD i default)) 16 hx.ok (by omega)) ?_
      refine AO.c ?_
      refine AO.nil ?_
      refine SQ.normal ?_
      refine AW.seq' ?_
      refine AW.drawsZ [] (.one 0 false (.one 1 false (.one 2 false (.one 3 false (.one 4 false (.one 5 false (.one 6 false (.one 7 false (.one 8 false (.one 9 false (.one 10 false (.one 11 false (.one 12 false (.one 13 false (.one 14 false (.one 15 false (.one 16 false (.one 17 false (.one 18 false (.one 19 false (.one 20 false (.one 21 false (.one 22 false (.one 23 false (.one 24 false (.one 25 false (.one 26 false (.one 27 false (.one 28 false .nil))))))))))))))))))))))))))))) (by kernel_rfl) rfl (by kernel_rfl) ?_
      iterate 3 refine AZ.c rfl ?_
      iterate 3 refine AZ.gx rfl ?_
      refine AZ.gxoo rfl ?_
      refine AZ.gx rfl ?_
      refine AZ.gxo rfl (fun _ => by omega) ?_
      iterate 5 refine AZ.gx rfl ?_
      iterate 2 refine AZ.c rfl ?_
      iterate 3 refine AZ.gx rfl ?_
      refine AZ.gxoo rfl ?_
      refine AZ.gx rfl ?_
      refine AZ.gxo rfl (fun _ => by omega) ?_
      iterate 5 refine AZ.gx rfl ?_
      refine AZ.c rfl ?_
      refine AZ.eq 115 (av' := .v (.bool (decide (((grG l).getD i default).pos = 0)))) (by rw [← first_b hgood hi]) ?_
      refine AZ.c rfl ?_
      refine AZ.done ?_
      refine SQ.normal ?_
      refine AW.seq' ?_
      refine AW.drawsZ [] (.one 0 false (.one 1 false (.one 2 false (.one 3 false (.one 4 false (.one 5 false (.one 6 false (.one 7 false (.one 8 false (.one 9 false (.one 10 false (.one 11 false (.one 12 false (.one 13 false (.one 14 false (.one 15 false (.one 16 false (.one 17 false (.one 18 false (.one 19 false (.one 20 false (.one 21 false (.one 22 false (.one 23 false (.one 24 false (.one 25 false (.one 26 false (.one 27 false (.one 28 false (.one 29 false (.one 30 false (.one 31 false (.one 32 false (.one 33 false (.one 34 false (.one 35 false (.one 36 false (.one 37 false (.one 38 false (.one 39 false (.one 40 false .nil))))))))))))))))))))))))))))))))))))))))) (by kernel_rfl) rfl (by kernel_rfl) ?_
      refine AZ.c rfl ?_
      refine AZ.oo rfl ?_
      iterate 5 refine AZ.c rfl ?_
      iterate 3 refine AZ.gx rfl ?_
      refine AZ.gxoo rfl ?_
      iterate 3 refine AZ.gx rfl ?_
      refine AZ.gxoo rfl ?_
      refine AZ.gx rfl ?_
      refine AZ.gxo rfl (fun _ => by omega) ?_
      iterate 5 refine AZ.gx rfl ?_
      iterate 2 refine AZ.c rfl ?_
      iterate 3 refine AZ.gx rfl ?_
      refine AZ.gxoo rfl ?_
      iterate 3 refine AZ.gx rfl ?_
      refine AZ.gxoo rfl ?_
      refine AZ.gx rfl ?_
      refine AZ.gxo rfl (fun _ => by omega) ?_
      iterate 5 refine AZ.gx rfl ?_
      refine AZ.c rfl ?_
      refine AZ.eq 155 (av' := .v (.bool (decide (((grG l).getD i default).pos + ((grG l).getD i default).size = (sX l ((grG l).getD i default)).size)))) (by rw [← last_b hgood hi]) ?_
      refine AZ.c rfl ?_
      refine AZ.done ?_
      refine SQ.normal ?_
      refine AW.seq' ?_
      refine AW.seq' ?_
      refine AW.region ?_
      iterate 6 refine AO.c ?_
      iterate 4 refine AO.gx ?_
      iterate 2 refine AO.c ?_
      iterate 5 refine AO.gx ?_
      iterate 2 refine AO.c ?_
      iterate 3 refine AO.gx ?_
      iterate 2 refine AO.c ?_
      iterate 5 refine AO.gx ?_
      iterate 2 refine AO.c ?_
      iterate 3 refine AO.gx ?_
      iterate 2 refine AO.c ?_
      iterate 6 refine AO.gx ?_
      refine AO.gxoo ?_
      refine AO.gx ?_
      iterate 2 refine AO.c ?_
      iterate 11 refine AO.gx ?_
      refine AO.c ?_
      refine AO.nil ?_
      refine SQ.normal ?_
      refine AW.iteB (GL.ev _) (fun h5 => ?_) (fun h5 => ?_)
      ·
       exfalso
       simp only [Bool.or_eq_true, Bool.and_eq_true, decide_eq_true_eq, Bool.not_eq_true'] at h5
       rcases h5 with ((((((h5 | h5) | h5) | h5) | h5) | h5) | h5) | h5
       · exact h5 hx.fl
       · have := and2z hx.fr.1 hx.fr.2 hx.h2
         rw [decide_eq_false_iff_not] at this
         exact this h5
       · exact h5 (by rw [hx.nm])
       · omega
       · omega
       · omega
       · omega
       · obtain ⟨a1, a2⟩ := hx.mg h5.1
         rw [a1, a2] at h5
         simp at h5
      ·
       skip
       refine AW.skip ?_
       refine SQ.normal ?_
       refine AW.seq' ?_
       refine AW.seq' ?_
       refine AW.drawsZ [] (.one 0 false (.one 1 false (.one 2 false (.one 3 false (.one 4 false (.one 5 false (.one 6 false (.one 7 false (.one 8 false (.one 9 false (.one 10 false (.one 11 false (.one 12 false (.one 13 false (.one 14 false (.one 15 false (.one 16 false (.one 17 false (.one 18 false (.one 19 false (.one 20 false (.one 21 false (.one 22 false (.one 23 false (.one 24 false (.one 25 false (.one 26 false (.one 27 false (.one 28 false (.one 29 false (.one 30 false (.one 31 false (.one 32 false (.one 33 false (.one 34 false (.one 35 false (.one 36 false (.one 37 false (.one 38 false (.one 39 false (.one 40 false (.one 41 false (.one 42 false .nil))))))))))))))))))))))))))))))))))))))))))) (by kernel_rfl) rfl (by kernel_rfl) ?_
       iterate 6 refine AZ.c rfl ?_
       iterate 5 refine AZ.gx rfl ?_
       refine AZ.gxoo rfl ?_
       iterate 4 refine AZ.gx rfl ?_
       iterate 2 refine AZ.c rfl ?_
       iterate 8 refine AZ.gx rfl ?_
       refine AZ.gxoo rfl ?_
       refine AZ.gx rfl ?_
       refine AZ.gxo rfl (fun _ => by omega) ?_
       iterate 5 refine AZ.gx rfl ?_
       refine AZ.gxoo rfl ?_
       refine AZ.gx rfl ?_
       refine AZ.gxo rfl (fun _ => by omega) ?_
       iterate 2 refine AZ.gx rfl ?_
       refine AZ.gxo rfl (fun _ => by omega) ?_
       iterate 2 refine AZ.gx rfl ?_
       refine AZ.c rfl ?_
       refine AZ.done ?_
       refine SQ.normal ?_
       refine AW.iteB (GL.ev _) (fun h6 => ?_) (fun h6 => ?_)
       ·
        exfalso
        simp only [beq_self_eq_true, Bool.not_true, Bool.false_or, Bool.or_false, bne_self_eq_false, ne_eq, not_true, decide_false, Bool.and_eq_true, Bool.not_eq_true', decide_eq_false_iff_not, decide_eq_true_eq] at h6
        have hpe := prev_end hgood hi h6.1
        rw [show (max ((i : Int) - 1) 0).toNat = i - 1 by omega] at h6
        exact h6.2 hpe.2
       ·
        skip
        refine AW.skip ?_
        refine SQ.normal ?_
        refine AW.seq' ?_
        refine AW.seq' ?_
        refine AW.drawsZ [] (.one 0 false (.one 1 false (.one 2 false (.one 3 false (.one 4 false (.one 5 false (.one 6 false (.one 7 false (.one 8 false (.one 9 false (.one 10 false (.one 11 false (.one 12 false (.one 13 false (.one 14 false (.one 15 false (.one 16 false (.one 17 false (.one 18 false (.one 19 false (.one 20 false (.one 21 false (.one 22 false (.one 23 false (.one 24 false (.one 25 false (.one 26 false (.one 27 false (.one 28 false (.one 29 false (.one 30 false .nil))))))))))))))))))))))))))))))) (by kernel_rfl) rfl (by kernel_rfl) ?_
        iterate 4 refine AZ.c rfl ?_
        iterate 11 refine AZ.gx rfl ?_
        refine AZ.gxoo rfl ?_
        refine AZ.gxo rfl (fun hgd => by have hd1 := (hx.d1 (of_decide_eq_true hgd)).2; simp only [Option.getD_some]; omega) ?_
        iterate 2 refine AZ.gx rfl ?_
        iterate 2 refine AZ.c rfl ?_
        iterate 9 refine AZ.gx rfl ?_
        refine AZ.c rfl ?_
        refine AZ.done ?_
        refine SQ.normal ?_
        refine AW.iteB (GL.ev _) (fun h7 => ?_) (fun h7 => ?_)
        ·
         exfalso
         simp only [Bool.or_eq_true, Bool.and_eq_true, decide_eq_true_eq, Bool.not_eq_true'] at h7
         rcases h7 with h7 | h7
         · exact h7.2 (by rw [(hx.d1 h7.1).1]; simp only [Option.getD_some]; rw [List.drop_take, show (((grG l).getD i default).pos + ((grG l).getD i default).size).toNat - ((grG l).getD i default).pos.toNat = ((grG l).getD i default).size.toNat by omega])
         · have := hx.d8 h7.1
           rw [this] at h7
           simp at h7
        ·
         skip
         refine AW.skip ?_
         refine SQ.normal ?_
         refine AW.seq' ?_
         refine AW.seq' ?_
         refine AW.region ?_
         iterate 3 refine AO.c ?_
         iterate 7 refine AO.gx ?_
         refine AO.c ?_
         refine AO.nil ?_
         refine SQ.normal ?_
         refine AW.iteB (GL.ev _) (fun h8 => ?_) (fun h8 => ?_)
         ·
          exfalso
          simp only [Bool.or_eq_true, Bool.and_eq_true, decide_eq_true_eq, Bool.not_eq_true'] at h8
          exact h8.2 (by rw [hx.ed, List.length_map])
         ·
          skip
          refine AW.skip ?_
          refine SQ.normal ?_
          refine AW.seq' ?_
          refine AW.region ?_
          refine AO.c ?_
          refine AO.nil ?_
          refine SQ.normal ?_
          refine AW.block' ?_
          refine AW.loopU2 [.k, .f, .f, .f, .f, .k, .k, .f, .k, .k, .k, .f, .f, .f, .k, .F, .F, .F, .F, .F, .F, .F, .F, .F, .F, .F, .F, .F, .F, .F, .F, .F, .F, .F, .F, .F, .F, .F, .F, .F, .F, .F, .F, .F, .F, .F, .F, .F, .F, .F, .F, .F, .F, .F, .F, .F, .F, .F, .F, .F, .F, .F, .F, .F, .F, .F, .F, .F, .F, .F, .f, .f, .f, .f, .f] (fun (k j2 : Nat) => [(14, .v (.int .i64 ((k : Int))))]) (fun k j2 => Hn n0 ((([some (.box 28 [.rd 14 ((grG l).map nodeA), .v (.int .i64 (d.obj)), .v (.int .i64 (d.sym)), .rd 3 ((grN l).map defA)])] ++ List.replicate j none ++ [some (.box 36 (nodeA ((grG l).getD i default))), some (.box 45 (secA (sX l ((grG l).getD i default))))]) ++ List.replicate j2 none) ++ [])) (fun m k j2 => k ≤ ((grG l).getD i default).edges.length ∧ m = ((grG l).getD i default).edges.length - k) (((grG l).getD i default).edges.length) (0) (0) ⟨by omega, by omega⟩ (by first | rfl | (simp; done)) (by first | rfl | (simp; done)) ?_
          rintro m1 k j2 ⟨hy1, hy2⟩
          refine AW.seq' ?_
          refine AW.seq' ?_
          refine AW.region ?_
          iterate 5 refine AO.c ?_
          refine AO.nil ?_
          refine SQ.normal ?_
          refine AW.iteB (GL.ev _) (fun h9 => ?_) (fun h9 => ?_)
          ·
           have h9 : (k : Int) < (((grG l).getD i default).edges.length : Int) := of_decide_eq_true h9
           have hk2 : k < ((grG l).getD i default).edges.length := by omega
           obtain ⟨hkr, hE⟩ := node_at12 hok hf hm he0 hGW (getD_in hi) hk2
           have hEt := hE.to
           have hEn := hE.no
           have hEa := hE.at_
           refine AW.skip ?_
           refine SQ.normal ?_
           refine AW.seq' ?_
           refine AW.block' ?_
           refine AW.seq' ?_
           refine AW.region ?_
           iterate 3 refine AO.c ?_
           refine AO.oo ?_
           refine AO.c ?_
           refine AO.ww ?_
           refine AO.sst ?_
           refine AO.nil ?_
           refine SQ.normal ?_
           refine AW.seq' ?_
           refine AW.seq' ?_
           refine AW.drawsZ [] (.one 0 false (.one 1 false (.one 2 false (.one 3 false (.one 4 false (.one 5 false (.one 6 false (.one 7 false (.one 8 false (.one 9 false (.one 10 false (.one 11 false (.one 12 false (.one 13 false (.one 14 false (.one 15 false (.one 16 false (.one 17 false (.one 18 false (.one 19 false (.one 20 false (.one 21 false (.one 22 false (.one 23 false (.one 24 false (.one 25 false (.one 26 false (.one 27 false (.one 28 false (.one 29 false (.one 30 false (.one 31 false (.one 32 false (.one 33 false (.one 34 false (.one 35 false (.one 36 false (.one 37 false (.one 38 false (.one 39 false (.one 40 false (.one 41 false (.one 42 false (.one 43 false (.one 44 false (.one 45 false (.one 46 false (.one 47 false (.one 48 false (.one 49 false (.one 50 false (.one 51 false (.one 52 false (.one 53 false .nil)))))))))))))))))))))))))))))))))))))))))))))))))))))) (by kernel_rfl) rfl (by kernel_rfl) ?_
           iterate 4 refine AZ.c rfl ?_
           iterate 6 refine AZ.gx rfl ?_
           iterate 2 refine AZ.c rfl ?_
           iterate 8 refine AZ.gx rfl ?_
           iterate 2 refine AZ.c rfl ?_
           iterate 5 refine AZ.gx rfl ?_
           refine AZ.gxo rfl (fun _ => by omega) ?_
           iterate 3 refine AZ.gx rfl ?_
           iterate 2 refine AZ.c rfl ?_
           iterate 5 refine AZ.gx rfl ?_
           refine AZ.gxo rfl (fun _ => by omega) ?_
           iterate 3 refine AZ.gx rfl ?_
           iterate 2 refine AZ.c rfl ?_
           iterate 5 refine AZ.gx rfl ?_
           refine AZ.gxo rfl (fun _ => by omega) ?_
           iterate 3 refine AZ.gx rfl ?_
           refine AZ.c rfl ?_
           refine AZ.done ?_
           refine SQ.normal ?_
           refine AW.iteB (GL.ev _) (fun h10 => ?_) (fun h10 => ?_)
           ·
            exfalso
            simp only [Bool.or_eq_true, Bool.and_eq_true, decide_eq_true_eq, Bool.not_eq_true'] at h10
            rcases h10 with ((((h10 | h10) | h10) | h10) | h10) | h10
            · omega
            · omega
            · have := hEn h10.1; omega
            · exact h10 hE.off
            · exact h10 hE.add
            · exact h10 hE.typ
           ·
            skip
            refine AW.skip ?_
            refine SQ.normal ?_
            refine AW.seq' ?_
            refine AW.drawsZ [] (.one 0 false (.one 1 false (.one 2 false (.one 3 false (.one 4 false (.one 5 false (.one 6 false (.one 7 false (.one 8 false (.one 9 false (.one 10 false (.one 11 false (.one 12 false (.one 13 false (.one 14 false (.one 15 false (.one 16 false (.one 17 false (.one 18 false (.one 19 false .nil)))))))))))))))))))) (by kernel_rfl) rfl (by kernel_rfl) ?_
            iterate 4 refine AZ.c rfl ?_
            iterate 10 refine AZ.gx rfl ?_
            refine AZ.gxo rfl (fun hgd => by
             have hq : 0 ≤ (((grG l).getD i default).edges.getD k default).to := by
              rcases Int.lt_or_le (((grG l).getD i default).edges.getD k default).to 0 with c | c
              · exfalso; rw [show decide ((((grG l).getD i default).edges.getD k default).to ≥ 0) = false from decide_eq_false (by omega)] at hgd; simp at hgd
              · exact c
             omega) ?_
            iterate 4 refine AZ.gx rfl ?_
            refine AZ.c rfl ?_
            refine AZ.done ?_
            refine SQ.normal ?_
            refine AW.iteB (GL.ev _) (fun h11 => ?_) (fun h11 => ?_)
            ·
             exfalso
             simp only [Bool.or_eq_true, Bool.and_eq_true, decide_eq_true_eq, Bool.not_eq_true'] at h11
             have := hEa h11.1
             rcases h11.2 with c | c
             · omega
             · omega
            ·
             skip
             refine AW.skip ?_
             refine BQ.normal ?_
             refine SQ.normal ?_
             refine AW.region ?_
             refine AO.c ?_
             refine AO.oo ?_
             refine AO.c ?_
             refine AO.nil ?_
             exact AW.backE [.k, .f, .f, .f, .f, .k, .k, .f, .k, .k, .k, .f, .f, .f, .k, .F, .F, .F, .F, .F, .F, .F, .F, .F, .F, .F, .F, .F, .F, .F, .F, .F, .F, .F, .F, .F, .F, .F, .F, .F, .F, .F, .F, .F, .F, .F, .F, .F, .F, .F, .F, .F, .F, .F, .F, .F, .F, .F, .F, .F, .F, .F, .F, .F, .F, .F, .F, .F, .F, .F, .f, .f, .f, .f, .f] (j2) (m1 - 1) (k + 1, j2 + 1) (by omega) (by (try dsimp only); exact ⟨by omega, by omega⟩) (by first | rfl | (simp; done)) (by first | rfl | (simp; done))
          ·
           skip
           refine AW.exit ?_
           refine SQ.exit <| AW.out <| LU.exit <| BQ.exit ?_
           refine BQ.normal ?_
           refine SQ.normal ?_
           refine AW.region ?_
           refine AO.c ?_
           refine AO.oo ?_
           refine AO.c ?_
           refine AO.nil ?_
           exact AW.backE [.k, .f, .f, .f, .f, .k, .k, .f, .k, .F, .F, .F, .F, .F, .F, .F, .F, .F, .F, .F, .F, .F, .F, .F, .F, .F, .F, .F, .F, .F, .F, .F, .F, .F, .F, .F, .F, .F, .F, .F, .F, .F, .F, .F, .F, .F, .F, .F, .F, .F, .F, .F, .F, .F, .F, .F, .F, .F, .F, .F, .F, .F, .F, .F, .F, .f, .f, .f] (j) (m0 - 1) (i + 1, j + (2 + j2)) (by omega) (by (try dsimp only); exact ⟨by omega, by omega⟩) (by first | rfl | (simp; done)) ((Hn_repJ (b := j + (2 + j2)) (by first | (simp; done) | (simp; omega))).trans (by (try dsimp only) <;> rfl))
   ·
    have h2 : ¬ (i : Int) < ((grG l).length : Int) := of_decide_eq_false h2
    refine AW.exit ?_
    refine SQ.exit <| AW.out <| LU.exit <| BQ.exit ?_
    refine SQ.normal ?_
    refine AW.seq' ?_
    refine AW.region ?_
    iterate 5 refine AO.c ?_
    refine AO.ww ?_
    iterate 2 refine AO.c ?_
    refine AO.ww ?_
    refine AO.c ?_
    refine AO.nil ?_
    refine SQ.normal ?_
    refine AW.seq' ?_
    refine AW.seq' ?_
    refine AW.ghost (Gh.freezeM 16 defA (all12 l d) (by first | rfl | (unfold all12; simp)) (by first | rfl | (unfold all12; simp; omega)) (by unfold all12; simp; omega)) ?_
    refine AW.region ?_
    refine AO.c ?_
    refine AO.nil ?_
    refine SQ.normal ?_
    refine AW.block' ?_
    refine AW.loopU [.f, .f, .f, .f, .f, .k, .k, .F, .f, .k, .k, .F, .F, .F, .F, .F, .F, .F, .F, .F, .F, .F, .F, .F, .F, .F, .F, .F, .F, .F, .F, .F, .F, .F, .F, .F, .F, .F, .F, .F, .F, .F, .F, .F, .F, .F, .F, .F, .F, .F, .F, .F, .F, .F, .F, .F, .F, .F, .F, .F, .F, .F, .F, .F, .F, .F, .f, .f] (fun (k : Nat) => [(17, .v (.int .i64 ((k : Int))))]) (fun k => Hn n0 ((([some (.box 28 [.rd 14 ((grG l).map nodeA), .v (.int .i64 (d.obj)), .v (.int .i64 (d.sym)), .rd 3 ((grN l).map defA)])] ++ List.replicate j none) ++ [none]) ++ [])) (fun m k => k ≤ (all12 l d).length ∧ m = (all12 l d).length - k) ((all12 l d).length) (0) ⟨by omega, by omega⟩ (by first | rfl | (simp; done)) (by simp) ?_
    rintro m2 k ⟨hz1, hz2⟩
    refine AW.seq' ?_
    refine AW.seq' ?_
    refine AW.region ?_
    iterate 4 refine AO.c ?_
    refine AO.nil ?_
    refine SQ.normal ?_
    refine AW.iteB (GL.ev _) (fun h12 => ?_) (fun h12 => ?_)
    ·
     have h12 : (k : Int) < ((all12 l d).length : Int) := of_decide_eq_true h12
     have hk2 : k < (all12 l d).length := by omega
     have ha := all_f hm hGW hd hk2
     have ha1 := ha.1
     have hall : (all12 l d).length ≤ 1025 := by unfold all12; rw [List.length_cons]; omega
     refine AW.skip ?_
     refine SQ.normal ?_
     refine AW.seq' ?_
     refine AW.block' ?_
     refine AW.seq' ?_
     refine AW.seq' ?_
     refine AW.drawsZ [] (.one 0 false (.one 1 false (.one 2 false (.one 3 false (.one 4 false (.one 5 false (.one 6 false (.one 7 false (.one 8 false (.one 9 false (.one 10 false (.one 11 false (.one 12 false (.one 13 false (.one 14 false (.one 15 false (.one 16 false (.one 17 false (.one 18 false (.one 19 false (.one 20 false (.one 21 false (.one 22 false (.one 23 false (.one 24 false .nil))))))))))))))))))))))))) (by kernel_rfl) rfl (by kernel_rfl) ?_
     iterate 2 refine AZ.c rfl ?_
     refine AZ.oo rfl ?_
     iterate 4 refine AZ.c rfl ?_
     iterate 2 refine AZ.gx rfl ?_
     refine AZ.gxoo rfl ?_
     iterate 6 refine AZ.gx rfl ?_
     iterate 2 refine AZ.c rfl ?_
     iterate 2 refine AZ.gx rfl ?_
     refine AZ.gxoo rfl ?_
     iterate 3 refine AZ.gx rfl ?_
     refine AZ.c rfl ?_
     refine AZ.done ?_
     refine SQ.normal ?_
     refine AW.iteB (GL.ev _) (fun h13 => ?_) (fun h13 => ?_)
     ·
      exfalso
      simp only [Bool.or_eq_true, Bool.and_eq_true, decide_eq_true_eq, Bool.not_eq_true'] at h13
      omega
     ·
      skip
      refine AW.skip ?_
      refine SQ.normal ?_
      refine AW.seq' ?_
      refine AW.drawsZ [] (.one 0 false (.one 1 false (.one 2 false (.one 3 false (.one 4 false (.one 5 false (.one 6 false (.one 7 false (.one 8 false (.one 9 false (.one 10 false (.one 11 false (.one 12 false (.one 13 false (.one 14 false (.one 15 false (.one 16 false (.one 17 false (.one 18 false (.one 19 false (.one 20 false (.one 21 false (.one 22 false (.one 23 false (.one 24 false (.one 25 false (.one 26 false (.one 27 false (.one 28 false (.one 29 false (.one 30 false (.one 31 false (.one 32 false (.one 33 false .nil)))))))))))))))))))))))))))))))))) (by kernel_rfl) rfl (by kernel_rfl) ?_
      iterate 2 refine AZ.c rfl ?_
      refine AZ.oo rfl ?_
      iterate 6 refine AZ.c rfl ?_
      refine AZ.oo rfl ?_
      iterate 2 refine AZ.c rfl ?_
      refine AZ.o rfl (by omega) ?_
      iterate 4 refine AZ.c rfl ?_
      iterate 5 refine AZ.gx rfl ?_
      refine AZ.gxo rfl (fun _ => by omega) ?_
      iterate 4 refine AZ.gx rfl ?_
      refine AZ.gxo rfl (fun _ => by omega) ?_
      refine AZ.gxo rfl (fun hgd => by simp at hgd; omega) ?_
      iterate 4 refine AZ.gx rfl ?_
      refine AZ.c rfl ?_
      refine AZ.done ?_
      refine SQ.normal ?_
      refine AW.iteB (GL.ev _) (fun h14 => ?_) (fun h14 => ?_)
      ·
       exfalso
       simp only [Bool.or_eq_true, Bool.and_eq_true, decide_eq_true_eq, Bool.not_eq_true'] at h14
       rcases h14 with h14 | h14
       · omega
       · have := ha.2 (by omega)
         rw [show ((k : Int) - 1).toNat = k - 1 by omega] at h14
         rw [this] at h14
         cases h14.2
      ·
       skip
       refine AW.skip ?_
       refine BQ.normal ?_
       refine SQ.normal ?_
       refine AW.region ?_
       refine AO.c ?_
       refine AO.oo ?_
       refine AO.c ?_
       refine AO.nil ?_
       exact AW.backU [.f, .f, .f, .f, .f, .k, .k, .F, .f, .k, .k, .F, .F, .F, .F, .F, .F, .F, .F, .F, .F, .F, .F, .F, .F, .F, .F, .F, .F, .F, .F, .F, .F, .F, .F, .F, .F, .F, .F, .F, .F, .F, .F, .F, .F, .F, .F, .F, .F, .F, .F, .F, .F, .F, .F, .F, .F, .F, .F, .F, .F, .F, .F, .F, .F, .F, .f, .f] (m2 - 1) (k + 1) (by omega) (by (try dsimp only); exact ⟨by omega, by omega⟩) (by first | rfl | (simp; done)) (by first | rfl | (simp; done))
    ·
     skip
     refine AW.exit ?_
     refine SQ.exit <| AW.out <| LU.exit <| BQ.exit ?_
     refine SQ.normal ?_
     refine AW.seq' ?_
     refine AW.region ?_
     iterate 2 refine AO.c ?_
     refine AO.nil ?_
     refine SQ.normal ?_
     refine AW.ret ?_
     refine Fin.ret (Gh.refl) noid1 ?_
     first | rfl | (simp [packA]; done)
end Go.Proofs.Ytiomdnmicagdcaa.AL
namespace Go.Proofs.Ytiomdnmicagdcaa.AL
open Go Go.RowKit Go.Proofs.Ytiomdnmicagdcaa.Base
set_option linter.unusedVariables false
set_option linter.unusedSimpArgs false
set_option maxRecDepth 4000
set_option synthInstance.maxSize 1000
set_option synthInstance.maxHeartbeats 200000
theorem args_GraphWhole {avs : List AV} (h : TArgs Try.prog [22, 9] avs) : A0 Try.prog 3 avs (fun ret => ret = .v (.bool true)) := by
 obtain ⟨av1, b1, rfl, k1, h1⟩ := TArgs.inv_one rfl h
 obtain ⟨av2, b2, rfl, k2, h2⟩ := TArgs.inv_one rfl h1
 obtain rfl := TArgs.inv_nil h2
 obtain ⟨l, rfl, hl, hok⟩ := ta_objs k1
 obtain ⟨n2, e2, _⟩ := k2.inv_str
 cases e2
 exact graph_Whole l hl hok n2
end Go.Proofs.Ytiomdnmicagdcaa.AL
