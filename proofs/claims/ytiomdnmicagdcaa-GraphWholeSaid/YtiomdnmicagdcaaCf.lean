/- A part of the proof: rules of an own logic over blocks, and what functions of the program compute, each by its own contract; the conditions stand with each. -/
import Derived.Test.YtiomdnmicagdcaaCd
import Derived.Test.YtiomdnmicagdcaaCe
namespace Go.Proofs.Ytiomdnmicagdcaa.AL
open Go Go.RowKit Go.Proofs.Ytiomdnmicagdcaa.Base
set_option linter.unusedVariables false
set_option linter.unusedSimpArgs false
set_option maxRecDepth 4000
set_option synthInstance.maxSize 1000
set_option synthInstance.maxHeartbeats 200000
def typedP (s : SecD) : Bool :=
 bif decide (s.typ = 1) then decide (s.size = s.data.length) && decide (s.size ≤ 16384)
 else bif decide (s.typ = 8) then decide ((s.data.length : Int) = 0) && withinB s.size 2147483647 && hasP s.flags 1 && !hasP s.flags 16 else false
def mergedP (s : SecD) : Bool :=
 bif !hasP s.flags 16 then decide (s.ent = 0) && !hasP s.flags 32
 else bif hasP s.flags 1 || hasP s.flags 4 || decide ((s.rels.length : Int) > 0) then false
 else bif hasP s.flags 32 then decide (s.ent = 1) && decide (s.align = 1) && (decide ((s.data.length : Int) = 0) || decide (s.data.getD ((s.data.length : Int) - 1).toNat 0 = 0))
 else (decide (s.ent = 4) || decide (s.ent = 8) || decide (s.ent = 16)) && decide (s.align ≤ s.ent) && decide (s.size % s.ent = 0)
theorem typed_size {s : SecD} (h : typedP s = true) : 0 ≤ s.size := by
 unfold typedP withinB at h
 by_cases h1 : s.typ = 1
 · rw [decide_eq_true h1, cond_true] at h
   simp only [Bool.and_eq_true, decide_eq_true_eq] at h
   omega
 · rw [decide_eq_false h1, cond_false] at h
   by_cases h8 : s.typ = 8
   · rw [decide_eq_true h8, cond_true] at h
     simp only [Bool.and_eq_true, decide_eq_true_eq] at h
     omega
   · rw [decide_eq_false h8] at h; cases h
def relGP (many len : Int) : Int → List RelD → Bool
 | _, [] => true
 | e, r :: rs => bif !mayRelB r || decide (r.sym ≥ many) || decide (r.off < e) || decide (r.off > len - widthF r.typ) then false else relGP many len (r.off + widthF r.typ) rs
def relatedP (s : SecD) (many : Int) : Bool := decide ((s.rels.length : Int) ≤ 64) && relGP many s.data.length 0 s.rels
theorem put_len0 (r : RelD) : decide ((((if mayRelB r = true then relB r else []).length : Nat) : Int) = 0) = !mayRelB r := by
 cases h : mayRelB r with
 | true => rw [if_pos rfl, relB_len]; rfl
 | false => rfl
def sectionP (o : ObjD) (i : Int) : Bool :=
 bif !mayS (o.secs.getD (i - 1).toNat default).name || decide (Go.bits .andNot .i64 (o.secs.getD (i - 1).toNat default).flags 2097847 ≠ 0) || decide ((o.secs.getD (i - 1).toNat default).flags < 0) || hasP (o.secs.getD (i - 1).toNat default).flags 5 then false
 else bif decide ((o.secs.getD (i - 1).toNat default).align < 1) || decide ((o.secs.getD (i - 1).toNat default).align > 4096) || decide (band (o.secs.getD (i - 1).toNat default).align ((o.secs.getD (i - 1).toNat default).align - 1) ≠ 0) || !typedP (o.secs.getD (i - 1).toNat default) || !mergedP (o.secs.getD (i - 1).toNat default) then false
 else bif (!(hasP (o.secs.getD (i - 1).toNat default).flags 128 == decide ((o.secs.getD (i - 1).toNat default).link ≠ 0))) || !withinB (o.secs.getD (i - 1).toNat default).link o.secs.length || decide ((o.secs.getD (i - 1).toNat default).link = i) then false
 else (o.groups.any (fun g => g.mem.any fun x => decide (i = x)) == hasP (o.secs.getD (i - 1).toNat default).flags 512) && relatedP (o.secs.getD (i - 1).toNat default) o.syms.length
def symbolP (o : ObjD) (i : Int) : Bool :=
 bif decide (i = 0) then decide ((o.syms.getD i.toNat default).name.toList = emptyS.toList) && (decide ((o.syms.getD i.toNat default).bind = 0) && (decide ((o.syms.getD i.toNat default).typ = 0) && (decide ((o.syms.getD i.toNat default).sec = 0) && (decide ((o.syms.getD i.toNat default).val = 0) && (decide ((o.syms.getD i.toNat default).size = 0) && true)))))
 else bif !mayS (o.syms.getD i.toNat default).name || !withinB (o.syms.getD i.toNat default).bind 2 || !withinB (o.syms.getD i.toNat default).typ 3 || !withinB (o.syms.getD i.toNat default).size 2147483647 || !withinB (o.syms.getD i.toNat default).val 2147483647 then false
 else bif decide ((o.syms.getD i.toNat default).sec < -1) || decide ((o.syms.getD i.toNat default).sec > o.secs.length) then false
 else bif decide ((o.syms.getD i.toNat default).sec > 0) && decide ((o.syms.getD i.toNat default).val > (o.secs.getD ((o.syms.getD i.toNat default).sec - 1).toNat default).size) || decide ((o.syms.getD i.toNat default).sec = 0) && decide ((o.syms.getD i.toNat default).val ≠ 0) then false
 else bif decide ((o.syms.getD i.toNat default).bind = 0) then decide ((o.syms.getD i.toNat default).sec ≠ 0) && decide ((o.syms.getD (i - 1).toNat default).bind = 0)
 else decide ((o.syms.getD i.toNat default).name.toList ≠ emptyS.toList)
theorem obj_has (s : SecD) (k : Int) : A0 Try.prog 47 [.agg (secA s), .v (.int .i64 (k))] (fun ret => ret = .v (.bool (hasP s.flags k))) := by
 refine A0.body 11 Try.func47 rfl rfl Try.ntmps47 fun base n0 => ?_
 refine AW.seq' ?_
 refine AW.region ?_
 refine AO.ww ?_
 refine AO.c ?_
 refine AO.nil ?_
 refine SQ.normal ?_
 refine AW.seq' ?_
 refine AW.region ?_
 iterate 7 refine AO.c ?_
 refine AO.nil ?_
 refine SQ.normal ?_
 refine AW.ret ?_
 refine Fin.ret (Gh.refl) noid1 ?_
 rfl
theorem obj_within (n m : Int) : A0 Try.prog 38 [.v (.int .i64 (n)), .v (.int .i64 (m))] (fun ret => ret = .v (.bool (withinB n m))) := by
 refine A0.body 12 Try.func38 rfl rfl Try.ntmps38 fun base n0 => ?_
 refine AW.seq' ?_
 refine AW.region ?_
 refine AO.c ?_
 refine AO.nil ?_
 refine SQ.normal ?_
 refine AW.seq' ?_
 refine AW.region ?_
 iterate 3 refine AO.c ?_
 iterate 3 refine AO.gx ?_
 iterate 2 refine AO.c ?_
 refine AO.nil ?_
 refine SQ.normal ?_
 refine AW.ret ?_
 refine Fin.ret (Gh.refl) noid1 ?_
 rfl
theorem obj_typed (s : SecD) : A0 Try.prog 48 [.agg (secA s)] (fun ret => ret = .v (.bool (typedP s))) := by
 refine A0.body 38 Try.func48 rfl rfl Try.ntmps48 fun base n0 => ?_
 refine AW.seq' ?_
 refine AW.region ?_
 refine AO.ww ?_
 refine AO.c ?_
 refine AO.nil ?_
 refine SQ.normal ?_
 refine AW.seq' ?_
 refine AW.seq' ?_
 refine AW.region ?_
 iterate 2 refine AO.c ?_
 refine AO.nil ?_
 refine SQ.normal ?_
 refine AW.block' ?_
 refine AW.seq' ?_
 refine AW.region ?_
 iterate 2 refine AO.c ?_
 refine AO.nil ?_
 refine SQ.normal ?_
 refine AW.iteB (GL.ev _) (fun h0 => ?_) (fun h0 => ?_)
 ·
  skip
  refine AW.seq' ?_
  refine AW.region ?_
  iterate 7 refine AO.c ?_
  iterate 3 refine AO.gx ?_
  iterate 2 refine AO.c ?_
  refine AO.nil ?_
  refine SQ.normal ?_
  refine AW.ret ?_
  refine BQ.ret <| SQ.ret ?_
  refine Fin.ret (Gh.refl) noid1 ?_
  unfold typedP; simp only [*, cond_true, cond_false]; rfl
 ·
  skip
  refine AW.seq' ?_
  refine AW.region ?_
  iterate 2 refine AO.c ?_
  refine AO.nil ?_
  refine SQ.normal ?_
  refine AW.iteB (GL.ev _) (fun h1 => ?_) (fun h1 => ?_)
  ·
   skip
   refine AW.seq' ?_
   refine AW.region ?_
   iterate 5 refine AO.c ?_
   iterate 2 refine AO.gx ?_
   refine AO.gxcall1 Try.func38 rfl rfl (fun hgd => obj_within _ _) ?_
   iterate 2 refine AO.c ?_
   refine AO.gx ?_
   refine AO.gxcall1 Try.func47 rfl rfl (fun hgd => obj_has _ _) ?_
   iterate 2 refine AO.c ?_
   refine AO.gx ?_
   refine AO.gxcall1 Try.func47 rfl rfl (fun hgd => obj_has _ _) ?_
   refine AO.gx ?_
   iterate 2 refine AO.c ?_
   refine AO.nil ?_
   refine SQ.normal ?_
   refine AW.ret ?_
   refine BQ.ret <| SQ.ret ?_
   refine Fin.ret (Gh.refl) noid1 ?_
   unfold typedP; simp only [*, cond_true, cond_false]; rfl
  ·
   skip
   refine AW.skip ?_
   refine BQ.normal ?_
   refine SQ.normal ?_
   refine AW.seq' ?_
   refine AW.region ?_
   refine AO.c ?_
   refine AO.nil ?_
   refine SQ.normal ?_
   refine AW.ret ?_
   refine Fin.ret (Gh.refl) noid1 ?_
   unfold typedP; simp only [*, cond_true, cond_false]; rfl
set_option maxHeartbeats 1000000 in
theorem obj_merged (s : SecD) (hs : s.ok) (hsz : 0 ≤ s.size) : A0 Try.prog 49 [.agg (secA s)] (fun ret => ret = .v (.bool (mergedP s))) := by
 obtain ⟨q1, q2, q3, q4, q5, q6, q7, q8, q9, q10, q11⟩ := hs
 unfold I64 at q2 q5 q6 q7
 rw [maxLen_eq] at q8 q10
 refine A0.body 81 Try.func49 rfl rfl Try.ntmps49 fun base n0 => ?_
 refine AW.seq' ?_
 refine AW.region ?_
 refine AO.ww ?_
 refine AO.c ?_
 refine AO.nil ?_
 refine SQ.normal ?_
 refine AW.seq' ?_
 refine AW.seq' ?_
 refine AW.region ?_
 refine AO.c ?_
 refine AO.call1 Try.func47 rfl rfl (obj_has _ _) ?_
 refine AO.c ?_
 refine AO.nil ?_
 refine SQ.normal ?_
 refine AW.iteB (GL.ev _) (fun h0 => ?_) (fun h0 => ?_)
 ·
  skip
  refine AW.seq' ?_
  refine AW.region ?_
  iterate 4 refine AO.c ?_
  refine AO.gx ?_
  refine AO.gxcall1 Try.func47 rfl rfl (fun hgd => obj_has _ _) ?_
  refine AO.gx ?_
  iterate 2 refine AO.c ?_
  refine AO.nil ?_
  refine SQ.normal ?_
  refine AW.ret ?_
  refine SQ.ret ?_
  refine Fin.ret (Gh.refl) noid1 ?_
  unfold mergedP; simp only [*, cond_true, cond_false]; rfl
 ·
  skip
  refine AW.skip ?_
  refine SQ.normal ?_
  refine AW.seq' ?_
  refine AW.seq' ?_
  refine AW.region ?_
  refine AO.c ?_
  refine AO.call1 Try.func47 rfl rfl (obj_has _ _) ?_
  refine AO.c ?_
  refine AO.gx ?_
  refine AO.gxcall1 Try.func47 rfl rfl (fun hgd => obj_has _ _) ?_
  iterate 2 refine AO.c ?_
  iterate 4 refine AO.gx ?_
  refine AO.c ?_
  refine AO.nil ?_
  refine SQ.normal ?_
  refine AW.iteB (GL.ev _) (fun h1 => ?_) (fun h1 => ?_)
  ·
   skip
   refine AW.seq' ?_
   refine AW.region ?_
   refine AO.c ?_
   refine AO.nil ?_
   refine SQ.normal ?_
   refine AW.ret ?_
   refine SQ.ret ?_
   refine Fin.ret (Gh.refl) noid1 ?_
   unfold mergedP; simp only [*, cond_true, cond_false]; rfl
  ·
   skip
   refine AW.skip ?_
   refine SQ.normal ?_
   refine AW.seq' ?_
   refine AW.seq' ?_
   refine AW.region ?_
   refine AO.c ?_
   refine AO.call1 Try.func47 rfl rfl (obj_has _ _) ?_
   refine AO.nil ?_
   refine SQ.normal ?_
   refine AW.iteB (GL.ev _) (fun h2 => ?_) (fun h2 => ?_)
   ·
    skip
    refine AW.seq' ?_
    refine AW.region ?_
    iterate 4 refine AO.c ?_
    iterate 3 refine AO.gx ?_
    iterate 2 refine AO.c ?_
    iterate 10 refine AO.gx ?_
    refine AO.gxo (fun h => by omega) ?_
    refine AO.gxo (fun h => ?_) ?_
    · simp only [Bool.and_eq_true, Bool.not_eq_true', decide_eq_false_iff_not] at h
      omega
    iterate 3 refine AO.gx ?_
    iterate 2 refine AO.c ?_
    refine AO.nil ?_
    refine SQ.normal ?_
    refine AW.ret ?_
    refine SQ.ret ?_
    refine Fin.ret (Gh.refl) noid1 ?_
    unfold mergedP; simp only [*, cond_true, cond_false]; rfl
   ·
    skip
    refine AW.skip ?_
    refine SQ.normal ?_
    refine AW.seq' ?_
    refine AW.region ?_
    iterate 4 refine AO.c ?_
    iterate 3 refine AO.gx ?_
    iterate 2 refine AO.c ?_
    iterate 3 refine AO.gx ?_
    iterate 2 refine AO.c ?_
    iterate 5 refine AO.gx ?_
    iterate 2 refine AO.c ?_
    iterate 4 refine AO.gx ?_
    refine AO.gxo (fun h => ?_) ?_
    · simp only [Bool.and_eq_true, Bool.or_eq_true, decide_eq_true_eq] at h
      exact ⟨by omega, by omega⟩
    refine AO.gx ?_
    iterate 2 refine AO.c ?_
    refine AO.nil ?_
    refine SQ.normal ?_
    refine AW.ret ?_
    refine Fin.ret (Gh.refl) noid1 ?_
    unfold mergedP; simp only [*, cond_true, cond_false]; rfl
set_option maxHeartbeats 1000000 in
theorem obj_related (s : SecD) (many : Int) (hs : s.ok) (hm : I64 many) : A0 Try.prog 53 [.agg (secA s), .v (.int .i64 (many))] (fun ret => ret = .v (.bool (relatedP s many))) := by
 obtain ⟨q1, q2, q3, q4, q5, q6, q7, q8, q9, q10, q11⟩ := hs
 rw [maxLen_eq] at q8 q10
 refine A0.body 54 Try.func53 rfl rfl Try.ntmps53 fun base n0 => ?_
 refine AW.seq' ?_
 refine AW.region ?_
 refine AO.ww ?_
 refine AO.c ?_
 refine AO.nil ?_
 refine SQ.normal ?_
 refine AW.seq' ?_
 refine AW.seq' ?_
 refine AW.region ?_
 iterate 4 refine AO.c ?_
 refine AO.nil ?_
 refine SQ.normal ?_
 refine AW.iteB (GL.ev _) (fun h0 => ?_) (fun h0 => ?_)
 ·
  rw [decide_eq_true_eq] at h0
  refine AW.seq' ?_
  refine AW.region ?_
  refine AO.c ?_
  refine AO.nil ?_
  refine SQ.normal ?_
  refine AW.ret ?_
  refine SQ.ret ?_
  refine Fin.ret (Gh.refl) noid1 ?_
  unfold relatedP; rw [decide_eq_false (by omega)]; rfl
 ·
  rw [decide_eq_false_iff_not] at h0
  refine AW.skip ?_
  refine SQ.normal ?_
  refine AW.seq' ?_
  refine AW.region ?_
  refine AO.c ?_
  refine AO.nil ?_
  refine SQ.normal ?_
  refine AW.seq' ?_
  refine AW.seq' ?_
  refine AW.region ?_
  iterate 4 refine AO.c ?_
  refine AO.nil ?_
  refine SQ.normal ?_
  refine AW.block' ?_
  refine AW.loopU3 [.f, .k, .k, .f, .f, .k, .f, .f, .f, .f, .f, .f, .f, .k, .k, .k, .F, .F, .F, .F, .f, .f, .f, .f, .f, .f] (fun (i j : Nat) (e : Int) => [(5, .v (.int .i64 (e))), (15, .v (.int .i64 (i)))]) (fun i j e => Hn n0 (([some (.box 45 (secA s))] ++ List.replicate j none) ++ [])) (fun m i j e => i ≤ s.rels.length ∧ m = s.rels.length - i ∧ relGP many s.data.length 0 s.rels = relGP many s.data.length e (s.rels.drop i)) (s.rels.length) (0) (0) (0) ⟨by omega, by omega, rfl⟩ (by first | rfl | (simp; done)) (by first | rfl | (simp; done)) ?_
  rintro m0 i j e ⟨hx1, hx2, hx3⟩
  refine AW.seq' ?_
  refine AW.region ?_
  refine AO.c ?_
  refine AO.nil ?_
  refine SQ.normal ?_
  refine AW.seq' ?_
  refine AW.iteB (GL.ev _) (fun h1 => ?_) (fun h1 => ?_)
  ·
   rw [decide_eq_true_eq] at h1
   have hi : i < s.rels.length := by omega
   have hr := relOk_at q11 hi
   rw [drop_getD hi, relGP] at hx3
   have hw := widthF_range (s.rels.getD i default).typ
   generalize hre : s.rels.getD i default = r at hr hx3 hw
   have hr2 := hr.1
   unfold I64 at hr2
   have hp0 := put_len0 r
   refine AW.skip ?_
   refine SQ.normal ?_
   refine AW.seq' ?_
   refine AW.block' ?_
   refine AW.seq' ?_
   refine AW.region ?_
   refine AO.oo ?_
   refine AO.c ?_
   refine AO.eq 18 (av' := .agg (relA r)) (by rw [hre]) ?_
   refine AO.ww ?_
   refine AO.sst ?_
   refine AO.nil ?_
   refine SQ.normal ?_
   refine AW.seq' ?_
   refine AW.seq' ?_
   refine AW.drawsZ [] (.one 0 false (.one 1 true (.one 2 false (.one 3 false (.one 4 false (.one 5 false (.one 6 false (.one 7 false (.one 8 false (.one 9 false (.one 10 false (.one 11 false (.one 12 false (.one 13 false (.one 14 false (.one 15 false (.one 16 false (.one 17 false (.one 18 false (.one 19 false (.one 20 false (.one 21 false (.one 22 false (.one 23 false (.one 24 true (.one 25 false (.one 26 false (.one 27 false .nil)))))))))))))))))))))))))))) (by kernel_rfl) rfl (by kernel_rfl) ?_
   refine AZ.c rfl ?_
   refine AZ.call1 rfl Try.func68 rfl rfl (rela_Put r hr) ?_
   iterate 3 refine AZ.c rfl ?_
   iterate 4 refine AZ.gx rfl ?_
   iterate 2 refine AZ.c rfl ?_
   iterate 4 refine AZ.gx rfl ?_
   iterate 2 refine AZ.c rfl ?_
   iterate 7 refine AZ.gx rfl ?_
   refine AZ.gxcall1 rfl Try.func69 rfl rfl (fun hgd => rela_Width _) ?_
   refine AZ.gxoo rfl ?_
   refine AZ.gx rfl ?_
   refine AZ.c rfl ?_
   refine AZ.done ?_
   refine SQ.normal ?_
   refine AW.iteB (GL.ev _) (fun h2 => ?_) (fun h2 => ?_)
   ·
    rw [hp0] at h2
    rw [h2, cond_true] at hx3
    refine AW.seq' ?_
    refine AW.region ?_
    refine AO.c ?_
    refine AO.nil ?_
    refine SQ.normal ?_
    refine AW.ret ?_
    refine SQ.ret <| BQ.ret <| SQ.ret <| AW.out <| LU.ret <| BQ.ret <| SQ.ret ?_
    refine Fin.ret (Gh.refl) noid1 ?_
    unfold relatedP; rw [hx3, Bool.and_false]; rfl
   ·
    rw [hp0] at h2
    rw [h2, cond_false] at hx3
    simp only [Bool.or_eq_false_iff, Bool.not_eq_false', decide_eq_false_iff_not] at h2
    have hmo := mayRel_off h2.1.1.1
    refine AW.skip ?_
    refine SQ.normal ?_
    refine AW.drawsZ [] (.one 0 false (.one 1 false (.one 2 false (.one 3 false (.one 4 true (.one 5 false (.one 6 false .nil))))))) (by kernel_rfl) rfl (by kernel_rfl) ?_
    iterate 4 refine AZ.c rfl ?_
    refine AZ.call1 rfl Try.func69 rfl rfl (rela_Width _) ?_
    refine AZ.oo rfl ?_
    refine AZ.c rfl ?_
    refine AZ.done ?_
    refine BQ.normal ?_
    refine SQ.normal ?_
    refine AW.region ?_
    refine AO.oo ?_
    refine AO.c ?_
    refine AO.nil ?_
    exact AW.backD [.f, .k, .k, .f, .f, .k, .f, .f, .f, .f, .f, .f, .f, .k, .k, .k, .F, .F, .F, .F, .f, .f, .f, .f, .f, .f] ([some (.box 45 (secA s))]) (j) (m0 - 1) (i + 1, j + 1, r.off + widthF r.typ) (by omega) (by (try dsimp only); exact ⟨by omega, by omega, hx3⟩) (by first | rfl | (simp; done)) (by first | rfl | (simp; done))
  ·
   rw [decide_eq_false_iff_not] at h1
   refine AW.exit ?_
   refine SQ.exit <| AW.out <| LU.exit <| BQ.exit ?_
   refine SQ.normal ?_
   refine AW.seq' ?_
   refine AW.region ?_
   refine AO.c ?_
   refine AO.nil ?_
   refine SQ.normal ?_
   refine AW.ret ?_
   refine Fin.ret (Gh.refl) noid1 ?_
   unfold relatedP; rw [hx3, List.drop_of_length_le (by omega), decide_eq_true (by omega)]; rfl
theorem ints_Index (l : List Int) (v : Int) (hl : l.length ≤ 9223372036854775807) : A0 Try.prog 66 [.rd 1 (l.map iA), .v (.int .i64 (v))] (fun ret => ret = .v (.int .i64 (idxF (fun x => decide (v = x)) l))) := by
 refine A0.body 19 Try.func66 rfl rfl Try.ntmps66 fun base n0 => ?_
 refine AW.seq' ?_
 refine AW.region ?_
 refine AO.c ?_
 refine AO.nil ?_
 refine SQ.normal ?_
 refine AW.seq' ?_
 refine AW.seq' ?_
 refine AW.region ?_
 iterate 3 refine AO.c ?_
 refine AO.nil ?_
 refine SQ.normal ?_
 refine AW.block' ?_
 refine AW.loopU [.k, .k, .f, .f, .f, .f, .f, .k, .k, .F, .f, .f] (fun (i : Nat) => [(8, .v (.int .i64 (i)))]) (fun i => Hn n0 []) (fun m i => i ≤ l.length ∧ m = l.length - i ∧ ∀ j, j < i → (fun x => decide (v = x)) (l.getD j default) = false) (l.length) (0) ⟨by omega, rfl, fun j h => by omega⟩ (by first | rfl | (simp; done)) (by first | rfl | (simp; done)) ?_
 rintro m0 i ⟨hx1, hx2, hx3⟩
 refine AW.seq' ?_
 refine AW.region ?_
 refine AO.c ?_
 refine AO.nil ?_
 refine SQ.normal ?_
 refine AW.seq' ?_
 refine AW.iteB (GL.ev _) (fun h0 => ?_) (fun h0 => ?_)
 ·
  rw [decide_eq_true_eq] at h0
  have hi : i < l.length := by omega
  refine AW.skip ?_
  refine SQ.normal ?_
  refine AW.seq' ?_
  refine AW.block' ?_
  refine AW.seq' ?_
  refine AW.region ?_
  iterate 2 refine AO.c ?_
  refine AO.nil ?_
  refine SQ.normal ?_
  refine AW.seq' ?_
  refine AW.region ?_
  iterate 3 refine AO.c ?_
  refine AO.oo ?_
  iterate 2 refine AO.c ?_
  refine AO.nil ?_
  refine SQ.normal ?_
  refine AW.iteB (GL.ev _) (fun h1 => ?_) (fun h1 => ?_)
  ·
   skip
   refine AW.seq' ?_
   refine AW.region ?_
   iterate 2 refine AO.c ?_
   refine AO.nil ?_
   refine SQ.normal ?_
   refine AW.ret ?_
   refine BQ.ret <| SQ.ret <| AW.out <| LU.ret <| BQ.ret <| SQ.ret ?_
   refine Fin.ret (Gh.refl) noid1 ?_
   rw [idxF_at hi hx3 h1]; rfl
  ·
   skip
   refine AW.skip ?_
   refine BQ.normal ?_
   refine SQ.normal ?_
   refine AW.region ?_
   refine AO.oo ?_
   refine AO.c ?_
   refine AO.nil ?_
   exact AW.backU [.k, .k, .f, .f, .f, .f, .f, .k, .k, .F, .f, .f] (m0 - 1) (i + 1) (by omega) (by (try dsimp only); exact ⟨by omega, by omega, fun j hj => (Nat.lt_or_eq_of_le (Nat.le_of_lt_succ hj)).elim (hx3 j) (fun h => by rw [h]; exact h1)⟩) (by first | rfl | (simp; done)) (by first | rfl | (simp; done))
 ·
  rw [decide_eq_false_iff_not] at h0
  refine AW.exit ?_
  refine SQ.exit <| AW.out <| LU.exit <| BQ.exit ?_
  refine SQ.normal ?_
  refine AW.seq' ?_
  refine AW.region ?_
  refine AO.c ?_
  refine AO.nil ?_
  refine SQ.normal ?_
  refine AW.ret ?_
  refine Fin.ret (Gh.refl) noid1 ?_
  rw [idxF_none (fun j hj => hx3 j (by omega))]; rfl
theorem ints_Contains (l : List Int) (v : Int) (hl : l.length ≤ 9223372036854775807) : A0 Try.prog 51 [.rd 1 (l.map iA), .v (.int .i64 (v))] (fun ret => ret = .v (.bool (l.any fun x => decide (v = x)))) := by
 refine A0.body 9 Try.func51 rfl rfl Try.ntmps51 fun base n0 => ?_
 refine AW.seq' ?_
 refine AW.region ?_
 refine AO.c ?_
 refine AO.nil ?_
 refine SQ.normal ?_
 refine AW.seq' ?_
 refine AW.region ?_
 iterate 2 refine AO.c ?_
 refine AO.call1 Try.func66 rfl rfl (ints_Index _ _ (by omega)) ?_
 iterate 2 refine AO.c ?_
 refine AO.nil ?_
 refine SQ.normal ?_
 refine AW.ret ?_
 refine Fin.ret (Gh.refl) noid1 ?_
 rw [← idxF_ge]; rfl
theorem obj_section1 (g : GrpD) (i : Int) (hg : g.mem.length ≤ 9223372036854775807) : A0 Try.prog 50 [.agg (grpA g), .eptr [.v (.int .i64 (i))]] (fun ret => ret = .v (.bool (g.mem.any fun x => decide (i = x)))) := by
 refine A0.body 8 Try.func50 rfl rfl Try.ntmps50 fun base n0 => ?_
 refine AW.seq' ?_
 refine AW.region ?_
 refine AO.ww ?_
 refine AO.c ?_
 refine AO.nil ?_
 refine SQ.normal ?_
 refine AW.seq' ?_
 refine AW.region ?_
 iterate 3 refine AO.c ?_
 refine AO.call1 Try.func51 rfl rfl (ints_Contains _ _ (by omega)) ?_
 refine AO.c ?_
 refine AO.nil ?_
 refine SQ.normal ?_
 refine AW.ret ?_
 refine Fin.ret (Gh.refl) noid1 ?_
 rfl
theorem grps_IndexFunc (l : List GrpD) (f : FuncId) (cs : List AV) (q : GrpD → Bool) (fn : Func) (hl : l.length ≤ 9223372036854775807) (hgc : ∀ n, ∀ av ∈ cs, Gen n av) (hf : Try.prog.funcs[f]? = some fn) (hname : (fn.name == "runtime.NumGoroutine") = false) (hb : fn.body.isSome = true) (h : ∀ x ∈ l, A0 Try.prog f (.agg (grpA (x)) :: cs) (fun r => r = .v (.bool (q x)))) : A0 Try.prog 67 [.rd 2 (l.map grpA), .fn f cs] (fun ret => ret = .v (.int .i64 (idxF q l))) := by
 refine A0.body 19 Try.func67 rfl rfl Try.ntmps67 fun base n0 => ?_
 refine AW.seq' ?_
 refine AW.region ?_
 refine AO.c ?_
 refine AO.nil ?_
 refine SQ.normal ?_
 refine AW.seq' ?_
 refine AW.seq' ?_
 refine AW.region ?_
 iterate 3 refine AO.c ?_
 refine AO.nil ?_
 refine SQ.normal ?_
 refine AW.block' ?_
 refine AW.loopU [.k, .k, .f, .f, .f, .f, .f, .k, .k, .F, .f, .f] (fun (i : Nat) => [(8, .v (.int .i64 (i)))]) (fun i => Hn n0 []) (fun m i => i ≤ l.length ∧ m = l.length - i ∧ ∀ j, j < i → q (l.getD j default) = false) (l.length) (0) ⟨by omega, rfl, fun j h => by omega⟩ (by first | rfl | (simp; done)) (by first | rfl | (simp; done)) ?_
 rintro m0 i ⟨hx1, hx2, hx3⟩
 refine AW.seq' ?_
 refine AW.region ?_
 refine AO.c ?_
 refine AO.nil ?_
 refine SQ.normal ?_
 refine AW.seq' ?_
 refine AW.iteB (GL.ev _) (fun h0 => ?_) (fun h0 => ?_)
 ·
  rw [decide_eq_true_eq] at h0
  have hi : i < l.length := by omega
  refine AW.skip ?_
  refine SQ.normal ?_
  refine AW.seq' ?_
  refine AW.block' ?_
  refine AW.seq' ?_
  refine AW.region ?_
  iterate 2 refine AO.c ?_
  refine AO.nil ?_
  refine SQ.normal ?_
  refine AW.seq' ?_
  refine AW.region ?_
  iterate 3 refine AO.c ?_
  refine AO.oo ?_
  refine AO.c ?_
  refine AO.callF (args' := .agg (grpA ((l.getD i default))) :: cs) hgc hf hname hb (h _ (getD_in hi)) rfl ?_
  refine AO.nil ?_
  refine SQ.normal ?_
  refine AW.iteB (GL.ev _) (fun h1 => ?_) (fun h1 => ?_)
  ·
   skip
   refine AW.seq' ?_
   refine AW.region ?_
   iterate 2 refine AO.c ?_
   refine AO.nil ?_
   refine SQ.normal ?_
   refine AW.ret ?_
   refine BQ.ret <| SQ.ret <| AW.out <| LU.ret <| BQ.ret <| SQ.ret ?_
   refine Fin.ret (Gh.refl) noid1 ?_
   rw [idxF_at hi hx3 h1]; rfl
  ·
   skip
   refine AW.skip ?_
   refine BQ.normal ?_
   refine SQ.normal ?_
   refine AW.region ?_
   refine AO.oo ?_
   refine AO.c ?_
   refine AO.nil ?_
   exact AW.backU [.k, .k, .f, .f, .f, .f, .f, .k, .k, .F, .f, .f] (m0 - 1) (i + 1) (by omega) (by (try dsimp only); exact ⟨by omega, by omega, fun j hj => (Nat.lt_or_eq_of_le (Nat.le_of_lt_succ hj)).elim (hx3 j) (fun h => by rw [h]; exact h1)⟩) (by first | rfl | (simp; done)) (by first | rfl | (simp; done))
 ·
  rw [decide_eq_false_iff_not] at h0
  refine AW.exit ?_
  refine SQ.exit <| AW.out <| LU.exit <| BQ.exit ?_
  refine SQ.normal ?_
  refine AW.seq' ?_
  refine AW.region ?_
  refine AO.c ?_
  refine AO.nil ?_
  refine SQ.normal ?_
  refine AW.ret ?_
  refine Fin.ret (Gh.refl) noid1 ?_
  rw [idxF_none (fun j hj => hx3 j (by omega))]; rfl
theorem grps_ContainsFunc (l : List GrpD) (f : FuncId) (cs : List AV) (q : GrpD → Bool) (fn : Func) (hl : l.length ≤ 9223372036854775807) (hgc : ∀ n, ∀ av ∈ cs, Gen n av) (hf : Try.prog.funcs[f]? = some fn) (hname : (fn.name == "runtime.NumGoroutine") = false) (hb : fn.body.isSome = true) (h : ∀ x ∈ l, A0 Try.prog f (.agg (grpA (x)) :: cs) (fun r => r = .v (.bool (q x)))) : A0 Try.prog 52 [.rd 2 (l.map grpA), .fn f cs] (fun ret => ret = .v (.bool (l.any q))) := by
 haveI hga : ∀ n, GA n cs := fun n => ⟨hgc n⟩
 have hidx := grps_IndexFunc l f cs q fn hl hgc hf hname hb h
 refine A0.body 9 Try.func52 rfl rfl Try.ntmps52 fun base n0 => ?_
 refine AW.seq' ?_
 refine AW.region ?_
 refine AO.c ?_
 refine AO.nil ?_
 refine SQ.normal ?_
 refine AW.seq' ?_
 refine AW.region ?_
 iterate 2 refine AO.c ?_
 refine AO.call1 Try.func67 rfl rfl (hidx) ?_
 iterate 2 refine AO.c ?_
 refine AO.nil ?_
 refine SQ.normal ?_
 refine AW.ret ?_
 refine Fin.ret (Gh.refl) noid1 ?_
 rw [← idxF_ge]; rfl
theorem ints_IndexFunc (l : List Int) (f : FuncId) (cs : List AV) (q : Int → Bool) (fn : Func) (hl : l.length ≤ 9223372036854775807) (hgc : ∀ n, ∀ av ∈ cs, Gen n av) (hf : Try.prog.funcs[f]? = some fn) (hname : (fn.name == "runtime.NumGoroutine") = false) (hb : fn.body.isSome = true) (h : ∀ x ∈ l, A0 Try.prog f (.v (.int .i64 (x)) :: cs) (fun r => r = .v (.bool (q x)))) : A0 Try.prog 54 [.rd 1 (l.map iA), .fn f cs] (fun ret => ret = .v (.int .i64 (idxF q l))) := by
 refine A0.body 19 Try.func54 rfl rfl Try.ntmps54 fun base n0 => ?_
 refine AW.seq' ?_
 refine AW.region ?_
 refine AO.c ?_
 refine AO.nil ?_
 refine SQ.normal ?_
 refine AW.seq' ?_
 refine AW.seq' ?_
 refine AW.region ?_
 iterate 3 refine AO.c ?_
 refine AO.nil ?_
 refine SQ.normal ?_
 refine AW.block' ?_
 refine AW.loopU [.k, .k, .f, .f, .f, .f, .f, .k, .k, .F, .f, .f] (fun (i : Nat) => [(8, .v (.int .i64 (i)))]) (fun i => Hn n0 []) (fun m i => i ≤ l.length ∧ m = l.length - i ∧ ∀ j, j < i → q (l.getD j default) = false) (l.length) (0) ⟨by omega, rfl, fun j h => by omega⟩ (by first | rfl | (simp; done)) (by first | rfl | (simp; done)) ?_
 rintro m0 i ⟨hx1, hx2, hx3⟩
 refine AW.seq' ?_
 refine AW.region ?_
 refine AO.c ?_
 refine AO.nil ?_
 refine SQ.normal ?_
 refine AW.seq' ?_
 refine AW.iteB (GL.ev _) (fun h0 => ?_) (fun h0 => ?_)
 ·
  rw [decide_eq_true_eq] at h0
  have hi : i < l.length := by omega
  refine AW.skip ?_
  refine SQ.normal ?_
  refine AW.seq' ?_
  refine AW.block' ?_
  refine AW.seq' ?_
  refine AW.region ?_
  iterate 2 refine AO.c ?_
  refine AO.nil ?_
  refine SQ.normal ?_
  refine AW.seq' ?_
  refine AW.region ?_
  iterate 3 refine AO.c ?_
  refine AO.oo ?_
  refine AO.c ?_
  refine AO.callF (args' := .v (.int .i64 ((l.getD i default))) :: cs) hgc hf hname hb (h _ (getD_in hi)) rfl ?_
  refine AO.nil ?_
  refine SQ.normal ?_
  refine AW.iteB (GL.ev _) (fun h1 => ?_) (fun h1 => ?_)
  ·
   skip
   refine AW.seq' ?_
   refine AW.region ?_
   iterate 2 refine AO.c ?_
   refine AO.nil ?_
   refine SQ.normal ?_
   refine AW.ret ?_
   refine BQ.ret <| SQ.ret <| AW.out <| LU.ret <| BQ.ret <| SQ.ret ?_
   refine Fin.ret (Gh.refl) noid1 ?_
   rw [idxF_at hi hx3 h1]; rfl
  ·
   skip
   refine AW.skip ?_
   refine BQ.normal ?_
   refine SQ.normal ?_
   refine AW.region ?_
   refine AO.oo ?_
   refine AO.c ?_
   refine AO.nil ?_
   exact AW.backU [.k, .k, .f, .f, .f, .f, .f, .k, .k, .F, .f, .f] (m0 - 1) (i + 1) (by omega) (by (try dsimp only); exact ⟨by omega, by omega, fun j hj => (Nat.lt_or_eq_of_le (Nat.le_of_lt_succ hj)).elim (hx3 j) (fun h => by rw [h]; exact h1)⟩) (by first | rfl | (simp; done)) (by first | rfl | (simp; done))
 ·
  rw [decide_eq_false_iff_not] at h0
  refine AW.exit ?_
  refine SQ.exit <| AW.out <| LU.exit <| BQ.exit ?_
  refine SQ.normal ?_
  refine AW.seq' ?_
  refine AW.region ?_
  refine AO.c ?_
  refine AO.nil ?_
  refine SQ.normal ?_
  refine AW.ret ?_
  refine Fin.ret (Gh.refl) noid1 ?_
  rw [idxF_none (fun j hj => hx3 j (by omega))]; rfl
theorem ints_ContainsFunc (l : List Int) (f : FuncId) (cs : List AV) (q : Int → Bool) (fn : Func) (hl : l.length ≤ 9223372036854775807) (hgc : ∀ n, ∀ av ∈ cs, Gen n av) (hf : Try.prog.funcs[f]? = some fn) (hname : (fn.name == "runtime.NumGoroutine") = false) (hb : fn.body.isSome = true) (h : ∀ x ∈ l, A0 Try.prog f (.v (.int .i64 (x)) :: cs) (fun r => r = .v (.bool (q x)))) : A0 Try.prog 39 [.rd 1 (l.map iA), .fn f cs] (fun ret => ret = .v (.bool (l.any q))) := by
 haveI hga : ∀ n, GA n cs := fun n => ⟨hgc n⟩
 have hidx := ints_IndexFunc l f cs q fn hl hgc hf hname hb h
 refine A0.body 9 Try.func39 rfl rfl Try.ntmps39 fun base n0 => ?_
 refine AW.seq' ?_
 refine AW.region ?_
 refine AO.c ?_
 refine AO.nil ?_
 refine SQ.normal ?_
 refine AW.seq' ?_
 refine AW.region ?_
 iterate 2 refine AO.c ?_
 refine AO.call1 Try.func54 rfl rfl (hidx) ?_
 iterate 2 refine AO.c ?_
 refine AO.nil ?_
 refine SQ.normal ?_
 refine AW.ret ?_
 refine Fin.ret (Gh.refl) noid1 ?_
 rw [← idxF_ge]; rfl
set_option maxHeartbeats 2000000 in
theorem obj_section (o : ObjD) (i : Int) (ho : o.ok) (hi : 1 ≤ i ∧ i ≤ o.secs.length) : A0 Try.prog 35 [.agg (objA o), .v (.int .i64 (i))] (fun ret => ret = .v (.bool (sectionP o i))) := by
 have hl := ho.1
 have hly := ho.2.2.1
 rw [maxLen_eq] at hl hly
 have hii : (i - 1).toNat < o.secs.length := by omega
 have hs := secOk_at ho.2.1 hii
 have hal := hs.2.2.2.1
 unfold I64 at hal
 have hgl := ho.2.2.2.2.1
 rw [maxLen_eq] at hgl
 have hgm : ∀ g ∈ o.groups, g.mem.length ≤ 9223372036854775807 := fun g hg => by
  have := (ho.2.2.2.2.2.1 g hg).2.1
  rwa [maxLen_eq] at this
 have hcf := grps_ContainsFunc o.groups 50 [.eptr [.v (.int .i64 i)]] (fun g => g.mem.any fun x => decide (i = x)) _ hgl (fun n av h => by simp at h; subst h; exact .eptr fun j av hj => by cases j with | zero => simp at hj; subst hj; exact .v _ | succ j => simp at hj) Try.func50 rfl rfl (fun g h => obj_section1 g i (hgm g h))
 refine A0.body 95 Try.func35 rfl rfl Try.ntmps35 fun base n0 => ?_
 refine AW.seq' ?_
 refine AW.region ?_
 iterate 2 refine AO.ww ?_
 refine AO.c ?_
 refine AO.nil ?_
 refine SQ.normal ?_
 refine AW.seq' ?_
 refine AW.region ?_
 iterate 3 refine AO.c ?_
 iterate 2 refine AO.oo ?_
 refine AO.c ?_
 refine AO.ww ?_
 refine AO.sst ?_
 refine AO.nil ?_
 refine SQ.normal ?_
 refine AW.seq' ?_
 refine AW.seq' ?_
 refine AW.region ?_
 iterate 2 refine AO.c ?_
 refine AO.call1 Try.func46 rfl rfl (strtab_May _) ?_
 iterate 2 refine AO.c ?_
 iterate 4 refine AO.gx ?_
 iterate 2 refine AO.c ?_
 iterate 3 refine AO.gx ?_
 iterate 2 refine AO.c ?_
 refine AO.gx ?_
 refine AO.gxcall1 Try.func47 rfl rfl (fun hgd => obj_has _ 5) ?_
 refine AO.c ?_
 refine AO.nil ?_
 refine SQ.normal ?_
 refine AW.iteB (GL.ev _) (fun h0 => ?_) (fun h0 => ?_)
 ·
  skip
  refine AW.seq' ?_
  refine AW.region ?_
  refine AO.c ?_
  refine AO.nil ?_
  refine SQ.normal ?_
  refine AW.ret ?_
  refine SQ.ret ?_
  refine Fin.ret (Gh.refl) noid1 ?_
  unfold sectionP; simp only [*, cond_true, cond_false]; rfl
 ·
  skip
  refine AW.skip ?_
  refine SQ.normal ?_
  refine AW.seq' ?_
  refine AW.seq' ?_
  refine AW.region ?_
  iterate 4 refine AO.c ?_
  iterate 3 refine AO.gx ?_
  iterate 2 refine AO.c ?_
  iterate 4 refine AO.gx ?_
  refine AO.gxo (fun h => by simp only [Bool.not_eq_true', Bool.or_eq_false_iff, decide_eq_false_iff_not] at h; omega) ?_
  iterate 2 refine AO.gx ?_
  iterate 2 refine AO.c ?_
  refine AO.gx ?_
  refine AO.gxcall1 Try.func48 rfl rfl (fun hgd => obj_typed _) ?_
  refine AO.gx ?_
  iterate 2 refine AO.c ?_
  refine AO.gx ?_
  refine AO.gxcall1 Try.func49 rfl rfl (fun hgd => obj_merged _ hs (typed_size (by simp only [Bool.not_eq_true', Bool.or_eq_false_iff, Bool.not_eq_false'] at hgd; exact hgd.2))) ?_
  refine AO.gx ?_
  refine AO.c ?_
  refine AO.nil ?_
  refine SQ.normal ?_
  refine AW.iteB (GL.ev _) (fun h1 => ?_) (fun h1 => ?_)
  ·
   skip
   refine AW.seq' ?_
   refine AW.region ?_
   refine AO.c ?_
   refine AO.nil ?_
   refine SQ.normal ?_
   refine AW.ret ?_
   refine SQ.ret ?_
   refine Fin.ret (Gh.refl) noid1 ?_
   unfold sectionP; simp only [*, cond_true, cond_false]; rfl
  ·
   skip
   refine AW.skip ?_
   refine SQ.normal ?_
   refine AW.seq' ?_
   refine AW.seq' ?_
   refine AW.drawsZ [] (.one 0 false (.one 2 false (.one 3 false (.one 4 false (.one 1 true (.one 5 false (.one 6 false (.one 7 false (.one 8 false (.one 9 false (.one 10 false (.one 11 false (.one 12 true (.one 13 false (.one 14 false (.one 15 false (.one 16 false (.one 17 false (.one 18 false (.one 19 false (.one 20 false .nil))))))))))))))))))))) (by kernel_rfl) rfl (by kernel_rfl) ?_
   iterate 4 refine AZ.c rfl ?_
   refine AZ.call1 rfl Try.func47 rfl rfl (obj_has _ 128) ?_
   iterate 2 refine AZ.c rfl ?_
   iterate 5 refine AZ.gx rfl ?_
   refine AZ.gxcall1 rfl Try.func38 rfl rfl (fun hgd => obj_within _ _) ?_
   refine AZ.gx rfl ?_
   iterate 2 refine AZ.c rfl ?_
   iterate 4 refine AZ.gx rfl ?_
   refine AZ.c rfl ?_
   refine AZ.done ?_
   refine SQ.normal ?_
   refine AW.iteB (GL.ev _) (fun h2 => ?_) (fun h2 => ?_)
   ·
    skip
    refine AW.seq' ?_
    refine AW.region ?_
    refine AO.c ?_
    refine AO.nil ?_
    refine SQ.normal ?_
    refine AW.ret ?_
    refine SQ.ret ?_
    refine Fin.ret (Gh.refl) noid1 ?_
    unfold sectionP; simp only [*, cond_true, cond_false]; rfl
   ·
    skip
    refine AW.skip ?_
    refine SQ.normal ?_
    refine AW.seq' ?_
    refine AW.region ?_
    refine AO.ghost (Gh.freezeP 3) ?_
    iterate 2 refine AO.c ?_
    refine AO.nil ?_
    refine SQ.normal ?_
    refine AW.seq' ?_
    refine AW.drawsZ [] (.one 0 false (.one 1 false (.one 2 false (.one 4 false (.one 3 true (.one 5 true (.one 6 false (.one 7 false (.one 8 false (.one 9 false (.one 10 false (.one 11 false (.one 12 true (.one 13 false (.one 14 false .nil))))))))))))))) (by kernel_rfl) rfl (by kernel_rfl) ?_
    iterate 4 refine AZ.c rfl ?_
    refine AZ.call1 rfl Try.func52 rfl rfl (hcf) ?_
    refine AZ.call1 rfl Try.func47 rfl rfl (obj_has _ 512) ?_
    iterate 2 refine AZ.c rfl ?_
    iterate 4 refine AZ.gx rfl ?_
    refine AZ.gxcall1 rfl Try.func53 rfl rfl (fun hgd => obj_related _ _ hs (by unfold I64; omega)) ?_
    iterate 2 refine AZ.c rfl ?_
    refine AZ.done ?_
    refine SQ.normal ?_
    refine AW.ret ?_
    refine Fin.ret (Gh.refl) noid1 ?_
    unfold sectionP; simp only [*, cond_true, cond_false]; rfl
set_option maxHeartbeats 2000000 in
theorem obj_symbol (o : ObjD) (i : Int) (ho : o.ok) (hi : 0 ≤ i ∧ i < o.syms.length) : A0 Try.prog 36 [.agg (objA o), .v (.int .i64 (i))] (fun ret => ret = .v (.bool (symbolP o i))) := by
 have hl := ho.2.2.1
 rw [maxLen_eq] at hl
 have hl0 := ho.1
 rw [maxLen_eq] at hl0
 have hii : i.toNat < o.syms.length := by omega
 have hs := symOk_at ho.2.2.2.1 hii
 have hsec := hs.2.2.2.1
 unfold I64 at hsec
 refine A0.body 101 Try.func36 rfl rfl Try.ntmps36 fun base n0 => ?_
 refine AW.seq' ?_
 refine AW.region ?_
 refine AO.ww ?_
 refine AO.c ?_
 refine AO.nil ?_
 refine SQ.normal ?_
 refine AW.seq' ?_
 refine AW.region ?_
 iterate 3 refine AO.c ?_
 refine AO.oo ?_
 refine AO.c ?_
 refine AO.ww ?_
 refine AO.sst ?_
 refine AO.nil ?_
 refine SQ.normal ?_
 refine AW.seq' ?_
 refine AW.seq' ?_
 refine AW.region ?_
 iterate 2 refine AO.c ?_
 refine AO.nil ?_
 refine SQ.normal ?_
 refine AW.iteB (GL.ev _) (fun h0 => ?_) (fun h0 => ?_)
 ·
  skip
  refine AW.seq' ?_
  refine AW.region ?_
  iterate 4 refine AO.c ?_
  refine AO.nil ?_
  refine SQ.normal ?_
  refine AW.ret ?_
  refine SQ.ret ?_
  refine Fin.ret (Gh.refl) noid1 ?_
  first | (exfalso; rw [h3] at h4; cases h4; done) | (unfold symbolP; simp only [*, cond_true, cond_false]; rfl)
 ·
  skip
  refine AW.skip ?_
  refine SQ.normal ?_
  refine AW.seq' ?_
  refine AW.seq' ?_
  refine AW.region ?_
  iterate 2 refine AO.c ?_
  refine AO.call1 Try.func46 rfl rfl (strtab_May _) ?_
  iterate 2 refine AO.c ?_
  iterate 2 refine AO.gx ?_
  refine AO.gxcall1 Try.func38 rfl rfl (fun hgd => obj_within _ _) ?_
  refine AO.gx ?_
  iterate 2 refine AO.c ?_
  iterate 2 refine AO.gx ?_
  refine AO.gxcall1 Try.func38 rfl rfl (fun hgd => obj_within _ _) ?_
  refine AO.gx ?_
  iterate 2 refine AO.c ?_
  iterate 2 refine AO.gx ?_
  refine AO.gxcall1 Try.func38 rfl rfl (fun hgd => obj_within _ _) ?_
  refine AO.gx ?_
  iterate 2 refine AO.c ?_
  iterate 2 refine AO.gx ?_
  refine AO.gxcall1 Try.func38 rfl rfl (fun hgd => obj_within _ _) ?_
  refine AO.gx ?_
  refine AO.c ?_
  refine AO.nil ?_
  refine SQ.normal ?_
  refine AW.iteB (GL.ev _) (fun h1 => ?_) (fun h1 => ?_)
  ·
   skip
   refine AW.seq' ?_
   refine AW.region ?_
   refine AO.c ?_
   refine AO.nil ?_
   refine SQ.normal ?_
   refine AW.ret ?_
   refine SQ.ret ?_
   refine Fin.ret (Gh.refl) noid1 ?_
   first | (exfalso; rw [h3] at h4; cases h4; done) | (unfold symbolP; simp only [*, cond_true, cond_false]; rfl)
  ·
   skip
   refine AW.skip ?_
   refine SQ.normal ?_
   refine AW.seq' ?_
   refine AW.block' ?_
   refine AW.seq' ?_
   refine AW.region ?_
   iterate 4 refine AO.c ?_
   iterate 6 refine AO.gx ?_
   iterate 2 refine AO.c ?_
   refine AO.nil ?_
   refine SQ.normal ?_
   refine AW.iteB (GL.ev _) (fun h2 => ?_) (fun h2 => ?_)
   ·
    skip
    refine AW.seq' ?_
    refine AW.region ?_
    refine AO.c ?_
    refine AO.nil ?_
    refine SQ.normal ?_
    refine AW.ret ?_
    refine BQ.ret <| SQ.ret ?_
    refine Fin.ret (Gh.refl) noid1 ?_
    first | (exfalso; rw [h3] at h4; cases h4; done) | (unfold symbolP; simp only [*, cond_true, cond_false]; rfl)
   ·
    skip
    refine AW.seq' ?_
    refine AW.seq' ?_
    refine AW.drawsZ [] (.one 0 false (.one 1 false (.one 2 false (.one 3 false (.one 4 false (.one 5 false (.one 6 false (.one 7 false (.one 8 false (.one 9 false (.one 10 false (.one 11 false (.one 12 false (.one 13 false (.one 14 false (.one 15 false (.one 16 false .nil))))))))))))))))) (by kernel_rfl) rfl (by kernel_rfl) ?_
    iterate 4 refine AZ.c rfl ?_
    iterate 6 refine AZ.gx rfl ?_
    refine AZ.gxoo rfl ?_
    refine AZ.gxo rfl (fun h => by rw [decide_eq_true_eq] at h; simp only [Bool.or_eq_false_iff, decide_eq_false_iff_not] at h2; omega) ?_
    iterate 3 refine AZ.gx rfl ?_
    iterate 2 refine AZ.c rfl ?_
    refine AZ.done ?_
    refine SQ.normal ?_
    refine AW.iteB (GL.ev _) (fun h3 => ?_) (fun h3 => ?_)
    ·
     skip
     refine AW.skip ?_
     refine SQ.normal ?_
     refine AW.iteB (GL.ev _) (fun h4 => ?_) (fun h4 => ?_)
     ·
      skip
      refine AW.seq' ?_
      refine AW.region ?_
      refine AO.c ?_
      refine AO.nil ?_
      refine SQ.normal ?_
      refine AW.ret ?_
      refine BQ.ret <| SQ.ret ?_
      refine Fin.ret (Gh.refl) noid1 ?_
      first | (exfalso; rw [h3] at h4; cases h4; done) | (unfold symbolP; simp only [*, cond_true, cond_false]; rfl)
     ·
      skip
      refine AW.seq' ?_
      refine AW.region ?_
      iterate 4 refine AO.c ?_
      refine AO.nil ?_
      refine SQ.normal ?_
      refine AW.iteB (GL.ev _) (fun h5 => ?_) (fun h5 => ?_)
      ·
       skip
       refine AW.seq' ?_
       refine AW.region ?_
       iterate 4 refine AO.c ?_
       iterate 3 refine AO.gx ?_
       refine AO.gxoo ?_
       refine AO.gxo (fun h => by simp only [decide_eq_false_iff_not] at h0; omega) ?_
       iterate 3 refine AO.gx ?_
       iterate 2 refine AO.c ?_
       refine AO.nil ?_
       refine SQ.normal ?_
       refine AW.ret ?_
       refine BQ.ret <| SQ.ret ?_
       refine Fin.ret (Gh.refl) noid1 ?_
       first | (exfalso; rw [h3] at h4; cases h4; done) | (unfold symbolP; simp only [*, cond_true, cond_false]; rfl)
      ·
       skip
       refine AW.skip ?_
       refine BQ.normal ?_
       refine SQ.normal ?_
       refine AW.seq' ?_
       refine AW.region ?_
       iterate 4 refine AO.c ?_
       refine AO.nil ?_
       refine SQ.normal ?_
       refine AW.ret ?_
       refine Fin.ret (Gh.refl) noid1 ?_
       first | (exfalso; rw [h3] at h4; cases h4; done) | (unfold symbolP; simp only [*, cond_true, cond_false]; rfl)
    ·
     skip
     refine AW.region ?_
     iterate 4 refine AO.c ?_
     iterate 3 refine AO.gx ?_
     iterate 2 refine AO.c ?_
     refine AO.nil ?_
     refine SQ.normal ?_
     refine AW.iteB (GL.ev _) (fun h4 => ?_) (fun h4 => ?_)
     ·
      skip
      refine AW.seq' ?_
      refine AW.region ?_
      refine AO.c ?_
      refine AO.nil ?_
      refine SQ.normal ?_
      refine AW.ret ?_
      refine BQ.ret <| SQ.ret ?_
      refine Fin.ret (Gh.refl) noid1 ?_
      first | (exfalso; rw [h3] at h4; cases h4; done) | (unfold symbolP; simp only [*, cond_true, cond_false]; rfl)
     ·
      skip
      refine AW.seq' ?_
      refine AW.region ?_
      iterate 4 refine AO.c ?_
      refine AO.nil ?_
      refine SQ.normal ?_
      refine AW.iteB (GL.ev _) (fun h5 => ?_) (fun h5 => ?_)
      ·
       skip
       refine AW.seq' ?_
       refine AW.region ?_
       iterate 4 refine AO.c ?_
       iterate 3 refine AO.gx ?_
       refine AO.gxoo ?_
       refine AO.gxo (fun h => by simp only [decide_eq_false_iff_not] at h0; omega) ?_
       iterate 3 refine AO.gx ?_
       iterate 2 refine AO.c ?_
       refine AO.nil ?_
       refine SQ.normal ?_
       refine AW.ret ?_
       refine BQ.ret <| SQ.ret ?_
       refine Fin.ret (Gh.refl) noid1 ?_
       first | (exfalso; rw [h3] at h4; cases h4; done) | (unfold symbolP; simp only [*, cond_true, cond_false]; rfl)
      ·
       skip
       refine AW.skip ?_
       refine BQ.normal ?_
       refine SQ.normal ?_
       refine AW.seq' ?_
       refine AW.region ?_
       iterate 4 refine AO.c ?_
       refine AO.nil ?_
       refine SQ.normal ?_
       refine AW.ret ?_
       refine Fin.ret (Gh.refl) noid1 ?_
       first | (exfalso; rw [h3] at h4; cases h4; done) | (unfold symbolP; simp only [*, cond_true, cond_false]; rfl)
end Go.Proofs.Ytiomdnmicagdcaa.AL
namespace Go.Proofs.Ytiomdnmicagdcaa.AL
open Go Go.RowKit Go.Proofs.Ytiomdnmicagdcaa.Base
set_option linter.unusedVariables false
set_option linter.unusedSimpArgs false
set_option maxRecDepth 4000
set_option synthInstance.maxSize 1000
set_option synthInstance.maxHeartbeats 200000
def memsP (N : Int) : List Int → Int → List Int → Option (List Int)
 | seen, _, [] => some seen
 | seen, last, n :: r => if n ≤ last ∨ n > N ∨ n ∈ seen then none else memsP N (n :: seen) n r
def grpsP (N Y : Int) : List Int → List GrpD → Bool
 | _, [] => true
 | seen, g :: gs => if g.sym < 1 ∨ g.sym ≥ Y ∨ g.mem.length = 0 then false else match memsP N seen 0 g.mem with
  | none => false
  | some seen' => grpsP N Y seen' gs
def MapOk (es : List (Int × Int)) (sl : List Int) : Prop := ∀ n, (aget es n).getD 0 = if n ∈ sl then 1 else 0
theorem mapOk_put {es : List (Int × Int)} {sl : List Int} {k v : Int} (h : MapOk es sl) (hk : k ∉ sl) (hv : v = (aget es k).getD 0 + 1) : MapOk (aput es k v) (k :: sl) := by
 intro n
 have hk0 : (aget es k).getD 0 = 0 := by rw [h k, if_neg hk]
 rw [aget_aput]
 by_cases hn : n = k
 · subst hn
   rw [if_pos rfl, if_pos List.mem_cons_self, Option.getD_some]; omega
 · rw [if_neg (by first | exact hn | exact Ne.symm hn), h n]
   by_cases hm : n ∈ sl
   · rw [if_pos hm, if_pos (List.mem_cons_of_mem _ hm)]
   · rw [if_neg hm, if_neg (by simp [hn, hm])]
def shapeP (o : ObjD) : Bool :=
 !(decide ((o.secs.length : Int) > 32) || decide ((o.syms.length : Int) < 1) || decide ((o.syms.length : Int) > 128) || !grpsP o.secs.length o.syms.length [] o.groups) &&
 ((List.range o.secs.length).all fun k => sectionP o ((k : Int) + 1)) && ((List.range o.syms.length).all fun k => symbolP o k) && ((o.hasSig || decide ((o.sig.length : Int) = 0)) && !o.sig.any fun n => !withinB n (o.syms.length - 1))
set_option maxHeartbeats 2000000 in
theorem obj_groups (o : ObjD) (ho : o.ok) : A0 Try.prog 34 [.agg (objA o)] (fun ret => ret = .v (.bool (grpsP o.secs.length o.syms.length [] o.groups))) := by
 have hl := ho.2.2.1
 have hl0 := ho.1
 have hgl := ho.2.2.2.2.1
 have hgo := ho.2.2.2.2.2.1
 rw [maxLen_eq] at hl hl0 hgl
 refine A0.body 64 Try.func34 rfl rfl Try.ntmps34 fun base n0 => ?_
 refine AW.seq' ?_
 refine AW.region ?_
 refine AO.ww ?_
 refine AO.c ?_
 refine AO.nil ?_
 refine SQ.normal ?_
 refine AW.seq' ?_
 refine AW.region ?_
 refine AO.ww ?_
 refine AO.c ?_
 refine AO.nil ?_
 refine SQ.normal ?_
 refine AW.seq' ?_
 refine AW.seq' ?_
 refine AW.region ?_
 iterate 4 refine AO.c ?_
 refine AO.nil ?_
 refine SQ.normal ?_
 refine AW.block' ?_
 refine AW.ghost (Gh.mapM 1 kI vI) ?_
 refine AW.loopU4 [.f, .k, .f, .k, .f, .f, .f, .f, .f, .f, .f, .k, .k, .k, .F, .F, .F, .F, .F, .F, .f, .f] (fun (i j : Nat) (es : List (Int × Int)) (sl : List Int) => [(13, .v (.int .i64 (i)))]) (fun i j es sl => Hn n0 (([some (.box 42 (objA o)), some (.map ((es : List (Int × Int)).map (mE kI vI)))] ++ List.replicate j none) ++ [])) (fun m i j es sl => (i ≤ o.groups.length ∧ m = o.groups.length - i) ∧ MapOk es sl ∧ grpsP o.secs.length o.syms.length [] o.groups = grpsP o.secs.length o.syms.length sl (o.groups.drop i)) (o.groups.length) (0) (0) ([]) ([]) ⟨by omega, fun n => by simp [aget], rfl⟩ (by first | rfl | (simp; done)) (by first | rfl | (simp; done)) ?_
 rintro m0 i j es sl ⟨hx1, hx2, hx3⟩
 refine AW.seq' ?_
 refine AW.region ?_
 refine AO.c ?_
 refine AO.nil ?_
 refine SQ.normal ?_
 refine AW.seq' ?_
 refine AW.iteB (GL.ev _) (fun h0 => ?_) (fun h0 => ?_)
 ·
  rw [decide_eq_true_eq] at h0
  have hi : i < o.groups.length := by omega
  have hgm := (hgo _ (show o.groups.getD i default ∈ o.groups by rw [List.getD_eq_getElem?_getD, List.getElem?_eq_getElem hi]; exact List.getElem_mem hi)).2.1
  rw [maxLen_eq] at hgm
  rw [drop_getD hi, grpsP] at hx3
  generalize hge : o.groups.getD i default = g at hgm hx3
  refine AW.skip ?_
  refine SQ.normal ?_
  refine AW.seq' ?_
  refine AW.block' ?_
  refine AW.seq' ?_
  refine AW.region ?_
  refine AO.oo ?_
  refine AO.c ?_
  refine AO.eq 16 (av' := .agg (grpA g)) (by rw [hge]) ?_
  refine AO.ww ?_
  refine AO.sst ?_
  refine AO.nil ?_
  refine SQ.normal ?_
  refine AW.seq' ?_
  refine AW.seq' ?_
  refine AW.region ?_
  iterate 4 refine AO.c ?_
  iterate 6 refine AO.gx ?_
  iterate 2 refine AO.c ?_
  iterate 4 refine AO.gx ?_
  refine AO.c ?_
  refine AO.nil ?_
  refine SQ.normal ?_
  refine AW.iteB (GL.ev _) (fun h1 => ?_) (fun h1 => ?_)
  ·
   simp only [Bool.or_eq_true, decide_eq_true_eq] at h1
   rw [if_pos (by omega)] at hx3
   refine AW.seq' ?_
   refine AW.region ?_
   refine AO.c ?_
   refine AO.nil ?_
   refine SQ.normal ?_
   refine AW.ret ?_
   refine SQ.ret <| BQ.ret <| SQ.ret <| AW.out <| LU.ret <| BQ.ret <| SQ.ret ?_
   refine Fin.ret (Gh.refl) noid1 ?_
   rw [hx3]; rfl
  ·
   simp only [Bool.or_eq_false_iff, decide_eq_false_iff_not] at h1
   rw [if_neg (by omega)] at hx3
   refine AW.skip ?_
   refine SQ.normal ?_
   refine AW.seq' ?_
   refine AW.region ?_
   refine AO.c ?_
   refine AO.nil ?_
   refine SQ.normal ?_
   refine AW.seq' ?_
   refine AW.region ?_
   iterate 4 refine AO.c ?_
   refine AO.nil ?_
   refine SQ.normal ?_
   refine AW.block' ?_
   refine AW.loopU4 [.f, .k, .f, .k, .f, .f, .k, .f, .f, .f, .f, .k, .k, .k, .F, .F, .f, .f, .f, .f, .f, .k, .k, .k, .F, .F, .F, .f, .f] (fun (k : Nat) (last : Int) (es2 : List (Int × Int)) (sl2 : List Int) => [(6, .v (.int .i64 (last))), (37, .v (.int .i64 (k)))]) (fun k last es2 sl2 => Hn n0 ([some (.box 42 (objA o)), some (.map ((es2 : List (Int × Int)).map (mE kI vI)))] ++ List.replicate j none ++ [some (.box 74 (grpA g))])) (fun m k last es2 sl2 => (k ≤ g.mem.length ∧ m = g.mem.length - k) ∧ MapOk es2 sl2 ∧ memsP o.secs.length sl 0 g.mem = memsP o.secs.length sl2 last (g.mem.drop k)) (g.mem.length) (0) (0) (es) (sl) ⟨by omega, hx2, rfl⟩ (by first | rfl | (simp; done)) (by first | rfl | (simp; done)) ?_
   rintro m1 k last es2 sl2 ⟨hk1, hk2, hk3⟩
   refine AW.seq' ?_
   refine AW.region ?_
   refine AO.c ?_
   refine AO.nil ?_
   refine SQ.normal ?_
   refine AW.seq' ?_
   refine AW.iteB (GL.ev _) (fun h2 => ?_) (fun h2 => ?_)
   ·
    rw [decide_eq_true_eq] at h2
    have hk : k < g.mem.length := by omega
    rw [drop_getD hk, memsP] at hk3
    generalize hne : g.mem.getD k default = nn at hk3
    have hok := hk2 nn
    refine AW.skip ?_
    refine SQ.normal ?_
    refine AW.seq' ?_
    refine AW.block' ?_
    refine AW.seq' ?_
    refine AW.region ?_
    refine AO.oo ?_
    refine AO.c ?_
    refine AO.eq 40 (av' := .v (.int .i64 nn)) (by rw [hne]) ?_
    refine AO.c ?_
    refine AO.nil ?_
    refine SQ.normal ?_
    refine AW.seq' ?_
    refine AW.seq' ?_
    refine AW.region ?_
    iterate 4 refine AO.c ?_
    iterate 5 refine AO.gx ?_
    iterate 2 refine AO.c ?_
    iterate 4 refine AO.gx ?_
    refine AO.c ?_
    refine AO.nil ?_
    refine SQ.normal ?_
    refine AW.iteB (GL.ev _) (fun h3 => ?_) (fun h3 => ?_)
    ·
     rw [hok] at h3
     have h4 : nn ≤ last ∨ nn > o.secs.length ∨ nn ∈ sl2 := by
      simp only [Bool.or_eq_true, decide_eq_true_eq] at h3
      rcases h3 with (h3 | h3) | h3
      · exact .inl h3
      · exact .inr (.inl h3)
      · refine .inr (.inr ?_)
        rcases Decidable.em (nn ∈ sl2) with h | h
        · exact h
        · rw [if_neg h] at h3; omega
     rw [if_pos h4] at hk3
     rw [hk3] at hx3
     dsimp only at hx3
     refine AW.seq' ?_
     refine AW.region ?_
     refine AO.c ?_
     refine AO.nil ?_
     refine SQ.normal ?_
     refine AW.ret ?_
     refine SQ.ret <| BQ.ret <| SQ.ret <| AW.out <| LU.ret <| BQ.ret <| BQ.ret <| SQ.ret <| AW.out <| LU.ret <| BQ.ret <| SQ.ret ?_
     refine Fin.ret (Gh.refl) noid1 ?_
     rw [hx3]; rfl
    ·
     rw [hok] at h3
     simp only [Bool.or_eq_false_iff, decide_eq_false_iff_not] at h3
     have hnm : nn ∉ sl2 := fun h => by rw [if_pos h] at h3; exact h3.2 (by decide)
     rw [if_neg (by rintro (h | h | h); exact h3.1.1 h; exact h3.1.2 h; exact hnm h)] at hk3
     refine AW.skip ?_
     refine SQ.normal ?_
     refine AW.seq' ?_
     refine AW.region ?_
     iterate 3 refine AO.c ?_
     refine AO.o (by rw [hok]; split <;> omega) ?_
     refine AO.sst ?_
     refine AO.nil ?_
     refine SQ.normal ?_
     refine AW.region ?_
     iterate 2 refine AO.c ?_
     refine AO.nil ?_
     refine BQ.normal ?_
     refine SQ.normal ?_
     refine AW.region ?_
     refine AO.oo ?_
     refine AO.c ?_
     refine AO.nil ?_
     exact AW.backU [.f, .k, .f, .k, .f, .f, .k, .f, .f, .f, .f, .k, .k, .k, .F, .F, .f, .f, .f, .f, .f, .k, .k, .k, .F, .F, .F, .f, .f] (m1 - 1) (k + 1, nn, aput es2 nn ((aget es2 nn).getD 0 + 1), nn :: sl2) (by omega) (by (try dsimp only); exact ⟨by omega, mapOk_put hk2 hnm rfl, hk3⟩) (by first | rfl | (simp; done)) (by first | rfl | (simp; done))
   ·
    rw [decide_eq_false_iff_not] at h2
    rw [List.drop_of_length_le (by omega), memsP] at hk3
    rw [hk3] at hx3
    dsimp only at hx3
    refine AW.exit ?_
    refine SQ.exit <| AW.out <| LU.exit <| BQ.exit ?_
    refine BQ.normal ?_
    refine SQ.normal ?_
    refine AW.region ?_
    refine AO.oo ?_
    refine AO.c ?_
    refine AO.nil ?_
    exact AW.backD [.f, .k, .f, .k, .f, .f, .f, .f, .f, .f, .f, .k, .k, .k, .F, .F, .F, .F, .F, .F, .f, .f] ([some (.box 42 (objA o)), some (.map ((es2 : List (Int × Int)).map (mE kI vI)))]) (j) (m0 - 1) (i + 1, j + 1, es2, sl2) (by omega) (by (try dsimp only); exact ⟨by omega, hk2, hx3⟩) (by first | rfl | (simp; done)) (by first | rfl | (simp; done))
 ·
  rw [decide_eq_false_iff_not] at h0
  refine AW.exit ?_
  refine SQ.exit <| AW.out <| LU.exit <| BQ.exit ?_
  refine SQ.normal ?_
  refine AW.seq' ?_
  refine AW.region ?_
  refine AO.c ?_
  refine AO.nil ?_
  refine SQ.normal ?_
  refine AW.ret ?_
  refine Fin.ret (Gh.refl) noid1 ?_
  rw [hx3, List.drop_of_length_le (by omega)]; rfl
theorem obj_shape1 (n : Int) (o : ObjD) (ho : o.syms.length ≤ 9223372036854775807) : A0 Try.prog 37 [.v (.int .i64 (n)), .eptr (objA o)] (fun ret => ret = .v (.bool (!withinB n (o.syms.length - 1)))) := by
 refine A0.body 11 Try.func37 rfl rfl Try.ntmps37 fun base n0 => ?_
 refine AW.seq' ?_
 refine AW.region ?_
 refine AO.c ?_
 refine AO.nil ?_
 refine SQ.normal ?_
 refine AW.seq' ?_
 refine AW.region ?_
 iterate 4 refine AO.c ?_
 refine AO.oo ?_
 refine AO.call1 Try.func38 rfl rfl (obj_within _ _) ?_
 iterate 2 refine AO.c ?_
 refine AO.nil ?_
 refine SQ.normal ?_
 refine AW.ret ?_
 refine Fin.ret (Gh.refl) noid1 ?_
 rfl
set_option maxHeartbeats 2000000 in
theorem obj_shape (o : ObjD) (ho : o.ok) : A0 Try.prog 25 [.agg (objA o)] (fun ret => ret = .v (.bool (shapeP o))) := by
 have hl := ho.2.2.1
 have hl0 := ho.1
 have hsl := ho.2.2.2.2.2.2.1
 rw [maxLen_eq] at hl hl0 hsl
 have hcf := ints_ContainsFunc o.sig 37 [.eptr (objA o)] (fun n => !withinB n (o.syms.length - 1)) _ hsl (fun n => (inferInstance : GA n [.eptr (objA o)]).h) Try.func37 rfl rfl (fun n _ => obj_shape1 n o hl)
 refine A0.body 66 Try.func25 rfl rfl Try.ntmps25 fun base n0 => ?_
 refine AW.seq' ?_
 refine AW.region ?_
 refine AO.ww ?_
 refine AO.c ?_
 refine AO.nil ?_
 refine SQ.normal ?_
 refine AW.seq' ?_
 refine AW.seq' ?_
 refine AW.region ?_
 iterate 5 refine AO.c ?_
 iterate 4 refine AO.gx ?_
 iterate 2 refine AO.c ?_
 iterate 4 refine AO.gx ?_
 iterate 2 refine AO.c ?_
 refine AO.gx ?_
 refine AO.gxcall1 Try.func34 rfl rfl (fun hgd => obj_groups _ (by assumption)) ?_
 refine AO.gx ?_
 refine AO.c ?_
 refine AO.nil ?_
 refine SQ.normal ?_
 refine AW.iteB (GL.ev _) (fun h0 => ?_) (fun h0 => ?_)
 ·
  have e : shapeP o = false := by unfold shapeP; rw [h0]; rfl
  refine AW.seq' ?_
  refine AW.region ?_
  refine AO.c ?_
  refine AO.nil ?_
  refine SQ.normal ?_
  refine AW.ret ?_
  refine SQ.ret ?_
  refine Fin.ret (Gh.refl) noid1 ?_
  rw [e]; rfl
 ·
  skip
  refine AW.skip ?_
  refine SQ.normal ?_
  refine AW.seq' ?_
  refine AW.seq' ?_
  refine AW.region ?_
  iterate 4 refine AO.c ?_
  refine AO.nil ?_
  refine SQ.normal ?_
  refine AW.block' ?_
  refine AW.loopU [.f, .k, .F, .F, .F, .f, .f, .f, .k, .k, .F, .F, .F, .F, .f, .f, .f] (fun (i : Nat) => [(30, .v (.int .i64 (i)))]) (fun i => Hn n0 [some (.box 42 (objA o))]) (fun m i => i ≤ o.secs.length ∧ m = o.secs.length - i ∧ ((List.range i).all fun k => sectionP o ((k : Int) + 1)) = true) (o.secs.length) (0) ⟨by omega, by omega, rfl⟩ (by first | rfl | (simp; done)) (by first | rfl | (simp; done)) ?_
  rintro m0 i ⟨hx1, hx2, hx3⟩
  refine AW.seq' ?_
  refine AW.region ?_
  refine AO.c ?_
  refine AO.nil ?_
  refine SQ.normal ?_
  refine AW.seq' ?_
  refine AW.iteB (GL.ev _) (fun h1 => ?_) (fun h1 => ?_)
  ·
   rw [decide_eq_true_eq] at h1
   have hi : i < o.secs.length := by omega
   refine AW.skip ?_
   refine SQ.normal ?_
   refine AW.seq' ?_
   refine AW.block' ?_
   refine AW.seq' ?_
   refine AW.region ?_
   iterate 2 refine AO.c ?_
   refine AO.nil ?_
   refine SQ.normal ?_
   refine AW.seq' ?_
   refine AW.region ?_
   iterate 2 refine AO.c ?_
   refine AO.oo ?_
   refine AO.call1 Try.func35 rfl rfl (obj_section _ _ (by assumption) (by omega)) ?_
   refine AO.c ?_
   refine AO.nil ?_
   refine SQ.normal ?_
   refine AW.iteB (GL.ev _) (fun h2 => ?_) (fun h2 => ?_)
   ·
    have e : shapeP o = false := by
     have : ((List.range o.secs.length).all fun k => sectionP o ((k : Int) + 1)) = false := range_all_false hi (by simpa using h2)
     unfold shapeP; rw [this, Bool.and_false]; rfl
    refine AW.seq' ?_
    refine AW.region ?_
    refine AO.c ?_
    refine AO.nil ?_
    refine SQ.normal ?_
    refine AW.ret ?_
    refine BQ.ret <| SQ.ret <| AW.out <| LU.ret <| BQ.ret <| SQ.ret ?_
    refine Fin.ret (Gh.refl) noid1 ?_
    rw [e]; rfl
   ·
    have e : ((List.range (i + 1)).all fun k => sectionP o ((k : Int) + 1)) = true := by
     rw [range_all_succ, hx3]; simpa using h2
    refine AW.skip ?_
    refine BQ.normal ?_
    refine SQ.normal ?_
    refine AW.region ?_
    refine AO.oo ?_
    refine AO.c ?_
    refine AO.nil ?_
    exact AW.backU [.f, .k, .F, .F, .F, .f, .f, .f, .k, .k, .F, .F, .F, .F, .f, .f, .f] (m0 - 1) (i + 1) (by omega) (by (try dsimp only); exact ⟨by omega, by omega, e⟩) (by first | rfl | (simp; done)) (by first | rfl | (simp; done))
  ·
   rw [decide_eq_false_iff_not] at h1
   have hss : ((List.range o.secs.length).all fun k => sectionP o ((k : Int) + 1)) = true := by
    rw [← hx3, show i = o.secs.length by omega]
   refine AW.exit ?_
   refine SQ.exit <| AW.out <| LU.exit <| BQ.exit ?_
   refine SQ.normal ?_
   refine AW.seq' ?_
   refine AW.seq' ?_
   refine AW.region ?_
   iterate 4 refine AO.c ?_
   refine AO.nil ?_
   refine SQ.normal ?_
   refine AW.block' ?_
   refine AW.loopU [.f, .k, .F, .F, .F, .F, .f, .f, .f, .f, .f, .f, .f, .k, .k, .F, .F, .f, .f, .f, .f, .f, .f, .f] (fun (i : Nat) => [(42, .v (.int .i64 (i)))]) (fun i => Hn n0 [some (.box 42 (objA o))]) (fun m i => i ≤ o.syms.length ∧ m = o.syms.length - i ∧ ((List.range i).all fun k => symbolP o k) = true) (o.syms.length) (0) ⟨by omega, by omega, rfl⟩ (by first | rfl | (simp; done)) (by first | rfl | (simp; done)) ?_
   rintro m1 i ⟨hx1, hx2, hx3⟩
   refine AW.seq' ?_
   refine AW.region ?_
   refine AO.c ?_
   refine AO.nil ?_
   refine SQ.normal ?_
   refine AW.seq' ?_
   refine AW.iteB (GL.ev _) (fun h3 => ?_) (fun h3 => ?_)
   ·
    rw [decide_eq_true_eq] at h3
    have hi : i < o.syms.length := by omega
    refine AW.skip ?_
    refine SQ.normal ?_
    refine AW.seq' ?_
    refine AW.block' ?_
    refine AW.seq' ?_
    refine AW.region ?_
    iterate 2 refine AO.c ?_
    refine AO.nil ?_
    refine SQ.normal ?_
    refine AW.seq' ?_
    refine AW.region ?_
    iterate 2 refine AO.c ?_
    refine AO.call1 Try.func36 rfl rfl (obj_symbol _ _ (by assumption) ⟨by omega, by omega⟩) ?_
    refine AO.c ?_
    refine AO.nil ?_
    refine SQ.normal ?_
    refine AW.iteB (GL.ev _) (fun h4 => ?_) (fun h4 => ?_)
    ·
     have e : shapeP o = false := by
      have : ((List.range o.syms.length).all fun k => symbolP o k) = false := range_all_false hi (by simpa using h4)
      unfold shapeP; rw [this, Bool.and_false]; rfl
     refine AW.seq' ?_
     refine AW.region ?_
     refine AO.c ?_
     refine AO.nil ?_
     refine SQ.normal ?_
     refine AW.ret ?_
     refine BQ.ret <| SQ.ret <| AW.out <| LU.ret <| BQ.ret <| SQ.ret ?_
     refine Fin.ret (Gh.refl) noid1 ?_
     rw [e]; rfl
    ·
     have e : ((List.range (i + 1)).all fun k => symbolP o k) = true := by
      rw [range_all_succ, hx3]; simpa using h4
     refine AW.skip ?_
     refine BQ.normal ?_
     refine SQ.normal ?_
     refine AW.region ?_
     refine AO.oo ?_
     refine AO.c ?_
     refine AO.nil ?_
     exact AW.backU [.f, .k, .F, .F, .F, .F, .f, .f, .f, .f, .f, .f, .f, .k, .k, .F, .F, .f, .f, .f, .f, .f, .f, .f] (m1 - 1) (i + 1) (by omega) (by (try dsimp only); exact ⟨by omega, by omega, e⟩) (by first | rfl | (simp; done)) (by first | rfl | (simp; done))
   ·
    rw [decide_eq_false_iff_not] at h3
    have hys : ((List.range o.syms.length).all fun k => symbolP o k) = true := by
     rw [← hx3, show i = o.syms.length by omega]
    refine AW.exit ?_
    refine SQ.exit <| AW.out <| LU.exit <| BQ.exit ?_
    refine SQ.normal ?_
    refine AW.seq' ?_
    refine AW.region ?_
    refine AO.ghost (Gh.freezeP 1) ?_
    iterate 2 refine AO.c ?_
    refine AO.nil ?_
    refine SQ.normal ?_
    refine AW.seq' ?_
    refine AW.region ?_
    iterate 3 refine AO.c ?_
    iterate 4 refine AO.gx ?_
    iterate 2 refine AO.c ?_
    iterate 3 refine AO.gx ?_
    refine AO.gxcall1 Try.func39 rfl rfl (fun hgd => hcf) ?_
    refine AO.gx ?_
    iterate 2 refine AO.c ?_
    refine AO.nil ?_
    refine SQ.normal ?_
    refine AW.ret ?_
    refine Fin.ret (Gh.refl) noid1 ?_
    unfold shapeP; rw [h0, hss, hys]; rfl
end Go.Proofs.Ytiomdnmicagdcaa.AL
namespace Go.Proofs.Ytiomdnmicagdcaa.AL
open Go Go.RowKit Go.Proofs.Ytiomdnmicagdcaa.Base
set_option linter.unusedVariables false
set_option linter.unusedSimpArgs false
set_option maxRecDepth 4000
set_option synthInstance.maxSize 1000
set_option synthInstance.maxHeartbeats 200000
theorem mayS_nameB (s : ByteArray) : mayS s = nameB s := by
 by_cases hs : s.size ≤ 32
 · by_cases h0 : s.data.toList.all (· ≠ 0) = true
   · have h1 : nameB s = true := by unfold nameB; rw [decide_eq_true hs, h0]; rfl
     rw [h1]
     refine mayS_of hs fun j hj => ?_
     have hlt : j < s.data.toList.length := by simpa using hj
     have h2 := List.all_eq_true.1 h0 s.data.toList[j] (List.getElem_mem hlt)
     rw [List.getD_eq_getElem?_getD, List.getElem?_eq_getElem hlt, Option.getD_some]
     intro h3
     have : s.data.toList[j] = 0 := UInt8.toNat_inj.1 (by simpa using h3)
     rw [this] at h2; simp at h2
   · have h0 : s.data.toList.all (· ≠ 0) = false := by simpa using h0
     have h1 : nameB s = false := by unfold nameB; rw [h0, Bool.and_false]
     rw [h1]
     rw [List.all_eq_false] at h0
     obtain ⟨x, hx, hx0⟩ := h0
     obtain ⟨j, hj, rfl⟩ := List.getElem_of_mem hx
     refine mayS_no (j := j) (by simpa using hj) ?_
     rw [List.getD_eq_getElem?_getD, List.getElem?_eq_getElem hj, Option.getD_some]
     have : s.data.toList[j] = 0 := by simpa using hx0
     rw [this]; rfl
 · unfold mayS nameB
   rw [decide_eq_false (fun h => hs h.1), decide_eq_false hs, Bool.false_and]
theorem symbol_eq (o : ObjD) (i : Int) : symbolP o i = symbolB o i := by
 unfold symbolP symbolB withinB
 rw [mayS_nameB]
 generalize nameB (o.syms.getD i.toNat default).name = nb
 generalize (o.syms.getD i.toNat default).bind = b
 generalize (o.syms.getD i.toNat default).typ = t
 generalize (o.syms.getD i.toNat default).sec = c
 generalize (o.syms.getD i.toNat default).val = v
 generalize (o.syms.getD i.toNat default).size = z
 generalize (o.secs.getD (c - 1).toNat default).size = w
 generalize (o.syms.getD (i - 1).toNat default).bind = pb
 by_cases hi : i = 0
 · rw [decide_eq_true hi, cond_true, cond_true]; simp [Bool.and_assoc]
 · rw [decide_eq_false hi, cond_false, cond_false]
   cases nb with
   | false => rfl
   | true => grind
def inc : Int → List Int → Prop
 | _, [] => True
 | a, x :: r => a < x ∧ inc x r
theorem inc_gt : ∀ (l : List Int) (a : Int), inc a l → ∀ x ∈ l, a < x := by
 intro l
 induction l with
 | nil => intro a _ x hx; cases hx
 | cons y r ih =>
  intro a h x hx
  rcases List.mem_cons.1 hx with rfl | hx
  · exact h.1
  · exact Int.lt_trans h.1 (ih y h.2 x hx)
theorem inc_count : ∀ (l : List Int) (a : Int), inc a l → ∀ n, l.count n = if n ∈ l then 1 else 0 := by
 intro l
 induction l with
 | nil => intro a _ n; simp
 | cons y r ih =>
  intro a h n
  rw [List.count_cons, ih y h.2 n]
  by_cases hy : y = n
  · subst hy
    have : y ∉ r := fun hm => absurd (inc_gt r y h.2 y hm) (Int.lt_irrefl y)
    simp [this]
  · have : ¬ n = y := fun h => hy h.symm
    simp [hy, this]
theorem inc_index : ∀ (l : List Int) (a : Int), inc a l ↔ ∀ k, k < l.length → (if k = 0 then a else l.getD (k - 1) default) < l.getD k default := by
 intro l
 induction l with
 | nil => intro a; simp [inc]
 | cons y r ih =>
  intro a
  rw [inc, ih y]
  constructor
  · rintro ⟨h1, h2⟩ k hk
    cases k with
    | zero => simpa using h1
    | succ k =>
     have := h2 k (by simpa using hk)
     rw [if_neg (by omega)]
     cases k with
     | zero => simpa using this
     | succ k => rw [if_neg (by omega)] at this; simpa using this
  · intro h
    refine ⟨by simpa using h 0 (by simp), fun k hk => ?_⟩
    have := h (k + 1) (by simpa using hk)
    rw [if_neg (by omega)] at this
    cases k with
    | zero => simpa using this
    | succ k => rw [if_neg (by omega)]; simpa using this
theorem mem_iff {N : Int} {l : List Int} : ((List.range l.length).all fun k => !memB N l k) = true ↔ inc 0 l ∧ ∀ x ∈ l, x ≤ N := by
 rw [List.all_eq_true]
 constructor
 · intro h
   have h' : ∀ k, k < l.length → 1 ≤ l.getD k default ∧ l.getD k default ≤ N ∧ (0 < k → l.getD (k - 1) default < l.getD k default) := by
    intro k hk
    have := h k (List.mem_range.2 hk)
    unfold memB at this
    simp only [Bool.not_eq_true', Bool.or_eq_false_iff, Bool.and_eq_false_iff, decide_eq_false_iff_not] at this
    obtain ⟨⟨h1, h2⟩, h3⟩ := this
    refine ⟨by omega, by omega, fun h0 => ?_⟩
    rw [show ((k : Int) - 1).toNat = k - 1 by omega] at h3
    omega
   refine ⟨(inc_index l 0).2 fun k hk => ?_, fun x hx => ?_⟩
   · have := h' k hk
     split
     · omega
     · exact this.2.2 (by omega)
   · obtain ⟨k, hk, rfl⟩ := List.getElem_of_mem hx
     have := (h' k hk).2.1
     simpa [hk] using this
 · rintro ⟨h1, h2⟩ k hk
   have hk := List.mem_range.1 hk
   have h3 := (inc_index l 0).1 h1 k hk
   have hm : l.getD k default ∈ l := by rw [List.getD_eq_getElem?_getD, List.getElem?_eq_getElem hk]; exact List.getElem_mem hk
   have h4 := inc_gt l 0 h1 _ hm
   have h5 := h2 _ hm
   unfold memB
   simp only [Bool.not_eq_true', Bool.or_eq_false_iff, Bool.and_eq_false_iff, decide_eq_false_iff_not]
   refine ⟨⟨by omega, by omega⟩, ?_⟩
   by_cases h0 : k = 0
   · exact .inl (by omega)
   · right
     rw [if_neg h0] at h3
     rw [show ((k : Int) - 1).toNat = k - 1 by omega]
     omega
theorem memsP_spec {N : Int} : ∀ (l : List Int) (seen : List Int) (last : Int) (s' : List Int), memsP N seen last l = some s' ↔ inc last l ∧ (∀ x ∈ l, x ≤ N) ∧ (∀ x ∈ l, x ∉ seen) ∧ s' = l.reverse ++ seen := by
 intro l
 induction l with
 | nil => intro seen last s'; simp [memsP, inc, eq_comm]
 | cons n r ih =>
  intro seen last s'
  rw [memsP]
  split
  · rename_i h
    constructor
    · intro h2; cases h2
    · rintro ⟨h1, h2, h3, _⟩
      rcases h with h | h | h
      · have := h1.1; omega
      · have := h2 n List.mem_cons_self; omega
      · exact absurd h (h3 n List.mem_cons_self)
  · rename_i h
    have hn : ¬ n ≤ last ∧ ¬ n > N ∧ n ∉ seen := ⟨fun q => h (.inl q), fun q => h (.inr (.inl q)), fun q => h (.inr (.inr q))⟩
    rw [ih]
    constructor
    · rintro ⟨h1, h2, h3, h4⟩
      refine ⟨⟨by omega, h1⟩, fun x hx => ?_, fun x hx => ?_, by rw [h4]; simp⟩
      · rcases List.mem_cons.1 hx with rfl | hx
        · omega
        · exact h2 x hx
      · rcases List.mem_cons.1 hx with rfl | hx
        · exact hn.2.2
        · exact fun q => h3 x hx (List.mem_cons_of_mem _ q)
    · rintro ⟨h1, h2, h3, h4⟩
      refine ⟨h1.2, fun x hx => h2 x (List.mem_cons_of_mem _ hx), fun x hx q => ?_, by rw [h4]; simp⟩
      rcases List.mem_cons.1 q with rfl | q
      · exact absurd (inc_gt r x h1.2 x hx) (Int.lt_irrefl x)
      · exact h3 x (List.mem_cons_of_mem _ hx) q
theorem memberF_cons (g : GrpD) (gs : List GrpD) (n : Int) : memberF (g :: gs) n = (g.mem.count n : Int) + memberF gs n := by unfold memberF; simp
def GrpOk (N Y : Int) (g : GrpD) : Prop := 1 ≤ g.sym ∧ g.sym < Y ∧ g.mem.length ≠ 0 ∧ inc 0 g.mem ∧ ∀ x ∈ g.mem, x ≤ N
theorem grpsP_spec {N Y : Int} : ∀ (gs : List GrpD) (seen : List Int), grpsP N Y seen gs = true ↔ (∀ g ∈ gs, GrpOk N Y g) ∧ ∀ n, 1 ≤ n → n ≤ N → (if n ∈ seen then 1 else 0) + memberF gs n ≤ 1 := by
 intro gs
 induction gs with
 | nil =>
  intro seen
  rw [grpsP]
  refine ⟨fun _ => ⟨fun g hg => by simp at hg, fun n _ _ => ?_⟩, fun _ => rfl⟩
  unfold memberF; simp; split <;> omega
 | cons g gs ih =>
  intro seen
  rw [grpsP]
  split
  · rename_i h
    constructor
    · intro h2; cases h2
    · rintro ⟨h1, _⟩
      have := h1 g List.mem_cons_self
      unfold GrpOk at this
      omega
  · rename_i h
    cases hm : memsP N seen 0 g.mem with
    | none =>
     dsimp only
     constructor
     · intro h2; cases h2
     · rintro ⟨h1, h2⟩
       exfalso
       obtain ⟨_, _, _, g4, g5⟩ := h1 g List.mem_cons_self
       have : memsP N seen 0 g.mem = some (g.mem.reverse ++ seen) := by
        refine (memsP_spec _ _ _ _).2 ⟨g4, g5, fun x hx hs => ?_, rfl⟩
        have h3 := h2 x (by have := inc_gt _ _ g4 x hx; omega) (g5 x hx)
        rw [if_pos hs, memberF_cons, inc_count _ _ g4, if_pos hx] at h3
        have := memberF_range (l := gs) (n := x)
        omega
       rw [hm] at this; cases this
    | some s' =>
     dsimp only
     obtain ⟨m1, m2, m3, rfl⟩ := (memsP_spec _ _ _ _).1 hm
     rw [ih]
     constructor
     · rintro ⟨h1, h2⟩
       refine ⟨fun x hx => ?_, fun n hn1 hn2 => ?_⟩
       · rcases List.mem_cons.1 hx with rfl | hx
         · exact ⟨by omega, by omega, by omega, m1, m2⟩
         · exact h1 x hx
       · have := h2 n hn1 hn2
         rw [memberF_cons, inc_count _ _ m1]
         by_cases hg : n ∈ g.mem
         · have hs := m3 n hg
           rw [if_pos (by simp [hg])] at this
           rw [if_neg hs, if_pos hg]; omega
         · rw [if_neg hg]
           have e : (n ∈ g.mem.reverse ++ seen) ↔ n ∈ seen := by simp [hg]
           simp only [e] at this
           omega
     · rintro ⟨h1, h2⟩
       refine ⟨fun x hx => h1 x (List.mem_cons_of_mem _ hx), fun n hn1 hn2 => ?_⟩
       have := h2 n hn1 hn2
       rw [memberF_cons, inc_count _ _ m1] at this
       by_cases hg : n ∈ g.mem
       · have hs := m3 n hg
         rw [if_neg hs, if_pos hg] at this
         rw [if_pos (by simp [hg])]; omega
       · rw [if_neg hg] at this
         have e : (n ∈ g.mem.reverse ++ seen) ↔ n ∈ seen := by simp [hg]
         simp only [e]
         omega
theorem grpB_iff {o : ObjD} {g : GrpD} : grpB o g = true ↔ GrpOk o.secs.length o.syms.length g := by
 unfold grpB GrpOk
 rw [Bool.and_eq_true, mem_iff]
 simp only [Bool.and_eq_true, decide_eq_true_eq]
 constructor
 · rintro ⟨⟨⟨a, b⟩, c⟩, d, e⟩; exact ⟨a, b, c, d, e⟩
 · rintro ⟨a, b, c, d, e⟩; exact ⟨⟨⟨a, b⟩, c⟩, d, e⟩
theorem pow_all : ∀ a : Nat, a < 4097 → (decide (a ≠ 0) && decide (a &&& (a - 1) = 0)) = powL.contains (a : Int) := by decide +kernel
theorem align_eq {a : Int} (ha : I64 a) : (!(decide (a < 1) || decide (a > 4096) || decide (band a (a - 1) ≠ 0))) = alignB a := by
 by_cases h : 1 ≤ a ∧ a ≤ 4096
 · obtain ⟨m, rfl⟩ := Int.eq_ofNat_of_zero_le (by omega : 0 ≤ a)
   have h1 := pow_all m (by omega)
   have e : ((m : Int) - 1) = ((m - 1 : Nat) : Int) := by omega
   rw [e, band_nat (by omega) (by omega)]
   unfold alignB
   rw [← h1, decide_eq_false (by omega : ¬ (m : Int) < 1), decide_eq_false (by omega : ¬ (m : Int) > 4096), decide_eq_true (by omega : m ≠ 0), Bool.eq_iff_iff]
   simp
   try omega
 · have : alignB a = false := by
    unfold alignB
    rw [← Bool.not_eq_true, List.contains_iff_mem]
    unfold powL
    simp
    omega
   rw [this, Bool.not_eq_false']
   rcases (by omega : a < 1 ∨ a > 4096) with h | h
   · rw [decide_eq_true h]; rfl
   · rw [decide_eq_true h, Bool.or_true]; rfl
theorem rel_eq {many len : Int} : ∀ (l : List RelD) (prev : Option RelD) (e : Int), (∀ p, prev = some p → e = p.off + widthF p.typ) → (prev = none → e = 0) → relGP many len e l = relsG many len prev l := by
 intro l
 induction l with
 | nil => intro prev e _ _; cases prev <;> rfl
 | cons r rs ih =>
  intro prev e h1 h2
  rw [relGP, relsG_cons, ih (some r) (r.off + widthF r.typ) (fun p hp => by rw [Option.some.inj hp]) (fun h => by cases h)]
  cases hm : mayRelB r with
  | false => rfl
  | true =>
   have ho := mayRel_off hm
   have e1 : decide (r.off < e) = prevBad r prev := by
    cases prev with
    | none => rw [h2 rfl, decide_eq_false (by omega)]; rfl
    | some p => rw [h1 p rfl]; rfl
   have e2 : decide (r.off > len - widthF r.typ) = decide (r.off + widthF r.typ > len) := by rw [Bool.eq_iff_iff, decide_eq_true_eq, decide_eq_true_eq]; omega
   rw [e1, e2]
   cases decide (r.sym ≥ many) <;> cases prevBad r prev <;> cases decide (r.off + widthF r.typ > len) <;> rfl
theorem related_eq (o : ObjD) (s : SecD) : relatedP s o.syms.length = relsB o s := by
 unfold relatedP relsB
 rw [rel_eq s.rels none 0 (fun p h => by cases h) (fun _ => rfl)]
theorem hasP_F {f : Int} (h0 : 0 ≤ f) (h1 : f ≤ 9223372036854775807) : hasP f 1 = hasF f 1 ∧ hasP f 4 = hasF f 4 ∧ hasP f 16 = hasF f 16 ∧ hasP f 32 = hasF f 32 ∧ hasP f 128 = hasF f 128 ∧ hasP f 512 = hasF f 512 :=
 ⟨hasP_pow h0 h1 (k := 0) (by decide), hasP_pow h0 h1 (k := 2) (by decide), hasP_pow h0 h1 (k := 4) (by decide), hasP_pow h0 h1 (k := 5) (by decide), hasP_pow h0 h1 (k := 7) (by decide), hasP_pow h0 h1 (k := 9) (by decide)⟩
theorem kind_eq {s : SecD} (hs : s.ok) : (!(decide (Go.bits .andNot .i64 s.flags 2097847 ≠ 0) || decide (s.flags < 0) || hasP s.flags 5) && !(decide (s.align < 1) || decide (s.align > 4096) || decide (band s.align (s.align - 1) ≠ 0) || !typedP s || !mergedP s)) = kindB s := by
 have hf := hs.2.2.1
 have e1 := flagsB_eq hf
 have e2 := align_eq hs.2.2.2.1
 unfold kindB
 rw [← e1, ← e2]
 generalize hA : (decide (Go.bits .andNot .i64 s.flags 2097847 ≠ 0) || decide (s.flags < 0)) = A
 generalize hB : (decide (s.align < 1) || decide (s.align > 4096) || decide (band s.align (s.align - 1) ≠ 0)) = B
 cases A with
 | true => rfl
 | false =>
  have h0 : 0 ≤ s.flags := by
   simp only [Bool.or_eq_false_iff, decide_eq_false_iff_not] at hA
   omega
  unfold I64 at hf
  obtain ⟨f1, f4, f16, f32, f128, f512⟩ := hasP_F h0 hf.2
  rw [hasP_5 h0 hf.2]
  cases B with
  | true => cases hasF s.flags 1 <;> cases hasF s.flags 4 <;> rfl
  | false =>
   unfold typedP mergedP withinB
   rw [f1, f4, f16, f32]
   generalize hasF s.flags 1 = b1
   generalize hasF s.flags 4 = b4
   generalize hasF s.flags 16 = b16
   generalize hasF s.flags 32 = b32
   generalize s.data.getD ((s.data.length : Int) - 1).toNat 0 = lastb
   generalize s.size % s.ent = sm
   generalize s.data.length = dl
   generalize s.rels.length = rl
   generalize s.typ = ty
   generalize s.size = sz
   generalize s.ent = en
   generalize s.align = al
   cases b1 <;> cases b4 <;> cases b16 <;> cases b32 <;> grind
theorem section_eq {o : ObjD} (ho : o.ok) {i : Int} (hi : 1 ≤ i ∧ i ≤ o.secs.length) (hc : ∀ n : Int, 1 ≤ n → n ≤ o.secs.length → memberF o.groups n ≤ 1) : sectionP o i = sectionB o i := by
 have hii : (i - 1).toNat < o.secs.length := by omega
 have hs := secOk_at ho.2.1 hii
 have hk := kind_eq hs
 have hr := related_eq o (o.secs.getD (i - 1).toNat default)
 have hcm := hc i hi.1 hi.2
 have hcm0 := memberF_range (l := o.groups) (n := i)
 have hany : (o.groups.any fun g => g.mem.any fun x => decide (i = x)) = decide (memberF o.groups i = 1) := by
  have key : ∀ gs : List GrpD, (gs.any fun g => g.mem.any fun x => decide (i = x)) = decide (0 < memberF gs i) := by
   intro gs
   induction gs with
   | nil => rfl
   | cons g gs ih =>
    rw [List.any_cons, ih, memberF_cons, Bool.eq_iff_iff, Bool.or_eq_true, decide_eq_true_eq, decide_eq_true_eq, List.any_eq_true]
    have h0 := memberF_range (l := gs) (n := i)
    constructor
    · rintro (⟨x, hx, he⟩ | h)
      · have he := of_decide_eq_true he
        subst he
        have := List.count_pos_iff.2 hx
        omega
      · omega
    · intro h
      by_cases hm : i ∈ g.mem
      · exact .inl ⟨i, hm, by simp⟩
      · have := List.count_eq_zero.2 hm
        right; omega
  rw [key, Bool.eq_iff_iff]; simp; omega
 unfold sectionP sectionB
 rw [mayS_nameB, hr, hany, ← hk]
 have hf := hs.2.2.1
 generalize hse : o.secs.getD (i - 1).toNat default = s at hf
 generalize relsB o s = rb
 generalize memberF o.groups i = mf at hcm hcm0
 generalize o.secs.length = N
 have hfl : ∀ b : Bool, b = (decide (Go.bits .andNot .i64 s.flags 2097847 ≠ 0) || decide (s.flags < 0)) → b = false → hasP s.flags 128 = hasF s.flags 128 ∧ hasP s.flags 512 = hasF s.flags 512 := by
  intro b hb hb0
  rw [hb, Bool.or_eq_false_iff, decide_eq_false_iff_not, decide_eq_false_iff_not] at hb0
  unfold I64 at hf
  obtain ⟨_, _, _, _, f128, f512⟩ := hasP_F (f := s.flags) (by omega) hf.2
  exact ⟨f128, f512⟩
 generalize hA : (decide (Go.bits .andNot .i64 s.flags 2097847 ≠ 0) || decide (s.flags < 0)) = A at hfl
 generalize hB : (decide (s.align < 1) || decide (s.align > 4096) || decide (band s.align (s.align - 1) ≠ 0)) = B
 have hA' : (!nameB s.name || decide (Go.bits .andNot .i64 s.flags 2097847 ≠ 0) || decide (s.flags < 0) || hasP s.flags 5) = (!nameB s.name || A || hasP s.flags 5) := by
  rw [← hA]; cases nameB s.name <;> simp
 rw [hA']
 generalize nameB s.name = nb
 generalize hasP s.flags 5 = p5
 generalize typedP s = tp
 generalize mergedP s = mp
 cases A with
 | true => cases nb <;> rfl
 | false =>
  obtain ⟨f128, f512⟩ := hfl false rfl rfl
  rw [f128, f512]
  generalize hasF s.flags 128 = b128
  generalize hasF s.flags 512 = b512
  generalize s.link = lk
  unfold withinB
  cases nb <;> cases p5 <;> cases B <;> cases tp <;> cases mp <;> cases rb <;> try rfl
  all_goals (
   have hmf : mf = 0 ∨ mf = 1 := by omega
   clear hc hr hk hany hfl hA' hA hB f128 f512 hse hs hii hf ho
   have e1 : decide (lk < 1) = !decide (lk ≥ 1) := by rw [Bool.eq_iff_iff]; simp
   have e2 : decide (lk > (N : Int)) = !decide (lk ≤ (N : Int)) := by rw [Bool.eq_iff_iff]; simp
   have e3 : decide (lk ≠ 0) = !decide (lk = 0) := by rw [Bool.eq_iff_iff]; simp
   rw [e1, e2, e3]
   by_cases h1 : lk = 0
   · have q1 : ¬ lk ≥ 1 := by omega
     have q2 : lk ≥ 0 := by omega
     have q3 : lk ≤ (N : Int) := by omega
     have q4 : ¬ lk = i := by omega
     rw [decide_eq_true h1, decide_eq_false q1, decide_eq_true q2, decide_eq_true q3, decide_eq_false q4]
     rcases hmf with rfl | rfl <;> cases b128 <;> cases b512 <;> rfl
   · by_cases h2 : lk ≥ 0
     · have q1 : lk ≥ 1 := by omega
       rw [decide_eq_false h1, decide_eq_true q1, decide_eq_true h2]
       generalize decide (lk ≤ (N : Int)) = c3
       generalize decide (lk = i) = c4
       rcases hmf with rfl | rfl <;> cases c3 <;> cases c4 <;> cases b128 <;> cases b512 <;> rfl
     · have q1 : ¬ lk ≥ 1 := by omega
       rw [decide_eq_false h1, decide_eq_false q1, decide_eq_false h2]
       rcases hmf with rfl | rfl <;> cases b128 <;> cases b512 <;> rfl)
theorem shape_eq {o : ObjD} (ho : o.ok) : shapeP o = shapeB o := by
 rw [Bool.eq_iff_iff]
 have hsy : ((List.range o.syms.length).all fun k => symbolP o k) = ((List.range o.syms.length).all fun k => symbolB o k) := by
  congr 1; funext k; exact symbol_eq o k
 have hsig : (!o.sig.any fun n => !withinB n (o.syms.length - 1)) = o.sig.all fun x => decide (0 ≤ x) && decide (x < o.syms.length) := by
  rw [List.not_any_eq_all_not]
  congr 1; funext n
  unfold withinB
  rw [Bool.not_not, Bool.eq_iff_iff]; simp; omega
 have hsec : (∀ n : Int, 1 ≤ n → n ≤ o.secs.length → memberF o.groups n ≤ 1) → ((List.range o.secs.length).all fun k => sectionP o ((k : Int) + 1)) = ((List.range o.secs.length).all fun k => sectionB o ((k : Int) + 1)) := by
  intro hc
  rw [Bool.eq_iff_iff, List.all_eq_true, List.all_eq_true]
  constructor <;> intro h k hk <;> have := h k hk <;> have hk := List.mem_range.1 hk
  · rwa [section_eq ho (by omega) hc] at this
  · rwa [section_eq ho (by omega) hc]
 have hcnt : ((List.range o.secs.length).all fun k => sectionB o ((k : Int) + 1)) = true → ∀ n : Int, 1 ≤ n → n ≤ o.secs.length → memberF o.groups n ≤ 1 := by
  intro h n h1 h2
  have := List.all_eq_true.1 h (n - 1).toNat (List.mem_range.2 (by omega))
  rw [show (((n - 1).toNat : Nat) : Int) + 1 = n by omega] at this
  unfold sectionB at this
  generalize hm : memberF o.groups n = mf at this
  by_cases h3 : mf ≤ 1
  · exact h3
  · exfalso
    have e0 : decide (mf = 0) = false := decide_eq_false (by omega)
    have e1 : decide (mf = 1) = false := decide_eq_false (by omega)
    rw [e0, e1] at this
    simp only [Bool.false_and, Bool.or_false] at this
    revert this
    generalize (!nameB _ || _ || _) = x1
    generalize (_ && _ || _ && _) = x2
    cases x1 <;> cases x2 <;> simp
 have hg : o.groups.all (grpB o) = true ↔ ∀ g ∈ o.groups, GrpOk o.secs.length o.syms.length g := by
  rw [List.all_eq_true]
  exact ⟨fun h g hg => grpB_iff.1 (h g hg), fun h g hg => grpB_iff.2 (h g hg)⟩
 have hgp := grpsP_spec (N := o.secs.length) (Y := o.syms.length) o.groups []
 simp only [List.not_mem_nil, if_false, Int.zero_add] at hgp
 unfold shapeP shapeB
 rw [hsy, hsig]
 simp only [Bool.and_eq_true, Bool.not_eq_true', Bool.or_eq_false_iff, Bool.not_eq_false', hgp, hg]
 constructor
 · rintro ⟨⟨⟨⟨⟨⟨a1, a2⟩, a3⟩, a4, a5⟩, b⟩, c⟩, d, e⟩
   refine ⟨⟨⟨⟨⟨⟨⟨a1, a2⟩, a3⟩, ?_⟩, a4⟩, by rw [← hsec a5]; exact b⟩, c⟩, e⟩
   cases hh : o.hasSig
   · rw [hh] at d; simp at d ⊢; simp [d]
   · rfl
 · rintro ⟨⟨⟨⟨⟨⟨⟨a1, a2⟩, a3⟩, a6⟩, a4⟩, b⟩, c⟩, e⟩
   have a5 := hcnt b
   refine ⟨⟨⟨⟨⟨⟨a1, a2⟩, a3⟩, a4, a5⟩, by rw [hsec a5]; exact b⟩, c⟩, ?_, e⟩
   cases hh : o.hasSig
   · rw [hh] at a6; simp at a6 ⊢; simpa using a6
   · rfl
end Go.Proofs.Ytiomdnmicagdcaa.AL
namespace Go.Proofs.Ytiomdnmicagdcaa.AL
open Go Go.RowKit Go.Proofs.Ytiomdnmicagdcaa.Base
set_option linter.unusedVariables false
set_option linter.unusedSimpArgs false
set_option maxRecDepth 4000
set_option synthInstance.maxSize 1000
set_option synthInstance.maxHeartbeats 200000
structure PartD where
 h : ShD
 name : ByteArray
 b : List Int
 deriving Inhabited
@[reducible] def partA (p : PartD) : List AV := [.v (.int .i64 p.h.a0), .v (.int .i64 p.h.a1), .v (.int .i64 p.h.a2), .v (.int .i64 p.h.a3), .v (.int .i64 p.h.a4), .v (.int .i64 p.h.a5), .v (.int .i64 p.h.a6), .v (.int .i64 p.h.a7), .v (.int .i64 p.h.a8), .v (.int .i64 p.h.a9), .v (.string p.name), .rd 1 (bys p.b)]
def nRela : ByteArray := { data := #[46, 114, 101, 108, 97] }
def nGroup : ByteArray := { data := #[46, 103, 114, 111, 117, 112] }
def nSig : ByteArray := { data := #[46, 108, 108, 118, 109, 95, 97, 100, 100, 114, 115, 105, 103] }
def nSym : ByteArray := { data := #[46, 115, 121, 109, 116, 97, 98] }
def nStr : ByteArray := { data := #[46, 115, 116, 114, 116, 97, 98] }
def nShs : ByteArray := { data := #[46, 115, 104, 115, 116, 114, 116, 97, 98] }
def zPart : PartD := ⟨⟨0, 0, 0, 0, 0, 0, 0, 0, 0, 0⟩, { data := #[] }, []⟩
def secPart (s : SecD) : PartD := ⟨⟨0, s.typ, s.flags, 0, 0, s.size, s.link, 0, s.align, s.ent⟩, s.name, s.data⟩
def putR (r : RelD) : List Int := if mayRelB r = true then relB r else []
def putN (x : Int) : List Int := if Wide 4 then dig (IntKind.u64.wrap x) (Int.toNat 4) else []
def putE (e : EntD) : List Int := if MayE e then entB e else []
def putH (h : ShD) : List Int := if h.may then h.bytes else []
def relPart (at_ n : Int) (s : SecD) : List PartD := if s.rels.length = 0 then [] else [⟨⟨0, 4, 0, 0, 0, 0, at_, n, 8, 24⟩, nRela, s.rels.flatMap putR⟩]
def relPs (at_ : Int) : Int → List SecD → List PartD
 | _, [] => []
 | n, s :: r => relPart at_ n s ++ relPs at_ (n + 1) r
def grpPart (at_ : Int) (g : GrpD) : PartD := ⟨⟨0, 17, 0, 0, 0, 0, at_, g.sym, 4, 4⟩, nGroup, [1, 0, 0, 0] ++ g.mem.flatMap putN⟩
def sigPart (at_ : Int) (o : ObjD) : List PartD := if o.hasSig = true then [⟨⟨0, 1879002115, 0, 0, 0, 0, at_, 0, 1, 0⟩, nSig, o.sig.flatMap encB⟩] else []
def midF (o : ObjD) (at_ : Int) : List PartD := relPs at_ 1 o.secs ++ o.groups.map (grpPart at_) ++ sigPart at_ o
def idxY (s : SymD) : Int := if s.sec < 0 then 65521 else s.sec
def entY (s : SymD) (nm : Int) : EntD := ⟨nm, s.bind, s.typ, idxY s, s.val, s.size⟩
def namesOf (o : ObjD) : List ByteArray := o.syms.map (·.name)
def entB1 (o : ObjD) (pl : List Int) (i : Nat) : List Int := putE (entY (o.syms.getD i default) (pl.getD i 0))
def entsF (o : ObjD) (pl : List Int) (n : Nat) : List Int := (List.range n).flatMap (entB1 o pl)
def localF (l : List SymD) : Int := (l.countP fun s => decide (s.bind = 0) : Nat)
def symPt (o : ObjD) (at_ : Int) : PartD := ⟨⟨0, 2, 0, 0, 0, 0, at_ + 1, localF o.syms, 8, 24⟩, nSym, entsF o (tabOf (namesOf o)).2.1 o.syms.length⟩
def strPt (o : ObjD) : PartD := ⟨⟨0, 3, 0, 0, 0, 0, 0, 0, 1, 0⟩, nStr, (tabOf (namesOf o)).1⟩
def shsPt : PartD := ⟨⟨0, 3, 0, 0, 0, 0, 0, 0, 1, 0⟩, nShs, []⟩
def atF8 (o : ObjD) : Int := 1 + o.secs.length + (midF o 0).length
def preF (o : ObjD) : List PartD := (zPart :: o.secs.map secPart) ++ midF o (atF8 o) ++ [symPt o (atF8 o)] ++ [strPt o] ++ [shsPt]
def PartD.named (p : PartD) (n : Int) : PartD := ⟨⟨n, p.h.a1, p.h.a2, p.h.a3, p.h.a4, p.h.a5, p.h.a6, p.h.a7, p.h.a8, p.h.a9⟩, p.name, p.b⟩
def PartD.told (p : PartD) (b : List Int) : PartD := ⟨p.h, p.name, b⟩
def pNames (o : ObjD) : List ByteArray := (preF o).map (·.name)
def tblF (o : ObjD) : List PartD := (preF o).set ((preF o).length - 1) (shsPt.told (tabOf (pNames o)).1)
def nmF (pl : List Int) (l : List PartD) : Nat → List PartD
 | 0 => l
 | i + 1 => (nmF pl l i).set i (((nmF pl l i).getD i default).named (pl.getD i 0))
def finF (o : ObjD) : List PartD := nmF (tabOf (pNames o)).2.1 (tblF o) (preF o).length
def headOf (i : Nat) (body : List Int) (p : PartD) : ShD := if i = 0 then p.h else ⟨p.h.a0, p.h.a1, p.h.a2, p.h.a3, 64 + body.length, if p.h.a1 = 8 then p.h.a5 else p.b.length, p.h.a6, p.h.a7, p.h.a8, p.h.a9⟩
def layN (l : List PartD) : Nat → List Int × List Int
 | 0 => ([], [])
 | i + 1 => ((layN l i).1 ++ (l.getD i default).b, (layN l i).2 ++ putH (headOf i (layN l i).1 (l.getD i default)))
def putEh (h : HdD) : List Int := if h.may then h.bytes else []
def bytesF (o : ObjD) : List Int := putEh ⟨64 + (layN (finF o) (finF o).length).1.length, (finF o).length, (finF o).length - 1⟩ ++ (layN (finF o) (finF o).length).1 ++ (layN (finF o) (finF o).length).2
structure LayH (o : ObjD) : Prop where
 ok : o.ok
 sh : shapeB o = true
 gs : o.groups.length ≤ 900000
 sg : o.sig.length ≤ 1000000
structure LaySm (o : ObjD) : Prop where
 secs : o.secs.length ≤ 32
 syms : o.syms.length ≤ 128 ∧ 1 ≤ o.syms.length
 sec : ∀ s ∈ o.secs, s.ok ∧ (s.data.length : Int) ≤ 16384 ∧ (s.rels.length : Int) ≤ 64 ∧ (∀ r ∈ s.rels, mayRelB r = true) ∧ s.name.size ≤ 32
 grp : ∀ g ∈ o.groups, GrpOk o.secs.length o.syms.length g ∧ g.mem.length ≤ 32
 sym : ∀ s ∈ o.syms, s.ok ∧ s.name.size ≤ 32 ∧ -1 ≤ s.sec
 sig : ∀ x ∈ o.sig, I64 x
theorem inc_len : ∀ (l : List Int) (a N : Int), inc a l → (∀ x ∈ l, x ≤ N) → a ≤ N → a + l.length ≤ N := by
 intro l
 induction l with
 | nil => intro a N _ _ h; simpa using h
 | cons y r ih =>
  intro a N h h2 h3
  have := ih y N h.2 (fun x hx => h2 x (List.mem_cons_of_mem _ hx)) (h2 y List.mem_cons_self)
  have := h.1
  simp only [List.length_cons, Int.natCast_add]
  omega
theorem relsG_all {many len : Int} : ∀ (l : List RelD) (prev : Option RelD), relsG many len prev l = true → ∀ r ∈ l, mayRelB r = true := by
 intro l
 induction l with
 | nil => intro _ _ r hr; cases hr
 | cons y q ih =>
  intro prev h r hr
  rw [relsG_cons] at h
  have h2 : mayRelB y = true ∧ relsG many len (some y) q = true := by
   revert h
   cases mayRelB y <;> cases decide (y.sym ≥ many) <;> cases decide (y.off + widthF y.typ > len) <;> cases prevBad y prev <;> simp
  rcases List.mem_cons.1 hr with rfl | hr
  · exact h2.1
  · exact ih _ h2.2 r hr
theorem LayH.small {o : ObjD} (h : LayH o) : LaySm o := by
 have hs := h.sh
 unfold shapeB at hs
 simp only [Bool.and_eq_true, Bool.not_eq_true', Bool.or_eq_false_iff, decide_eq_false_iff_not] at hs
 obtain ⟨⟨⟨⟨⟨⟨⟨a1, a2⟩, a3⟩, _⟩, hg⟩, hsec⟩, hsym⟩, hsig⟩ := hs
 have a1' : o.secs.length ≤ 32 := by omega
 refine ⟨a1', by omega, fun s hsm => ?_, fun g hgm => ?_, fun s hsm => ?_, h.ok.2.2.2.2.2.2.2⟩
 · obtain ⟨i, hi, rfl⟩ := List.getElem_of_mem hsm
   have hok := h.ok.2.1 _ hsm
   have := List.all_eq_true.1 hsec i (List.mem_range.2 hi)
   unfold sectionB at this
   rw [show ((i : Int) + 1 - 1).toNat = i by omega] at this
   have e : o.secs.getD i default = o.secs[i] := by simp [hi]
   rw [e] at this
   have h3 : nameB o.secs[i].name = true ∧ kindB o.secs[i] = true ∧ relsB o o.secs[i] = true := by
    revert this
    cases nameB o.secs[i].name <;> cases kindB o.secs[i] <;> cases relsB o o.secs[i] <;> simp
   obtain ⟨h4, h5, h6⟩ := h3
   refine ⟨hok, ?_, ?_, ?_, ?_⟩
   · rw [← kind_eq hok] at h5
     simp only [Bool.and_eq_true, Bool.not_eq_true', Bool.or_eq_false_iff, Bool.not_eq_false'] at h5
     have ht := h5.2.1.2
     unfold typedP at ht
     by_cases q1 : o.secs[i].typ = 1
     · rw [decide_eq_true q1, cond_true] at ht
       simp only [Bool.and_eq_true, decide_eq_true_eq] at ht
       omega
     · rw [decide_eq_false q1, cond_false] at ht
       by_cases q8 : o.secs[i].typ = 8
       · rw [decide_eq_true q8, cond_true] at ht
         simp only [Bool.and_eq_true, decide_eq_true_eq] at ht
         omega
       · rw [decide_eq_false q8] at ht; cases ht
   · unfold relsB at h6
     simp only [Bool.and_eq_true, decide_eq_true_eq] at h6
     exact h6.1
   · unfold relsB at h6
     simp only [Bool.and_eq_true, decide_eq_true_eq] at h6
     exact relsG_all _ _ h6.2
   · unfold nameB at h4
     simp only [Bool.and_eq_true, decide_eq_true_eq] at h4
     exact h4.1
 · have hgo := grpB_iff.1 (List.all_eq_true.1 hg g hgm)
   refine ⟨hgo, ?_⟩
   have := inc_len g.mem 0 o.secs.length hgo.2.2.2.1 hgo.2.2.2.2 (by omega)
   omega
 · obtain ⟨i, hi, rfl⟩ := List.getElem_of_mem hsm
   have hok := h.ok.2.2.2.1 _ hsm
   have := List.all_eq_true.1 hsym i (List.mem_range.2 hi)
   unfold symbolB at this
   rw [show ((i : Int)).toNat = i by omega] at this
   have e : o.syms.getD i default = o.syms[i] := by simp [hi]
   rw [e] at this
   refine ⟨hok, ?_, ?_⟩
   · by_cases h0 : (i : Int) = 0
     · rw [decide_eq_true h0, cond_true] at this
       simp only [Bool.and_eq_true, decide_eq_true_eq] at this
       have h5 := this.1.1.1.1.1
       have : o.syms[i].name.size = 0 := by
        have h6 := congrArg List.length h5
        rw [ByteArray.toList_eq, ByteArray.toList_eq] at h6
        simpa using h6
       omega
     · rw [decide_eq_false h0, cond_false] at this
       have : nameB o.syms[i].name = true := by
        revert this
        cases nameB o.syms[i].name <;> simp
       unfold nameB at this
       simp only [Bool.and_eq_true, decide_eq_true_eq] at this
       exact this.1
   · by_cases h0 : (i : Int) = 0
     · rw [decide_eq_true h0, cond_true] at this
       simp only [Bool.and_eq_true, decide_eq_true_eq] at this
       omega
     · rw [decide_eq_false h0, cond_false] at this
       by_cases hc : o.syms[i].sec < -1
       · exfalso
         rw [decide_eq_true hc] at this
         revert this
         simp
       · omega
end Go.Proofs.Ytiomdnmicagdcaa.AL
namespace Go.Proofs.Ytiomdnmicagdcaa.AL
open Go Go.RowKit Go.Proofs.Ytiomdnmicagdcaa.Base
set_option linter.unusedVariables false
set_option linter.unusedSimpArgs false
set_option maxRecDepth 4000
set_option synthInstance.maxSize 1000
set_option synthInstance.maxHeartbeats 200000
theorem map_take_succ {α β : Type} [Inhabited α] (f : α → β) {l : List α} {i : Nat} (h : i < l.length) : (l.take (i + 1)).map f = (l.take i).map f ++ [f (l.getD i default)] := by
 rw [List.take_add_one, List.map_append]; simp [h]
theorem flatMap_take_succ {α β : Type} [Inhabited α] (f : α → List β) {l : List α} {i : Nat} (h : i < l.length) : (l.take (i + 1)).flatMap f = (l.take i).flatMap f ++ f (l.getD i default) := by
 rw [List.take_add_one, List.flatMap_append]; simp [h]
theorem entsF_succ (o : ObjD) (pl : List Int) (i : Nat) : entsF o pl (i + 1) = entsF o pl i ++ entB1 o pl i := by
 unfold entsF; rw [List.range_succ, List.flatMap_append]; simp
theorem putE_len (e : EntD) : (putE e).length ≤ 24 := by
 unfold putE; split
 · rw [entB_len]; omega
 · simp
theorem entsF_len (o : ObjD) (pl : List Int) : ∀ i, (entsF o pl i).length ≤ 24 * i := by
 intro i
 induction i with
 | zero => simp [entsF]
 | succ i ih => rw [entsF_succ, List.length_append]; have := putE_len (entY (o.syms.getD i default) (pl.getD i 0)); unfold entB1; omega
theorem localF_succ {l : List SymD} {i : Nat} (h : i < l.length) : localF (l.take (i + 1)) = localF (l.take i) + (if (l.getD i default).bind = 0 then 1 else 0) := by
 unfold localF
 rw [List.take_add_one, List.countP_append]
 simp only [List.getElem?_eq_getElem h, Option.toList_some, List.getD_eq_getElem?_getD, Option.getD_some, List.countP_cons, List.countP_nil]
 by_cases hc : l[i].bind = 0 <;> simp [hc]
theorem localF_le (l : List SymD) : 0 ≤ localF l ∧ localF l ≤ l.length := by
 unfold localF
 have := List.countP_le_length (p := fun s : SymD => decide (s.bind = 0)) (l := l)
 omega
theorem names_small {o : ObjD} (h : LayH o) : ∀ s ∈ namesOf o, s.size ≤ 1000000 := by
 intro s hs
 obtain ⟨y, hy, rfl⟩ := List.mem_map.1 hs
 have := (h.small.sym y hy).2.1; omega
theorem pl_range {l : List ByteArray} {k : Nat} (hk : k < l.length) : 0 ≤ (tabOf l).2.1.getD k 0 ∧ (tabOf l).2.1.getD k 0 < (tabOf l).1.length := by
 obtain ⟨h1, r, h2⟩ := (tab_inv l).at_ k hk
 refine ⟨h1, ?_⟩
 have := congrArg List.length h2
 rw [List.length_drop, List.length_append, List.length_cons] at this
 omega
theorem sym_in {o : ObjD} {i : Nat} (hi : i < o.syms.length) : o.syms.getD i default ∈ o.syms := by
 rw [List.getD_eq_getElem?_getD, List.getElem?_eq_getElem hi]; exact List.getElem_mem hi
set_option maxHeartbeats 2000000 in
theorem obj_entries (o : ObjD) (h : LayH o) : A0 Try.prog 56 [.agg (objA o)] (fun ret => ret = .tup [.rd 1 (bys (entsF o (tabOf (namesOf o)).2.1 o.syms.length)), .rd 1 (bys (tabOf (namesOf o)).1), .v (.int .i64 (localF o.syms))]) := by
 have hq := h.small
 have hso := h.ok
 have s1 := hq.secs
 have s2 := hq.syms
 have s3 := h.gs
 have s4 := h.sg
 have hns := names_small h
 have hnl : (namesOf o).length = o.syms.length := by unfold namesOf; simp
 have hfull : (o.syms.take o.syms.length).map (·.name) = namesOf o := by rw [List.take_of_length_le (Nat.le_refl _)]; rfl
 have hpl := tabOf_pl (namesOf o)
 have hlf := localF_le o.syms
 have htl := tabOf_len hns
 refine A0.body 71 Try.func56 rfl rfl Try.ntmps56 fun base n0 => ?_
 refine AW.seq' ?_
 refine AW.region ?_
 refine AO.ww ?_
 iterate 3 refine AO.c ?_
 refine AO.nil ?_
 refine SQ.normal ?_
 refine AW.seq' ?_
 refine AW.region ?_
 refine AO.c ?_
 refine AO.nil ?_
 refine SQ.normal ?_
 refine AW.seq' ?_
 refine AW.seq' ?_
 refine AW.region ?_
 iterate 4 refine AO.c ?_
 refine AO.nil ?_
 refine SQ.normal ?_
 refine AW.block' ?_
 refine AW.ghost (Gh.adoptM 5 9 1) ?_
 refine AW.loopU2 [.f, .k, .f, .f, .f, .k, .F, .f, .f, .k, .k, .k, .F, .F, .F, .F, .F, .F, .f, .f, .f, .f] (fun (i ep : Nat) => [(5, .own (n0 + 1) ep 0 i), (18, .v (.int .i64 (i)))]) (fun i ep => Hn n0 (([some (.box 42 (objA o)), some (.row 9 1 ep (((o.syms.take i).map (·.name)).map sA))] ++ List.replicate i none) ++ [])) (fun m i ep => i ≤ o.syms.length ∧ m = o.syms.length - i) (o.syms.length) (0) (0) ⟨by omega, by omega⟩ (by first | rfl | (simp; done)) (by first | rfl | (simp; done)) ?_
 rintro m0 i ep ⟨hx1, hx2⟩
 refine AW.seq' ?_
 refine AW.region ?_
 refine AO.c ?_
 refine AO.nil ?_
 refine SQ.normal ?_
 refine AW.seq' ?_
 refine AW.iteB (GL.ev _) (fun h0 => ?_) (fun h0 => ?_)
 ·
  rw [decide_eq_true_eq] at h0
  have hi : i < o.syms.length := by omega
  refine AW.skip ?_
  refine SQ.normal ?_
  refine AW.seq' ?_
  refine AW.block' ?_
  refine AW.seq' ?_
  refine AW.region ?_
  refine AO.oo ?_
  refine AO.c ?_
  refine AO.ww ?_
  refine AO.sst ?_
  refine AO.nil ?_
  refine SQ.normal ?_
  refine AW.region ?_
  iterate 3 refine AO.c ?_
  refine AO.rr ?_
  refine AO.ww ?_
  refine AO.c ?_
  refine AO.nil ?_
  refine BQ.normal ?_
  refine SQ.normal ?_
  refine AW.region ?_
  refine AO.oo ?_
  refine AO.c ?_
  refine AO.nil ?_
  exact AW.backE [.f, .k, .f, .f, .f, .k, .F, .f, .f, .k, .k, .k, .F, .F, .F, .F, .F, .F, .f, .f, .f, .f] (i) (m0 - 1) (i + 1, ep + 1) (by omega) (by (try dsimp only); exact ⟨by omega, by omega⟩) (by first | rfl | (simp; done)) (by first | (rw [map_take_succ _ hi, List.map_append]; done) | (rw [map_take_succ _ hi, List.map_append]; rfl))
 ·
  rw [decide_eq_false_iff_not] at h0
  refine AW.exit ?_
  refine SQ.exit <| AW.out <| LU.exit <| BQ.exit ?_
  refine SQ.normal ?_
  refine AW.seq' ?_
  refine AW.ghost (Gh.freezeM 5 sA (namesOf o) (by rw [show i = o.syms.length by omega, hfull]) (by omega) (by omega)) ?_
  refine AW.region ?_
  refine AO.c ?_
  refine AO.call1 Try.func57 rfl rfl (strtab_Make _ (by omega) (by assumption)) ?_
  iterate 5 refine AO.c ?_
  refine AO.nil ?_
  refine SQ.normal ?_
  refine AW.seq' ?_
  refine AW.region ?_
  refine AO.c ?_
  refine AO.nil ?_
  refine SQ.normal ?_
  refine AW.seq' ?_
  refine AW.region ?_
  refine AO.c ?_
  refine AO.nil ?_
  refine SQ.normal ?_
  refine AW.seq' ?_
  refine AW.seq' ?_
  refine AW.region ?_
  iterate 4 refine AO.c ?_
  refine AO.nil ?_
  refine SQ.normal ?_
  refine AW.block' ?_
  refine AW.ghost (Gh.adoptB 10 5) ?_
  refine AW.loopU2 [.F, .k, .k, .k, .k, .F, .F, .f, .f, .f, .f, .f, .f, .k, .k, .k, .F, .F, .F, .F, .f, .f] (fun (k ep2 : Nat) => [(10, .own (n0 + zadd (zadd (0 + 1 + 1) i) 0) ep2 0 (entsF o (tabOf (namesOf o)).2.1 k).length), (11, .v (.int .i64 (localF (o.syms.take k)))), (36, .v (.int .i64 (k)))]) (fun k ep2 => Hn n0 (([some (.box 42 (objA o)), none] ++ List.replicate i none ++ [some (.row 5 1 ep2 (bys (entsF o (tabOf (namesOf o)).2.1 k)))]) ++ List.replicate k none ++ [])) (fun m k ep2 => k ≤ o.syms.length ∧ m = o.syms.length - k) (o.syms.length) (0) (0) ⟨by omega, by omega⟩ (by first | rfl | (simp; done)) (by simp [entsF]) ?_
  rintro m1 k ep2 ⟨hk1, hk2⟩
  refine AW.seq' ?_
  refine AW.region ?_
  refine AO.c ?_
  refine AO.nil ?_
  refine SQ.normal ?_
  refine AW.seq' ?_
  refine AW.iteB (GL.ev _) (fun h1 => ?_) (fun h1 => ?_)
  ·
   rw [decide_eq_true_eq] at h1
   have hk : k < o.syms.length := by omega
   have hsy := hq.sym _ (sym_in hk)
   have hpr := pl_range (l := namesOf o) (k := k) (by omega)
   have hlr := localF_le (o.syms.take k)
   rw [List.length_take] at hlr
   have hls := localF_succ hk
   have hel := entsF_len o (tabOf (namesOf o)).2.1 k
   have hpe := putE_len (entY (o.syms.getD k default) ((tabOf (namesOf o)).2.1.getD k 0))
   unfold putE at hpe
   generalize hse : o.syms.getD k default = s at hsy hls hpe
   have hok : (entY s ((tabOf (namesOf o)).2.1.getD k 0)).ok := ⟨by unfold I64 entY; dsimp only; omega, hsy.1.2.1, hsy.1.2.2.1, by unfold I64 entY idxY; dsimp only; have := hsy.1.2.2.2.1; unfold I64 at this; split <;> omega, hsy.1.2.2.2.2.1, hsy.1.2.2.2.2.2⟩
   refine AW.skip ?_
   refine SQ.normal ?_
   refine AW.seq' ?_
   refine AW.block' ?_
   refine AW.seq' ?_
   refine AW.region ?_
   refine AO.c ?_
   refine AO.oo ?_
   refine AO.c ?_
   refine AO.eq 40 (av' := .agg (symA s)) (by rw [hse]) ?_
   refine AO.ww ?_
   refine AO.c ?_
   refine AO.sst ?_
   refine AO.nil ?_
   refine SQ.normal ?_
   refine AW.seq' ?_
   refine AW.region ?_
   iterate 3 refine AO.c ?_
   refine AO.nil ?_
   refine SQ.normal ?_
   refine AW.seq' ?_
   refine AW.seq' ?_
   refine AW.region ?_
   iterate 2 refine AO.c ?_
   refine AO.nil ?_
   refine SQ.normal ?_
   refine AW.iteB (GL.ev _) (fun h2 => ?_) (fun h2 => ?_)
   ·
    rw [decide_eq_true_eq] at h2
    have hidx : idxY s = 65521 := if_pos h2
    refine AW.region ?_
    refine AO.c ?_
    refine AO.nil ?_
    refine SQ.normal ?_
    refine AW.seq' ?_
    refine AW.seq' ?_
    refine AW.region ?_
    refine AO.eq 14 (av' := .v (.int .i64 (idxY s))) (by rw [hidx]) ?_
    iterate 3 refine AO.c ?_
    refine AO.nil ?_
    refine SQ.normal ?_
    refine AW.iteB (GL.ev _) (fun h3 => ?_) (fun h3 => ?_)
    ·
     rw [decide_eq_true_eq] at h3
     have hlc : localF (o.syms.take (k + 1)) = localF (o.syms.take k) + 1 := by rw [hls, if_pos h3]
     refine AW.region ?_
     refine AO.c ?_
     refine AO.oo ?_
     refine AO.c ?_
     refine AO.nil ?_
     refine SQ.normal ?_
     refine AW.drawsZ [16] (.one 0 false (.one 1 false (.one 2 false (.one 3 false (.one 4 false (.one 5 false (.one 6 false (.one 7 false (.one 8 false (.one 9 false (.one 10 false (.one 11 false (.one 12 false (.one 13 false (.one 14 false (.one 15 true (.one 16 true (.one 17 false .nil)))))))))))))))))) (by kernel_rfl) rfl (by kernel_rfl) ?_
     iterate 3 refine AZ.c rfl ?_
     refine AZ.oo rfl ?_
     iterate 11 refine AZ.c rfl ?_
     refine AZ.call1 rfl Try.func71 rfl rfl (sym_Put (entY s ((tabOf (namesOf o)).2.1.getD k 0)) hok) ?_
     refine AZ.ww rfl rfl ?_
     refine AZ.c rfl ?_
     refine AZ.done ?_
     refine BQ.normal ?_
     refine SQ.normal ?_
     refine AW.region ?_
     refine AO.oo ?_
     refine AO.c ?_
     refine AO.nil ?_
     exact AW.backE [.F, .k, .k, .k, .k, .F, .F, .f, .f, .f, .f, .f, .f, .k, .k, .k, .F, .F, .F, .F, .f, .f] (k) (m1 - 1) (k + 1, ep2 + 1) (by omega) (by (try dsimp only); exact ⟨by omega, by omega⟩) (by first | ((try dsimp only); rw [entsF_succ, List.length_append, hlc]; unfold entB1; rw [hse]; done) | ((try dsimp only); rw [entsF_succ, List.length_append, hlc]; unfold entB1; rw [hse]; rfl)) (by first | (rw [entsF_succ]; unfold entB1; rw [hse]; done) | (rw [entsF_succ]; unfold entB1; rw [hse]; rfl))
    ·
     rw [decide_eq_false_iff_not] at h3
     have hlc : localF (o.syms.take (k + 1)) = localF (o.syms.take k) := by rw [hls, if_neg h3]; omega
     refine AW.skip ?_
     refine SQ.normal ?_
     refine AW.drawsZ [16] (.one 0 false (.one 1 false (.one 2 false (.one 3 false (.one 4 false (.one 5 false (.one 6 false (.one 7 false (.one 8 false (.one 9 false (.one 10 false (.one 11 false (.one 12 false (.one 13 false (.one 14 false (.one 15 true (.one 16 true (.one 17 false .nil)))))))))))))))))) (by kernel_rfl) rfl (by kernel_rfl) ?_
     iterate 3 refine AZ.c rfl ?_
     refine AZ.oo rfl ?_
     iterate 11 refine AZ.c rfl ?_
     refine AZ.call1 rfl Try.func71 rfl rfl (sym_Put (entY s ((tabOf (namesOf o)).2.1.getD k 0)) hok) ?_
     refine AZ.ww rfl rfl ?_
     refine AZ.c rfl ?_
     refine AZ.done ?_
     refine BQ.normal ?_
     refine SQ.normal ?_
     refine AW.region ?_
     refine AO.oo ?_
     refine AO.c ?_
     refine AO.nil ?_
     exact AW.backE [.F, .k, .k, .k, .k, .F, .F, .f, .f, .f, .f, .f, .f, .k, .k, .k, .F, .F, .F, .F, .f, .f] (k) (m1 - 1) (k + 1, ep2 + 1) (by omega) (by (try dsimp only); exact ⟨by omega, by omega⟩) (by first | ((try dsimp only); rw [entsF_succ, List.length_append, hlc]; unfold entB1; rw [hse]; done) | ((try dsimp only); rw [entsF_succ, List.length_append, hlc]; unfold entB1; rw [hse]; rfl)) (by first | (rw [entsF_succ]; unfold entB1; rw [hse]; done) | (rw [entsF_succ]; unfold entB1; rw [hse]; rfl))
   ·
    rw [decide_eq_false_iff_not] at h2
    have hidx : idxY s = s.sec := if_neg h2
    refine AW.skip ?_
    refine SQ.normal ?_
    refine AW.seq' ?_
    refine AW.seq' ?_
    refine AW.region ?_
    refine AO.eq 14 (av' := .v (.int .i64 (idxY s))) (by rw [hidx]) ?_
    iterate 3 refine AO.c ?_
    refine AO.nil ?_
    refine SQ.normal ?_
    refine AW.iteB (GL.ev _) (fun h3 => ?_) (fun h3 => ?_)
    ·
     rw [decide_eq_true_eq] at h3
     have hlc : localF (o.syms.take (k + 1)) = localF (o.syms.take k) + 1 := by rw [hls, if_pos h3]
     refine AW.region ?_
     refine AO.c ?_
     refine AO.oo ?_
     refine AO.c ?_
     refine AO.nil ?_
     refine SQ.normal ?_
     refine AW.drawsZ [16] (.one 0 false (.one 1 false (.one 2 false (.one 3 false (.one 4 false (.one 5 false (.one 6 false (.one 7 false (.one 8 false (.one 9 false (.one 10 false (.one 11 false (.one 12 false (.one 13 false (.one 14 false (.one 15 true (.one 16 true (.one 17 false .nil)))))))))))))))))) (by kernel_rfl) rfl (by kernel_rfl) ?_
     iterate 3 refine AZ.c rfl ?_
     refine AZ.oo rfl ?_
     iterate 11 refine AZ.c rfl ?_
     refine AZ.call1 rfl Try.func71 rfl rfl (sym_Put (entY s ((tabOf (namesOf o)).2.1.getD k 0)) hok) ?_
     refine AZ.ww rfl rfl ?_
     refine AZ.c rfl ?_
     refine AZ.done ?_
     refine BQ.normal ?_
     refine SQ.normal ?_
     refine AW.region ?_
     refine AO.oo ?_
     refine AO.c ?_
     refine AO.nil ?_
     exact AW.backE [.F, .k, .k, .k, .k, .F, .F, .f, .f, .f, .f, .f, .f, .k, .k, .k, .F, .F, .F, .F, .f, .f] (k) (m1 - 1) (k + 1, ep2 + 1) (by omega) (by (try dsimp only); exact ⟨by omega, by omega⟩) (by first | ((try dsimp only); rw [entsF_succ, List.length_append, hlc]; unfold entB1; rw [hse]; done) | ((try dsimp only); rw [entsF_succ, List.length_append, hlc]; unfold entB1; rw [hse]; rfl)) (by first | (rw [entsF_succ]; unfold entB1; rw [hse]; done) | (rw [entsF_succ]; unfold entB1; rw [hse]; rfl))
    ·
     rw [decide_eq_false_iff_not] at h3
     have hlc : localF (o.syms.take (k + 1)) = localF (o.syms.take k) := by rw [hls, if_neg h3]; omega
     refine AW.skip ?_
     refine SQ.normal ?_
     refine AW.drawsZ [16] (.one 0 false (.one 1 false (.one 2 false (.one 3 false (.one 4 false (.one 5 false (.one 6 false (.one 7 false (.one 8 false (.one 9 false (.one 10 false (.one 11 false (.one 12 false (.one 13 false (.one 14 false (.one 15 true (.one 16 true (.one 17 false .nil)))))))))))))))))) (by kernel_rfl) rfl (by kernel_rfl) ?_
     iterate 3 refine AZ.c rfl ?_
     refine AZ.oo rfl ?_
     iterate 11 refine AZ.c rfl ?_
     refine AZ.call1 rfl Try.func71 rfl rfl (sym_Put (entY s ((tabOf (namesOf o)).2.1.getD k 0)) hok) ?_
     refine AZ.ww rfl rfl ?_
     refine AZ.c rfl ?_
     refine AZ.done ?_
     refine BQ.normal ?_
     refine SQ.normal ?_
     refine AW.region ?_
     refine AO.oo ?_
     refine AO.c ?_
     refine AO.nil ?_
     exact AW.backE [.F, .k, .k, .k, .k, .F, .F, .f, .f, .f, .f, .f, .f, .k, .k, .k, .F, .F, .F, .F, .f, .f] (k) (m1 - 1) (k + 1, ep2 + 1) (by omega) (by (try dsimp only); exact ⟨by omega, by omega⟩) (by first | ((try dsimp only); rw [entsF_succ, List.length_append, hlc]; unfold entB1; rw [hse]; done) | ((try dsimp only); rw [entsF_succ, List.length_append, hlc]; unfold entB1; rw [hse]; rfl)) (by first | (rw [entsF_succ]; unfold entB1; rw [hse]; done) | (rw [entsF_succ]; unfold entB1; rw [hse]; rfl))
  ·
   rw [decide_eq_false_iff_not] at h1
   refine AW.exit ?_
   refine SQ.exit <| AW.out <| LU.exit <| BQ.exit ?_
   refine SQ.normal ?_
   refine AW.seq' ?_
   refine AW.ghost (Gh.freezeE 10 (li' := entsF o (tabOf (namesOf o)).2.1 o.syms.length) (by rw [show k = o.syms.length by omega]) (by rw [show k = o.syms.length by omega]) (by have := entsF_len o (tabOf (namesOf o)).2.1 o.syms.length; omega)) ?_
   refine AW.region ?_
   iterate 6 refine AO.c ?_
   refine AO.nil ?_
   refine SQ.normal ?_
   refine AW.ret ?_
   refine Fin.ret (Gh.refl) noid3 ?_
   rw [show k = o.syms.length by omega, List.take_of_length_le (Nat.le_refl _)]; rfl
end Go.Proofs.Ytiomdnmicagdcaa.AL
namespace Go.Proofs.Ytiomdnmicagdcaa.AL
open Go Go.RowKit Go.Proofs.Ytiomdnmicagdcaa.Base
set_option linter.unusedVariables false
set_option linter.unusedSimpArgs false
set_option maxRecDepth 4000
set_option synthInstance.maxSize 1000
set_option synthInstance.maxHeartbeats 200000
def putRs (s : SecD) (k : Nat) : List Int := (s.rels.take k).flatMap putR
theorem putR_len (r : RelD) : (putR r).length ≤ 24 := by
 unfold putR; split
 · rw [relB_len]; omega
 · simp
theorem flatMap_len {α : Type} {f : α → List Int} {c : Nat} (hf : ∀ x, (f x).length ≤ c) : ∀ l : List α, (l.flatMap f).length ≤ c * l.length := by
 intro l
 induction l with
 | nil => simp
 | cons a l ih =>
  rw [List.flatMap_cons, List.length_append, List.length_cons, Nat.mul_add, Nat.mul_one]
  have := hf a; omega
theorem putRs_len (s : SecD) (k : Nat) : (putRs s k).length ≤ 24 * k := by
 unfold putRs
 have := flatMap_len putR_len (s.rels.take k)
 have h2 : (s.rels.take k).length ≤ k := by rw [List.length_take]; omega
 omega
theorem putRs_pos {s : SecD} (h : ∀ r ∈ s.rels, mayRelB r = true) : (putRs s s.rels.length).length = 24 * s.rels.length := by
 unfold putRs
 rw [List.take_of_length_le (Nat.le_refl _)]
 revert h
 generalize s.rels = l
 intro h
 induction l with
 | nil => rfl
 | cons a l ih =>
  rw [List.flatMap_cons, List.length_append, List.length_cons, ih fun r hr => h r (List.mem_cons_of_mem _ hr)]
  have : (putR a).length = 24 := by unfold putR; rw [if_pos (h a List.mem_cons_self), relB_len]
  omega
theorem relPs_snoc (at_ : Int) : ∀ (l : List SecD) (n : Int) (s : SecD), relPs at_ n (l ++ [s]) = relPs at_ n l ++ relPart at_ (n + l.length) s := by
 intro l
 induction l with
 | nil => intro n s; simp [relPs]
 | cons a l ih =>
  intro n s
  rw [List.cons_append, relPs, ih, relPs, List.append_assoc, show n + 1 + (l.length : Int) = n + ((a :: l).length : Int) by rw [List.length_cons]; omega]
theorem Hn_rep {n a b : Nat} {L : List (Option AB)} (h : a = b) : Hn n ((L ++ List.replicate a none) ++ []) = Hn n ((L ++ List.replicate b none) ++ []) := by rw [h]
theorem relPs_succ {at_ : Int} {l : List SecD} {i : Nat} (h : i < l.length) : relPs at_ 1 (l.take (i + 1)) = relPs at_ 1 (l.take i) ++ relPart at_ (i + 1) (l.getD i default) := by
 have e : l.take (i + 1) = l.take i ++ [l.getD i default] := by rw [List.take_add_one]; simp [h]
 rw [e, relPs_snoc, List.length_take, Nat.min_eq_left (by omega)]
 congr 2; omega
theorem relPs_len (at_ : Int) : ∀ (l : List SecD) (n : Int), (relPs at_ n l).length ≤ l.length := by
 intro l
 induction l with
 | nil => intro n; simp [relPs]
 | cons a l ih =>
  intro n
  rw [relPs, List.length_append, List.length_cons]
  have := ih (n + 1)
  have : (relPart at_ n a).length ≤ 1 := by unfold relPart; split <;> simp
  omega
theorem putN_len (x : Int) : (putN x).length = 4 := by unfold putN; rw [if_pos (by decide), dig_length]; rfl
def gB (g : GrpD) (k : Nat) : List Int := [1, 0, 0, 0] ++ (g.mem.take k).flatMap putN
theorem gB_succ {g : GrpD} {k : Nat} (h : k < g.mem.length) : gB g (k + 1) = gB g k ++ putN (g.mem.getD k default) := by
 unfold gB; rw [flatMap_take_succ _ h, List.append_assoc]
theorem gB_all (g : GrpD) : gB g g.mem.length = [1, 0, 0, 0] ++ g.mem.flatMap putN := by unfold gB; rw [List.take_of_length_le (Nat.le_refl _)]
theorem grps_len {g : GrpD} (k : Nat) : (gB g k).length ≤ 4 + 4 * k := by
 unfold gB
 have := flatMap_len (f := putN) (c := 4) (fun x => by rw [putN_len]; omega) (g.mem.take k)
 have h2 : (g.mem.take k).length ≤ k := by rw [List.length_take]; omega
 rw [List.length_append]
 simp only [List.length_cons, List.length_nil]
 omega
theorem sec_in {o : ObjD} {i : Nat} (hi : i < o.secs.length) : o.secs.getD i default ∈ o.secs := by
 rw [List.getD_eq_getElem?_getD, List.getElem?_eq_getElem hi]; exact List.getElem_mem hi
theorem grp_in {o : ObjD} {i : Nat} (hi : i < o.groups.length) : o.groups.getD i default ∈ o.groups := by
 rw [List.getD_eq_getElem?_getD, List.getElem?_eq_getElem hi]; exact List.getElem_mem hi
instance nirPart {l : List PartD} : NIr (l.map partA) := ⟨fun row hr av ha => by
 obtain ⟨x, _, rfl⟩ := List.mem_map.1 hr
 simp only [List.mem_cons, List.not_mem_nil, or_false] at ha
 rcases ha with rfl | rfl | rfl | rfl | rfl | rfl | rfl | rfl | rfl | rfl | rfl | rfl <;> first | exact .v _ | exact NoId.rd NIr.h⟩
def midA (o : ObjD) (at_ : Int) (k : Nat) : List PartD := relPs at_ 1 o.secs ++ (o.groups.take k).map (grpPart at_)
theorem midA_succ {o : ObjD} {at_ : Int} {k : Nat} (h : k < o.groups.length) : midA o at_ (k + 1) = midA o at_ k ++ [grpPart at_ (o.groups.getD k default)] := by
 unfold midA; rw [map_take_succ _ h, List.append_assoc]
theorem midA_len (o : ObjD) (at_ : Int) (k : Nat) : (midA o at_ k).length ≤ o.secs.length + k := by
 unfold midA
 have := relPs_len at_ o.secs 1
 rw [List.length_append, List.length_map, List.length_take]; omega
theorem midA_all (o : ObjD) (at_ : Int) : midF o at_ = midA o at_ o.groups.length ++ sigPart at_ o := by
 unfold midA midF; rw [List.take_of_length_le (Nat.le_refl _)]
def sB (o : ObjD) (k : Nat) : List Int := (o.sig.take k).flatMap encB
theorem sB_succ {o : ObjD} {k : Nat} (h : k < o.sig.length) : sB o (k + 1) = sB o k ++ encB (o.sig.getD k default) := by
 unfold sB; rw [flatMap_take_succ _ h]
theorem sB_all (o : ObjD) : sB o o.sig.length = o.sig.flatMap encB := by unfold sB; rw [List.take_of_length_le (Nat.le_refl _)]
theorem sB_len (o : ObjD) (k : Nat) : (sB o k).length ≤ 5 * k := by
 unfold sB
 have := flatMap_len (f := encB) (c := 5) encB_len (o.sig.take k)
 have h2 : (o.sig.take k).length ≤ k := by rw [List.length_take]; omega
 omega
theorem midF_len (o : ObjD) (at_ : Int) : (midF o at_).length ≤ o.secs.length + o.groups.length + 1 := by
 rw [midA_all, List.length_append]
 have := midA_len o at_ o.groups.length
 have : (sigPart at_ o).length ≤ 1 := by unfold sigPart; split <;> simp
 omega
set_option maxHeartbeats 4000000 in
theorem obj_middleR (o : ObjD) (at_ : Int) (h : LayH o) : A1 Try.prog 55 [.agg (objA o), .v (.int .i64 (at_))] 117 12 ((midF o at_).map partA) := by
 have hq := h.small
 have hso := h.ok
 have s1 := hq.secs
 have s2 := hq.syms
 have s3 := h.gs
 have s4 := h.sg
 refine A1.body 105 (NIr.h) Try.func55 rfl rfl Try.ntmps55 fun base n0 => ?_
 refine AW.seq' ?_
 refine AW.region ?_
 refine AO.ww ?_
 refine AO.c ?_
 refine AO.nil ?_
 refine SQ.normal ?_
 refine AW.seq' ?_
 refine AW.region ?_
 refine AO.c ?_
 refine AO.nil ?_
 refine SQ.normal ?_
 refine AW.seq' ?_
 refine AW.seq' ?_
 refine AW.region ?_
 iterate 4 refine AO.c ?_
 refine AO.nil ?_
 refine SQ.normal ?_
 refine AW.block' ?_
 refine AW.ghost (Gh.adoptM 5 117 12) ?_
 refine AW.loopU3 [.f, .k, .k, .f, .f, .k, .F, .f, .f, .f, .f, .f, .f, .k, .k, .k, .F, .F, .F, .F, .F, .F, .F, .F, .F, .F, .f, .f] (fun (i j ep : Nat) => [(5, .own (n0 + 1) ep 0 (relPs at_ 1 (o.secs.take i)).length), (22, .v (.int .i64 (i)))]) (fun i j ep => Hn n0 (([some (.box 42 (objA o)), some (.row 117 12 (ep) ((relPs at_ 1 (o.secs.take i)).map partA))] ++ List.replicate j none) ++ [])) (fun m i j ep => i ≤ o.secs.length ∧ m = o.secs.length - i) (o.secs.length) (0) (0) (0) ⟨by omega, by omega⟩ (by first | rfl | (simp; done)) (by first | rfl | (simp; done)) ?_
 rintro m0 i j ep ⟨hx1, hx2⟩
 refine AW.seq' ?_
 refine AW.region ?_
 refine AO.c ?_
 refine AO.nil ?_
 refine SQ.normal ?_
 refine AW.seq' ?_
 refine AW.iteB (GL.ev _) (fun h0 => ?_) (fun h0 => ?_)
 ·
  rw [decide_eq_true_eq] at h0
  have hi : i < o.secs.length := by omega
  have hsec := hq.sec _ (sec_in hi)
  have hrsu := relPs_succ (at_ := at_) hi
  have hrl := relPs_len at_ (o.secs.take i) 1
  rw [List.length_take] at hrl
  generalize hse : o.secs.getD i default = s at hsec hrsu
  refine AW.skip ?_
  refine SQ.normal ?_
  refine AW.seq' ?_
  refine AW.block' ?_
  refine AW.seq' ?_
  refine AW.region ?_
  refine AO.c ?_
  refine AO.oo ?_
  refine AO.c ?_
  refine AO.eq 26 (av' := .agg (secA s)) (by rw [hse]) ?_
  refine AO.ww ?_
  refine AO.c ?_
  refine AO.sst ?_
  refine AO.nil ?_
  refine SQ.normal ?_
  refine AW.seq' ?_
  refine AW.region ?_
  refine AO.c ?_
  refine AO.nil ?_
  refine SQ.normal ?_
  refine AW.seq' ?_
  refine AW.seq' ?_
  refine AW.region ?_
  iterate 4 refine AO.c ?_
  refine AO.nil ?_
  refine SQ.normal ?_
  refine AW.block' ?_
  refine AW.ghost (Gh.adoptB 8 5) ?_
  refine AW.loopU2 [.f, .k, .k, .f, .f, .k, .k, .f, .k, .F, .f, .f, .f, .k, .k, .k, .f, .f, .f, .f, .f, .k, .k, .k, .F, .F, .F, .F, .F, .F, .F, .F, .F, .f, .f] (fun (k ep2 : Nat) => [(8, .own (n0 + zadd (zadd (0 + 1 + 1) j) (0 + 1)) ep2 0 (putRs s k).length), (30, .v (.int .i64 (k)))]) (fun k ep2 => Hn n0 (([some (.box 42 (objA o)), some (.row 117 12 (ep) ((relPs at_ 1 (o.secs.take i)).map partA))] ++ List.replicate j none ++ [some (.box 45 (secA s)), some (.row 5 1 ep2 (bys (putRs s k)))]) ++ List.replicate k none ++ [])) (fun m k ep2 => k ≤ s.rels.length ∧ m = s.rels.length - k) (s.rels.length) (0) (0) ⟨by omega, by omega⟩ (by first | rfl | (simp; done)) (by simp [putRs]) ?_
  rintro m1 k ep2 ⟨hk1, hk2⟩
  refine AW.seq' ?_
  refine AW.region ?_
  refine AO.c ?_
  refine AO.nil ?_
  refine SQ.normal ?_
  refine AW.seq' ?_
  refine AW.iteB (GL.ev _) (fun h1 => ?_) (fun h1 => ?_)
  ·
   rw [decide_eq_true_eq] at h1
   have hk : k < s.rels.length := by omega
   have hrok := relOk_at hsec.1.2.2.2.2.2.2.2.2.2.2 hk
   have hpl := putRs_len s k
   have hps : putRs s (k + 1) = putRs s k ++ putR (s.rels.getD k default) := by unfold putRs; rw [flatMap_take_succ _ hk]
   have hrl1 := putR_len (s.rels.getD k default)
   unfold putR at hrl1
   generalize hre : s.rels.getD k default = r at hrok hps hrl1
   refine AW.skip ?_
   refine SQ.normal ?_
   refine AW.seq' ?_
   refine AW.block' ?_
   refine AW.seq' ?_
   refine AW.region ?_
   refine AO.oo ?_
   refine AO.c ?_
   refine AO.eq 33 (av' := .agg (relA r)) (by rw [hre]) ?_
   refine AO.ww ?_
   refine AO.sst ?_
   refine AO.nil ?_
   refine SQ.normal ?_
   refine AW.region ?_
   iterate 2 refine AO.c ?_
   refine AO.call1 Try.func68 rfl rfl (rela_Put r hrok) ?_
   refine AO.ww ?_
   refine AO.c ?_
   refine AO.nil ?_
   refine BQ.normal ?_
   refine SQ.normal ?_
   refine AW.region ?_
   refine AO.oo ?_
   refine AO.c ?_
   refine AO.nil ?_
   exact AW.backE [.f, .k, .k, .f, .f, .k, .k, .f, .k, .F, .f, .f, .f, .k, .k, .k, .f, .f, .f, .f, .f, .k, .k, .k, .F, .F, .F, .F, .F, .F, .F, .F, .F, .f, .f] (k) (m1 - 1) (k + 1, ep2 + 1) (by omega) (by (try dsimp only); exact ⟨by omega, by omega⟩) (by first | ((try dsimp only); rw [hps, List.length_append]; done) | ((try dsimp only); rw [hps, List.length_append]; rfl)) (by first | (rw [hps]; done) | (rw [hps]; rfl))
  ·
   rw [decide_eq_false_iff_not] at h1
   have hkl : k = s.rels.length := by omega
   have hpp := putRs_pos hsec.2.2.2.1
   refine AW.exit ?_
   refine SQ.exit <| AW.out <| LU.exit <| BQ.exit ?_
   refine SQ.normal ?_
   refine AW.seq' ?_
   refine AW.region ?_
   iterate 3 refine AO.c ?_
   refine AO.nil ?_
   refine SQ.normal ?_
   refine AW.iteB (GL.ev _) (fun h2 => ?_) (fun h2 => ?_)
   ·
    rw [decide_eq_true_eq, hkl, hpp] at h2
    have hrs : relPs at_ 1 (o.secs.take (i + 1)) = relPs at_ 1 (o.secs.take i) ++ [⟨⟨0, 4, 0, 0, 0, 0, at_, i + 1, 8, 24⟩, nRela, s.rels.flatMap putR⟩] := by rw [hrsu]; unfold relPart; rw [if_neg (by omega)]
    have hfl : (s.rels.flatMap putR).length ≤ 2000 := by have := flatMap_len putR_len s.rels; omega
    refine AW.region ?_
    iterate 3 refine AO.c ?_
    refine AO.oo ?_
    refine AO.c ?_
    refine AO.ghost (Gh.freezeE 8 (li' := s.rels.flatMap putR) (by rw [hkl]; unfold putRs; rw [List.take_of_length_le (Nat.le_refl _)]) (by rw [hkl]; unfold putRs; rw [List.take_of_length_le (Nat.le_refl _)]) (by omega)) ?_
    iterate 2 refine AO.c ?_
    refine AO.rr ?_
    refine AO.ww ?_
    refine AO.c ?_
    refine AO.nil ?_
    refine BQ.normal ?_
    refine SQ.normal ?_
    refine AW.region ?_
    refine AO.oo ?_
    refine AO.c ?_
    refine AO.nil ?_
    exact AW.backE [.f, .k, .k, .f, .f, .k, .F, .f, .f, .f, .f, .f, .f, .k, .k, .k, .F, .F, .F, .F, .F, .F, .F, .F, .F, .F, .f, .f] (j) (m0 - 1) (i + 1, j + (k + 2), ep + 1) (by omega) (by (try dsimp only); exact ⟨by omega, by omega⟩) (by first | ((try dsimp only); rw [hrs, List.length_append]; done) | ((try dsimp only); rw [hrs, List.length_append]; rfl)) ((Hn_rep (b := j + (k + 2)) (by first | (simp; done) | (simp; omega))).trans (by (try dsimp only); rw [hrs, List.map_append]; rfl))
   ·
    rw [decide_eq_false_iff_not, hkl, hpp] at h2
    have hrs : relPs at_ 1 (o.secs.take (i + 1)) = relPs at_ 1 (o.secs.take i) := by rw [hrsu]; unfold relPart; rw [if_pos (by omega), List.append_nil]
    refine AW.skip ?_
    refine BQ.normal ?_
    refine SQ.normal ?_
    refine AW.region ?_
    refine AO.oo ?_
    refine AO.c ?_
    refine AO.nil ?_
    exact AW.backE [.f, .k, .k, .f, .f, .k, .F, .f, .f, .f, .f, .f, .f, .k, .k, .k, .F, .F, .F, .F, .F, .F, .F, .F, .F, .F, .f, .f] (j) (m0 - 1) (i + 1, j + (k + 2), ep) (by omega) (by (try dsimp only); exact ⟨by omega, by omega⟩) (by first | ((try dsimp only); rw [hrs]; done) | ((try dsimp only); rw [hrs]; rfl)) ((Hn_rep (b := j + (k + 2)) (by first | (simp; done) | (simp; omega))).trans (by (try dsimp only); rw [hrs]))
 ·
  rw [decide_eq_false_iff_not] at h0
  have hm0 : midA o at_ 0 = relPs at_ 1 (o.secs.take i) := by unfold midA; rw [List.take_of_length_le (show o.secs.length ≤ i by omega)]; simp
  refine AW.exit ?_
  refine SQ.exit <| AW.out <| LU.exit <| BQ.exit ?_
  refine SQ.normal ?_
  refine AW.seq' ?_
  refine AW.seq' ?_
  refine AW.region ?_
  iterate 4 refine AO.c ?_
  refine AO.nil ?_
  refine SQ.normal ?_
  refine AW.block' ?_
  refine AW.loopU3 [.f, .k, .k, .f, .f, .k, .F, .F, .F, .F, .F, .f, .f, .f, .f, .f, .f, .f, .k, .k, .k, .F, .F, .F, .F, .F, .F, .f] (fun (gi gj gep : Nat) => [(5, .own (n0 + 1) gep 0 (midA o at_ gi).length), (55, .v (.int .i64 (gi)))]) (fun gi gj gep => Hn n0 (([some (.box 42 (objA o)), some (.row 117 12 (gep) ((midA o at_ gi).map partA))] ++ List.replicate gj none) ++ [])) (fun m gi gj gep => gi ≤ o.groups.length ∧ m = o.groups.length - gi) (o.groups.length) (0) (j) (ep) ⟨by omega, by omega⟩ (by (try dsimp only); rw [hm0]; rfl) (by rw [hm0]) ?_
  rintro m2 gi gj gep ⟨hg1, hg2⟩
  refine AW.seq' ?_
  refine AW.region ?_
  refine AO.c ?_
  refine AO.nil ?_
  refine SQ.normal ?_
  refine AW.seq' ?_
  refine AW.iteB (GL.ev _) (fun h3 => ?_) (fun h3 => ?_)
  ·
   rw [decide_eq_true_eq] at h3
   have hgi : gi < o.groups.length := by omega
   have hgr := hq.grp _ (grp_in hgi)
   have hms := midA_succ (at_ := at_) hgi
   have hml := midA_len o at_ gi
   generalize hge : o.groups.getD gi default = g at hgr hms
   refine AW.skip ?_
   refine SQ.normal ?_
   refine AW.seq' ?_
   refine AW.block' ?_
   refine AW.seq' ?_
   refine AW.region ?_
   refine AO.oo ?_
   refine AO.c ?_
   refine AO.eq 58 (av' := .agg (grpA g)) (by rw [hge]) ?_
   refine AO.ww ?_
   refine AO.sst ?_
   refine AO.nil ?_
   refine SQ.normal ?_
   refine AW.seq' ?_
   refine AW.region ?_
   refine AO.callR Try.func59 rfl rfl (le_PutR 1 4 (by omega) (by omega)) (by rw [bys_length]) ?_
   refine AO.c ?_
   refine AO.nil ?_
   refine SQ.normal ?_
   refine AW.seq' ?_
   refine AW.seq' ?_
   refine AW.region ?_
   iterate 4 refine AO.c ?_
   refine AO.nil ?_
   refine SQ.normal ?_
   refine AW.block' ?_
   refine AW.loopU2 [.f, .k, .k, .f, .f, .k, .f, .f, .f, .f, .f, .f, .k, .k, .F, .F, .F, .F, .f, .f, .f, .f, .f, .f, .f, .k, .k, .k, .f, .f, .f, .f, .f, .k, .k, .k, .F, .F, .F, .F, .F, .f] (fun (k ep2 : Nat) => [(13, .own (n0 + zadd (zadd (0 + 1 + 1) gj) (0 + 1)) ep2 0 (gB g k).length), (63, .v (.int .i64 (k)))]) (fun k ep2 => Hn n0 ([some (.box 42 (objA o)), some (.row 117 12 (gep) ((midA o at_ gi).map partA))] ++ List.replicate gj none ++ [some (.box 74 (grpA g)), some (.row 5 1 ep2 (bys (gB g k)))])) (fun m k ep2 => k ≤ g.mem.length ∧ m = g.mem.length - k) (g.mem.length) (0) (0) ⟨by omega, by omega⟩ (by first | rfl | (simp; done)) (by first | rfl | (simp; done)) ?_
   rintro m3 k ep2 ⟨hk1, hk2⟩
   refine AW.seq' ?_
   refine AW.region ?_
   refine AO.c ?_
   refine AO.nil ?_
   refine SQ.normal ?_
   refine AW.seq' ?_
   refine AW.iteB (GL.ev _) (fun h4 => ?_) (fun h4 => ?_)
   ·
    rw [decide_eq_true_eq] at h4
    have hk : k < g.mem.length := by omega
    have hgl := grps_len (g := g) k
    have hps := gB_succ hk
    have hn4 := putN_len (g.mem.getD k default)
    unfold putN at hn4
    refine AW.skip ?_
    refine SQ.normal ?_
    refine AW.seq' ?_
    refine AW.block' ?_
    refine AW.seq' ?_
    refine AW.region ?_
    refine AO.oo ?_
    iterate 2 refine AO.c ?_
    refine AO.nil ?_
    refine SQ.normal ?_
    refine AW.region ?_
    iterate 2 refine AO.c ?_
    refine AO.pw ?_
    refine AO.call1 Try.func59 rfl rfl (le_Put (IntKind.u64.wrap (g.mem.getD k default)) 4 (by rw [wu64_mod]; omega) (by omega)) ?_
    refine AO.ww ?_
    refine AO.c ?_
    refine AO.nil ?_
    refine BQ.normal ?_
    refine SQ.normal ?_
    refine AW.region ?_
    refine AO.oo ?_
    refine AO.c ?_
    refine AO.nil ?_
    exact AW.backU [.f, .k, .k, .f, .f, .k, .f, .f, .f, .f, .f, .f, .k, .k, .F, .F, .F, .F, .f, .f, .f, .f, .f, .f, .f, .k, .k, .k, .f, .f, .f, .f, .f, .k, .k, .k, .F, .F, .F, .F, .F, .f] (m3 - 1) (k + 1, ep2 + 1) (by omega) (by (try dsimp only); exact ⟨by omega, by omega⟩) (by first | ((try dsimp only); rw [hps, List.length_append]; done) | ((try dsimp only); rw [hps, List.length_append]; rfl)) (by first | (rw [hps]; done) | (rw [hps]; rfl))
   ·
    rw [decide_eq_false_iff_not] at h4
    have hkl : k = g.mem.length := by omega
    have hgl := grps_len (g := g) g.mem.length
    rw [gB_all] at hgl
    refine AW.exit ?_
    refine SQ.exit <| AW.out <| LU.exit <| BQ.exit ?_
    refine SQ.normal ?_
    refine AW.region ?_
    iterate 5 refine AO.c ?_
    refine AO.ghost (Gh.freezeE 13 (li' := [1, 0, 0, 0] ++ g.mem.flatMap putN) (by rw [hkl, gB_all]) (by rw [hkl, gB_all]) (by omega)) ?_
    iterate 2 refine AO.c ?_
    refine AO.rr ?_
    refine AO.ww ?_
    refine AO.c ?_
    refine AO.nil ?_
    refine BQ.normal ?_
    refine SQ.normal ?_
    refine AW.region ?_
    refine AO.oo ?_
    refine AO.c ?_
    refine AO.nil ?_
    exact AW.backE [.f, .k, .k, .f, .f, .k, .F, .F, .F, .F, .F, .f, .f, .f, .f, .f, .f, .f, .k, .k, .k, .F, .F, .F, .F, .F, .F, .f] (gj) (m2 - 1) (gi + 1, gj + 2, gep + 1) (by omega) (by (try dsimp only); exact ⟨by omega, by omega⟩) (by first | ((try dsimp only); rw [hms, List.length_append]; done) | ((try dsimp only); rw [hms, List.length_append]; rfl)) (by first | (rw [hms, List.map_append]; done) | (rw [hms, List.map_append]; rfl))
  ·
   rw [decide_eq_false_iff_not] at h3
   have hml := midA_len o at_ gi
   refine AW.exit ?_
   refine SQ.exit <| AW.out <| LU.exit <| BQ.exit ?_
   refine SQ.normal ?_
   refine AW.seq' ?_
   refine AW.seq' ?_
   refine AW.region ?_
   iterate 2 refine AO.c ?_
   refine AO.nil ?_
   refine SQ.normal ?_
   refine AW.iteB (GL.ev _) (fun h5 => ?_) (fun h5 => ?_)
   ·
    have hsp : sigPart at_ o = [⟨⟨0, 1879002115, 0, 0, 0, 0, at_, 0, 1, 0⟩, nSig, o.sig.flatMap encB⟩] := by unfold sigPart; rw [if_pos h5]
    refine AW.seq' ?_
    refine AW.region ?_
    refine AO.c ?_
    refine AO.nil ?_
    refine SQ.normal ?_
    refine AW.seq' ?_
    refine AW.seq' ?_
    refine AW.region ?_
    iterate 4 refine AO.c ?_
    refine AO.nil ?_
    refine SQ.normal ?_
    refine AW.block' ?_
    refine AW.ghost (Gh.adoptB 16 5) ?_
    refine AW.loopU2 [.f, .k, .f, .f, .f, .k, .F, .f, .f, .k, .F, .F, .F, .F, .F, .F, .F, .F, .f, .f, .f, .f, .f, .k, .k, .k, .F, .F] (fun (k ep2 : Nat) => [(16, .own (n0 + zadd (zadd (0 + 1 + 1) gj) 0) ep2 0 (sB o k).length), (88, .v (.int .i64 (k)))]) (fun k ep2 => Hn n0 ([some (.box 42 (objA o)), some (.row 117 12 (gep) ((midA o at_ gi).map partA))] ++ List.replicate gj none ++ [some (.row 5 1 ep2 (bys (sB o k)))])) (fun m k ep2 => k ≤ o.sig.length ∧ m = o.sig.length - k) (o.sig.length) (0) (0) ⟨by omega, by omega⟩ (by first | rfl | (simp; done)) (by simp [sB]) ?_
    rintro m4 k ep2 ⟨hk1, hk2⟩
    refine AW.seq' ?_
    refine AW.region ?_
    refine AO.c ?_
    refine AO.nil ?_
    refine SQ.normal ?_
    refine AW.seq' ?_
    refine AW.iteB (GL.ev _) (fun h6 => ?_) (fun h6 => ?_)
    ·
     rw [decide_eq_true_eq] at h6
     have hk : k < o.sig.length := by omega
     have hin : o.sig.getD k default ∈ o.sig := by rw [List.getD_eq_getElem?_getD, List.getElem?_eq_getElem hk]; exact List.getElem_mem hk
     have hsl := sB_len o k
     have he5 := encB_len (o.sig.getD k default)
     refine AW.skip ?_
     refine SQ.normal ?_
     refine AW.seq' ?_
     refine AW.block' ?_
     refine AW.seq' ?_
     refine AW.region ?_
     refine AO.oo ?_
     iterate 2 refine AO.c ?_
     refine AO.nil ?_
     refine SQ.normal ?_
     refine AW.region ?_
     iterate 2 refine AO.c ?_
     refine AO.call1 Try.func70 rfl rfl (uleb_Put (o.sig.getD k default) (hq.sig _ hin)) ?_
     refine AO.ww ?_
     refine AO.c ?_
     refine AO.nil ?_
     refine BQ.normal ?_
     refine SQ.normal ?_
     refine AW.region ?_
     refine AO.oo ?_
     refine AO.c ?_
     refine AO.nil ?_
     exact AW.backU [.f, .k, .f, .f, .f, .k, .F, .f, .f, .k, .F, .F, .F, .F, .F, .F, .F, .F, .f, .f, .f, .f, .f, .k, .k, .k, .F, .F] (m4 - 1) (k + 1, ep2 + 1) (by omega) (by (try dsimp only); exact ⟨by omega, by omega⟩) (by first | ((try dsimp only); rw [sB_succ hk, List.length_append]; done) | ((try dsimp only); rw [sB_succ hk, List.length_append]; rfl)) (by first | (rw [sB_succ hk]; done) | (rw [sB_succ hk]; rfl))
    ·
     rw [decide_eq_false_iff_not] at h6
     have hkl : k = o.sig.length := by omega
     have hsl := sB_len o o.sig.length
     rw [sB_all] at hsl
     refine AW.exit ?_
     refine SQ.exit <| AW.out <| LU.exit <| BQ.exit ?_
     refine SQ.normal ?_
     refine AW.region ?_
     iterate 3 refine AO.c ?_
     refine AO.ghost (Gh.freezeE 16 (li' := o.sig.flatMap encB) (by rw [hkl, sB_all]) (by rw [hkl, sB_all]) (by omega)) ?_
     iterate 2 refine AO.c ?_
     refine AO.rr ?_
     refine AO.ww ?_
     refine AO.c ?_
     refine AO.nil ?_
     refine SQ.normal ?_
     refine AW.seq' ?_
     refine AW.region ?_
     iterate 2 refine AO.c ?_
     refine AO.nil ?_
     refine SQ.normal ?_
     refine AW.ret ?_
     refine FinO.ret 4 (Gh.refl) rfl ?_ ?_ (.inr rfl)
     · first | (rw [midA_all, hsp, show gi = o.groups.length by omega, List.map_append]; done) | (rw [midA_all, hsp, show gi = o.groups.length by omega, List.map_append]; rfl)
     · first | (rw [List.length_map, midA_all, hsp, show gi = o.groups.length by omega, List.length_append]; done) | (rw [List.length_map, midA_all, hsp, show gi = o.groups.length by omega, List.length_append]; rfl)
   ·
    have hsp : sigPart at_ o = [] := by unfold sigPart; rw [if_neg (by rw [h5]; decide)]
    refine AW.skip ?_
    refine SQ.normal ?_
    refine AW.seq' ?_
    refine AW.region ?_
    iterate 2 refine AO.c ?_
    refine AO.nil ?_
    refine SQ.normal ?_
    refine AW.ret ?_
    refine FinO.ret 4 (Gh.refl) rfl ?_ ?_ (.inr rfl)
    · rw [midA_all, hsp, show gi = o.groups.length by omega, List.append_nil]
    · rw [List.length_map, midA_all, hsp, show gi = o.groups.length by omega, List.append_nil]
end Go.Proofs.Ytiomdnmicagdcaa.AL
namespace Go.Proofs.Ytiomdnmicagdcaa.AL
open Go Go.RowKit Go.Proofs.Ytiomdnmicagdcaa.Base
set_option linter.unusedVariables false
set_option linter.unusedSimpArgs false
set_option maxRecDepth 4000
set_option synthInstance.maxSize 1000
set_option synthInstance.maxHeartbeats 200000
def pA (o : ObjD) (i : Nat) : List PartD := zPart :: (o.secs.take i).map secPart
theorem pA_succ {o : ObjD} {i : Nat} (h : i < o.secs.length) : pA o (i + 1) = pA o i ++ [secPart (o.secs.getD i default)] := by
 unfold pA; rw [map_take_succ _ h, List.cons_append]
theorem pA_len {o : ObjD} {i : Nat} (h : i ≤ o.secs.length) : (pA o i).length = i + 1 := by
 unfold pA; rw [List.length_cons, List.length_map, List.length_take]; omega
theorem pA_all {o : ObjD} {i : Nat} (h : o.secs.length ≤ i) : pA o i = zPart :: o.secs.map secPart := by
 unfold pA; rw [List.take_of_length_le h]
theorem preF_len (o : ObjD) : (preF o).length = o.secs.length + (midF o (atF8 o)).length + 4 := by
 unfold preF
 simp only [List.length_append, List.length_cons, List.length_map, List.length_nil]
 omega
theorem preF_last (o : ObjD) : (preF o).getD ((preF o).length - 1) default = shsPt := by
 unfold preF
 rw [List.length_append, List.getD_eq_getElem?_getD, List.getElem?_append_right (by simp)]
 simp
theorem nmF_len (pl : List Int) (l : List PartD) : ∀ i, (nmF pl l i).length = l.length := by
 intro i
 induction i with
 | zero => rfl
 | succ i ih => rw [nmF, List.length_set, ih]
theorem tblF_len (o : ObjD) : (tblF o).length = (preF o).length := by unfold tblF; rw [List.length_set]
theorem finF_len (o : ObjD) : (finF o).length = (preF o).length := by unfold finF; rw [nmF_len, tblF_len]
theorem part_at {l : List PartD} {i : Nat} (h : i < l.length) : (l.map partA)[i]? = some (partA (l.getD i default)) := by
 rw [List.getElem?_map, List.getElem?_eq_getElem h, List.getD_eq_getElem?_getD, List.getElem?_eq_getElem h]; rfl
theorem part_getD {l : List PartD} {i : Nat} (h : i < l.length) : (l.map partA).getD i [] = partA (l.getD i default) := by
 rw [List.getD_eq_getElem?_getD, part_at h]; rfl
theorem atF8_eq (o : ObjD) : atF8 o = 1 + o.secs.length + (midF o 0).length := rfl
theorem mem_getD {α : Type} [Inhabited α] {l : List α} {i : Nat} (h : i < l.length) : l.getD i default ∈ l := by
 rw [List.getD_eq_getElem?_getD, List.getElem?_eq_getElem h]; exact List.getElem_mem h
theorem pre_names {o : ObjD} (h : LayH o) : ∀ s ∈ pNames o, s.size ≤ 1000000 := by
 intro s hs
 obtain ⟨p, hp, rfl⟩ := List.mem_map.1 hs
 unfold preF midF at hp
 have hq := h.small
 have hrel : ∀ (l : List SecD) (n at_ : Int) (p : PartD), p ∈ relPs at_ n l → p.name = nRela := by
  intro l
  induction l with
  | nil => intro n at_ p hp; cases hp
  | cons a l ih =>
   intro n at_ p hp
   rw [relPs] at hp
   rcases List.mem_append.1 hp with hp | hp
   · unfold relPart at hp
     split at hp
     · cases hp
     · obtain rfl := List.mem_singleton.1 hp; rfl
   · exact ih _ _ _ hp
 simp only [List.mem_append, List.mem_cons, List.mem_map, List.not_mem_nil, or_false] at hp
 rcases hp with (((((rfl | ⟨a, ha, rfl⟩) | ((hp | ⟨g, _, rfl⟩) | hp))) | rfl) | rfl) | rfl
 · decide
 · have := (hq.sec a ha).2.2.2.2
   show a.name.size ≤ _; omega
 · rw [hrel _ _ _ _ hp]; decide
 · show nGroup.size ≤ _; decide
 · unfold sigPart at hp
   split at hp
   · obtain rfl := List.mem_singleton.1 hp; show nSig.size ≤ _; decide
   · cases hp
 · show nSym.size ≤ _; decide
 · show nStr.size ≤ _; decide
 · show nShs.size ≤ _; decide
set_option maxHeartbeats 4000000 in
theorem obj_partsR (o : ObjD) (h : LayH o) : A1 Try.prog 40 [.agg (objA o)] 117 12 ((finF o).map partA) := by
 have hq := h.small
 have hso := h.ok
 have s1 := hq.secs
 have s2 := hq.syms
 have s3 := h.gs
 have s4 := h.sg
 have hml := midF_len o (atF8 o)
 have hml0 := midF_len o 0
 have hpl := preF_len o
 have hns := pre_names h
 have hnl : (pNames o).length = (preF o).length := by unfold pNames; rw [List.length_map]
 have hfull : ((preF o).take (preF o).length).map (·.name) = pNames o := by rw [List.take_of_length_le (Nat.le_refl _)]; rfl
 have htp := tabOf_pl (pNames o)
 have htl := tabOf_len hns
 have hel := entsF_len o (tabOf (namesOf o)).2.1 o.syms.length
 have hnt := tabOf_len (names_small h)
 have hnn : (namesOf o).length = o.syms.length := by unfold namesOf; simp
 refine A1.body 123 (NIr.h) Try.func40 rfl rfl Try.ntmps40 fun base n0 => ?_
 refine AW.seq' ?_
 refine AW.region ?_
 refine AO.ww ?_
 refine AO.c ?_
 refine AO.nil ?_
 refine SQ.normal ?_
 refine AW.seq' ?_
 refine AW.region ?_
 refine AO.c ?_
 refine AO.ghost (Gh.tell 15 (.agg [.v (.int .i64 0), .v (.int .i64 0), .v (.int .i64 0), .v (.int .i64 0), .v (.int .i64 0), .v (.int .i64 0), .v (.int .i64 0), .v (.int .i64 0), .v (.int .i64 0), .v (.int .i64 0), .v (.string { data := #[] }), .rd 1 (bys [])])) ?_
 refine AO.eq 15 (av' := .agg (partA zPart)) rfl ?_
 refine AO.ww ?_
 refine AO.c ?_
 refine AO.nil ?_
 refine SQ.normal ?_
 refine AW.seq' ?_
 refine AW.seq' ?_
 refine AW.region ?_
 iterate 4 refine AO.c ?_
 refine AO.nil ?_
 refine SQ.normal ?_
 refine AW.block' ?_
 refine AW.loopU2 [.f, .k, .f, .k, .F, .f, .f, .f, .f, .f, .f, .k, .k, .k, .F, .F, .F, .F, .F, .F, .F, .F, .F, .F, .F, .F, .f, .f, .f, .f, .f, .f] (fun (i ep : Nat) => [(3, .own (n0 + 1) ep 0 (pA o i).length), (20, .v (.int .i64 (i)))]) (fun i ep => Hn n0 (([some (.box 42 (objA o)), some (.row 117 12 (ep) ((pA o i).map partA))] ++ List.replicate i none) ++ [])) (fun m i ep => i ≤ o.secs.length ∧ m = o.secs.length - i) (o.secs.length) (0) (0) ⟨by omega, by omega⟩ (by first | rfl | (simp; done)) (by first | rfl | (simp; done)) ?_
 rintro m0 i ep ⟨hx1, hx2⟩
 refine AW.seq' ?_
 refine AW.region ?_
 refine AO.c ?_
 refine AO.nil ?_
 refine SQ.normal ?_
 refine AW.seq' ?_
 refine AW.iteB (GL.ev _) (fun h0 => ?_) (fun h0 => ?_)
 ·
  rw [decide_eq_true_eq] at h0
  have hi : i < o.secs.length := by omega
  have hsec := hq.sec _ (sec_in hi)
  have hps := pA_succ hi
  have hpal := pA_len (o := o) (i := i) (by omega)
  generalize hse : o.secs.getD i default = s at hsec hps
  refine AW.skip ?_
  refine SQ.normal ?_
  refine AW.seq' ?_
  refine AW.block' ?_
  refine AW.seq' ?_
  refine AW.region ?_
  refine AO.oo ?_
  refine AO.c ?_
  refine AO.eq 23 (av' := .agg (secA s)) (by rw [hse]) ?_
  refine AO.ww ?_
  refine AO.sst ?_
  refine AO.nil ?_
  refine SQ.normal ?_
  refine AW.region ?_
  iterate 19 refine AO.c ?_
  refine AO.eq 42 (av' := .agg (partA (secPart s))) rfl ?_
  refine AO.rr ?_
  refine AO.ww ?_
  refine AO.c ?_
  refine AO.nil ?_
  refine BQ.normal ?_
  refine SQ.normal ?_
  refine AW.region ?_
  refine AO.oo ?_
  refine AO.c ?_
  refine AO.nil ?_
  exact AW.backE [.f, .k, .f, .k, .F, .f, .f, .f, .f, .f, .f, .k, .k, .k, .F, .F, .F, .F, .F, .F, .F, .F, .F, .F, .F, .F, .f, .f, .f, .f, .f, .f] (i) (m0 - 1) (i + 1, ep + 1) (by omega) (by (try dsimp only); exact ⟨by omega, by omega⟩) (by first | ((try dsimp only); rw [hps, List.length_append]; done) | ((try dsimp only); rw [hps, List.length_append]; rfl)) (by first | (rw [hps, List.map_append]; done) | (rw [hps, List.map_append]; rfl))
 ·
  rw [decide_eq_false_iff_not] at h0
  have hpal := pA_len (o := o) (i := i) (by omega)
  refine AW.exit ?_
  refine SQ.exit <| AW.out <| LU.exit <| BQ.exit ?_
  refine SQ.normal ?_
  refine AW.seq' ?_
  refine AW.region ?_
  iterate 3 refine AO.c ?_
  refine AO.call1 Try.func55 rfl rfl ((obj_middleR o 0 h).a0 (by rw [List.length_map]; omega)) ?_
  refine AO.c ?_
  refine AO.oo ?_
  refine AO.eq 51 (av' := .v (.int .i64 (atF8 o))) (by rw [atF8_eq]; congr 2; omega) ?_
  refine AO.c ?_
  refine AO.nil ?_
  refine SQ.normal ?_
  refine AW.seq' ?_
  refine AW.region ?_
  iterate 3 refine AO.c ?_
  refine AO.call1 Try.func55 rfl rfl ((obj_middleR o (atF8 o) h).a0 (by rw [List.length_map]; omega)) ?_
  refine AO.ww ?_
  refine AO.c ?_
  refine AO.nil ?_
  refine SQ.normal ?_
  refine AW.seq' ?_
  refine AW.region ?_
  refine AO.c ?_
  refine AO.call1 Try.func56 rfl rfl (obj_entries _ (by assumption)) ?_
  iterate 7 refine AO.c ?_
  refine AO.nil ?_
  refine SQ.normal ?_
  refine AW.seq' ?_
  refine AW.region ?_
  iterate 2 refine AO.c ?_
  refine AO.o (by rw [atF8_eq]; omega) ?_
  iterate 4 refine AO.c ?_
  refine AO.eq 69 (av' := .agg (partA (symPt o (atF8 o)))) rfl ?_
  refine AO.rr ?_
  refine AO.ww ?_
  refine AO.c ?_
  refine AO.nil ?_
  refine SQ.normal ?_
  refine AW.seq' ?_
  refine AW.region ?_
  iterate 4 refine AO.c ?_
  refine AO.eq 75 (av' := .agg (partA (strPt o))) rfl ?_
  refine AO.rr ?_
  refine AO.ww ?_
  refine AO.c ?_
  refine AO.nil ?_
  refine SQ.normal ?_
  refine AW.seq' ?_
  refine AW.region ?_
  iterate 3 refine AO.c ?_
  refine AO.ghost (Gh.tell 80 (.agg [.v (.int .i64 0), .v (.int .i64 3), .v (.int .i64 0), .v (.int .i64 0), .v (.int .i64 0), .v (.int .i64 0), .v (.int .i64 0), .v (.int .i64 0), .v (.int .i64 1), .v (.int .i64 0), .v (.string { data := #[46, 115, 104, 115, 116, 114, 116, 97, 98] }), .rd 1 (bys [])])) ?_
  refine AO.eq 80 (av' := .agg (partA shsPt)) rfl ?_
  refine AO.rr ?_
  refine AO.ww ?_
  refine AO.c ?_
  refine AO.nil ?_
  refine SQ.normal ?_
  refine AW.seq' ?_
  refine AW.region ?_
  refine AO.c ?_
  refine AO.nil ?_
  refine SQ.normal ?_
  refine AW.seq' ?_
  refine AW.seq' ?_
  refine AW.eqH (H' := Hn n0 (([some (.box 42 (objA o)), some (.row 117 12 (ep + 1 + 1 + 1 + 1) ((preF o).map partA))] ++ List.replicate i none) ++ [])) (by rw [pA_all (by omega)]; unfold preF; simp only [List.map_append]; rfl) ?_
  refine AW.region ?_
  refine AO.eq 3 (av' := .own (n0 + 1) (ep + 1 + 1 + 1 + 1) 0 (preF o).length) (by congr 1; rw [hpl, pA_len (by omega), List.length_map]; simp only [List.length_cons, List.length_nil]; omega) ?_
  iterate 3 refine AO.c ?_
  refine AO.nil ?_
  refine SQ.normal ?_
  refine AW.block' ?_
  refine AW.ghost (Gh.adoptM 10 9 1) ?_
  refine AW.loopU2 [.f, .f, .f, .k, .f, .f, .f, .f, .f, .f, .k, .F, .F, .F, .F, .F, .F, .F, .F, .F, .k, .k, .k, .F, .F, .F, .F, .f, .f, .f, .f, .f] (fun (k ep2 : Nat) => [(10, .own (n0 + zadd (zadd (0 + 1 + 1) i) 0) ep2 0 k), (85, .v (.int .i64 (k)))]) (fun k ep2 => Hn n0 (([some (.box 42 (objA o)), some (.row 117 12 (ep + 1 + 1 + 1 + 1) ((preF o).map partA))] ++ List.replicate i none ++ [some (.row 9 1 ep2 ((((preF o).take k).map (·.name)).map sA))]) ++ List.replicate k none ++ [])) (fun m k ep2 => k ≤ (preF o).length ∧ m = (preF o).length - k) ((preF o).length) (0) (0) ⟨by omega, by omega⟩ (by first | rfl | (simp; done)) (by simp) ?_
  rintro m1 k ep2 ⟨hk1, hk2⟩
  refine AW.seq' ?_
  refine AW.region ?_
  refine AO.c ?_
  refine AO.nil ?_
  refine SQ.normal ?_
  refine AW.seq' ?_
  refine AW.iteB (GL.ev _) (fun h1 => ?_) (fun h1 => ?_)
  ·
   rw [decide_eq_true_eq] at h1
   have hk : k < (preF o).length := by omega
   generalize hpe : (preF o).getD k default = p
   refine AW.skip ?_
   refine SQ.normal ?_
   refine AW.seq' ?_
   refine AW.block' ?_
   refine AW.seq' ?_
   refine AW.region ?_
   refine AO.oo ?_
   refine AO.ldRN (partA p) (partA p) (by rw [show 0 + ((k : Int)).toNat = k by omega, part_at hk, hpe]) (by exact (by decide : 0 < 12)) (by exact (by decide : 0 + 12 ≤ 12)) rfl ?_
   refine AO.ww ?_
   refine AO.sst ?_
   refine AO.nil ?_
   refine SQ.normal ?_
   refine AW.region ?_
   iterate 3 refine AO.c ?_
   refine AO.rr ?_
   refine AO.ww ?_
   refine AO.c ?_
   refine AO.nil ?_
   refine BQ.normal ?_
   refine SQ.normal ?_
   refine AW.region ?_
   refine AO.oo ?_
   refine AO.c ?_
   refine AO.nil ?_
   exact AW.backE [.f, .f, .f, .k, .f, .f, .f, .f, .f, .f, .k, .F, .F, .F, .F, .F, .F, .F, .F, .F, .k, .k, .k, .F, .F, .F, .F, .f, .f, .f, .f, .f] (k) (m1 - 1) (k + 1, ep2 + 1) (by omega) (by (try dsimp only); exact ⟨by omega, by omega⟩) (by first | rfl | (simp; done)) (by first | (rw [map_take_succ _ hk, List.map_append, hpe]; done) | (rw [map_take_succ _ hk, List.map_append, hpe]; rfl))
  ·
   rw [decide_eq_false_iff_not] at h1
   refine AW.exit ?_
   refine SQ.exit <| AW.out <| LU.exit <| BQ.exit ?_
   refine SQ.normal ?_
   refine AW.seq' ?_
   refine AW.ghost (Gh.freezeM 10 sA (pNames o) (by rw [show k = (preF o).length by omega, hfull]) (by omega) (by omega)) ?_
   refine AW.region ?_
   refine AO.c ?_
   refine AO.call1 Try.func57 rfl rfl (strtab_Make _ (by omega) (by assumption)) ?_
   iterate 5 refine AO.c ?_
   refine AO.nil ?_
   refine SQ.normal ?_
   refine AW.seq' ?_
   refine AW.region ?_
   iterate 3 refine AO.c ?_
   refine AO.oo ?_
   refine AO.c ?_
   refine AO.oo ?_
   refine AO.c ?_
   refine AO.stR ((tblF o).map partA) (by simp; omega) ?_ ?_
   · rw [show 0 + (((preF o).length : Int) - 1).toNat = (preF o).length - 1 by omega, part_getD (by omega), preF_last]; unfold tblF; rw [List.map_set]; rfl
   refine AO.nil ?_
   refine SQ.normal ?_
   refine AW.seq' ?_
   refine AW.seq' ?_
   refine AW.region ?_
   iterate 3 refine AO.c ?_
   refine AO.nil ?_
   refine SQ.normal ?_
   refine AW.block' ?_
   refine AW.loopU [.f, .f, .f, .k, .F, .f, .k, .F, .F, .F, .F, .F, .F, .F, .F, .F, .F, .F, .f, .f, .f, .f, .f, .f, .k, .k, .F, .f, .f, .f, .f, .f] (fun (q : Nat) => [(109, .v (.int .i64 (q)))]) (fun q => Hn n0 ([some (.box 42 (objA o)), some (.row 117 12 (ep + 1 + 1 + 1 + 1) ((nmF (tabOf (pNames o)).2.1 (tblF o) q).map partA))] ++ List.replicate i none ++ [none] ++ List.replicate k none ++ [])) (fun m q => q ≤ (preF o).length ∧ m = (preF o).length - q) ((preF o).length) (0) ⟨by omega, by omega⟩ (by first | rfl | (simp; done)) (by first | rfl | (simp; done)) ?_
   rintro m2 q ⟨hq1, hq2⟩
   refine AW.seq' ?_
   refine AW.region ?_
   refine AO.c ?_
   refine AO.nil ?_
   refine SQ.normal ?_
   refine AW.seq' ?_
   refine AW.iteB (GL.ev _) (fun h2 => ?_) (fun h2 => ?_)
   ·
    rw [decide_eq_true_eq] at h2
    have hqq : q < (preF o).length := by omega
    refine AW.skip ?_
    refine SQ.normal ?_
    refine AW.seq' ?_
    refine AW.block' ?_
    refine AW.seq' ?_
    refine AW.region ?_
    iterate 2 refine AO.c ?_
    refine AO.nil ?_
    refine SQ.normal ?_
    refine AW.region ?_
    iterate 4 refine AO.c ?_
    refine AO.oo ?_
    refine AO.c ?_
    refine AO.oo ?_
    iterate 2 refine AO.c ?_
    refine AO.stR ((nmF (tabOf (pNames o)).2.1 (tblF o) (q + 1)).map partA) (by rw [List.length_map, nmF_len, tblF_len]; omega) ?_ ?_
    · rw [show 0 + ((q : Int)).toNat = q by omega, part_getD (by rw [nmF_len, tblF_len]; omega), nmF, List.map_set]; rfl
    refine AO.nil ?_
    refine BQ.normal ?_
    refine SQ.normal ?_
    refine AW.region ?_
    refine AO.oo ?_
    refine AO.c ?_
    refine AO.nil ?_
    exact AW.backU [.f, .f, .f, .k, .F, .f, .k, .F, .F, .F, .F, .F, .F, .F, .F, .F, .F, .F, .f, .f, .f, .f, .f, .f, .k, .k, .F, .f, .f, .f, .f, .f] (m2 - 1) (q + 1) (by omega) (by (try dsimp only); exact ⟨by omega, by omega⟩) (by first | rfl | (simp; done)) (by first | rfl | (simp; done))
   ·
    rw [decide_eq_false_iff_not] at h2
    refine AW.exit ?_
    refine SQ.exit <| AW.out <| LU.exit <| BQ.exit ?_
    refine SQ.normal ?_
    refine AW.seq' ?_
    refine AW.region ?_
    iterate 2 refine AO.c ?_
    refine AO.nil ?_
    refine SQ.normal ?_
    refine AW.ret ?_
    refine FinO.ret 2 (Gh.refl) rfl ?_ ?_ (.inr rfl)
    · rw [show q = (preF o).length by omega]; rfl
    · rw [List.length_map, finF_len]
end Go.Proofs.Ytiomdnmicagdcaa.AL
