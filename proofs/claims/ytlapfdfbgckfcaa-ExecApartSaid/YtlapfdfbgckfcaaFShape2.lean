/- What functions of the program compute, each by its own contract; the conditions stand with each. -/
import Derived.Test.YtlapfdfbgckfcaaFShape
import Derived.Test.YtlapfdfbgckfcaaFPiece
namespace Go.Proofs.Ytlapfdfbgckfcaa.AL
open Go Go.RowKit Go.Proofs.Ytlapfdfbgckfcaa.Base
set_option linter.unusedVariables false
set_option linter.unusedSimpArgs false
set_option maxRecDepth 4000
set_option synthInstance.maxSize 1000
set_option synthInstance.maxHeartbeats 200000

def kindB (s : SecD) : Bool :=
  bif !flagsB s.flags || !alignB s.align || (hasF s.flags 1 && hasF s.flags 4) then false
  else bif decide (s.typ = 1) && (decide (s.size ≠ s.data.length) || decide (s.size > 16384)) then false
  else bif decide (s.typ = 8) && (decide ((s.data.length : Int) > 0) || decide (s.size < 0) || decide (s.size > 2147483647) || !hasF s.flags 1 || hasF s.flags 16) then false
  else bif decide (s.typ ≠ 1) && decide (s.typ ≠ 8) then false
  else bif !hasF s.flags 16 then decide (s.ent = 0) && !hasF s.flags 32
  else bif hasF s.flags 1 || hasF s.flags 4 || decide ((s.rels.length : Int) > 0) then false
  else bif hasF s.flags 32 then decide (s.ent = 1) && decide (s.align = 1) && (decide ((s.data.length : Int) = 0) || decide (s.data.getD ((s.data.length : Int) - 1).toNat 0 = 0))
  else (decide (s.ent = 4) || decide (s.ent = 8) || decide (s.ent = 16)) && decide (s.align ≤ s.ent) && decide (s.size % s.ent = 0)
def memberF (gs : List GrpD) (n : Int) : Int := (gs.map fun g => (g.mem.count n : Int)).sum
def prevBad (r : RelD) : Option RelD → Bool
  | none => false
  | some p => decide (p.off + widthF p.typ > r.off)
def relsG (many len : Int) : Option RelD → List RelD → Bool
  | _, [] => true
  | prev, r :: rs => bif !mayRelB r || decide (r.sym ≥ many) || decide (r.off + widthF r.typ > len) then false else
      bif prevBad r prev then false else relsG many len (some r) rs
theorem relsG_cons (many len : Int) (prev : Option RelD) (r : RelD) (rs : List RelD) : relsG many len prev (r :: rs) = bif !mayRelB r || decide (r.sym ≥ many) || decide (r.off + widthF r.typ > len) then false else
      bif prevBad r prev then false else relsG many len (some r) rs := by cases prev <;> rfl
def relsB (o : ObjD) (s : SecD) : Bool := decide ((s.rels.length : Int) ≤ 64) && relsG o.syms.length s.data.length none s.rels
def prevR (l : List RelD) (i : Nat) : Option RelD := if i = 0 then none else some (l.getD (i - 1) default)
theorem widthF_range (t : Int) : 0 ≤ widthF t ∧ widthF t ≤ 8 := by unfold widthF; split <;> (try split) <;> omega
theorem mayRel_off {r : RelD} (h : mayRelB r = true) : 0 ≤ r.off ∧ r.off ≤ 2147483647 ∧ 0 ≤ r.sym ∧ r.sym ≤ 2147483647 ∧ 0 < widthF r.typ := by
  unfold mayRelB fitsB at h
  simp only [Bool.and_eq_true, decide_eq_true_eq] at h
  omega
theorem relOk_at {l : List RelD} (h : ∀ r ∈ l, r.ok) {i : Nat} (hi : i < l.length) : (l.getD i default).ok := by
  have := h l[i] (List.getElem_mem hi)
  simpa [hi] using this
def sectionB (o : ObjD) (n : Int) : Bool :=
  bif !nameB (o.secs.getD (n - 1).toNat default).name || !kindB (o.secs.getD (n - 1).toNat default) || !relsB o (o.secs.getD (n - 1).toNat default) then false
  else bif hasF (o.secs.getD (n - 1).toNat default).flags 128 && (decide ((o.secs.getD (n - 1).toNat default).link < 1) || decide ((o.secs.getD (n - 1).toNat default).link > o.secs.length) || decide ((o.secs.getD (n - 1).toNat default).link = n)) || (!hasF (o.secs.getD (n - 1).toNat default).flags 128 && decide ((o.secs.getD (n - 1).toNat default).link ≠ 0)) then false
  else decide (memberF o.groups n = 0) && !hasF (o.secs.getD (n - 1).toNat default).flags 512 || decide (memberF o.groups n = 1) && hasF (o.secs.getD (n - 1).toNat default).flags 512
theorem secOk_at {l : List SecD} (h : ∀ r ∈ l, r.ok) {i : Nat} (hi : i < l.length) : (l.getD i default).ok := by
  have := h l[i] (List.getElem_mem hi)
  simpa [hi] using this
theorem memberF_take {l : List GrpD} {n : Int} {i : Nat} (hi : i < l.length) : memberF (l.take (i + 1)) n = memberF (l.take i) n + ((l.getD i default).mem.count n : Int) := by
  unfold memberF
  rw [List.take_add_one, List.map_append, List.sum_append]
  simp only [List.getElem?_eq_getElem hi, Option.toList_some, List.map_cons, List.map_nil, List.sum_cons, List.sum_nil, List.getD_eq_getElem?_getD, Option.getD_some]
  omega
theorem memberF_range {l : List GrpD} {n : Int} : 0 ≤ memberF l n := by
  unfold memberF
  induction l with
  | nil => simp
  | cons a l ih => simp only [List.map_cons, List.sum_cons]; omega
theorem count_take {l : List Int} {n : Int} {i : Nat} (hi : i < l.length) : (l.take (i + 1)).count n = (l.take i).count n + (if l.getD i default = n then 1 else 0) := by
  rw [List.take_add_one, List.count_append]
  simp only [List.getElem?_eq_getElem hi, Option.toList_some, List.count_cons, List.count_nil, List.getD_eq_getElem?_getD, Option.getD_some]
  by_cases h : l[i] = n <;> simp [h]

set_option maxHeartbeats 1000000 in
theorem ref_kind (s : SecD) (hs : s.ok) : A0 Try.prog 120 [.agg (secA s)] (fun ret => ret = .v (.bool (kindB s))) := by
  have hs0 := hs
  obtain ⟨q1, q2, q3, q4, q5, q6, q7, q8, q9, q10, q11⟩ := hs
  unfold I64 at q2 q5 q6 q7
  rw [maxLen_eq] at q8 q10
  refine A0.body 158 Try.func120 rfl rfl Try.ntmps120 fun base n0 => ?_
  refine AW.seq' ?_
  refine AW.region ?_
  refine AO.ww ?_
  refine AO.c ?_
  refine AO.nil ?_
  refine SQ.normal ?_
  refine AW.seq' ?_
  refine AW.region ?_
  refine AO.c ?_
  refine AO.call1 Try.func29 rfl rfl (ref_Has _ _ ‹_› (by omega)) ?_
  refine AO.c ?_
  refine AO.nil ?_
  refine SQ.normal ?_
  refine AW.seq' ?_
  refine AW.region ?_
  refine AO.c ?_
  refine AO.call1 Try.func29 rfl rfl (ref_Has _ _ ‹_› (by omega)) ?_
  refine AO.c ?_
  refine AO.nil ?_
  refine SQ.normal ?_
  refine AW.seq' ?_
  refine AW.region ?_
  refine AO.c ?_
  refine AO.call1 Try.func29 rfl rfl (ref_Has _ _ ‹_› (by omega)) ?_
  refine AO.c ?_
  refine AO.nil ?_
  refine SQ.normal ?_
  refine AW.seq' ?_
  refine AW.region ?_
  refine AO.c ?_
  refine AO.call1 Try.func29 rfl rfl (ref_Has _ _ ‹_› (by omega)) ?_
  refine AO.c ?_
  refine AO.nil ?_
  refine SQ.normal ?_
  refine AW.seq' ?_
  refine AW.region ?_
  refine AO.c ?_
  refine AO.c ?_
  refine AO.call1 Try.func154 rfl rfl (ref_flags _ q3) ?_
  refine AO.c ?_
  refine AO.nil ?_
  refine SQ.normal ?_
  refine AW.seq' ?_
  refine AW.region ?_
  refine AO.c ?_
  refine AO.c ?_
  refine AO.call1 Try.func155 rfl rfl (ref_align _ q4) ?_
  refine AO.c ?_
  refine AO.nil ?_
  refine SQ.normal ?_
  refine AW.seq' ?_
  refine AW.seq' ?_
  refine AW.region ?_
  refine AO.c ?_
  refine AO.c ?_
  refine AO.c ?_
  refine AO.gx ?_
  refine AO.gx ?_
  refine AO.c ?_
  refine AO.c ?_
  refine AO.gx ?_
  refine AO.gx ?_
  refine AO.gx ?_
  refine AO.gx ?_
  refine AO.c ?_
  refine AO.nil ?_
  refine SQ.normal ?_
  refine AW.iteB (GL.ev _) (fun h0 => ?_) (fun h0 => ?_)
  · skip
    skip
    refine AW.seq' ?_
    refine AW.region ?_
    refine AO.c ?_
    refine AO.nil ?_
    refine SQ.normal ?_
    refine AW.ret ?_
    refine SQ.ret ?_
    refine Fin.ret (Gh.refl) noid1 ?_
    unfold kindB; simp only [*, cond_true, cond_false]; rfl
  · skip
    skip
    refine AW.skip ?_
    refine SQ.normal ?_
    refine AW.seq' ?_
    refine AW.seq' ?_
    refine AW.region ?_
    refine AO.c ?_
    refine AO.c ?_
    refine AO.c ?_
    refine AO.c ?_
    refine AO.gx ?_
    refine AO.gx ?_
    refine AO.gx ?_
    refine AO.gx ?_
    refine AO.gx ?_
    refine AO.gx ?_
    refine AO.gx ?_
    refine AO.gx ?_
    refine AO.gx ?_
    refine AO.gx ?_
    refine AO.gx ?_
    refine AO.c ?_
    refine AO.nil ?_
    refine SQ.normal ?_
    refine AW.iteB (GL.ev _) (fun h1 => ?_) (fun h1 => ?_)
    · skip
      skip
      refine AW.seq' ?_
      refine AW.region ?_
      refine AO.c ?_
      refine AO.nil ?_
      refine SQ.normal ?_
      refine AW.ret ?_
      refine SQ.ret ?_
      refine Fin.ret (Gh.refl) noid1 ?_
      unfold kindB; simp only [*, cond_true, cond_false]; rfl
    · skip
      skip
      refine AW.skip ?_
      refine SQ.normal ?_
      refine AW.seq' ?_
      refine AW.seq' ?_
      refine AW.region ?_
      refine AO.c ?_
      refine AO.c ?_
      refine AO.c ?_
      refine AO.c ?_
      refine AO.gx ?_
      refine AO.gx ?_
      refine AO.gx ?_
      refine AO.gx ?_
      refine AO.gx ?_
      refine AO.gx ?_
      refine AO.gx ?_
      refine AO.gx ?_
      refine AO.gx ?_
      refine AO.gx ?_
      refine AO.gx ?_
      refine AO.gx ?_
      refine AO.gx ?_
      refine AO.gx ?_
      refine AO.gx ?_
      refine AO.gx ?_
      refine AO.gx ?_
      refine AO.gx ?_
      refine AO.gx ?_
      refine AO.gx ?_
      refine AO.gx ?_
      refine AO.c ?_
      refine AO.nil ?_
      refine SQ.normal ?_
      refine AW.iteB (GL.ev _) (fun h2 => ?_) (fun h2 => ?_)
      · skip
        skip
        refine AW.seq' ?_
        refine AW.region ?_
        refine AO.c ?_
        refine AO.nil ?_
        refine SQ.normal ?_
        refine AW.ret ?_
        refine SQ.ret ?_
        refine Fin.ret (Gh.refl) noid1 ?_
        unfold kindB; simp only [*, cond_true, cond_false]; rfl
      · skip
        skip
        refine AW.skip ?_
        refine SQ.normal ?_
        refine AW.seq' ?_
        refine AW.seq' ?_
        refine AW.region ?_
        refine AO.c ?_
        refine AO.c ?_
        refine AO.c ?_
        refine AO.c ?_
        refine AO.gx ?_
        refine AO.gx ?_
        refine AO.gx ?_
        refine AO.c ?_
        refine AO.nil ?_
        refine SQ.normal ?_
        refine AW.iteB (GL.ev _) (fun h3 => ?_) (fun h3 => ?_)
        · skip
          skip
          refine AW.seq' ?_
          refine AW.region ?_
          refine AO.c ?_
          refine AO.nil ?_
          refine SQ.normal ?_
          refine AW.ret ?_
          refine SQ.ret ?_
          refine Fin.ret (Gh.refl) noid1 ?_
          unfold kindB; simp only [*, cond_true, cond_false]; rfl
        · skip
          skip
          refine AW.skip ?_
          refine SQ.normal ?_
          refine AW.seq' ?_
          refine AW.seq' ?_
          refine AW.region ?_
          refine AO.c ?_
          refine AO.c ?_
          refine AO.nil ?_
          refine SQ.normal ?_
          refine AW.iteB (GL.ev _) (fun h4 => ?_) (fun h4 => ?_)
          · skip
            skip
            refine AW.seq' ?_
            refine AW.region ?_
            refine AO.c ?_
            refine AO.c ?_
            refine AO.c ?_
            refine AO.c ?_
            refine AO.gx ?_
            refine AO.gx ?_
            refine AO.c ?_
            refine AO.c ?_
            refine AO.nil ?_
            refine SQ.normal ?_
            refine AW.ret ?_
            refine SQ.ret ?_
            refine Fin.ret (Gh.refl) noid1 ?_
            unfold kindB; simp only [*, cond_true, cond_false]; rfl
          · skip
            skip
            refine AW.skip ?_
            refine SQ.normal ?_
            refine AW.seq' ?_
            refine AW.seq' ?_
            refine AW.region ?_
            refine AO.c ?_
            refine AO.c ?_
            refine AO.gx ?_
            refine AO.c ?_
            refine AO.c ?_
            refine AO.gx ?_
            refine AO.gx ?_
            refine AO.gx ?_
            refine AO.gx ?_
            refine AO.c ?_
            refine AO.nil ?_
            refine SQ.normal ?_
            refine AW.iteB (GL.ev _) (fun h5 => ?_) (fun h5 => ?_)
            · skip
              skip
              refine AW.seq' ?_
              refine AW.region ?_
              refine AO.c ?_
              refine AO.nil ?_
              refine SQ.normal ?_
              refine AW.ret ?_
              refine SQ.ret ?_
              refine Fin.ret (Gh.refl) noid1 ?_
              unfold kindB; simp only [*, cond_true, cond_false]; rfl
            · skip
              skip
              refine AW.skip ?_
              refine SQ.normal ?_
              refine AW.seq' ?_
              refine AW.seq' ?_
              refine AW.region ?_
              refine AO.c ?_
              refine AO.nil ?_
              refine SQ.normal ?_
              refine AW.iteB (GL.ev _) (fun h6 => ?_) (fun h6 => ?_)
              · skip
                skip
                refine AW.seq' ?_
                refine AW.region ?_
                refine AO.c ?_
                refine AO.c ?_
                refine AO.c ?_
                refine AO.c ?_
                refine AO.gx ?_
                refine AO.gx ?_
                refine AO.gx ?_
                refine AO.c ?_
                refine AO.c ?_
                refine AO.gx ?_
                refine AO.gx ?_
                refine AO.gx ?_
                refine AO.gx ?_
                refine AO.gx ?_
                refine AO.gx ?_
                refine AO.gx ?_
                refine AO.gx ?_
                refine AO.gx ?_
                refine AO.gx ?_
                refine AO.gxo (fun h => by omega) ?_
                refine AO.gxo (fun h => ?_) ?_
                · simp only [Bool.and_eq_true, Bool.not_eq_true', decide_eq_false_iff_not] at h
                  omega
                refine AO.gx ?_
                refine AO.gx ?_
                refine AO.gx ?_
                refine AO.c ?_
                refine AO.c ?_
                refine AO.nil ?_
                refine SQ.normal ?_
                refine AW.ret ?_
                refine SQ.ret ?_
                refine Fin.ret (Gh.refl) noid1 ?_
                unfold kindB; simp only [*, cond_true, cond_false]; rfl
              · skip
                skip
                refine AW.skip ?_
                refine SQ.normal ?_
                refine AW.seq' ?_
                have hsz : 0 ≤ s.size := by
                  simp only [Bool.and_eq_false_iff, Bool.or_eq_false_iff, decide_eq_false_iff_not, Bool.not_eq_false'] at h1 h2 h3
                  omega
                refine AW.region ?_
                refine AO.c ?_
                refine AO.c ?_
                refine AO.c ?_
                refine AO.c ?_
                refine AO.gx ?_
                refine AO.gx ?_
                refine AO.gx ?_
                refine AO.c ?_
                refine AO.c ?_
                refine AO.gx ?_
                refine AO.gx ?_
                refine AO.gx ?_
                refine AO.c ?_
                refine AO.c ?_
                refine AO.gx ?_
                refine AO.gx ?_
                refine AO.gx ?_
                refine AO.gx ?_
                refine AO.gx ?_
                refine AO.c ?_
                refine AO.c ?_
                refine AO.gx ?_
                refine AO.gx ?_
                refine AO.gx ?_
                refine AO.gx ?_
                refine AO.gxo (fun h => ?_) ?_
                · simp only [Bool.and_eq_true, Bool.or_eq_true, decide_eq_true_eq] at h
                  exact ⟨by omega, by omega⟩
                refine AO.gx ?_
                refine AO.c ?_
                refine AO.c ?_
                refine AO.nil ?_
                refine SQ.normal ?_
                refine AW.ret ?_
                refine Fin.ret (Gh.refl) noid1 ?_
                unfold kindB; simp only [*, cond_true, cond_false]; rfl

end Go.Proofs.Ytlapfdfbgckfcaa.AL
