/- What functions of the program compute, each by its own contract; the conditions stand with each. -/
import Derived.Test.YtbaibjhkmajplaaFGlob
namespace Go.Proofs.Ytbaibjhkmajplaa.AL
open Go Go.RowKit Go.Proofs.Ytbaibjhkmajplaa.Base
set_option linter.unusedVariables false
set_option linter.unusedSimpArgs false
set_option maxRecDepth 4000
set_option synthInstance.maxSize 1000
theorem strs_IndexFunc (l : List ByteArray) (f : FuncId) (cs : List AV) (q : ByteArray → Bool) (fn : Func) (hl : l.length ≤ 9223372036854775807) (hgc : ∀ n, ∀ av ∈ cs, Gen n av) (hf : Try.prog.funcs[f]? = some fn) (hname : (fn.name == "runtime.NumGoroutine") = false) (hb : fn.body.isSome = true) (h : ∀ x ∈ l, A0 Try.prog f (.v (.string x) :: cs) (fun r => r = .v (.bool (q x)))) : A0 Try.prog 103 [.rd 1 (l.map sA), .fn f cs] (fun ret => ret = .v (.int .i64 (idxF q l))) := by
  refine A0.body 19 Try.func103 rfl rfl Try.ntmps103 fun base n0 => ?_
  refine AW.seq' ?_
  refine AW.region ?_
  refine AO.c ?_
  refine AO.nil ?_
  refine SQ.normal ?_
  refine AW.seq' ?_
  refine AW.seq' ?_
  refine AW.region ?_
  refine AO.c ?_
  refine AO.c ?_
  refine AO.c ?_
  refine AO.nil ?_
  refine SQ.normal ?_
  refine AW.block' ?_
  refine AW.loopU [.k, .k, .f, .f, .f, .f, .f, .k, .k, .F, .f, .f] (fun (i : Nat) => [(8, .v (.int .i64 (i)))]) (fun i => Hn n0 []) (fun m i => i ≤ l.length ∧ m = l.length - i ∧ ∀ j, j < i → q (l.getD j default) = false) (l.length) (0) ⟨by omega, rfl, fun j h => by omega⟩ (by first | rfl | (simp; done)) (by first | rfl | (simp; done)) ?_
  rintro m0 i ⟨hx1, hx2, hx3⟩
  refine AW.seq' ?_
  refine AW.region ?_
  refine AO.c ?_
  refine AO.nil ?_
  refine SQ.normal ?_
  refine AW.seq' ?_
  refine AW.iteB (GL.ev _) (fun h0 => ?_) (fun h0 => ?_)
  · skip
    rw [decide_eq_true_eq] at h0
    have hi : i < l.length := by omega
    refine AW.skip ?_
    refine SQ.normal ?_
    refine AW.seq' ?_
    refine AW.block' ?_
    refine AW.seq' ?_
    refine AW.region ?_
    refine AO.c ?_
    refine AO.c ?_
    refine AO.nil ?_
    refine SQ.normal ?_
    refine AW.seq' ?_
    refine AW.region ?_
    refine AO.c ?_
    refine AO.c ?_
    refine AO.c ?_
    refine AO.oo ?_
    refine AO.c ?_
    refine AO.callF (args' := .v (.string (l.getD i default)) :: cs) hgc hf hname hb (h _ (getD_in hi)) rfl ?_
    refine AO.nil ?_
    refine SQ.normal ?_
    refine AW.iteB (GL.ev _) (fun h1 => ?_) (fun h1 => ?_)
    · skip
      skip
      refine AW.seq' ?_
      refine AW.region ?_
      refine AO.c ?_
      refine AO.c ?_
      refine AO.nil ?_
      refine SQ.normal ?_
      refine AW.ret ?_
      refine BQ.ret <| SQ.ret <| AW.out <| LU.ret <| BQ.ret <| SQ.ret ?_
      refine Fin.ret (Gh.refl) noid1 ?_
      rw [idxF_at hi hx3 h1]; rfl
    · skip
      skip
      refine AW.skip ?_
      refine BQ.normal ?_
      refine SQ.normal ?_
      refine AW.region ?_
      refine AO.oo ?_
      refine AO.c ?_
      refine AO.nil ?_
      exact AW.backU [.k, .k, .f, .f, .f, .f, .f, .k, .k, .F, .f, .f] (m0 - 1) (i + 1) (by omega) (by (try dsimp only); exact ⟨by omega, by omega, fun j hj => (Nat.lt_or_eq_of_le (Nat.le_of_lt_succ hj)).elim (hx3 j) (fun h => by rw [h]; exact h1)⟩) (by first | rfl | (simp; done)) (by first | rfl | (simp; done))
  · skip
    rw [decide_eq_false_iff_not] at h0
    refine AW.exit ?_
    refine SQ.exit <| AW.out <| LU.exit <| BQ.exit ?_
    refine SQ.normal ?_
    refine AW.seq' ?_
    refine AW.region ?_
    refine AO.c ?_
    refine AO.nil ?_
    refine SQ.normal ?_
    refine AW.ret ?_
    refine Fin.ret (Gh.refl) noid1 ?_
    rw [idxF_none (fun j hj => hx3 j (by omega))]; rfl
theorem strs_ContainsFunc (l : List ByteArray) (f : FuncId) (cs : List AV) (q : ByteArray → Bool) (fn : Func) (hl : l.length ≤ 9223372036854775807) (hgc : ∀ n, ∀ av ∈ cs, Gen n av) (hf : Try.prog.funcs[f]? = some fn) (hname : (fn.name == "runtime.NumGoroutine") = false) (hb : fn.body.isSome = true) (h : ∀ x ∈ l, A0 Try.prog f (.v (.string x) :: cs) (fun r => r = .v (.bool (q x)))) : A0 Try.prog 84 [.rd 1 (l.map sA), .fn f cs] (fun ret => ret = .v (.bool (l.any q))) := by
  haveI hga : ∀ n, GA n cs := fun n => ⟨hgc n⟩
  have hidx := strs_IndexFunc l f cs q fn hl hgc hf hname hb h
  refine A0.body 9 Try.func84 rfl rfl Try.ntmps84 fun base n0 => ?_
  refine AW.seq' ?_
  refine AW.region ?_
  refine AO.c ?_
  refine AO.nil ?_
  refine SQ.normal ?_
  refine AW.seq' ?_
  refine AW.region ?_
  refine AO.c ?_
  refine AO.c ?_
  refine AO.call1 Try.func103 rfl rfl (hidx) ?_
  refine AO.c ?_
  refine AO.c ?_
  refine AO.nil ?_
  refine SQ.normal ?_
  refine AW.ret ?_
  refine Fin.ret (Gh.refl) noid1 ?_
  rw [← idxF_ge]; rfl
theorem glob_Any1 (p s : ByteArray) (hp : p.size ≤ 1000000000) (hs : s.size ≤ 1000000000) : A0 Try.prog 85 [.v (.string p), .eptr [.v (.string s)]] (fun ret => ret = .v (.bool (fitsS p s))) := by
  refine A0.body 7 Try.func85 rfl rfl Try.ntmps85 fun base n0 => ?_
  refine AW.seq' ?_
  refine AW.region ?_
  refine AO.c ?_
  refine AO.nil ?_
  refine SQ.normal ?_
  refine AW.seq' ?_
  refine AW.region ?_
  refine AO.c ?_
  refine AO.c ?_
  refine AO.call1 Try.func36 rfl rfl (glob_Fits _ _ (by omega) (by omega)) ?_
  refine AO.c ?_
  refine AO.nil ?_
  refine SQ.normal ?_
  refine AW.ret ?_
  refine Fin.ret (Gh.refl) noid1 ?_
  rfl
theorem glob_Any (l : List ByteArray) (s : ByteArray) (hl : l.length ≤ 9223372036854775807) (hp : ∀ p ∈ l, p.size ≤ 1000000000) (hs : s.size ≤ 1000000000) : A0 Try.prog 38 [.rd 1 (l.map sA), .v (.string s)] (fun ret => ret = .v (.bool (l.any fun p => fitsS p s))) := by
  have hcf := strs_ContainsFunc l 85 [.eptr [.v (.string s)]] (fun p => fitsS p s) _ hl (fun n av h => by simp at h; subst h; exact .eptr fun j av hj => by cases j with | zero => simp at hj; subst hj; exact .v _ | succ j => simp at hj) Try.func85 rfl rfl (fun p h => glob_Any1 p s (hp p h) hs)
  refine A0.body 8 Try.func38 rfl rfl Try.ntmps38 fun base n0 => ?_
  refine AW.seq' ?_
  refine AW.region ?_
  refine AO.ww ?_
  refine AO.c ?_
  refine AO.nil ?_
  refine SQ.normal ?_
  refine AW.seq' ?_
  refine AW.region ?_
  refine AO.ghost (Gh.freezeP 3) ?_
  refine AO.c ?_
  refine AO.c ?_
  refine AO.call1 Try.func84 rfl rfl (hcf) ?_
  refine AO.c ?_
  refine AO.nil ?_
  refine SQ.normal ?_
  refine AW.ret ?_
  refine Fin.ret (Gh.refl) noid1 ?_
  rfl
theorem ref_Any (l : List ByteArray) (s : ByteArray) (hl : l.length ≤ 1000000000) (hp : ∀ p ∈ l, p.size ≤ 1000000000) (hs : s.size ≤ 1000000000) : A0 Try.prog 39 [.rd 1 (l.map sA), .v (.string s)] (fun ret => ret = .v (.bool (l.any fun p => fitsS p s))) := by
  refine A0.body 18 Try.func39 rfl rfl Try.ntmps39 fun base n0 => ?_
  refine AW.seq' ?_
  refine AW.region ?_
  refine AO.c ?_
  refine AO.nil ?_
  refine SQ.normal ?_
  refine AW.seq' ?_
  refine AW.seq' ?_
  refine AW.region ?_
  refine AO.c ?_
  refine AO.nil ?_
  refine SQ.normal ?_
  refine AW.block' ?_
  refine AW.loopU [.k, .k, .f, .f, .f, .k, .F, .f, .f, .f, .f] (fun (i : Nat) => [(5, .v (.int .i64 (i)))]) (fun i => Hn n0 []) (fun m i => i ≤ l.length ∧ m = l.length - i ∧ ∀ j, j < i → fitsS (l.getD j default) s = false) (l.length) (0) ⟨by omega, rfl, fun j h => by omega⟩ (by first | rfl | (simp; done)) (by first | rfl | (simp; done)) ?_
  rintro m0 i ⟨hx1, hx2, hx3⟩
  refine AW.seq' ?_
  refine AW.seq' ?_
  refine AW.region ?_
  refine AO.c ?_
  refine AO.c ?_
  refine AO.c ?_
  refine AO.c ?_
  refine AO.nil ?_
  refine SQ.normal ?_
  refine AW.iteB (GL.ev _) (fun h0 => ?_) (fun h0 => ?_)
  · skip
    rw [decide_eq_true_eq] at h0
    have hi : i < l.length := by omega
    refine AW.skip ?_
    refine SQ.normal ?_
    refine AW.seq' ?_
    refine AW.block' ?_
    refine AW.seq' ?_
    refine AW.region ?_
    refine AO.c ?_
    refine AO.c ?_
    refine AO.oo ?_
    refine AO.c ?_
    refine AO.c ?_
    refine AO.call1 Try.func37 rfl rfl (ref_Fits _ _ (hp _ (getD_in hi)) hs) ?_
    refine AO.nil ?_
    refine SQ.normal ?_
    refine AW.iteB (GL.ev _) (fun h1 => ?_) (fun h1 => ?_)
    · skip
      skip
      refine AW.seq' ?_
      refine AW.region ?_
      refine AO.c ?_
      refine AO.nil ?_
      refine SQ.normal ?_
      refine AW.ret ?_
      refine BQ.ret <| SQ.ret <| AW.out <| LU.ret <| BQ.ret <| SQ.ret ?_
      refine Fin.ret (Gh.refl) noid1 ?_
      have : (l.any fun p => fitsS p s) = true := List.any_eq_true.2 ⟨_, getD_in hi, h1⟩
      rw [this]; rfl
    · skip
      skip
      refine AW.skip ?_
      refine BQ.normal ?_
      refine SQ.normal ?_
      refine AW.region ?_
      refine AO.c ?_
      refine AO.oo ?_
      refine AO.c ?_
      refine AO.nil ?_
      exact AW.backU [.k, .k, .f, .f, .f, .k, .F, .f, .f, .f, .f] (m0 - 1) (i + 1) (by omega) (by (try dsimp only); exact ⟨by omega, by omega, fun j hj => (Nat.lt_or_eq_of_le (Nat.le_of_lt_succ hj)).elim (hx3 j) (fun h => by rw [h]; exact h1)⟩) (by first | rfl | (simp; done)) (by first | rfl | (simp; done))
  · skip
    rw [decide_eq_false_iff_not] at h0
    refine AW.exit ?_
    refine SQ.exit <| AW.out <| LU.exit <| BQ.exit ?_
    refine SQ.normal ?_
    refine AW.seq' ?_
    refine AW.region ?_
    refine AO.c ?_
    refine AO.nil ?_
    refine SQ.normal ?_
    refine AW.ret ?_
    refine Fin.ret (Gh.refl) noid1 ?_
    have : (l.any fun p => fitsS p s) = false := by
      rw [List.any_eq_false]
      intro x hx
      obtain ⟨j, hj, rfl⟩ := List.getElem_of_mem hx
      have := hx3 j (by omega)
      simpa [hj] using this
    rw [this]; rfl
theorem up09  : A0 Try.prog 35 [] (fun ret => ret = .v (.bool true)) := by
  have f1 := glob_Fits ⟨#[46, 116, 42, 116]⟩ ⟨#[46, 116, 101, 120, 116]⟩ (by decide) (by decide)
  have f2 := glob_Fits ⟨#[46, 116, 63, 116]⟩ ⟨#[46, 116, 101, 120, 116]⟩ (by decide) (by decide)
  have e1 : fitsS ⟨#[46, 116, 42, 116]⟩ ⟨#[46, 116, 101, 120, 116]⟩ = true := by decide
  have e2 : fitsS ⟨#[46, 116, 63, 116]⟩ ⟨#[46, 116, 101, 120, 116]⟩ = false := by decide
  rw [e1] at f1
  rw [e2] at f2
  have f3 : A0 Try.prog 38 [.v (.slice none 0 0), .v (.string ⟨#[]⟩)] (fun r => r = .v (.bool false)) := A0.tells (args := [.rd 1 (([] : List ByteArray).map sA), .v (.string ⟨#[]⟩)]) (glob_Any [] ⟨#[]⟩ (by decide) (fun p h => by cases h) (by decide))
  refine A0.body 10 Try.func35 rfl rfl Try.ntmps35 fun base n0 => ?_
  refine AW.seq' ?_
  refine AW.region ?_
  refine AO.c ?_
  refine AO.nil ?_
  refine SQ.normal ?_
  refine AW.seq' ?_
  refine AW.region ?_
  refine AO.call1 Try.func36 rfl rfl (f1) ?_
  refine AO.c ?_
  refine AO.gxcall1 Try.func36 rfl rfl (fun hgd => f2) ?_
  refine AO.gx ?_
  refine AO.c ?_
  refine AO.c ?_
  refine AO.gxcall1 Try.func38 rfl rfl (fun hgd => f3) ?_
  refine AO.gx ?_
  refine AO.c ?_
  refine AO.c ?_
  refine AO.nil ?_
  refine SQ.normal ?_
  refine AW.ret ?_
  refine Fin.ret (Gh.refl) noid1 ?_
  rfl

end Go.Proofs.Ytbaibjhkmajplaa.AL
