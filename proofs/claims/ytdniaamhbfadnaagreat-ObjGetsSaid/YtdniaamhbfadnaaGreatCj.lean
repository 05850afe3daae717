/- A part of the proof: rules of an own logic over blocks, and what functions of the program compute, each by its own contract; the conditions stand with each. -/
import Derived.Test.YtdniaamhbfadnaaGreatCe
import Derived.Test.YtdniaamhbfadnaaGreatCi
import Derived.Test.YtdniaamhbfadnaaGreatCg
namespace Go.Proofs.YtdniaamhbfadnaaGreat.AL
open Go Go.RowKit Go.Proofs.YtdniaamhbfadnaaGreat.Base
set_option linter.unusedVariables false
set_option linter.unusedSimpArgs false
set_option maxRecDepth 4000
set_option synthInstance.maxSize 1000
set_option synthInstance.maxHeartbeats 200000
def wK (b : List Int) (i k : Nat) : Int := numAt (toldF b (shK b i)) (4 * k + 4) 4
def memN (b : List Int) (i : Nat) : Nat → List Int
 | 0 => []
 | k + 1 => if numF b (wK b i k) > 0 then memN b i k ++ [numF b (wK b i k)] else memN b i k
def grpN (b : List Int) (i : Nat) : Nat := (toldF b (shK b i)).length / 4 - 1
def grpD (b : List Int) (i : Nat) : GrpD := ⟨(shK b i).a7, memN b i (grpN b i)⟩
def grpOk (b : List Int) (tb : Int) (i : Nat) : Prop := HasB (toldF b (shK b i)) 0 4 ∧ numAt (toldF b (shK b i)) 0 4 = 1 ∧ (shK b i).a9 = 4 ∧ ((toldF b (shK b i)).length : Int) % 4 = 0 ∧ (shK b i).a6 = tb ∧ ∀ k, k < grpN b i → numF b (wK b i k) ≠ 0 ∨ isF (hdsN b (mnH b)) (wK b i k) 4 = true
theorem memN_len (b : List Int) (i : Nat) : ∀ k, (memN b i k).length ≤ k := by
 intro k
 induction k with
 | zero => simp [memN]
 | succ k ih => rw [memN]; split; rw [List.length_append, List.length_singleton]; omega; omega
set_option maxHeartbeats 4000000 in
theorem obj_readGrp (n : Nat) (z : List AV) (b : List Int) (hB : Bytes b) (hf : frOk b) (tb : Int) (e4 m4 e5 m5 : Nat) (hs : Bool) (sg : List Int) (s4 s5 : Option AB) (j e7 : Nat) (G : List GrpD) (hG : G.length ≤ 1000000) (i : Nat) (hi : i < mnH b) (h8 : (shK b i).a1 ≠ 8) : AC Tryz.prog 77 (Hn n (([some (.box 29 z), some (.map ((numM b).map (mE kI vI))), some (.box 88 [.rd 1 (bys b), .rd 10 ((hdsN b (mnH b)).map shA), .omap (n + 1), .v (.int .i64 (tb)), .own (n + 4) e4 0 m4, .own (n + 5) e5 0 m5, .own (n + 6) (e7) 0 (G).length, .v (.bool hs), .rd 1 (sg.map iA)]), none, s4, s5, some (.row 107 2 (e7) ((G).map grpA))] ++ List.replicate j none) ++ [])) [.box (n + 2) 0, .v (.int .i64 ((i : Int)))] (fun r H' => (∃ x : Nat, grpOk b tb i ∧ r = .v (.bool true) ∧ H' = Hn n (([some (.box 29 z), some (.map ((numM b).map (mE kI vI))), some (.box 88 [.rd 1 (bys b), .rd 10 ((hdsN b (mnH b)).map shA), .omap (n + 1), .v (.int .i64 (tb)), .own (n + 4) e4 0 m4, .own (n + 5) e5 0 m5, .own (n + 6) (e7 + 1) 0 (G ++ [grpD b i]).length, .v (.bool hs), .rd 1 (sg.map iA)]), none, s4, s5, some (.row 107 2 (e7 + 1) ((G ++ [grpD b i]).map grpA))] ++ List.replicate x none) ++ [])) ∨ (∃ X, ¬ grpOk b tb i ∧ r = .v (.bool false) ∧ H' = Hn n (some (.box 29 z) :: X))) := by
 have hmay := hf.1.2.1
 unfold HdD.may MayHd at hmay
 have hmn : ((mnH b : Nat) : Int) = (hdOf b).many := by unfold mnH; omega
 have hbl := hf.2.1
 have hok1 := hf.2.2.1 i hi
 have hsa := shK_all hok1
 have htk := tell_ok hok1
 have hge : (hdsN b (mnH b)).getD ((i : Int)).toNat default = shK b i := by rw [Int.toNat_natCast]; exact hdsN_get hi
 have htold := obj_told b (hdsN b (mnH b)) (i : Int) ⟨by omega, by rw [hdsN_len]; omega⟩ (by omega) (by rw [hge]; exact htk)
 rw [hge] at htold
 have hts := told_size htk h8
 have htl2 := told_len b (shK b i)
 have hBt := told_bytes hB (shK b i)
 refine AC.body 106 Tryz.func77 rfl rfl Tryz.ntmps77 fun base => ?_
 refine AW.seq' ?_
 refine AW.region ?_
 refine AO.c ?_
 refine AO.nil ?_
 refine SQ.normal ?_
 refine AW.seq' ?_
 refine AW.region ?_
 iterate 5 refine AO.c ?_
 refine AO.o (by rw [hdsN_len]; omega) ?_
 refine AO.c ?_
 refine AO.eq 20 (av' := .agg (shA (shK b i))) (by rw [hdsN_get hi]) ?_
 refine AO.ww ?_
 refine AO.sst ?_
 refine AO.nil ?_
 refine SQ.normal ?_
 refine AW.seq' ?_
 refine AW.region ?_
 iterate 2 refine AO.c ?_
 refine AO.callB [.rd 1 (bys b), .rd 10 ((hdsN b (mnH b)).map shA)] Tryz.func72 rfl rfl htold ⟨_, rfl⟩ rfl ?_
 refine AO.c ?_
 refine AO.nil ?_
 refine SQ.normal ?_
 refine AW.seq' ?_
 refine AW.region ?_
 refine AO.c ?_
 refine AO.call1 Tryz.func109 rfl rfl (le_GetG (toldF b (shK b i)) 0 4 hBt (by omega) (by omega) (by omega)) ?_
 iterate 5 refine AO.c ?_
 refine AO.nil ?_
 refine SQ.normal ?_
 refine AW.seq' ?_
 refine AW.seq' ?_
 refine AW.drawsZ [] (.one 0 false (.one 1 false (.one 2 false (.one 3 false (.one 4 false (.one 5 false (.one 6 false (.one 7 false (.one 8 false (.one 9 false (.one 10 false (.one 11 false (.one 12 false (.one 13 false (.one 14 false (.one 15 false (.one 16 false (.one 17 false (.one 18 false (.one 19 false (.one 20 false (.one 21 false (.one 22 false (.one 23 false (.one 24 false (.one 25 false .nil)))))))))))))))))))))))))) (by kernel_rfl) rfl (by kernel_rfl) ?_
 iterate 3 refine AZ.c rfl ?_
 iterate 2 refine AZ.gx rfl ?_
 iterate 2 refine AZ.c rfl ?_
 iterate 3 refine AZ.gx rfl ?_
 iterate 2 refine AZ.c rfl ?_
 iterate 2 refine AZ.gx rfl ?_
 refine AZ.gxoo rfl ?_
 refine AZ.gx rfl ?_
 iterate 2 refine AZ.c rfl ?_
 iterate 7 refine AZ.gx rfl ?_
 refine AZ.c rfl ?_
 refine AZ.done ?_
 refine SQ.normal ?_
 refine AW.iteB (GL.ev _) (fun h0 => ?_) (fun h0 => ?_)
 ·
  have hno : ¬ grpOk b tb i := fun h => by
   obtain ⟨g1, g2, g3, g4, g5, _⟩ := h
   unfold numG at h0
   rw [if_pos g1, decide_eq_true g1, g2, g3, g5] at h0
   simp at h0
   omega
  refine AW.seq' ?_
  refine AW.region ?_
  refine AO.c ?_
  refine AO.nil ?_
  refine SQ.normal ?_
  refine AW.ret ?_
  refine SQ.ret ?_
  exact FinC.ret Gh.refl (.inr ⟨_, hno, rfl, rfl⟩) (.inr rfl)
 ·
  have h0f : HasB (toldF b (shK b i)) 0 4 ∧ numAt (toldF b (shK b i)) 0 4 = 1 ∧ (shK b i).a9 = 4 ∧ ((toldF b (shK b i)).length : Int) % 4 = 0 ∧ (shK b i).a6 = tb := by
   simp only [Bool.or_eq_false_iff, Bool.not_eq_false', decide_eq_true_eq, decide_eq_false_iff_not, Decidable.not_not] at h0
   obtain ⟨⟨⟨⟨q1, q2⟩, q3⟩, q4⟩, q5⟩ := h0
   unfold numG at q2
   rw [if_pos q1] at q2
   exact ⟨q1, q2, q3, q4, q5⟩
  obtain ⟨g1, g2, g3, g4, g5⟩ := h0f
  have g1l : 4 ≤ (toldF b (shK b i)).length := by have := g1.2.2; omega
  refine AW.skip ?_
  refine SQ.normal ?_
  refine AW.seq' ?_
  refine AW.region ?_
  iterate 3 refine AO.c ?_
  refine AO.ww ?_
  refine AO.sst ?_
  refine AO.nil ?_
  refine SQ.normal ?_
  refine AW.seq' ?_
  refine AW.seq' ?_
  refine AW.region ?_
  refine AO.c ?_
  refine AO.nil ?_
  refine SQ.normal ?_
  refine AW.block' ?_
  refine AW.ghost (Gh.adoptC (zadd (zadd (0 + 1 + 1 + 1 + 1 + 1 + 1 + 1) j) (0 + 1)) 1 3 1 rfl) ?_
  refine AW.loopU2 [.k, .f, .f, .f, .f, .f, .k, .f, .f, .k, .k, .F, .F, .F, .F, .F, .F, .F, .F, .F, .F, .F, .f, .f, .f, .f, .f, .f, .f] (fun (k e8 : Nat) => [(10, .v (.int .i64 (4 * (k : Int) + 4)))]) (fun k e8 => Hn n (([some (.box 29 z), some (.map ((numM b).map (mE kI vI))), some (.box 88 [.rd 1 (bys b), .rd 10 ((hdsN b (mnH b)).map shA), .omap (n + 1), .v (.int .i64 (tb)), .own (n + 4) e4 0 m4, .own (n + 5) e5 0 m5, .own (n + 6) (e7) 0 (G).length, .v (.bool hs), .rd 1 (sg.map iA)]), none, s4, s5, some (.row 107 2 (e7) ((G).map grpA))] ++ List.replicate j none) ++ [some (.box 157 (shA (shK b i))), some (.box 107 [.v (.int .i64 ((shK b i).a7)), .own (n + zadd (zadd (0 + 1 + 1 + 1 + 1 + 1 + 1 + 1) j) (0 + 1 + 1)) (e8) 0 (memN b i k).length]), some (.row 3 1 (e8) ((memN b i k).map iA))])) (fun m k e8 => (k ≤ grpN b i ∧ m = grpN b i - k) ∧ ∀ q, q < k → numF b (wK b i q) ≠ 0 ∨ isF (hdsN b (mnH b)) (wK b i q) 4 = true) (grpN b i) (0) (0) ⟨by omega, fun q h => by omega⟩ (by first | rfl | (simp; done)) (by first | rfl | (simp; done)) ?_
  rintro m0 k e8 ⟨hx1, hx2⟩
  refine AW.seq' ?_
  refine AW.seq' ?_
  refine AW.region ?_
  iterate 4 refine AO.c ?_
  refine AO.nil ?_
  refine SQ.normal ?_
  refine AW.iteB (GL.ev _) (fun h1 => ?_) (fun h1 => ?_)
  ·
   rw [decide_eq_true_eq] at h1
   have hk : k < grpN b i := by unfold grpN; omega
   have hml := memN_len b i k
   have hwr0 : 0 ≤ numAt (toldF b (shK b i)) (4 * (k : Int) + 4) 4 ∧ numAt (toldF b (shK b i)) (4 * (k : Int) + 4) 4 < 4294967296 := numAt_range hBt (4 * (k : Int) + 4) 4
   have hwr : 0 ≤ wK b i k ∧ wK b i k < 4294967296 := hwr0
   refine AW.skip ?_
   refine SQ.normal ?_
   refine AW.seq' ?_
   refine AW.block' ?_
   refine AW.seq' ?_
   refine AW.region ?_
   iterate 2 refine AO.c ?_
   refine AO.call1 Tryz.func109 rfl rfl (le_GetT (toldF b (shK b i)) (4 * (k : Int) + 4) 4 hBt (by omega) ⟨by decide, by omega, by omega⟩) ?_
   iterate 5 refine AO.c ?_
   refine AO.nil ?_
   refine SQ.normal ?_
   refine AW.seq' ?_
   refine AW.region ?_
   iterate 5 refine AO.c ?_
   refine AO.o (by omega) ?_
   refine AO.c ?_
   refine AO.eq 76 (av' := .v (.int .i64 (numF b (wK b i k)))) rfl ?_
   refine AO.c ?_
   refine AO.nil ?_
   refine SQ.normal ?_
   refine AW.seq' ?_
   refine AW.seq' ?_
   refine AW.region ?_
   iterate 3 refine AO.c ?_
   iterate 2 refine AO.gx ?_
   refine AO.gxoo ?_
   refine AO.gxcallB [.rd 1 (bys b), .rd 10 ((hdsN b (mnH b)).map shA)] Tryz.func70 rfl rfl (fun hgd => obj_is b (hdsN b (mnH b)) (wK b i k) 4 (by rw [hdsN_len]; omega)) ⟨_, rfl⟩ rfl ?_
   refine AO.gx ?_
   refine AO.c ?_
   refine AO.nil ?_
   refine SQ.normal ?_
   refine AW.iteB (GL.ev _) (fun h2 => ?_) (fun h2 => ?_)
   ·
    have hno : ¬ grpOk b tb i := fun h => by
     simp only [Bool.and_eq_true, decide_eq_true_eq, Bool.not_eq_true'] at h2
     rcases h.2.2.2.2.2 k hk with q | q
     · exact q h2.1
     · rw [h2.2] at q; cases q
    refine AW.seq' ?_
    refine AW.region ?_
    refine AO.c ?_
    refine AO.nil ?_
    refine SQ.normal ?_
    refine AW.ret ?_
    refine SQ.ret <| BQ.ret <| SQ.ret <| AW.out <| LU.ret <| BQ.ret <| SQ.ret ?_
    exact FinC.ret Gh.refl (.inr ⟨_, hno, rfl, rfl⟩) (.inr rfl)
   ·
    have hal2 : ∀ q, q < k + 1 → numF b (wK b i q) ≠ 0 ∨ isF (hdsN b (mnH b)) (wK b i q) 4 = true := fun q hq => by
     by_cases e : q = k
     · subst e
       simp only [Bool.and_eq_false_iff, decide_eq_false_iff_not, Bool.not_eq_false'] at h2
       exact h2
     · exact hx2 q (by omega)
    refine AW.skip ?_
    refine SQ.normal ?_
    refine AW.seq' ?_
    refine AW.region ?_
    iterate 2 refine AO.c ?_
    refine AO.nil ?_
    refine SQ.normal ?_
    refine AW.iteB (GL.ev _) (fun h3 => ?_) (fun h3 => ?_)
    ·
     rw [decide_eq_true_eq] at h3
     have hms : memN b i (k + 1) = memN b i k ++ [numF b (wK b i k)] := by rw [memN, if_pos h3]
     refine AW.region ?_
     iterate 3 refine AO.c ?_
     refine AO.rr ?_
     refine AO.ww ?_
     refine AO.c ?_
     refine AO.sst ?_
     refine AO.nil ?_
     refine BQ.normal ?_
     refine SQ.normal ?_
     refine AW.region ?_
     refine AO.c ?_
     refine AO.oo ?_
     refine AO.c ?_
     refine AO.nil ?_
     exact AW.backU [.k, .f, .f, .f, .f, .f, .k, .f, .f, .k, .k, .F, .F, .F, .F, .F, .F, .F, .F, .F, .F, .F, .f, .f, .f, .f, .f, .f, .f] (m0 - 1) (k + 1, e8 + 1) (by omega) (by (try dsimp only); exact ⟨by omega, hal2⟩) (by first | rfl | (simp; done)) (by first | (rw [hms, List.map_append, List.length_append]; done) | (rw [hms, List.map_append, List.length_append]; rfl))
    ·
     rw [decide_eq_false_iff_not] at h3
     have hms : memN b i (k + 1) = memN b i k := by rw [memN, if_neg h3]
     refine AW.skip ?_
     refine BQ.normal ?_
     refine SQ.normal ?_
     refine AW.region ?_
     refine AO.c ?_
     refine AO.oo ?_
     refine AO.c ?_
     refine AO.nil ?_
     exact AW.backU [.k, .f, .f, .f, .f, .f, .k, .f, .f, .k, .k, .F, .F, .F, .F, .F, .F, .F, .F, .F, .F, .F, .f, .f, .f, .f, .f, .f, .f] (m0 - 1) (k + 1, e8) (by omega) (by (try dsimp only); exact ⟨by omega, hal2⟩) (by first | rfl | (simp; done)) (by first | (rw [hms]; done) | (rw [hms]; rfl))
  ·
   rw [decide_eq_false_iff_not] at h1
   have hk : k = grpN b i := by unfold grpN at *; omega
   subst hk
   have hml := memN_len b i (grpN b i)
   have hgl : grpN b i ≤ 20000 := by unfold grpN; omega
   refine AW.exit ?_
   refine SQ.exit <| AW.out <| LU.exit <| BQ.exit ?_
   refine SQ.normal ?_
   refine AW.seq' ?_
   refine AW.ghost (Gh.freezeC (zadd (zadd (0 + 1 + 1 + 1 + 1 + 1 + 1 + 1) j) (0 + 1)) 1 (by simp) (by simp; omega)) ?_
   refine AW.drawsZ [8, 12] (.one 1 false (.one 2 false (.one 3 false (.one 4 false (.one 5 false (.one 6 false (.pur 0 (.one 7 true (.one 8 true (.one 9 false (.one 10 false (.one 11 false (.one 12 true .nil))))))))))))) (by kernel_rfl) rfl (by kernel_rfl) ?_
   iterate 6 refine AZ.c rfl ?_
   refine AZ.p rfl ?_
   refine AZ.rr rfl ?_
   refine AZ.ww rfl rfl ?_
   iterate 3 refine AZ.c rfl ?_
   refine AZ.sst rfl rfl ?_
   refine AZ.done ?_
   refine SQ.normal ?_
   refine AW.seq' ?_
   refine AW.region ?_
   refine AO.c ?_
   refine AO.nil ?_
   refine SQ.normal ?_
   refine AW.ret ?_
   exact FinC.ret Gh.dead (.inl ⟨j + 3, ⟨g1, g2, g3, g4, g5, hx2⟩, rfl, by simp [grpD]⟩) (.inr rfl)
end Go.Proofs.YtdniaamhbfadnaaGreat.AL
namespace Go.Proofs.YtdniaamhbfadnaaGreat.AL
open Go Go.RowKit Go.Proofs.YtdniaamhbfadnaaGreat.Base
set_option linter.unusedVariables false
set_option linter.unusedSimpArgs false
set_option maxRecDepth 4000
set_option synthInstance.maxSize 1000
set_option synthInstance.maxHeartbeats 200000
def relC : List RelD → AV
 | [] => .v (.slice none 0 0)
 | r :: l => .rd 4 ((r :: l).map relA)
@[reducible] def secP (s : SecD) (c : AV) : List AV := [.v (.string s.name), .v (.int .i64 s.typ), .v (.int .i64 s.flags), .v (.int .i64 s.align), .v (.int .i64 s.ent), .v (.int .i64 s.link), .v (.int .i64 s.size), .rd 1 (bys s.data), c]
def secR (s : SecD) : List AV := secP s (relC s.rels)
def SecD.rel (s : SecD) (l : List RelD) : SecD := { s with rels := l }
def relK (b : List Int) (i k : Nat) : RelD := relOf (toldF b (shK b i)) (24 * k)
def relL (b : List Int) (i n : Nat) : List RelD := (List.range n).map (relK b i)
def relMany (b : List Int) (i : Nat) : Nat := (shK b i).a5.toNat / 24
def secV (b : List Int) (i : Nat) : Nat := (numF b (shK b i).a7 - 1).toNat
def relsOk (b : List Int) (tb : Int) (i : Nat) : Prop := (shK b i).a9 = 24 ∧ (shK b i).a5 % 24 = 0 ∧ (shK b i).a6 = tb ∧ isF (hdsN b (mnH b)) (shK b i).a7 1 = true ∧ (∀ q, 0 < q → q < i → ¬ ((shK b q).a1 = 4 ∧ (shK b q).a7 = (shK b i).a7)) ∧ ∀ k, k < relMany b i → RelOk (toldF b (shK b i)) (24 * k)
theorem relC_ne {l : List RelD} (h : l ≠ []) : relC l = .rd 4 (l.map relA) := by
 cases l with
 | nil => exact absurd rfl h
 | cons r l => rfl
theorem rel_set {S : List SecD} {v : Nat} {l : List RelD} {c : AV} (h : l ≠ []) : (((S.map secR).set v (secP (S.getD v default) c)).set v ((secP (S.getD v default) c).set 8 (.rd 4 (l.map relA)))) = (S.set v ((S.getD v default).rel l)).map secR := by
 rw [List.set_set, List.map_set]
 congr 1
 show _ = secP _ (relC l)
 rw [relC_ne h]; rfl
theorem rel_nil {S : List SecD} {v : Nat} (hv : v < S.length) (h : (S.getD v default).rels = []) : S.set v ((S.getD v default).rel []) = S := by
 apply List.ext_getElem?
 intro k
 by_cases e : v = k
 · subst e
   rw [List.getElem?_set_self hv, List.getElem?_eq_getElem hv]
   rw [List.getD_eq_getElem?_getD, List.getElem?_eq_getElem hv] at h ⊢
   simp only [Option.getD_some] at h ⊢
   congr 1
   cases hs : S[v] with
   | mk a1 a2 a3 a4 a5 a6 a7 a8 a9 =>
    rw [hs] at h
    simp only at h
    subst h; rfl
 · rw [List.getElem?_set_ne e]
theorem relL_len (b : List Int) (i n : Nat) : (relL b i n).length = n := by unfold relL; simp
theorem relL_succ (b : List Int) (i n : Nat) : relL b i (n + 1) = relL b i n ++ [relK b i n] := by unfold relL; rw [List.range_succ, List.map_append]; rfl
theorem secR_at {l : List SecD} {i : Nat} (h : i < l.length) : (l.map secR)[i]? = some (secR (l.getD i default)) := by
 rw [List.getElem?_map, List.getElem?_eq_getElem h, List.getD_eq_getElem?_getD, List.getElem?_eq_getElem h]; rfl
theorem set_getD_self {α : Type} {l : List α} {i : Nat} {a d : α} (h : i < l.length) : (l.set i a).getD i d = a := by rw [List.getD_eq_getElem?_getD, List.getElem?_set_self h]; rfl
theorem num_is {b : List Int} {q : Int} (h : isF (hdsN b (mnH b)) q 1 = true) : (aget (numM b) q).isSome = true := by
 unfold isF at h
 simp only [Bool.and_eq_true, decide_eq_true_eq] at h
 rw [hdsN_len] at h
 rw [hdsN_get (by omega)] at h
 rw [secM_get, if_pos ⟨by omega, by omega, .inl h.2⟩]; rfl
set_option maxHeartbeats 8000000 in
theorem obj_relsY (n : Nat) (z : List AV) (b : List Int) (hB : Bytes b) (hf : frOk b) (tb : Int) (e5 m5 e6 m6 : Nat) (hs : Bool) (sg : List Int) (s5 s6 : Option AB) (j ep : Nat) (S : List SecD) (i : Nat) (hi : i < mnH b) (h8 : (shK b i).a1 = 4) (hS : S.length = (lnkM b (mnH b)).length) (hnil : isF (hdsN b (mnH b)) (shK b i).a7 1 = true → (∀ p, 0 < p → p < i → ¬ ((shK b p).a1 = 4 ∧ (shK b p).a7 = (shK b i).a7)) → (S.getD (secV b i) default).rels = []) (hpos : 0 < (shK b i).a5) : AC Tryz.prog 76 (Hn n (([some (.box 29 z), some (.map ((numM b).map (mE kI vI))), some (.box 88 [.rd 1 (bys b), .rd 10 ((hdsN b (mnH b)).map shA), .omap (n + 1), .v (.int .i64 (tb)), .own (n + 4) ep 0 S.length, .own (n + 5) e5 0 m5, .own (n + 6) e6 0 m6, .v (.bool hs), .rd 1 (sg.map iA)]), none, some (.row 104 9 ep (S.map secR)), s5, s6] ++ List.replicate j none) ++ [])) [.box (n + 2) 0, .v (.int .i64 ((i : Int)))] (fun r H' => (∃ x : Nat, relsOk b tb i ∧ r = .v (.bool true) ∧ H' = Hn n (([some (.box 29 z), some (.map ((numM b).map (mE kI vI))), some (.box 88 [.rd 1 (bys b), .rd 10 ((hdsN b (mnH b)).map shA), .omap (n + 1), .v (.int .i64 (tb)), .own (n + 4) ep 0 S.length, .own (n + 5) e5 0 m5, .own (n + 6) e6 0 m6, .v (.bool hs), .rd 1 (sg.map iA)]), none, some (.row 104 9 ep ((S.set (secV b i) ((S.getD (secV b i) default).rel (relL b i (relMany b i)))).map secR)), s5, s6] ++ List.replicate x none) ++ [])) ∨ (∃ X, ¬ relsOk b tb i ∧ r = .v (.bool false) ∧ H' = Hn n (some (.box 29 z) :: X))) := by
 have hmay := hf.1.2.1
 unfold HdD.may MayHd at hmay
 have hmn : ((mnH b : Nat) : Int) = (hdOf b).many := by unfold mnH; omega
 have hbl := hf.2.1
 have hok1 := hf.2.2.1 i hi
 have hsa := shK_all hok1
 have htk := tell_ok hok1
 have hge : (hdsN b (mnH b)).getD ((i : Int)).toNat default = shK b i := by rw [Int.toNat_natCast]; exact hdsN_get hi
 have htold := obj_told b (hdsN b (mnH b)) (i : Int) ⟨by omega, by rw [hdsN_len]; omega⟩ (by omega) (by rw [hge]; exact htk)
 rw [hge] at htold
 have hts := told_size htk (by omega)
 have htl2 := told_len b (shK b i)
 have hBt := told_bytes hB (shK b i)
 have hsl := (secM_len b (mnH b - 1)).1
 have hll := lnkM_len b (mnH b)
 refine AC.body 122 Tryz.func76 rfl rfl Tryz.ntmps76 fun base => ?_
 refine AW.seq' ?_
 refine AW.region ?_
 refine AO.c ?_
 refine AO.nil ?_
 refine SQ.normal ?_
 refine AW.seq' ?_
 refine AW.region ?_
 iterate 5 refine AO.c ?_
 refine AO.o (by rw [hdsN_len]; omega) ?_
 refine AO.c ?_
 refine AO.eq 19 (av' := .agg (shA (shK b i))) (by rw [hdsN_get hi]) ?_
 refine AO.ww ?_
 refine AO.sst ?_
 refine AO.nil ?_
 refine SQ.normal ?_
 refine AW.seq' ?_
 refine AW.drawsZ [] (.one 0 false (.one 1 false (.one 2 false (.one 3 false (.one 4 false (.one 5 false (.one 6 false (.one 7 false .nil)))))))) (by kernel_rfl) rfl (by kernel_rfl) ?_
 iterate 8 refine AZ.c rfl ?_
 refine AZ.done ?_
 refine SQ.normal ?_
 refine AW.seq' ?_
 refine AW.seq' ?_
 refine AW.drawsZ [] (.one 0 false (.one 1 false (.one 2 false (.one 3 false (.one 4 false (.one 5 false (.one 6 false (.one 7 false (.one 8 false (.one 9 false (.one 10 false (.one 11 false (.one 12 false (.one 13 false (.one 14 false (.one 15 false (.one 16 false (.one 17 false (.one 18 false (.one 19 false (.one 20 false (.one 21 false (.one 22 true (.one 23 false (.one 24 false (.one 25 false (.one 26 false (.one 27 false (.one 28 false .nil))))))))))))))))))))))))))))) (by kernel_rfl) rfl (by kernel_rfl) ?_
 iterate 4 refine AZ.c rfl ?_
 iterate 2 refine AZ.gx rfl ?_
 refine AZ.gxoo rfl ?_
 refine AZ.gx rfl ?_
 iterate 2 refine AZ.c rfl ?_
 iterate 7 refine AZ.gx rfl ?_
 iterate 2 refine AZ.c rfl ?_
 iterate 3 refine AZ.gx rfl ?_
 refine AZ.gxcallB [.rd 1 (bys b), .rd 10 ((hdsN b (mnH b)).map shA)] rfl Tryz.func70 rfl rfl (fun hgd => obj_is b (hdsN b (mnH b)) (shK b i).a7 1 (by rw [hdsN_len]; omega)) ⟨_, rfl⟩ rfl ?_
 refine AZ.gx rfl ?_
 iterate 2 refine AZ.c rfl ?_
 iterate 2 refine AZ.gx rfl ?_
 refine AZ.c rfl ?_
 refine AZ.done ?_
 refine SQ.normal ?_
 refine AW.iteB (GL.ev _) (fun h0 => ?_) (fun h0 => ?_)
 ·
  have hno : ¬ relsOk b tb i := fun h => by
   obtain ⟨g1, g2, g3, g4, _⟩ := h
   have h7 := num_is g4
   obtain ⟨v, hv⟩ := Option.isSome_iff_exists.1 h7
   have hvr := num_rng hv
   rw [g1, g3, g4, hv] at h0
   simp at h0
   omega
  refine AW.seq' ?_
  refine AW.region ?_
  refine AO.c ?_
  refine AO.nil ?_
  refine SQ.normal ?_
  refine AW.ret ?_
  refine SQ.ret ?_
  exact FinC.ret Gh.refl (.inr ⟨_, hno, rfl, rfl⟩) (.inr rfl)
 ·
  have h0f : (shK b i).a9 = 24 ∧ (shK b i).a5 % 24 = 0 ∧ (shK b i).a6 = tb ∧ isF (hdsN b (mnH b)) (shK b i).a7 1 = true := by
   simp only [Bool.or_eq_false_iff, Bool.not_eq_false', decide_eq_false_iff_not, Decidable.not_not] at h0
   exact ⟨h0.1.1.1.1, h0.1.1.1.2, h0.1.1.2, h0.1.2⟩
  obtain ⟨v, hv⟩ := Option.isSome_iff_exists.1 (num_is h0f.2.2.2)
  have hvr := num_rng hv
  have hvd : numF b (shK b i).a7 = v := by unfold numF; rw [hv]; rfl
  have hvl : secV b i < S.length := by unfold secV; omega
  have hvg : (aget (numM b) (shK b i).a7).getD 0 = v := hvd
  rw [hvg]
  have hix : 0 + (v - 1).toNat = secV b i := by unfold secV; rw [hvd]; exact Nat.zero_add _
  refine AW.skip ?_
  refine SQ.normal ?_
  refine AW.seq' ?_
  refine AW.seq' ?_
  refine AW.region ?_
  iterate 5 refine AO.c ?_
  refine AO.o (by simp [hdsN_len]; omega) ?_
  refine AO.eq 61 (av' := .rd 10 (((hdsN b (mnH b)).take i).map shA)) (by show AV.rd 10 (List.drop 0 (List.take ((i : Int)).toNat _)) = _; rw [Int.toNat_natCast, List.drop_zero, List.map_take]) ?_
  refine AO.c ?_
  refine AO.eq 62 (av' := .v (.int .i64 i)) (by rw [List.length_take, hdsN_len]; congr 2; omega) ?_
  refine AO.c ?_
  refine AO.nil ?_
  refine SQ.normal ?_
  refine AW.block' ?_
  refine AW.loopU [.k, .k, .f, .f, .f, .k, .k, .F, .F, .F, .F, .F, .F, .f, .f, .f, .f, .f, .f, .k, .k, .k, .F, .F, .F, .F, .F, .F, .F, .f, .f] (fun (q : Nat) => [(63, .v (.int .i64 (q)))]) (fun q => Hn n ((([some (.box 29 z), some (.map ((numM b).map (mE kI vI))), some (.box 88 [.rd 1 (bys b), .rd 10 ((hdsN b (mnH b)).map shA), .omap (n + 1), .v (.int .i64 (tb)), .own (n + 4) ep 0 S.length, .own (n + 5) e5 0 m5, .own (n + 6) e6 0 m6, .v (.bool hs), .rd 1 (sg.map iA)]), none, some (.row 104 9 ep (S.map secR)), s5, s6] ++ List.replicate j none ++ [some (.box 157 (shA (shK b i)))]) ++ List.replicate q none) ++ [])) (fun m q => (q ≤ i ∧ m = i - q) ∧ ∀ p, 0 < p → p < q → ¬ ((shK b p).a1 = 4 ∧ (shK b p).a7 = (shK b i).a7)) (i) (0) ⟨by omega, fun p h1 h2 => by omega⟩ (by first | rfl | (simp; done)) (by first | rfl | (simp; done)) ?_
  rintro m0 q ⟨hx1, hx2⟩
  refine AW.seq' ?_
  refine AW.region ?_
  refine AO.c ?_
  refine AO.nil ?_
  refine SQ.normal ?_
  refine AW.seq' ?_
  refine AW.iteB (GL.ev _) (fun h1 => ?_) (fun h1 => ?_)
  ·
   rw [decide_eq_true_eq] at h1
   have hq : q < i := by omega
   refine AW.skip ?_
   refine SQ.normal ?_
   refine AW.seq' ?_
   refine AW.block' ?_
   refine AW.seq' ?_
   refine AW.region ?_
   refine AO.c ?_
   refine AO.o (by rw [List.length_take, hdsN_len]; omega) ?_
   refine AO.c ?_
   refine AO.eq 67 (av' := .agg (shA (shK b q))) (by rw [take_getD hq, hdsN_get (by omega)]) ?_
   refine AO.ww ?_
   refine AO.c ?_
   refine AO.sst ?_
   refine AO.nil ?_
   refine SQ.normal ?_
   refine AW.seq' ?_
   refine AW.region ?_
   iterate 3 refine AO.c ?_
   iterate 3 refine AO.gx ?_
   iterate 2 refine AO.c ?_
   iterate 5 refine AO.gx ?_
   refine AO.c ?_
   refine AO.nil ?_
   refine SQ.normal ?_
   refine AW.iteB (GL.ev _) (fun h2 => ?_) (fun h2 => ?_)
   ·
    simp only [Bool.and_eq_true, decide_eq_true_eq] at h2
    have hno : ¬ relsOk b tb i := fun h => h.2.2.2.2.1 q (by omega) hq ⟨by omega, h2.2⟩
    refine AW.seq' ?_
    refine AW.region ?_
    refine AO.c ?_
    refine AO.nil ?_
    refine SQ.normal ?_
    refine AW.ret ?_
    refine BQ.ret <| SQ.ret <| AW.out <| LU.ret <| BQ.ret <| SQ.ret ?_
    exact FinC.ret Gh.refl (.inr ⟨_, hno, rfl, rfl⟩) (.inr rfl)
   ·
    have hal : ∀ p, 0 < p → p < q + 1 → ¬ ((shK b p).a1 = 4 ∧ (shK b p).a7 = (shK b i).a7) := fun p p1 p2 => by
     by_cases e : p = q
     · subst e
       simp only [Bool.and_eq_false_iff, decide_eq_false_iff_not] at h2
       rintro ⟨c1, c2⟩
       rcases h2 with (h2 | h2) | h2
       · omega
       · exact h2 c1
       · exact h2 c2
     · exact hx2 p p1 (by omega)
    refine AW.skip ?_
    refine BQ.normal ?_
    refine SQ.normal ?_
    refine AW.region ?_
    refine AO.oo ?_
    refine AO.c ?_
    refine AO.nil ?_
    exact AW.backE [.k, .k, .f, .f, .f, .k, .k, .F, .F, .F, .F, .F, .F, .f, .f, .f, .f, .f, .f, .k, .k, .k, .F, .F, .F, .F, .F, .F, .F, .f, .f] (q) (m0 - 1) (q + 1) (by omega) (by (try dsimp only); exact ⟨by omega, hal⟩) (by first | rfl | (simp; done)) (by first | rfl | (simp; done))
  ·
   rw [decide_eq_false_iff_not] at h1
   have hq : i = q := by omega
   subst hq
   refine AW.exit ?_
   refine SQ.exit <| AW.out <| LU.exit <| BQ.exit ?_
   refine SQ.normal ?_
   refine AW.seq' ?_
   refine AW.region ?_
   iterate 2 refine AO.c ?_
   refine AO.callB [.rd 1 (bys b), .rd 10 ((hdsN b (mnH b)).map shA)] Tryz.func72 rfl rfl htold ⟨_, rfl⟩ rfl ?_
   refine AO.c ?_
   refine AO.nil ?_
   refine SQ.normal ?_
   refine AW.seq' ?_
   refine AW.seq' ?_
   refine AW.region ?_
   refine AO.c ?_
   refine AO.nil ?_
   refine SQ.normal ?_
   refine AW.block' ?_
   refine AW.ghost (Gh.adoptR 4 (secV b i) 8 131 4 (secR_at hvl) (by show (secP _ (relC (S.getD (secV b i) default).rels))[8]? = _; rw [hnil h0f.2.2.2 hx2]; rfl) (rows2 := (S.map secR).set (secV b i) (secP (S.getD (secV b i) default) (.own (n + (zadd (zadd (zadd (zadd (0 + 1 + 1 + 1 + 1 + 1 + 1 + 1) j) (0 + 1)) i) 0)) (0) 0 (0)))) rfl) ?_
   refine AW.loopU2 [.k, .f, .f, .f, .f, .f, .k, .f, .f, .k, .k, .F, .F, .F, .F, .F, .F, .F, .F, .F, .F, .F, .F, .F, .f, .f, .f, .f, .f, .f, .f] (fun (k e8 : Nat) => [(10, .v (.int .i64 (24 * (k : Int))))]) (fun k e8 => Hn n (((([some (.box 29 z), some (.map ((numM b).map (mE kI vI))), some (.box 88 [.rd 1 (bys b), .rd 10 ((hdsN b (mnH b)).map shA), .omap (n + 1), .v (.int .i64 (tb)), .own (n + 4) ep 0 S.length, .own (n + 5) e5 0 m5, .own (n + 6) e6 0 m6, .v (.bool hs), .rd 1 (sg.map iA)]), none, some (.row 104 9 ep ((S.map secR).set (secV b i) (secP (S.getD (secV b i) default) (.own (n + (zadd (zadd (zadd (zadd (0 + 1 + 1 + 1 + 1 + 1 + 1 + 1) j) (0 + 1)) i) 0)) (e8) 0 (k))))), s5, s6] ++ List.replicate j none ++ [some (.box 157 (shA (shK b i)))]) ++ List.replicate i none) ++ [some (.row 131 4 e8 ((relL b i k).map relA))]) ++ List.replicate k none ++ [])) (fun m k e8 => (k ≤ relMany b i ∧ m = relMany b i - k) ∧ ∀ p, p < k → RelOk (toldF b (shK b i)) (24 * (p : Nat))) (relMany b i) (0) (0) ⟨by omega, fun p h => by omega⟩ (by first | rfl | (simp; done)) (by simp [relL]) ?_
   rintro m1 k e8 ⟨hy1, hy2⟩
   refine AW.seq' ?_
   refine AW.seq' ?_
   refine AW.region ?_
   iterate 4 refine AO.c ?_
   refine AO.nil ?_
   refine SQ.normal ?_
   refine AW.iteB (GL.ev _) (fun h3 => ?_) (fun h3 => ?_)
   ·
    rw [decide_eq_true_eq] at h3
    have hk : k < relMany b i := by unfold relMany; omega
    have hrl := relL_len b i k
    refine AW.skip ?_
    refine SQ.normal ?_
    refine AW.seq' ?_
    refine AW.block' ?_
    refine AW.seq' ?_
    refine AW.region ?_
    iterate 2 refine AO.c ?_
    refine AO.call1 Tryz.func117 rfl rfl (rela_Get (toldF b (shK b i)) (24 * (k : Int)) hBt (by omega) (by unfold I64; omega)) ?_
    iterate 3 refine AO.c ?_
    refine AO.ww ?_
    refine AO.sst ?_
    refine AO.c ?_
    refine AO.nil ?_
    refine SQ.normal ?_
    refine AW.seq' ?_
    refine AW.seq' ?_
    refine AW.region ?_
    iterate 2 refine AO.c ?_
    refine AO.nil ?_
    refine SQ.normal ?_
    refine AW.iteB (GL.ev _) (fun h4 => ?_) (fun h4 => ?_)
    ·
     have hno : ¬ relsOk b tb i := fun h => by
      have q := h.2.2.2.2.2 k hk
      rw [decide_eq_true q] at h4; cases h4
     refine AW.seq' ?_
     refine AW.region ?_
     refine AO.c ?_
     refine AO.nil ?_
     refine SQ.normal ?_
     refine AW.ret ?_
     refine SQ.ret <| BQ.ret <| SQ.ret <| AW.out <| LU.ret <| BQ.ret <| SQ.ret ?_
     exact FinC.ret Gh.refl (.inr ⟨_, hno, rfl, rfl⟩) (.inr rfl)
    ·
     have hok : RelOk (toldF b (shK b i)) (24 * (k : Int)) := by simpa using h4
     simp only [if_pos hok]
     have hal2 : ∀ p, p < k + 1 → RelOk (toldF b (shK b i)) (24 * (p : Nat)) := fun p hp => by
      by_cases e : p = k
      · subst e; exact hok
      · exact hy2 p (by omega)
     refine AW.skip ?_
     refine SQ.normal ?_
     apply AW.mid
     case h =>
      refine AW.drawsZ [19, 22] (.one 7 false (.one 8 false (.one 9 false (.one 10 false (.one 11 false (.one 12 false (.pur 13 (.pur 14 (.one 15 false (.one 16 false (.one 17 false (.pur 0 (.pur 1 (.pur 2 (.pur 3 (.pur 5 (.pur 6 (.two 4 18 (.one 18 true (.one 19 true (.pur 20 (.one 21 false (.one 22 true .nil))))) (.two 4 19 (.one 19 true (.pur 20 (.one 21 false (.one 22 true .nil)))) (.one 4 false (.pur 20 (.one 21 false (.one 22 true .nil))))))))))))))))))))))) (by kernel_rfl) rfl (by kernel_rfl) ?_
      iterate 6 refine AZ.c rfl ?_
      refine AZ.po rfl (by omega) ?_
      refine AZ.po rfl (by omega) ?_
      refine AZ.c rfl ?_
      refine AZ.ldR1 (secP (S.getD (secV b i) default) (.own (n + (zadd (zadd (zadd (zadd (0 + 1 + 1 + 1 + 1 + 1 + 1 + 1) j) (0 + 1)) i) 0)) (e8) 0 (k))) (.own (n + (zadd (zadd (zadd (zadd (0 + 1 + 1 + 1 + 1 + 1 + 1 + 1) j) (0 + 1)) i) 0)) (e8) 0 (k)) rfl (by rw [hix]; exact List.getElem?_set_self (by rw [List.length_map]; omega)) rfl ?_
      refine AZ.c rfl ?_
      iterate 5 refine AZ.p rfl ?_
      refine AZ.po rfl (by omega) ?_
      refine AZ.two ?_ ?_
      · refine AZi.c rfl ?_
        refine AZ.rr rfl ?_
        refine AZ.ww rfl rfl ?_
        refine AZ.po rfl (by omega) ?_
        refine AZ.c rfl ?_
        refine AZ.stR ((S.map secR).set (secV b i) (secP (S.getD (secV b i) default) (.own (n + (zadd (zadd (zadd (zadd (0 + 1 + 1 + 1 + 1 + 1 + 1 + 1) j) (0 + 1)) i) 0)) (e8 + 1) 0 (k + 1)))) rfl rfl (by rw [List.length_set, List.length_map, hix]; omega) ?_ ?_
        · rw [hix, set_getD_self (by rw [List.length_map]; omega), List.set_set]; rfl
        exact AZ.done ⟨rfl, rfl⟩
      · refine AZi.rr rfl ?_
        refine AZ.two ?_ ?_
        · refine AZi.c rfl ?_
          refine AZ.ww rfl rfl ?_
          refine AZ.po rfl (by omega) ?_
          refine AZ.c rfl ?_
          refine AZ.stR ((S.map secR).set (secV b i) (secP (S.getD (secV b i) default) (.own (n + (zadd (zadd (zadd (zadd (0 + 1 + 1 + 1 + 1 + 1 + 1 + 1) j) (0 + 1)) i) 0)) (e8 + 1) 0 (k + 1)))) rfl rfl (by rw [List.length_set, List.length_map, hix]; omega) ?_ ?_
          · rw [hix, set_getD_self (by rw [List.length_map]; omega), List.set_set]; rfl
          exact AZ.done ⟨rfl, rfl⟩
        · refine AZi.ww rfl rfl ?_
          refine AZ.c rfl ?_
          refine AZ.po rfl (by omega) ?_
          refine AZ.c rfl ?_
          refine AZ.stR ((S.map secR).set (secV b i) (secP (S.getD (secV b i) default) (.own (n + (zadd (zadd (zadd (zadd (0 + 1 + 1 + 1 + 1 + 1 + 1 + 1) j) (0 + 1)) i) 0)) (e8 + 1) 0 (k + 1)))) rfl rfl (by rw [List.length_set, List.length_map, hix]; omega) ?_ ?_
          · rw [hix, set_getD_self (by rw [List.length_map]; omega), List.set_set]; rfl
          exact AZ.done ⟨rfl, rfl⟩
     refine BQ.normal ?_
     refine SQ.normal ?_
     refine AW.region ?_
     refine AO.c ?_
     refine AO.oo ?_
     refine AO.c ?_
     refine AO.nil ?_
     exact AW.backE [.k, .f, .f, .f, .f, .f, .k, .f, .f, .k, .k, .F, .F, .F, .F, .F, .F, .F, .F, .F, .F, .F, .F, .F, .f, .f, .f, .f, .f, .f, .f] (k) (m1 - 1) (k + 1, e8 + 1) (by omega) (by (try dsimp only); exact ⟨by omega, hal2⟩) (by first | rfl | (simp; done)) (by rw [relL_succ, List.map_append]; simp [relK])
   ·
    rw [decide_eq_false_iff_not] at h3
    have hk : k = relMany b i := by unfold relMany at *; omega
    subst hk
    refine AW.exit ?_
    refine SQ.exit <| AW.out <| LU.exit <| BQ.exit ?_
    refine SQ.normal ?_
    refine AW.seq' ?_
    have hyes : relsOk b tb i := ⟨h0f.1, h0f.2.1, h0f.2.2.1, h0f.2.2.2, hx2, hy2⟩
    have hln := relL_len b i (relMany b i)
    have hne : relL b i (relMany b i) ≠ [] := fun e => by rw [e] at hln; unfold relMany at hln; simp at hln; omega
    refine AW.ghost (Gh.freezeR 4 (zadd (zadd (zadd (zadd (0 + 1 + 1 + 1 + 1 + 1 + 1 + 1) j) (0 + 1)) i) 0) (secV b i) 8 (List.getElem?_set_self (by rw [List.length_map]; omega)) rfl (rows2 := (S.set (secV b i) ((S.getD (secV b i) default).rel (relL b i (relMany b i)))).map secR) (rel_set hne) (by rw [List.length_map, hln]) (by rw [List.length_map, hln]; unfold relMany; omega) (by simp only [zadd]; omega)) ?_
    refine AW.region ?_
    refine AO.c ?_
    refine AO.nil ?_
    refine SQ.normal ?_
    refine AW.ret ?_
    refine FinC.eqH (H' := Hn n ([some (.box 29 z), some (.map ((numM b).map (mE kI vI))), some (.box 88 [.rd 1 (bys b), .rd 10 ((hdsN b (mnH b)).map shA), .omap (n + 1), .v (.int .i64 (tb)), .own (n + 4) ep 0 S.length, .own (n + 5) e5 0 m5, .own (n + 6) e6 0 m6, .v (.bool hs), .rd 1 (sg.map iA)]), none, some (.row 104 9 ep ((S.set (secV b i) ((S.getD (secV b i) default).rel (relL b i (relMany b i)))).map secR)), s5, s6] ++ (List.replicate j none ++ [some (.box 157 (shA (shK b i)))] ++ List.replicate i none ++ [none] ++ List.replicate (relMany b i) none))) (by simp) ?_
    exact FinC.ret Gh.dropT (.inl ⟨(List.replicate j none ++ [some (.box 157 (shA (shK b i)))] ++ List.replicate i none ++ [none] ++ List.replicate (relMany b i) none : List (Option AB)).length, hyes, rfl, by rw [List.append_nil]⟩) (.inr rfl)
set_option maxHeartbeats 8000000 in
theorem obj_relsZ (n : Nat) (z : List AV) (b : List Int) (hB : Bytes b) (hf : frOk b) (tb : Int) (e5 m5 e6 m6 : Nat) (hs : Bool) (sg : List Int) (s5 s6 : Option AB) (j ep : Nat) (S : List SecD) (i : Nat) (hi : i < mnH b) (h8 : (shK b i).a1 = 4) (hS : S.length = (lnkM b (mnH b)).length) (hnil : isF (hdsN b (mnH b)) (shK b i).a7 1 = true → (∀ p, 0 < p → p < i → ¬ ((shK b p).a1 = 4 ∧ (shK b p).a7 = (shK b i).a7)) → (S.getD (secV b i) default).rels = []) (hpos : (shK b i).a5 = 0) : AC Tryz.prog 76 (Hn n (([some (.box 29 z), some (.map ((numM b).map (mE kI vI))), some (.box 88 [.rd 1 (bys b), .rd 10 ((hdsN b (mnH b)).map shA), .omap (n + 1), .v (.int .i64 (tb)), .own (n + 4) ep 0 S.length, .own (n + 5) e5 0 m5, .own (n + 6) e6 0 m6, .v (.bool hs), .rd 1 (sg.map iA)]), none, some (.row 104 9 ep (S.map secR)), s5, s6] ++ List.replicate j none) ++ [])) [.box (n + 2) 0, .v (.int .i64 ((i : Int)))] (fun r H' => (∃ x : Nat, relsOk b tb i ∧ r = .v (.bool true) ∧ H' = Hn n (([some (.box 29 z), some (.map ((numM b).map (mE kI vI))), some (.box 88 [.rd 1 (bys b), .rd 10 ((hdsN b (mnH b)).map shA), .omap (n + 1), .v (.int .i64 (tb)), .own (n + 4) ep 0 S.length, .own (n + 5) e5 0 m5, .own (n + 6) e6 0 m6, .v (.bool hs), .rd 1 (sg.map iA)]), none, some (.row 104 9 ep ((S.set (secV b i) ((S.getD (secV b i) default).rel (relL b i (relMany b i)))).map secR)), s5, s6] ++ List.replicate x none) ++ [])) ∨ (∃ X, ¬ relsOk b tb i ∧ r = .v (.bool false) ∧ H' = Hn n (some (.box 29 z) :: X))) := by
 have hmay := hf.1.2.1
 unfold HdD.may MayHd at hmay
 have hmn : ((mnH b : Nat) : Int) = (hdOf b).many := by unfold mnH; omega
 have hbl := hf.2.1
 have hok1 := hf.2.2.1 i hi
 have hsa := shK_all hok1
 have htk := tell_ok hok1
 have hge : (hdsN b (mnH b)).getD ((i : Int)).toNat default = shK b i := by rw [Int.toNat_natCast]; exact hdsN_get hi
 have htold := obj_told b (hdsN b (mnH b)) (i : Int) ⟨by omega, by rw [hdsN_len]; omega⟩ (by omega) (by rw [hge]; exact htk)
 rw [hge] at htold
 have hts := told_size htk (by omega)
 have htl2 := told_len b (shK b i)
 have hBt := told_bytes hB (shK b i)
 have hsl := (secM_len b (mnH b - 1)).1
 have hll := lnkM_len b (mnH b)
 refine AC.body 122 Tryz.func76 rfl rfl Tryz.ntmps76 fun base => ?_
 refine AW.seq' ?_
 refine AW.region ?_
 refine AO.c ?_
 refine AO.nil ?_
 refine SQ.normal ?_
 refine AW.seq' ?_
 refine AW.region ?_
 iterate 5 refine AO.c ?_
 refine AO.o (by rw [hdsN_len]; omega) ?_
 refine AO.c ?_
 refine AO.eq 19 (av' := .agg (shA (shK b i))) (by rw [hdsN_get hi]) ?_
 refine AO.ww ?_
 refine AO.sst ?_
 refine AO.nil ?_
 refine SQ.normal ?_
 refine AW.seq' ?_
 refine AW.drawsZ [] (.one 0 false (.one 1 false (.one 2 false (.one 3 false (.one 4 false (.one 5 false (.one 6 false (.one 7 false .nil)))))))) (by kernel_rfl) rfl (by kernel_rfl) ?_
 iterate 8 refine AZ.c rfl ?_
 refine AZ.done ?_
 refine SQ.normal ?_
 refine AW.seq' ?_
 refine AW.seq' ?_
 refine AW.drawsZ [] (.one 0 false (.one 1 false (.one 2 false (.one 3 false (.one 4 false (.one 5 false (.one 6 false (.one 7 false (.one 8 false (.one 9 false (.one 10 false (.one 11 false (.one 12 false (.one 13 false (.one 14 false (.one 15 false (.one 16 false (.one 17 false (.one 18 false (.one 19 false (.one 20 false (.one 21 false (.one 22 true (.one 23 false (.one 24 false (.one 25 false (.one 26 false (.one 27 false (.one 28 false .nil))))))))))))))))))))))))))))) (by kernel_rfl) rfl (by kernel_rfl) ?_
 iterate 4 refine AZ.c rfl ?_
 iterate 2 refine AZ.gx rfl ?_
 refine AZ.gxoo rfl ?_
 refine AZ.gx rfl ?_
 iterate 2 refine AZ.c rfl ?_
 iterate 7 refine AZ.gx rfl ?_
 iterate 2 refine AZ.c rfl ?_
 iterate 3 refine AZ.gx rfl ?_
 refine AZ.gxcallB [.rd 1 (bys b), .rd 10 ((hdsN b (mnH b)).map shA)] rfl Tryz.func70 rfl rfl (fun hgd => obj_is b (hdsN b (mnH b)) (shK b i).a7 1 (by rw [hdsN_len]; omega)) ⟨_, rfl⟩ rfl ?_
 refine AZ.gx rfl ?_
 iterate 2 refine AZ.c rfl ?_
 iterate 2 refine AZ.gx rfl ?_
 refine AZ.c rfl ?_
 refine AZ.done ?_
 refine SQ.normal ?_
 refine AW.iteB (GL.ev _) (fun h0 => ?_) (fun h0 => ?_)
 ·
  have hno : ¬ relsOk b tb i := fun h => by
   obtain ⟨g1, g2, g3, g4, _⟩ := h
   have h7 := num_is g4
   obtain ⟨v, hv⟩ := Option.isSome_iff_exists.1 h7
   have hvr := num_rng hv
   rw [g1, g3, g4, hv] at h0
   simp at h0
   omega
  refine AW.seq' ?_
  refine AW.region ?_
  refine AO.c ?_
  refine AO.nil ?_
  refine SQ.normal ?_
  refine AW.ret ?_
  refine SQ.ret ?_
  exact FinC.ret Gh.refl (.inr ⟨_, hno, rfl, rfl⟩) (.inr rfl)
 ·
  have h0f : (shK b i).a9 = 24 ∧ (shK b i).a5 % 24 = 0 ∧ (shK b i).a6 = tb ∧ isF (hdsN b (mnH b)) (shK b i).a7 1 = true := by
   simp only [Bool.or_eq_false_iff, Bool.not_eq_false', decide_eq_false_iff_not, Decidable.not_not] at h0
   exact ⟨h0.1.1.1.1, h0.1.1.1.2, h0.1.1.2, h0.1.2⟩
  obtain ⟨v, hv⟩ := Option.isSome_iff_exists.1 (num_is h0f.2.2.2)
  have hvr := num_rng hv
  have hvd : numF b (shK b i).a7 = v := by unfold numF; rw [hv]; rfl
  have hvl : secV b i < S.length := by unfold secV; omega
  have hvg : (aget (numM b) (shK b i).a7).getD 0 = v := hvd
  rw [hvg]
  have hix : 0 + (v - 1).toNat = secV b i := by unfold secV; rw [hvd]; exact Nat.zero_add _
  refine AW.skip ?_
  refine SQ.normal ?_
  refine AW.seq' ?_
  refine AW.seq' ?_
  refine AW.region ?_
  iterate 5 refine AO.c ?_
  refine AO.o (by simp [hdsN_len]; omega) ?_
  refine AO.eq 61 (av' := .rd 10 (((hdsN b (mnH b)).take i).map shA)) (by show AV.rd 10 (List.drop 0 (List.take ((i : Int)).toNat _)) = _; rw [Int.toNat_natCast, List.drop_zero, List.map_take]) ?_
  refine AO.c ?_
  refine AO.eq 62 (av' := .v (.int .i64 i)) (by rw [List.length_take, hdsN_len]; congr 2; omega) ?_
  refine AO.c ?_
  refine AO.nil ?_
  refine SQ.normal ?_
  refine AW.block' ?_
  refine AW.loopU [.k, .k, .f, .f, .f, .k, .k, .F, .F, .F, .F, .F, .F, .f, .f, .f, .f, .f, .f, .k, .k, .k, .F, .F, .F, .F, .F, .F, .F, .f, .f] (fun (q : Nat) => [(63, .v (.int .i64 (q)))]) (fun q => Hn n ((([some (.box 29 z), some (.map ((numM b).map (mE kI vI))), some (.box 88 [.rd 1 (bys b), .rd 10 ((hdsN b (mnH b)).map shA), .omap (n + 1), .v (.int .i64 (tb)), .own (n + 4) ep 0 S.length, .own (n + 5) e5 0 m5, .own (n + 6) e6 0 m6, .v (.bool hs), .rd 1 (sg.map iA)]), none, some (.row 104 9 ep (S.map secR)), s5, s6] ++ List.replicate j none ++ [some (.box 157 (shA (shK b i)))]) ++ List.replicate q none) ++ [])) (fun m q => (q ≤ i ∧ m = i - q) ∧ ∀ p, 0 < p → p < q → ¬ ((shK b p).a1 = 4 ∧ (shK b p).a7 = (shK b i).a7)) (i) (0) ⟨by omega, fun p h1 h2 => by omega⟩ (by first | rfl | (simp; done)) (by first | rfl | (simp; done)) ?_
  rintro m0 q ⟨hx1, hx2⟩
  refine AW.seq' ?_
  refine AW.region ?_
  refine AO.c ?_
  refine AO.nil ?_
  refine SQ.normal ?_
  refine AW.seq' ?_
  refine AW.iteB (GL.ev _) (fun h1 => ?_) (fun h1 => ?_)
  ·
   rw [decide_eq_true_eq] at h1
   have hq : q < i := by omega
   refine AW.skip ?_
   refine SQ.normal ?_
   refine AW.seq' ?_
   refine AW.block' ?_
   refine AW.seq' ?_
   refine AW.region ?_
   refine AO.c ?_
   refine AO.o (by rw [List.length_take, hdsN_len]; omega) ?_
   refine AO.c ?_
   refine AO.eq 67 (av' := .agg (shA (shK b q))) (by rw [take_getD hq, hdsN_get (by omega)]) ?_
   refine AO.ww ?_
   refine AO.c ?_
   refine AO.sst ?_
   refine AO.nil ?_
   refine SQ.normal ?_
   refine AW.seq' ?_
   refine AW.region ?_
   iterate 3 refine AO.c ?_
   iterate 3 refine AO.gx ?_
   iterate 2 refine AO.c ?_
   iterate 5 refine AO.gx ?_
   refine AO.c ?_
   refine AO.nil ?_
   refine SQ.normal ?_
   refine AW.iteB (GL.ev _) (fun h2 => ?_) (fun h2 => ?_)
   ·
    simp only [Bool.and_eq_true, decide_eq_true_eq] at h2
    have hno : ¬ relsOk b tb i := fun h => h.2.2.2.2.1 q (by omega) hq ⟨by omega, h2.2⟩
    refine AW.seq' ?_
    refine AW.region ?_
    refine AO.c ?_
    refine AO.nil ?_
    refine SQ.normal ?_
    refine AW.ret ?_
    refine BQ.ret <| SQ.ret <| AW.out <| LU.ret <| BQ.ret <| SQ.ret ?_
    exact FinC.ret Gh.refl (.inr ⟨_, hno, rfl, rfl⟩) (.inr rfl)
   ·
    have hal : ∀ p, 0 < p → p < q + 1 → ¬ ((shK b p).a1 = 4 ∧ (shK b p).a7 = (shK b i).a7) := fun p p1 p2 => by
     by_cases e : p = q
     · subst e
       simp only [Bool.and_eq_false_iff, decide_eq_false_iff_not] at h2
       rintro ⟨c1, c2⟩
       rcases h2 with (h2 | h2) | h2
       · omega
       · exact h2 c1
       · exact h2 c2
     · exact hx2 p p1 (by omega)
    refine AW.skip ?_
    refine BQ.normal ?_
    refine SQ.normal ?_
    refine AW.region ?_
    refine AO.oo ?_
    refine AO.c ?_
    refine AO.nil ?_
    exact AW.backE [.k, .k, .f, .f, .f, .k, .k, .F, .F, .F, .F, .F, .F, .f, .f, .f, .f, .f, .f, .k, .k, .k, .F, .F, .F, .F, .F, .F, .F, .f, .f] (q) (m0 - 1) (q + 1) (by omega) (by (try dsimp only); exact ⟨by omega, hal⟩) (by first | rfl | (simp; done)) (by first | rfl | (simp; done))
  ·
   rw [decide_eq_false_iff_not] at h1
   have hq : i = q := by omega
   subst hq
   refine AW.exit ?_
   refine SQ.exit <| AW.out <| LU.exit <| BQ.exit ?_
   refine SQ.normal ?_
   refine AW.seq' ?_
   refine AW.region ?_
   iterate 2 refine AO.c ?_
   refine AO.callB [.rd 1 (bys b), .rd 10 ((hdsN b (mnH b)).map shA)] Tryz.func72 rfl rfl htold ⟨_, rfl⟩ rfl ?_
   refine AO.c ?_
   refine AO.nil ?_
   refine SQ.normal ?_
   refine AW.seq' ?_
   refine AW.seq' ?_
   refine AW.region ?_
   refine AO.c ?_
   refine AO.nil ?_
   refine SQ.normal ?_
   refine AW.block' ?_
   refine AW.loopU [.k, .f, .f, .f, .f, .f, .k, .f, .f, .k, .k, .F, .F, .F, .F, .F, .F, .F, .F, .F, .F, .F, .F, .F, .f, .f, .f, .f, .f, .f, .f] (fun (k : Nat) => [(10, .v (.int .i64 (24 * (k : Int))))]) (fun k => Hn n (((([some (.box 29 z), some (.map ((numM b).map (mE kI vI))), some (.box 88 [.rd 1 (bys b), .rd 10 ((hdsN b (mnH b)).map shA), .omap (n + 1), .v (.int .i64 (tb)), .own (n + 4) ep 0 S.length, .own (n + 5) e5 0 m5, .own (n + 6) e6 0 m6, .v (.bool hs), .rd 1 (sg.map iA)]), none, some (.row 104 9 ep (S.map secR)), s5, s6] ++ List.replicate j none ++ [some (.box 157 (shA (shK b i)))]) ++ List.replicate i none)) ++ [])) (fun m k => k = 0 ∧ m = 0 ∧ ∀ p, p < relMany b i → RelOk (toldF b (shK b i)) (24 * (p : Nat))) (0) (0) ⟨rfl, rfl, fun p h => by unfold relMany at h; rw [hpos] at h; simp at h⟩ (by first | rfl | (simp; done)) (by simp) ?_
   rintro m1 k ⟨hy1, hy0, hy2⟩
   refine AW.seq' ?_
   refine AW.seq' ?_
   refine AW.region ?_
   iterate 4 refine AO.c ?_
   refine AO.nil ?_
   refine SQ.normal ?_
   refine AW.iteB (GL.ev _) (fun h3 => ?_) (fun h3 => ?_)
   ·
    exfalso
    rw [decide_eq_true_eq] at h3
    omega
   ·
    skip
    refine AW.exit ?_
    refine SQ.exit <| AW.out <| LU.exit <| BQ.exit ?_
    refine SQ.normal ?_
    refine AW.seq' ?_
    have hyes : relsOk b tb i := ⟨h0f.1, h0f.2.1, h0f.2.2.1, h0f.2.2.2, hx2, hy2⟩
    have hmz : relMany b i = 0 := by unfold relMany; rw [hpos]; rfl
    have hse : S.set (secV b i) ((S.getD (secV b i) default).rel (relL b i (relMany b i))) = S := by rw [hmz]; exact rel_nil hvl (hnil h0f.2.2.2 hx2)
    refine AW.region ?_
    refine AO.c ?_
    refine AO.nil ?_
    refine SQ.normal ?_
    refine AW.ret ?_
    refine FinC.eqH (H' := Hn n ([some (.box 29 z), some (.map ((numM b).map (mE kI vI))), some (.box 88 [.rd 1 (bys b), .rd 10 ((hdsN b (mnH b)).map shA), .omap (n + 1), .v (.int .i64 (tb)), .own (n + 4) ep 0 S.length, .own (n + 5) e5 0 m5, .own (n + 6) e6 0 m6, .v (.bool hs), .rd 1 (sg.map iA)]), none, some (.row 104 9 ep (S.map secR)), s5, s6] ++ (List.replicate j none ++ [some (.box 157 (shA (shK b i)))] ++ List.replicate i none))) (by simp) ?_
    exact FinC.ret Gh.dropT (.inl ⟨(List.replicate j none ++ [some (.box 157 (shA (shK b i)))] ++ List.replicate i none : List (Option AB)).length, hyes, rfl, by rw [List.append_nil, hse]⟩) (.inr rfl)
end Go.Proofs.YtdniaamhbfadnaaGreat.AL
namespace Go.Proofs.YtdniaamhbfadnaaGreat.AL
open Go Go.RowKit Go.Proofs.YtdniaamhbfadnaaGreat.Base
set_option linter.unusedVariables false
set_option linter.unusedSimpArgs false
set_option maxRecDepth 4000
set_option synthInstance.maxSize 1000
set_option synthInstance.maxHeartbeats 200000
def relS (b : List Int) : Nat → List SecD
 | 0 => lnkM b (mnH b)
 | i + 1 => if (shK b i).a1 = 4 then (relS b i).set (secV b i) (((relS b i).getD (secV b i) default).rel (relL b i (relMany b i))) else relS b i
def grpS (b : List Int) : Nat → List GrpD
 | 0 => []
 | i + 1 => if (shK b i).a1 = 17 then grpS b i ++ [grpD b i] else grpS b i
def sgL (b : List Int) (i : Nat) : Option (List Int) := ulebAll (toldF b (shK b i)).length (toldF b (shK b i))
def sgS (b : List Int) : Nat → Bool × List Int
 | 0 => (false, [])
 | i + 1 => if (shK b i).a1 = 1879002115 then (true, (sgL b i).getD []) else sgS b i
def oth1 (b : List Int) (tb : Int) (i : Nat) : Prop := ((shK b i).a1 = 4 → relsOk b tb i) ∧ ((shK b i).a1 = 17 → grpOk b tb i) ∧ ((shK b i).a1 = 1879002115 → (sgL b i).isSome = true ∧ (sgS b i).1 = false ∧ (shK b i).a6 = tb)
def othOk (b : List Int) (tb : Int) : Prop := ∀ i, i < mnH b → oth1 b tb i
theorem relS_yes {b : List Int} {i : Nat} (h : (shK b i).a1 = 4) : relS b (i + 1) = (relS b i).set (secV b i) (((relS b i).getD (secV b i) default).rel (relL b i (relMany b i))) := by rw [relS, if_pos h]
theorem relS_no {b : List Int} {i : Nat} (h : (shK b i).a1 ≠ 4) : relS b (i + 1) = relS b i := by rw [relS, if_neg h]
theorem grpS_yes {b : List Int} {i : Nat} (h : (shK b i).a1 = 17) : grpS b (i + 1) = grpS b i ++ [grpD b i] := by rw [grpS, if_pos h]
theorem grpS_no {b : List Int} {i : Nat} (h : (shK b i).a1 ≠ 17) : grpS b (i + 1) = grpS b i := by rw [grpS, if_neg h]
theorem sgS_yes {b : List Int} {i : Nat} (h : (shK b i).a1 = 1879002115) : sgS b (i + 1) = (true, (sgL b i).getD []) := by rw [sgS, if_pos h]
theorem sgS_no {b : List Int} {i : Nat} (h : (shK b i).a1 ≠ 1879002115) : sgS b (i + 1) = sgS b i := by rw [sgS, if_neg h]
theorem relS_len (b : List Int) : ∀ i, (relS b i).length = (lnkM b (mnH b)).length := by
 intro i
 induction i with
 | zero => rfl
 | succ i ih => rw [relS]; split; rw [List.length_set, ih]; exact ih
theorem grpS_len (b : List Int) : ∀ i, (grpS b i).length ≤ i := by
 intro i
 induction i with
 | zero => simp [grpS]
 | succ i ih => rw [grpS]; split; rw [List.length_append]; simp; omega; omega
theorem secM_rels (b : List Int) : ∀ k, ∀ s ∈ (secM b k).1, s.rels = [] := by
 intro k
 induction k with
 | zero => intro s hs; cases hs
 | succ k ih =>
  intro s hs
  rw [secM_S] at hs
  split at hs
  · rcases List.mem_append.1 hs with hs | hs
    · exact ih s hs
    · obtain rfl := List.mem_singleton.1 hs; rfl
  · exact ih s hs
theorem lnkM_rels (b : List Int) : ∀ i, ∀ s ∈ lnkM b i, s.rels = [] := by
 intro i
 induction i with
 | zero => exact secM_rels b _
 | succ i ih =>
  intro s hs
  rw [lnkM] at hs
  split at hs
  · exact ih s hs
  · rename_i v _
    rcases List.mem_or_eq_of_mem_set hs with hs | rfl
    · exact ih s hs
    · show ((lnkM b i).getD (v - 1).toNat default).rels = []
      rw [List.getD_eq_getElem?_getD]
      cases hq : (lnkM b i)[(v - 1).toNat]? with
      | none => rfl
      | some y => exact ih y (List.mem_of_getElem? hq)
theorem secN_R {l : List SecD} (h : ∀ s ∈ l, s.rels = []) : l.map secN = l.map secR := by
 apply List.map_congr_left
 intro s hs
 unfold secR secP
 rw [h s hs]; rfl
theorem relS_or (b : List Int) : ∀ i v, ((relS b i).getD v default).rels = [] ∨ ∃ p, p < i ∧ (shK b p).a1 = 4 ∧ secV b p = v := by
 intro i
 induction i with
 | zero =>
  intro v; left
  rw [relS, List.getD_eq_getElem?_getD]
  cases hq : (lnkM b (mnH b))[v]? with
  | none => rfl
  | some y => exact lnkM_rels b _ y (List.mem_of_getElem? hq)
 | succ i ih =>
  intro v
  by_cases h4 : (shK b i).a1 = 4
  · by_cases hv : secV b i = v
    · exact .inr ⟨i, by omega, h4, hv⟩
    · rw [relS_yes h4, List.getD_eq_getElem?_getD, List.getElem?_set_ne hv, ← List.getD_eq_getElem?_getD]
      rcases ih v with h | ⟨p, h1, h2, h3⟩
      · exact .inl h
      · exact .inr ⟨p, by omega, h2, h3⟩
  · rw [relS_no h4]
    rcases ih v with h | ⟨p, h1, h2, h3⟩
    · exact .inl h
    · exact .inr ⟨p, by omega, h2, h3⟩
theorem num_inj {b : List Int} {x y v : Int} (hx : aget (numM b) x = some v) (hy : aget (numM b) y = some v) : x = y := by
 have key : ∀ {x y : Int}, aget (numM b) x = some v → aget (numM b) y = some v → ¬ x < y := by
  intro x y hx hy hlt
  rw [secM_get] at hx hy
  split at hx
  · rename_i h1
    split at hy
    · rename_i h2
      obtain ⟨k, hk⟩ : ∃ k, y.toNat = k + 1 := ⟨y.toNat - 1, by omega⟩
      have h3 := secM_mono b k x.toNat (by omega)
      have hs : isS (shK b (k + 1)) := by rw [← hk]; exact h2.2.2
      rw [hk, secM_S, if_pos (show (shK b (k + 1)).a1 = 1 ∨ (shK b (k + 1)).a1 = 8 from hs), List.length_append] at hy
      have e1 := Option.some.inj hx
      have e2 := Option.some.inj hy
      simp at e2
      omega
    · cases hy
  · cases hx
 have h1 := key hx hy
 have h2 := key hy hx
 omega
theorem relS_nil {b : List Int} (hf : frOk b) {tb : Int} {i : Nat} (hi : i < mnH b) (hall : ∀ q, q < i → oth1 b tb q) (hv : isF (hdsN b (mnH b)) (shK b i).a7 1 = true) (hd : ∀ p, 0 < p → p < i → ¬ ((shK b p).a1 = 4 ∧ (shK b p).a7 = (shK b i).a7)) : ((relS b i).getD (secV b i) default).rels = [] := by
 rcases relS_or b i (secV b i) with h | ⟨p, h1, h2, h3⟩
 · exact h
 · exfalso
   have hp := ((hall p h1).1 h2).2.2.2.1
   obtain ⟨v, hv1⟩ := Option.isSome_iff_exists.1 (num_is hv)
   obtain ⟨u, hu1⟩ := Option.isSome_iff_exists.1 (num_is hp)
   have r1 := num_rng hv1
   have r2 := num_rng hu1
   unfold secV numF at h3
   rw [hv1, hu1] at h3
   simp only [Option.getD_some] at h3
   have e : u = v := by omega
   subst e
   have h0 : 0 < p := by
    rcases Nat.eq_zero_or_pos p with e | e
    · subst e; have := (hf.2.2.1 0 (by omega)).2.1 rfl; rw [this] at h2; cases h2
    · exact e
   exact hd p h0 h1 ⟨h2, num_inj hu1 hv1⟩
theorem Hn_one {n j : Nat} {A : List (Option AB)} {x : Option AB} : Hn n ((A ++ List.replicate j none) ++ List.replicate [x].length none) = Hn n ((A ++ List.replicate (j + 1) none) ++ []) := by
 simp [List.replicate_succ']
theorem obj_rels (n : Nat) (z : List AV) (b : List Int) (hB : Bytes b) (hf : frOk b) (tb : Int) (e5 m5 e6 m6 : Nat) (hs : Bool) (sg : List Int) (s5 s6 : Option AB) (j ep : Nat) (S : List SecD) (i : Nat) (hi : i < mnH b) (h8 : (shK b i).a1 = 4) (hS : S.length = (lnkM b (mnH b)).length) (hnil : isF (hdsN b (mnH b)) (shK b i).a7 1 = true → (∀ p, 0 < p → p < i → ¬ ((shK b p).a1 = 4 ∧ (shK b p).a7 = (shK b i).a7)) → (S.getD (secV b i) default).rels = []) : AC Tryz.prog 76 (Hn n (([some (.box 29 z), some (.map ((numM b).map (mE kI vI))), some (.box 88 [.rd 1 (bys b), .rd 10 ((hdsN b (mnH b)).map shA), .omap (n + 1), .v (.int .i64 (tb)), .own (n + 4) ep 0 S.length, .own (n + 5) e5 0 m5, .own (n + 6) e6 0 m6, .v (.bool hs), .rd 1 (sg.map iA)]), none, some (.row 104 9 ep (S.map secR)), s5, s6] ++ List.replicate j none) ++ [])) [.box (n + 2) 0, .v (.int .i64 ((i : Int)))] (fun r H' => (∃ x : Nat, relsOk b tb i ∧ r = .v (.bool true) ∧ H' = Hn n (([some (.box 29 z), some (.map ((numM b).map (mE kI vI))), some (.box 88 [.rd 1 (bys b), .rd 10 ((hdsN b (mnH b)).map shA), .omap (n + 1), .v (.int .i64 (tb)), .own (n + 4) ep 0 S.length, .own (n + 5) e5 0 m5, .own (n + 6) e6 0 m6, .v (.bool hs), .rd 1 (sg.map iA)]), none, some (.row 104 9 ep ((S.set (secV b i) ((S.getD (secV b i) default).rel (relL b i (relMany b i)))).map secR)), s5, s6] ++ List.replicate x none) ++ [])) ∨ (∃ X, ¬ relsOk b tb i ∧ r = .v (.bool false) ∧ H' = Hn n (some (.box 29 z) :: X))) := by
 have h0 := (shK_all (hf.2.2.1 i hi)).2.2.2.2.1.1
 rcases Int.lt_or_eq_of_le h0 with h1 | h1
 · exact obj_relsY n z b hB hf tb e5 m5 e6 m6 hs sg s5 s6 j ep S i hi h8 hS hnil h1
 · exact obj_relsZ n z b hB hf tb e5 m5 e6 m6 hs sg s5 s6 j ep S i hi h8 hS hnil h1.symm
set_option maxHeartbeats 8000000 in
theorem obj_others (n : Nat) (z : List AV) (b : List Int) (hB : Bytes b) (hf : frOk b) (tb : Int) (e5 m5 : Nat) (s5 : Option AB) (j ep : Nat) : AC Tryz.prog 29 (Hn n (([some (.box 29 z), some (.map ((numM b).map (mE kI vI))), some (.box 88 [.rd 1 (bys b), .rd 10 ((hdsN b (mnH b)).map shA), .omap (n + 1), .v (.int .i64 (tb)), .own (n + 4) ep 0 (lnkM b (mnH b)).length, .own (n + 5) e5 0 m5, .own (n + 6) (0) 0 ([] : List GrpD).length, .v (.bool false), .v (.slice none 0 0)]), none, some (.row 104 9 ep ((lnkM b (mnH b)).map secR)), s5, some (.row 107 2 (0) (([] : List GrpD).map grpA))] ++ List.replicate j none) ++ [])) [.box (n + 2) 0] (fun r H' => (∃ x : Nat × Nat, othOk b tb ∧ r = .v (.bool true) ∧ H' = Hn n (([some (.box 29 z), some (.map ((numM b).map (mE kI vI))), some (.box 88 [.rd 1 (bys b), .rd 10 ((hdsN b (mnH b)).map shA), .omap (n + 1), .v (.int .i64 (tb)), .own (n + 4) ep 0 (relS b (mnH b)).length, .own (n + 5) e5 0 m5, .own (n + 6) (x.1) 0 (grpS b (mnH b)).length, .v (.bool (sgS b (mnH b)).1), .rd 1 ((sgS b (mnH b)).2.map iA)]), none, some (.row 104 9 ep ((relS b (mnH b)).map secR)), s5, some (.row 107 2 (x.1) ((grpS b (mnH b)).map grpA))] ++ List.replicate x.2 none) ++ [])) ∨ (∃ X, ¬ othOk b tb ∧ r = .v (.bool false) ∧ H' = Hn n (some (.box 29 z) :: X))) := by
 have hmay := hf.1.2.1
 unfold HdD.may MayHd at hmay
 have hmn : ((mnH b : Nat) : Int) = (hdOf b).many := by unfold mnH; omega
 have hbl := hf.2.1
 refine AC.body 68 Tryz.func29 rfl rfl Tryz.ntmps29 fun base => ?_
 refine AW.seq' ?_
 refine AW.region ?_
 refine AO.c ?_
 refine AO.nil ?_
 refine SQ.normal ?_
 refine AW.seq' ?_
 refine AW.seq' ?_
 refine AW.region ?_
 iterate 5 refine AO.c ?_
 refine AO.eq 11 (av' := .v (.int .i64 (mnH b))) (by rw [hdsN_len]) ?_
 refine AO.c ?_
 refine AO.nil ?_
 refine SQ.normal ?_
 refine AW.block' ?_
 refine AW.ghost (Gh.tellC 2 [.rd 1 (bys b), .rd 10 ((hdsN b (mnH b)).map shA), .omap (n + 1), .v (.int .i64 (tb)), .own (n + 4) ep 0 (lnkM b (mnH b)).length, .own (n + 5) e5 0 m5, .own (n + 6) 0 0 ([] : List GrpD).length, .v (.bool false), .rd 1 (([] : List Int).map iA)]) ?_
 refine AW.loopU3 [.k, .F, .f, .k, .k, .k, .F, .F, .F, .F, .F, .F, .f, .f, .f, .f, .f, .f, .f] (fun (i j2 e7 : Nat) => [(12, .v (.int .i64 (i)))]) (fun i j2 e7 => Hn n (([some (.box 29 z), some (.map ((numM b).map (mE kI vI))), some (.box 88 [.rd 1 (bys b), .rd 10 ((hdsN b (mnH b)).map shA), .omap (n + 1), .v (.int .i64 (tb)), .own (n + 4) ep 0 (relS b i).length, .own (n + 5) e5 0 m5, .own (n + 6) (e7) 0 (grpS b i).length, .v (.bool (sgS b i).1), .rd 1 ((sgS b i).2.map iA)]), none, some (.row 104 9 ep ((relS b i).map secR)), s5, some (.row 107 2 (e7) ((grpS b i).map grpA))] ++ List.replicate j2 none) ++ [])) (fun m i j2 e7 => (i ≤ mnH b ∧ m = mnH b - i) ∧ ∀ q, q < i → oth1 b tb q) (mnH b) (0) (j) (0) ⟨by omega, fun q h => by omega⟩ (by first | rfl | (simp; done)) (rfl) ?_
 rintro m0 i j2 e7 ⟨hx1, hx2⟩
 refine AW.seq' ?_
 refine AW.region ?_
 refine AO.c ?_
 refine AO.nil ?_
 refine SQ.normal ?_
 refine AW.seq' ?_
 refine AW.iteB (GL.ev _) (fun h0 => ?_) (fun h0 => ?_)
 ·
  rw [decide_eq_true_eq] at h0
  have hi : i < mnH b := by omega
  have hok1 := hf.2.2.1 i hi
  have hsa := shK_all hok1
  have htk := tell_ok hok1
  have hstep : oth1 b tb i → ∀ q, q < i + 1 → oth1 b tb q := fun h q hq => by
   by_cases e : q = i
   · subst e; exact h
   · exact hx2 q (by omega)
  have hge : (hdsN b (mnH b)).getD ((i : Int)).toNat default = shK b i := by rw [Int.toNat_natCast]; exact hdsN_get hi
  have htold := obj_told b (hdsN b (mnH b)) (i : Int) ⟨by omega, by rw [hdsN_len]; omega⟩ (by omega) (by rw [hge]; exact htk)
  rw [hge] at htold
  have htl2 := told_len b (shK b i)
  have hBt := told_bytes hB (shK b i)
  have hgl := grpS_len b i
  refine AW.skip ?_
  refine SQ.normal ?_
  refine AW.seq' ?_
  refine AW.block' ?_
  refine AW.seq' ?_
  refine AW.region ?_
  refine AO.c ?_
  refine AO.o (by rw [hdsN_len]; omega) ?_
  refine AO.c ?_
  refine AO.eq 16 (av' := .agg (shA (shK b i))) (by rw [hdsN_get hi]) ?_
  refine AO.ww ?_
  refine AO.c ?_
  refine AO.sst ?_
  refine AO.nil ?_
  refine SQ.normal ?_
  refine AW.seq' ?_
  refine AW.region ?_
  refine AO.c ?_
  refine AO.nil ?_
  refine SQ.normal ?_
  refine AW.seq' ?_
  refine AW.seq' ?_
  refine AW.region ?_
  iterate 2 refine AO.c ?_
  refine AO.nil ?_
  refine SQ.normal ?_
  refine AW.block' ?_
  refine AW.seq' ?_
  refine AW.region ?_
  iterate 2 refine AO.c ?_
  refine AO.nil ?_
  refine SQ.normal ?_
  refine AW.iteB (GL.ev _) (fun h1 => ?_) (fun h1 => ?_)
  ·
   have h1a : (shK b i).a1 = 4 := of_decide_eq_true h1
   have hrels := fun j => obj_rels n z b hB hf tb e5 m5 e7 (grpS b i).length (sgS b i).1 (sgS b i).2 s5 (some (.row 107 2 e7 ((grpS b i).map grpA))) j ep (relS b i) i hi h1a (relS_len b i) (relS_nil hf hi hx2)
   rcases Classical.em (relsOk b tb i) with hq | hq
   ·
    refine AW.ghost Gh.dropT ?_
    refine AW.region ?_
    iterate 2 refine AO.c ?_
    refine AO.callE (α := Nat) (av := fun _ => .v (.bool true)) (H2 := fun x => Hn n (([some (.box 29 z), some (.map ((numM b).map (mE kI vI))), some (.box 88 [.rd 1 (bys b), .rd 10 ((hdsN b (mnH b)).map shA), .omap (n + 1), .v (.int .i64 (tb)), .own (n + 4) ep 0 (relS b (i + 1)).length, .own (n + 5) e5 0 m5, .own (n + 6) (e7) 0 (grpS b i).length, .v (.bool (sgS b i).1), .rd 1 ((sgS b i).2.map iA)]), none, some (.row 104 9 ep ((relS b (i + 1)).map secR)), s5, some (.row 107 2 (e7) ((grpS b i).map grpA))] ++ List.replicate x none) ++ [])) (p := fun _ => True) Tryz.func76 rfl rfl (AC.cong (hrels (j2 + 1)) Hn_one (fun r H' h => by
     rcases h with ⟨x, _, h1, h2⟩ | ⟨X, h1, _⟩
     · exact ⟨x, h1, h2.trans (by rw [relS_yes h1a, List.length_set]), trivial⟩
     · exact absurd hq h1)) ?_
    intro j3 _
    refine AO.c ?_
    refine AO.nil ?_
    refine BQ.normal ?_
    refine SQ.normal ?_
    refine AW.seq' ?_
    refine AW.region ?_
    iterate 2 refine AO.c ?_
    refine AO.nil ?_
    refine SQ.normal ?_
    refine AW.iteB (GL.ev _) (fun h4 => ?_) (fun h4 => ?_)
    ·
     cases h4
    ·
     skip
     refine AW.skip ?_
     refine BQ.normal ?_
     refine SQ.normal ?_
     refine AW.region ?_
     refine AO.oo ?_
     refine AO.c ?_
     refine AO.nil ?_
     have hall := hstep ⟨fun _ => hq, fun h => (by rw [h1a] at h; cases h), fun h => (by rw [h1a] at h; cases h)⟩
     exact AW.backU [.k, .F, .f, .k, .k, .k, .F, .F, .F, .F, .F, .F, .f, .f, .f, .f, .f, .f, .f] (m0 - 1) (i + 1, j3, e7) (by omega) (by (try dsimp only); exact ⟨by omega, hall⟩) (by first | rfl | (simp; done)) (by rw [grpS_no (by rw [h1a]; decide), sgS_no (by rw [h1a]; decide)])
   ·
    refine AW.ghost Gh.dropT ?_
    refine AW.region ?_
    iterate 2 refine AO.c ?_
    refine AO.callE (α := List (Option AB)) (av := fun _ => .v (.bool false)) (H2 := fun X => Hn n (some (.box 29 z) :: X)) (p := fun _ => True) Tryz.func76 rfl rfl (AC.cong (hrels (j2 + 1)) Hn_one (fun r H' h => by
     rcases h with ⟨x, h1, _⟩ | ⟨X, _, h1, h2⟩
     · exact absurd h1 hq
     · exact ⟨X, h1, h2, trivial⟩)) ?_
    intro X _
    refine AO.c ?_
    refine AO.nil ?_
    refine BQ.normal ?_
    refine SQ.normal ?_
    refine AW.seq' ?_
    refine AW.region ?_
    iterate 2 refine AO.c ?_
    refine AO.nil ?_
    refine SQ.normal ?_
    refine AW.iteB (GL.ev _) (fun h4 => ?_) (fun h4 => ?_)
    ·
     have hno : ¬ othOk b tb := fun h => hq ((h i hi).1 h1a)
     refine AW.seq' ?_
     refine AW.region ?_
     refine AO.c ?_
     refine AO.nil ?_
     refine SQ.normal ?_
     refine AW.ret ?_
     refine BQ.ret <| SQ.ret <| AW.out <| LU.ret <| BQ.ret <| SQ.ret ?_
     exact FinC.ret Gh.refl (.inr ⟨_, hno, rfl, rfl⟩) (.inr rfl)
    ·
     cases h4
  ·
   have h1a : (shK b i).a1 ≠ 4 := of_decide_eq_false h1
   refine AW.seq' ?_
   refine AW.region ?_
   iterate 2 refine AO.c ?_
   refine AO.nil ?_
   refine SQ.normal ?_
   refine AW.iteB (GL.ev _) (fun h2 => ?_) (fun h2 => ?_)
   ·
    have h2a : (shK b i).a1 = 17 := of_decide_eq_true h2
    have hgrp := fun j => obj_readGrp n z b hB hf tb ep (relS b i).length e5 m5 (sgS b i).1 (sgS b i).2 (some (.row 104 9 ep ((relS b i).map secR))) s5 j e7 (grpS b i) (by omega) i hi (by rw [h2a]; decide)
    rcases Classical.em (grpOk b tb i) with hq | hq
    ·
     refine AW.ghost Gh.dropT ?_
     refine AW.region ?_
     iterate 2 refine AO.c ?_
     refine AO.callE (α := Nat) (av := fun _ => .v (.bool true)) (H2 := fun x => Hn n (([some (.box 29 z), some (.map ((numM b).map (mE kI vI))), some (.box 88 [.rd 1 (bys b), .rd 10 ((hdsN b (mnH b)).map shA), .omap (n + 1), .v (.int .i64 (tb)), .own (n + 4) ep 0 (relS b i).length, .own (n + 5) e5 0 m5, .own (n + 6) (e7 + 1) 0 (grpS b i ++ [grpD b i]).length, .v (.bool (sgS b i).1), .rd 1 ((sgS b i).2.map iA)]), none, some (.row 104 9 ep ((relS b i).map secR)), s5, some (.row 107 2 (e7 + 1) ((grpS b i ++ [grpD b i]).map grpA))] ++ List.replicate x none) ++ [])) (p := fun _ => True) Tryz.func77 rfl rfl (AC.cong (hgrp (j2 + 1)) Hn_one (fun r H' h => by
      rcases h with ⟨x, _, h1, h2⟩ | ⟨X, h1, _⟩
      · exact ⟨x, h1, h2, trivial⟩
      · exact absurd hq h1)) ?_
     intro j3 _
     refine AO.c ?_
     refine AO.nil ?_
     refine BQ.normal ?_
     refine SQ.normal ?_
     refine AW.seq' ?_
     refine AW.region ?_
     iterate 2 refine AO.c ?_
     refine AO.nil ?_
     refine SQ.normal ?_
     refine AW.iteB (GL.ev _) (fun h4 => ?_) (fun h4 => ?_)
     ·
      cases h4
     ·
      skip
      refine AW.skip ?_
      refine BQ.normal ?_
      refine SQ.normal ?_
      refine AW.region ?_
      refine AO.oo ?_
      refine AO.c ?_
      refine AO.nil ?_
      have hall := hstep ⟨fun h => absurd h h1a, fun _ => hq, fun h => (by rw [h2a] at h; cases h)⟩
      exact AW.backU [.k, .F, .f, .k, .k, .k, .F, .F, .F, .F, .F, .F, .f, .f, .f, .f, .f, .f, .f] (m0 - 1) (i + 1, j3, e7 + 1) (by omega) (by (try dsimp only); exact ⟨by omega, hall⟩) (by first | rfl | (simp; done)) (by rw [relS_no h1a, sgS_no (by rw [h2a]; decide), grpS_yes h2a])
    ·
     refine AW.ghost Gh.dropT ?_
     refine AW.region ?_
     iterate 2 refine AO.c ?_
     refine AO.callE (α := List (Option AB)) (av := fun _ => .v (.bool false)) (H2 := fun X => Hn n (some (.box 29 z) :: X)) (p := fun _ => True) Tryz.func77 rfl rfl (AC.cong (hgrp (j2 + 1)) Hn_one (fun r H' h => by
      rcases h with ⟨x, h1, _⟩ | ⟨X, _, h1, h2⟩
      · exact absurd h1 hq
      · exact ⟨X, h1, h2, trivial⟩)) ?_
     intro X _
     refine AO.c ?_
     refine AO.nil ?_
     refine BQ.normal ?_
     refine SQ.normal ?_
     refine AW.seq' ?_
     refine AW.region ?_
     iterate 2 refine AO.c ?_
     refine AO.nil ?_
     refine SQ.normal ?_
     refine AW.iteB (GL.ev _) (fun h4 => ?_) (fun h4 => ?_)
     ·
      have hno : ¬ othOk b tb := fun h => hq ((h i hi).2.1 h2a)
      refine AW.seq' ?_
      refine AW.region ?_
      refine AO.c ?_
      refine AO.nil ?_
      refine SQ.normal ?_
      refine AW.ret ?_
      refine BQ.ret <| SQ.ret <| AW.out <| LU.ret <| BQ.ret <| SQ.ret ?_
      exact FinC.ret Gh.refl (.inr ⟨_, hno, rfl, rfl⟩) (.inr rfl)
     ·
      cases h4
   ·
    have h2a : (shK b i).a1 ≠ 17 := of_decide_eq_false h2
    refine AW.seq' ?_
    refine AW.region ?_
    iterate 2 refine AO.c ?_
    refine AO.nil ?_
    refine SQ.normal ?_
    refine AW.iteB (GL.ev _) (fun h3 => ?_) (fun h3 => ?_)
    ·
     have h3a : (shK b i).a1 = 1879002115 := of_decide_eq_true h3
     refine AW.seq' ?_
     have hs3 := trivial
     ·
      refine AW.region ?_
      iterate 6 refine AO.c ?_
      refine AO.nil ?_
      refine SQ.normal ?_
      refine AW.seq' ?_
      refine AW.region ?_
      iterate 4 refine AO.c ?_
      refine AO.sst ?_
      refine AO.nil ?_
      refine SQ.normal ?_
      refine AW.seq' ?_
      refine AW.region ?_
      iterate 3 refine AO.c ?_
      refine AO.callB [.rd 1 (bys b), .rd 10 ((hdsN b (mnH b)).map shA)] Tryz.func72 rfl rfl htold ⟨_, rfl⟩ rfl ?_
      refine AO.call1 Tryz.func78 rfl rfl (uleb_List (toldF b (shK b i)) hBt (by omega)) ?_
      iterate 6 refine AO.c ?_
      refine AO.sst ?_
      refine AO.c ?_
      refine AO.nil ?_
      refine SQ.normal ?_
      refine AW.drawsZ [] (.one 0 false (.one 1 false (.one 2 false (.one 3 false (.one 4 false (.one 5 false (.one 6 false (.one 7 false (.one 8 false (.one 9 false (.one 10 false (.one 11 false (.one 12 false (.one 13 false (.one 14 false .nil))))))))))))))) (by kernel_rfl) rfl (by kernel_rfl) ?_
      iterate 2 refine AZ.c rfl ?_
      iterate 2 refine AZ.gx rfl ?_
      iterate 2 refine AZ.c rfl ?_
      iterate 7 refine AZ.gx rfl ?_
      iterate 2 refine AZ.c rfl ?_
      refine AZ.done ?_
      refine BQ.normal ?_
      refine SQ.normal ?_
      refine AW.seq' ?_
      refine AW.region ?_
      iterate 2 refine AO.c ?_
      refine AO.nil ?_
      refine SQ.normal ?_
      refine AW.iteB (GL.ev _) (fun h4 => ?_) (fun h4 => ?_)
      ·
       have hno : ¬ othOk b tb := fun h => by
        obtain ⟨g1, g2, g3⟩ := (h i hi).2.2 h3a
        unfold sgL at g1
        rw [g1, g2, g3] at h4
        simp at h4
       refine AW.seq' ?_
       refine AW.region ?_
       refine AO.c ?_
       refine AO.nil ?_
       refine SQ.normal ?_
       refine AW.ret ?_
       refine BQ.ret <| SQ.ret <| AW.out <| LU.ret <| BQ.ret <| SQ.ret ?_
       exact FinC.ret Gh.refl (.inr ⟨_, hno, rfl, rfl⟩) (.inr rfl)
      ·
       simp at h4
       have hal2 : oth1 b tb i := ⟨fun h => absurd h h1a, fun h => absurd h h2a, fun _ => by
        unfold sgL
        exact ⟨h4.1.1, h4.1.2, h4.2⟩⟩
       have hall := hstep hal2
       refine AW.skip ?_
       refine BQ.normal ?_
       refine SQ.normal ?_
       refine AW.region ?_
       refine AO.oo ?_
       refine AO.c ?_
       refine AO.nil ?_
       exact AW.backE [.k, .F, .f, .k, .k, .k, .F, .F, .F, .F, .F, .F, .f, .f, .f, .f, .f, .f, .f] (j2) (m0 - 1) (i + 1, j2 + 1, e7) (by omega) (by (try dsimp only); exact ⟨by omega, hall⟩) (by first | rfl | (simp; done)) (by first | (rw [relS_no h1a, grpS_no h2a, sgS_yes h3a]; done) | (rw [relS_no h1a, grpS_no h2a, sgS_yes h3a]; rfl))
    ·
     have h3a : (shK b i).a1 ≠ 1879002115 := of_decide_eq_false h3
     refine AW.skip ?_
     refine BQ.normal ?_
     refine SQ.normal ?_
     refine AW.seq' ?_
     refine AW.region ?_
     iterate 2 refine AO.c ?_
     refine AO.nil ?_
     refine SQ.normal ?_
     refine AW.iteB (GL.ev _) (fun h4 => ?_) (fun h4 => ?_)
     ·
      cases h4
     ·
      skip
      refine AW.skip ?_
      refine BQ.normal ?_
      refine SQ.normal ?_
      refine AW.region ?_
      refine AO.oo ?_
      refine AO.c ?_
      refine AO.nil ?_
      have hall := hstep ⟨fun h => absurd h h1a, fun h => absurd h h2a, fun h => absurd h h3a⟩
      exact AW.backE [.k, .F, .f, .k, .k, .k, .F, .F, .F, .F, .F, .F, .f, .f, .f, .f, .f, .f, .f] (j2) (m0 - 1) (i + 1, j2 + 1, e7) (by omega) (by (try dsimp only); exact ⟨by omega, hall⟩) (by first | rfl | (simp; done)) (by first | (rw [relS_no h1a, grpS_no h2a, sgS_no h3a]; done) | (rw [relS_no h1a, grpS_no h2a, sgS_no h3a]; rfl))
 ·
  rw [decide_eq_false_iff_not] at h0
  have hi : i = mnH b := by omega
  subst hi
  refine AW.exit ?_
  refine SQ.exit <| AW.out <| LU.exit <| BQ.exit ?_
  refine SQ.normal ?_
  refine AW.seq' ?_
  refine AW.region ?_
  refine AO.c ?_
  refine AO.nil ?_
  refine SQ.normal ?_
  refine AW.ret ?_
  exact FinC.ret Gh.refl (.inl ⟨(e7, j2), hx2, rfl, rfl⟩) (.inr rfl)
end Go.Proofs.YtdniaamhbfadnaaGreat.AL
namespace Go.Proofs.YtdniaamhbfadnaaGreat.AL
open Go Go.RowKit Go.Proofs.YtdniaamhbfadnaaGreat.Base
set_option linter.unusedVariables false
set_option linter.unusedSimpArgs false
set_option maxRecDepth 4000
set_option synthInstance.maxSize 1000
set_option synthInstance.maxHeartbeats 200000
@[reducible] def zOC : List AV := [.v (.slice none 0 0), .v (.slice none 0 0), .v (.slice none 0 0), .v (.bool false), .v (.slice none 0 0)]
def zObj : ObjD := ⟨[], [], [], false, []⟩
def getOk (b : List Int) (tb : Nat) : Prop := frOk b ∧ lnkOk b ∧ symsOk b tb ∧ othOk b tb
def objG (b : List Int) (tb : Nat) : ObjD := ⟨relS b (mnH b), symL b tb (syMany b tb), grpS b (mnH b), (sgS b (mnH b)).1, (sgS b (mnH b)).2⟩
theorem symsOk_uniq {b : List Int} {p q : Nat} (h : symsOk b p) (h' : symsOk b q) : p = q := (h'.2.2.2.1 p h.2.1 h.2.2.1)
theorem getN_cases {b : List Int} (h : ∀ tb, getOk b tb → shapeB (objG b tb) = false) : ¬ frOk b ∨ (frOk b ∧ ¬ lnkOk b) ∨ (frOk b ∧ lnkOk b ∧ ∀ q, ¬ symsOk b q) ∨ (∃ tb : Nat, frOk b ∧ lnkOk b ∧ symsOk b tb ∧ ¬ othOk b tb) ∨ (∃ tb : Nat, frOk b ∧ lnkOk b ∧ symsOk b tb ∧ othOk b tb ∧ shapeB (objG b tb) = false) := by
 by_cases h1 : frOk b
 · by_cases h2 : lnkOk b
   · by_cases h3 : ∃ q, symsOk b q
     · obtain ⟨q, h3⟩ := h3
       by_cases h4 : othOk b q
       · exact .inr (.inr (.inr (.inr ⟨q, h1, h2, h3, h4, h q ⟨h1, h2, h3, h4⟩⟩)))
       · exact .inr (.inr (.inr (.inl ⟨q, h1, h2, h3, h4⟩)))
     · exact .inr (.inr (.inl ⟨h1, h2, fun q hq => h3 ⟨q, hq⟩⟩))
   · exact .inr (.inl ⟨h1, h2⟩)
 · exact .inl h1
theorem secR_tell (s : SecD) : TELLs (secR s) (secA s) := by
 unfold secR secA
 cases hr : s.rels with
 | nil => show TELLs [_, _, _, _, _, _, _, _, AV.v (.slice none 0 0)] [_, _, _, _, _, _, _, _, AV.rd 4 (([] : List RelD).map relA)]; infer_instance
 | cons r l => show TELLs [_, _, _, _, _, _, _, _, AV.rd 4 ((r :: l).map relA)] [_, _, _, _, _, _, _, _, AV.rd 4 ((r :: l).map relA)]; infer_instance
theorem relOf_ok {b : List Int} (hB : Bytes b) {a : Int} (h : mayRelB (relOf b a) = true) : (relOf b a).ok := by
 have h1 := mayRel_all h
 refine ⟨?_, ?_, ?_, i64_wr _⟩ <;> (unfold I64; omega)
theorem atF_size {b : List Int} {a : Int} {s : ByteArray} (h : atF b a = some s) : s.size ≤ 32 := by
 unfold atF at h
 split at h
 · split at h
   · cases h
   · rename_i h2
     obtain rfl := Option.some.inj h
     rw [not_or] at h2
     have e : ∀ l : List Int, (strOfNums l).size = l.length := fun l => by unfold strOfNums; simp [ByteArray.size]
     rw [e, List.length_drop, List.length_take]
     omega
 · cases h
structure SecS (s : SecD) : Prop where
 name : s.name.size ≤ 32
 nums : I64 s.typ ∧ I64 s.flags ∧ I64 s.align ∧ I64 s.ent ∧ I64 s.link ∧ I64 s.size
 data : s.data.length ≤ 16384 ∧ Bytes s.data
 rels : s.rels.length ≤ 1000000 ∧ ∀ r ∈ s.rels, r.ok
theorem nm_size {b : List Int} {k : Nat} : ((nmK b k).getD noS).size ≤ 32 := by
 cases h : nmK b k with
 | none => decide
 | some s => exact atF_size h
theorem secM_S2 {b : List Int} (hB : Bytes b) (hf : frOk b) : ∀ k, k < mnH b → ∀ s ∈ (secM b k).1, SecS s := by
 intro k
 induction k with
 | zero => intro _ s hs; cases hs
 | succ k ih =>
  intro hk s hs
  rw [secM_S] at hs
  split at hs
  · rcases List.mem_append.1 hs with hs | hs
    · exact ih (by omega) s hs
    · obtain rfl := List.mem_singleton.1 hs
      have hsa := shK_all (hf.2.2.1 (k + 1) hk)
      have htl := told_len b (shK b (k + 1))
      have hbl := hf.2.1
      refine ⟨nm_size, ⟨?_, ?_, ?_, ?_, by show I64 0; decide, ?_⟩, ⟨by show (toldF b _).length ≤ _; omega, told_bytes hB _⟩, by show 0 ≤ 1000000; omega, fun r hr => by cases hr⟩
      · show I64 (shK b (k + 1)).a1; unfold I64; omega
      · show I64 (shK b (k + 1)).a2; unfold I64; omega
      · show I64 (max (shK b (k + 1)).a8 1); unfold I64; omega
      · show I64 (shK b (k + 1)).a9; unfold I64; omega
      · show I64 (shK b (k + 1)).a5; unfold I64; omega
  · exact ih (by omega) s hs
theorem numF_rng {b : List Int} (hf : frOk b) (q : Int) : 0 ≤ numF b q ∧ numF b q ≤ 70000 := by
 have hmay := hf.1.2.1
 unfold HdD.may MayHd at hmay
 have hmn : ((mnH b : Nat) : Int) = (hdOf b).many := by unfold mnH; omega
 have hsl := (secM_len b (mnH b - 1)).1
 unfold numF
 cases h : aget (numM b) q with
 | none => exact ⟨by decide, by decide⟩
 | some v =>
  have := num_rng h
  show 0 ≤ v ∧ v ≤ 70000
  omega
theorem getD_all {α : Type} [Inhabited α] {p : α → Prop} {l : List α} (h : ∀ s ∈ l, p s) (h0 : p default) (i : Nat) : p (l.getD i default) := by
 rw [List.getD_eq_getElem?_getD]
 cases hq : l[i]? with
 | none => exact h0
 | some y => exact h y (List.mem_of_getElem? hq)
theorem secS_def : SecS default := ⟨by decide, ⟨by decide, by decide, by decide, by decide, by decide, by decide⟩, ⟨by decide, Bytes.nil⟩, by decide, fun r hr => by cases hr⟩
theorem lnkM_S2 {b : List Int} (hB : Bytes b) (hf : frOk b) : ∀ i, ∀ s ∈ lnkM b i, SecS s := by
 have hmay := hf.1.2.1
 unfold HdD.may MayHd at hmay
 have hmn : ((mnH b : Nat) : Int) = (hdOf b).many := by unfold mnH; omega
 intro i
 induction i with
 | zero => exact secM_S2 hB hf _ (by omega)
 | succ i ih =>
  intro s hs
  rw [lnkM] at hs
  split at hs
  · exact ih s hs
  · rename_i v _
    rcases List.mem_or_eq_of_mem_set hs with hs | rfl
    · exact ih s hs
    · have h1 := getD_all ih secS_def (v - 1).toNat
      have h2 := numF_rng hf (shK b i).a6
      exact ⟨h1.name, ⟨h1.nums.1, h1.nums.2.1, h1.nums.2.2.1, h1.nums.2.2.2.1, by show I64 (numF b (shK b i).a6); unfold I64; omega, h1.nums.2.2.2.2.2⟩, h1.data, h1.rels⟩
theorem relL_S2 {b : List Int} (hB : Bytes b) (hf : frOk b) {tb : Int} {i : Nat} (hi : i < mnH b) (h : relsOk b tb i) : (relL b i (relMany b i)).length ≤ 1000000 ∧ ∀ r ∈ relL b i (relMany b i), r.ok := by
 constructor
 · rw [relL_len]
   unfold relMany
   have hsa := shK_all (hf.2.2.1 i hi)
   have hk : 24 * relMany b i ≤ 16384 + 24 := by
    by_cases h0 : relMany b i = 0
    · omega
    · have h1 := h.2.2.2.2.2 (relMany b i - 1) (by omega)
      have h2 := h1.2.1
      have h3 := told_len b (shK b i)
      have := hf.2.1
      omega
   unfold relMany at hk
   omega
 · intro r hr
   unfold relL at hr
   obtain ⟨k, hk, rfl⟩ := List.mem_map.1 hr
   exact relOf_ok (told_bytes hB _) (h.2.2.2.2.2 k (List.mem_range.1 hk)).2.2
theorem relS_S2 {b : List Int} (hB : Bytes b) (hf : frOk b) {tb : Int} (ho : othOk b tb) : ∀ i, i ≤ mnH b → ∀ s ∈ relS b i, SecS s := by
 intro i
 induction i with
 | zero => intro _; exact lnkM_S2 hB hf _
 | succ i ih =>
  intro hi s hs
  by_cases h4 : (shK b i).a1 = 4
  · rw [relS_yes h4] at hs
    rcases List.mem_or_eq_of_mem_set hs with hs | rfl
    · exact ih (by omega) s hs
    · have h1 := getD_all (ih (by omega)) secS_def (secV b i)
      have h2 := relL_S2 hB hf (by omega) ((ho i (by omega)).1 h4)
      exact ⟨h1.name, h1.nums, h1.data, h2⟩
  · rw [relS_no h4] at hs
    exact ih (by omega) s hs
theorem ulebAll_rng {l0 : List Int} : ∀ (f : Nat) (l r : List Int), Bytes l → ulebAll f l = some r → r.length ≤ f ∧ ∀ x ∈ r, I64 x := by
 intro f
 induction f with
 | zero =>
  intro l r hB h
  cases l with
  | nil => rw [ulebAll_nil] at h; obtain rfl := Option.some.inj h; exact ⟨by simp, fun x hx => by cases hx⟩
  | cons a l => simp [ulebAll] at h
 | succ f ih =>
  intro l r hB h
  by_cases hl : l = []
  · subst hl
    rw [ulebAll_nil] at h; obtain rfl := Option.some.inj h; exact ⟨by simp, fun x hx => by cases hx⟩
  · rw [ulebAll_cons hl (by omega)] at h
    cases hu : ulebH l with
    | none => rw [hu] at h; cases h
    | some p =>
     obtain ⟨v, n⟩ := p
     rw [hu] at h
     have hv := ulebH_some hB hu
     simp only [Nat.add_sub_cancel] at h
     cases hr : ulebAll f (l.drop n) with
     | none => rw [hr] at h; simp at h
     | some r' =>
      rw [hr] at h
      simp at h
      subst h
      have := ih _ _ (hB.drop _) hr
      refine ⟨by simp; omega, fun x hx => ?_⟩
      rcases List.mem_cons.1 hx with rfl | hx
      · unfold I64; omega
      · exact this.2 x hx
theorem sgS_S2 {b : List Int} (hB : Bytes b) (hf : frOk b) : ∀ i, (sgS b i).2.length ≤ 1000000 ∧ ∀ x ∈ (sgS b i).2, I64 x := by
 intro i
 induction i with
 | zero => exact ⟨by show 0 ≤ 1000000; decide, fun x hx => by cases hx⟩
 | succ i ih =>
  by_cases h : (shK b i).a1 = 1879002115
  · rw [sgS_yes h]
    cases hg : sgL b i with
    | none => exact ⟨by decide, fun x hx => by cases hx⟩
    | some r =>
     unfold sgL at hg
     have h1 := ulebAll_rng (l0 := []) _ _ _ (told_bytes hB _) hg
     have h2 := told_len b (shK b i)
     have := hf.2.1
     exact ⟨by show r.length ≤ _; omega, h1.2⟩
  · rw [sgS_no h]; exact ih
theorem objG_lens {b : List Int} {tb : Nat} (h : getOk b tb) : (objG b tb).secs.length ≤ 100000000000000 ∧ (objG b tb).syms.length ≤ 100000000000000 ∧ (objG b tb).groups.length ≤ 900000 := by
 have hmay := h.1.1.2.1
 unfold HdD.may MayHd at hmay
 have hmn : ((mnH b : Nat) : Int) = (hdOf b).many := by unfold mnH; omega
 have hsl := (secM_len b (mnH b - 1)).1
 have hgl := grpS_len b (mnH b)
 have hsa := shK_all (h.1.2.2.1 tb h.2.2.1.2.1)
 refine ⟨?_, ?_, ?_⟩
 · show (relS b (mnH b)).length ≤ _
   rw [relS_len, lnkM_len]; omega
 · show (symL b tb (syMany b tb)).length ≤ _
   rw [symL_len]; unfold syMany; omega
 · show (grpS b (mnH b)).length ≤ _
   omega
theorem memN_rng {b : List Int} (hf : frOk b) (i : Nat) : ∀ k, ∀ x ∈ memN b i k, I64 x := by
 intro k
 induction k with
 | zero => intro x hx; cases hx
 | succ k ih =>
  intro x hx
  rw [memN] at hx
  split at hx
  · rcases List.mem_append.1 hx with hx | hx
    · exact ih x hx
    · obtain rfl := List.mem_singleton.1 hx
      have := numF_rng hf (wK b i k)
      unfold I64; omega
  · exact ih x hx
theorem objG_ok {b : List Int} (hB : Bytes b) {tb : Nat} (h : getOk b tb) : (objG b tb).ok := by
 have hl := objG_lens h
 have hm := maxLen_eq
 have hbl := h.1.2.1
 obtain ⟨h1, h2, h3, h4⟩ := h
 refine ⟨by omega, fun s hs => ?_, by omega, fun s hs => ?_, by omega, fun g hg => ?_, by have := (sgS_S2 hB h1 (mnH b)).1; show (sgS b (mnH b)).2.length ≤ _; omega, (sgS_S2 hB h1 (mnH b)).2⟩
 · have w := relS_S2 hB h1 h4 (mnH b) (Nat.le_refl _) s hs
   obtain ⟨w1, w2, w3, w4⟩ := w
   exact ⟨by omega, w2.1, w2.2.1, w2.2.2.1, w2.2.2.2.1, w2.2.2.2.2.1, w2.2.2.2.2.2, by omega, w3.2, by omega, w4.2⟩
 · change s ∈ symL b tb (syMany b tb) at hs
   unfold symL at hs
   obtain ⟨k, hk, rfl⟩ := List.mem_map.1 hs
   have he := (h3.2.2.2.2.2.2.1 k (List.mem_range.1 hk)).1.2.2.2
   change MayE (entK b tb k) at he
   have hx := numF_rng h1 (entK b tb k).idx
   unfold numF at hx
   unfold MayE at he
   refine ⟨?_, ?_, ?_, ?_, ?_, ?_⟩
   · have : ((atF (syN b tb) (entK b tb k).name).getD noS).size ≤ 32 := by
      cases hq : atF (syN b tb) (entK b tb k).name with
      | none => decide
      | some s => exact atF_size hq
     show ((atF (syN b tb) (entK b tb k).name).getD noS).size ≤ maxLen
     omega
   · show I64 (entK b tb k).bind; unfold I64; omega
   · show I64 (entK b tb k).typ; unfold I64; omega
   · show I64 (symX (numM b) (entK b tb k))
     unfold symX I64
     split
     · omega
     · split <;> omega
   · show I64 (entK b tb k).val; unfold I64; omega
   · show I64 (entK b tb k).size; unfold I64; omega
 · have key : ∀ i, i ≤ mnH b → ∀ g ∈ grpS b i, g.ok := by
    intro i
    induction i with
    | zero => intro _ g hg; cases hg
    | succ i ih =>
     intro hi g hg
     by_cases h17 : (shK b i).a1 = 17
     · rw [grpS_yes h17] at hg
       rcases List.mem_append.1 hg with hg | hg
       · exact ih (by omega) g hg
       · obtain rfl := List.mem_singleton.1 hg
         have hsa := shK_all (h1.2.2.1 i (by omega))
         have hml := memN_len b i (grpN b i)
         have htl := told_len b (shK b i)
         refine ⟨by show I64 (shK b i).a7; unfold I64; omega, ?_, memN_rng h1 i _⟩
         show (memN b i (grpN b i)).length ≤ maxLen
         unfold grpN at *
         omega
     · rw [grpS_no h17] at hg
       exact ih (by omega) g hg
   exact key (mnH b) (Nat.le_refl _) g hg
set_option maxHeartbeats 4000000 in
theorem obj_GetN (b : List Int) (hB : Bytes b) (hb : b.length ≤ 1000000) (hno : ∀ tb, getOk b tb → shapeB (objG b tb) = false) : A0 Tryz.prog 7 [.rd 1 (bys b)] (fun ret => ret = .tup [.agg (objA zObj), .v (ifV 37 2)]) := by
 refine A0.body 41 Tryz.func7 rfl rfl Tryz.ntmps7 fun base n0 => ?_
 refine AW.seq' ?_
 refine AW.region ?_
 refine AO.ww ?_
 refine AO.c ?_
 refine AO.nil ?_
 refine SQ.normal ?_
 refine AW.seq' ?_
 refine AW.region ?_
 refine AO.c ?_
 refine AO.ww ?_
 refine AO.c ?_
 refine AO.ww ?_
 refine AO.c ?_
 refine AO.nil ?_
 refine SQ.normal ?_
 refine AW.seq' ?_
 refine AW.seq' ?_
 rcases getN_cases hno with h1 | ⟨h1, h2⟩ | ⟨h1, h2, h3⟩ | ⟨tb, h1, h2, h3, h4⟩ | ⟨tb, h1, h2, h3, h4, h5⟩
 ·
  skip
  refine AW.ghost (Gh.mapM 1 kI vI) ?_
  refine AW.ghost (Gh.adoptC 2 1 157 10 rfl) ?_
  refine AW.ghost (Gh.adoptC 2 4 104 9 rfl) ?_
  refine AW.ghost (Gh.adoptC 2 5 82 6 rfl) ?_
  refine AW.ghost (Gh.adoptC 2 6 107 2 rfl) ?_
  refine AW.region ?_
  refine AO.c ?_
  refine AO.callE (α := List (Option AB)) (av := fun _ => .v (.bool false)) (H2 := fun X => Hn n0 (some (.box 29 zOC) :: X)) (p := fun _ => True) Tryz.func26 rfl rfl (AC.cong (obj_frame n0 zOC b hB (by omega) (some (.row 82 6 0 (([] : List SymD).map symA))) (some (.row 107 2 0 (([] : List GrpD).map grpA)))) rfl (fun r H' h => by
   rcases h with ⟨x, q1, _⟩ | ⟨X, _, q1, q2⟩
   · exact absurd q1 h1
   · exact ⟨X, q1, q2, trivial⟩)) ?_
  intro X _
  refine AO.c ?_
  refine AO.eq 11 (av' := .v (.bool true)) rfl ?_
  refine AO.c ?_
  iterate 3 refine AO.sk rfl ?_
  refine AO.pt rfl ?_
  refine AO.c ?_
  iterate 3 refine AO.sk rfl ?_
  refine AO.pt rfl ?_
  refine AO.c ?_
  iterate 3 refine AO.sk rfl ?_
  refine AO.pt rfl ?_
  refine AO.c ?_
  iterate 6 refine AO.sk rfl ?_
  refine AO.pt rfl ?_
  refine AO.nil ?_
  refine SQ.normal ?_
  refine AW.iteB (GL.ev _) (fun h0 => ?_) (fun h0 => ?_)
  ·
   skip
   refine AW.seq' ?_
   refine AW.region ?_
   iterate 2 refine AO.c ?_
   refine AO.sst ?_
   refine AO.c ?_
   refine AO.nil ?_
   refine SQ.normal ?_
   refine AW.ret ?_
   refine SQ.ret ?_
   refine Fin.ret (Gh.tellC 0 [.rd 9 (([] : List SecD).map secA), .rd 6 (([] : List SymD).map symA), .rd 2 (([] : List GrpD).map grpA), .v (.bool false), .rd 1 (([] : List Int).map iA)]) noid2 ?_
   rfl
  ·
   cases h0
 ·
  skip
  refine AW.ghost (Gh.mapM 1 kI vI) ?_
  refine AW.ghost (Gh.adoptC 2 1 157 10 rfl) ?_
  refine AW.ghost (Gh.adoptC 2 4 104 9 rfl) ?_
  refine AW.ghost (Gh.adoptC 2 5 82 6 rfl) ?_
  refine AW.ghost (Gh.adoptC 2 6 107 2 rfl) ?_
  refine AW.region ?_
  refine AO.c ?_
  refine AO.callE (α := Nat × Nat) (av := fun _ => .v (.bool true)) (H2 := fun x => Hn n0 (([some (.box 29 zOC), some (.map ((numM b).map (mE kI vI))), some (.box 88 [.rd 1 (bys b), .rd 10 ((hdsN b (mnH b)).map shA), .omap (n0 + 1), .v (.int .i64 (0)), .own (n0 + 4) (x.1) 0 ((secM b (mnH b - 1)).1).length, .own (n0 + 5) 0 0 0, .own (n0 + 6) 0 0 0, .v (.bool false), .v (.slice none 0 0)]), none, some (.row 104 9 (x.1) (((secM b (mnH b - 1)).1).map secN)), some (.row 82 6 0 (([] : List SymD).map symA)), some (.row 107 2 0 (([] : List GrpD).map grpA))] ++ List.replicate x.2 none) ++ [])) (p := fun _ => True) Tryz.func26 rfl rfl (AC.cong (obj_frame n0 zOC b hB (by omega) (some (.row 82 6 0 (([] : List SymD).map symA))) (some (.row 107 2 0 (([] : List GrpD).map grpA)))) rfl (fun r H' h => by
   rcases h with ⟨x, _, q1, q2⟩ | ⟨X, q1, _⟩
   · exact ⟨x, q1, q2.trans rfl, trivial⟩
   · exact absurd h1 q1)) ?_
  intro x _
  refine AO.c ?_
  refine AO.eq 11 (av' := .v (.bool false)) rfl ?_
  refine AO.c ?_
  refine AO.gk rfl ?_
  refine AO.c ?_
  refine AO.gk rfl ?_
  refine AO.callE (α := List (Option AB)) (av := fun _ => .v (.bool false)) (H2 := fun X => Hn n0 (some (.box 29 zOC) :: X)) (p := fun _ => True) Tryz.func27 rfl rfl (AC.cong (obj_links n0 zOC b h1 (some (.row 82 6 0 (([] : List SymD).map symA))) (some (.row 107 2 0 (([] : List GrpD).map grpA))) x.2 x.1) rfl (fun r H' h => by
   rcases h with ⟨x, q1, _⟩ | ⟨X, _, q1, q2⟩
   · exact absurd q1 h2
   · exact ⟨X, q1, q2, trivial⟩)) ?_
  intro X _
  refine AO.gk rfl ?_
  refine AO.c ?_
  refine AO.eq 15 (av' := .v (.bool true)) rfl ?_
  refine AO.pf rfl ?_
  refine AO.c ?_
  iterate 3 refine AO.sk rfl ?_
  refine AO.pt rfl ?_
  refine AO.c ?_
  iterate 3 refine AO.sk rfl ?_
  refine AO.pt rfl ?_
  refine AO.c ?_
  iterate 6 refine AO.sk rfl ?_
  refine AO.pt rfl ?_
  refine AO.nil ?_
  refine SQ.normal ?_
  refine AW.iteB (GL.ev _) (fun h0 => ?_) (fun h0 => ?_)
  ·
   skip
   refine AW.seq' ?_
   refine AW.region ?_
   iterate 2 refine AO.c ?_
   refine AO.sst ?_
   refine AO.c ?_
   refine AO.nil ?_
   refine SQ.normal ?_
   refine AW.ret ?_
   refine SQ.ret ?_
   refine Fin.ret (Gh.tellC 0 [.rd 9 (([] : List SecD).map secA), .rd 6 (([] : List SymD).map symA), .rd 2 (([] : List GrpD).map grpA), .v (.bool false), .rd 1 (([] : List Int).map iA)]) noid2 ?_
   rfl
  ·
   cases h0
 ·
  skip
  refine AW.ghost (Gh.mapM 1 kI vI) ?_
  refine AW.ghost (Gh.adoptC 2 1 157 10 rfl) ?_
  refine AW.ghost (Gh.adoptC 2 4 104 9 rfl) ?_
  refine AW.ghost (Gh.adoptC 2 5 82 6 rfl) ?_
  refine AW.ghost (Gh.adoptC 2 6 107 2 rfl) ?_
  refine AW.region ?_
  refine AO.c ?_
  refine AO.callE (α := Nat × Nat) (av := fun _ => .v (.bool true)) (H2 := fun x => Hn n0 (([some (.box 29 zOC), some (.map ((numM b).map (mE kI vI))), some (.box 88 [.rd 1 (bys b), .rd 10 ((hdsN b (mnH b)).map shA), .omap (n0 + 1), .v (.int .i64 (0)), .own (n0 + 4) (x.1) 0 ((secM b (mnH b - 1)).1).length, .own (n0 + 5) 0 0 0, .own (n0 + 6) 0 0 0, .v (.bool false), .v (.slice none 0 0)]), none, some (.row 104 9 (x.1) (((secM b (mnH b - 1)).1).map secN)), some (.row 82 6 0 (([] : List SymD).map symA)), some (.row 107 2 0 (([] : List GrpD).map grpA))] ++ List.replicate x.2 none) ++ [])) (p := fun _ => True) Tryz.func26 rfl rfl (AC.cong (obj_frame n0 zOC b hB (by omega) (some (.row 82 6 0 (([] : List SymD).map symA))) (some (.row 107 2 0 (([] : List GrpD).map grpA)))) rfl (fun r H' h => by
   rcases h with ⟨x, _, q1, q2⟩ | ⟨X, q1, _⟩
   · exact ⟨x, q1, q2.trans rfl, trivial⟩
   · exact absurd h1 q1)) ?_
  intro x _
  refine AO.c ?_
  refine AO.eq 11 (av' := .v (.bool false)) rfl ?_
  refine AO.c ?_
  refine AO.gk rfl ?_
  refine AO.c ?_
  refine AO.gk rfl ?_
  refine AO.callE (α := Nat) (av := fun _ => .v (.bool true)) (H2 := fun y => Hn n0 (([some (.box 29 zOC), some (.map ((numM b).map (mE kI vI))), some (.box 88 [.rd 1 (bys b), .rd 10 ((hdsN b (mnH b)).map shA), .omap (n0 + 1), .v (.int .i64 (0)), .own (n0 + 4) (x.1) 0 (lnkM b (mnH b)).length, .own (n0 + 5) 0 0 0, .own (n0 + 6) 0 0 0, .v (.bool false), .v (.slice none 0 0)]), none, some (.row 104 9 (x.1) ((lnkM b (mnH b)).map secN)), some (.row 82 6 0 (([] : List SymD).map symA)), some (.row 107 2 0 (([] : List GrpD).map grpA))] ++ List.replicate y none) ++ [])) (p := fun _ => True) Tryz.func27 rfl rfl (AC.cong (obj_links n0 zOC b h1 (some (.row 82 6 0 (([] : List SymD).map symA))) (some (.row 107 2 0 (([] : List GrpD).map grpA))) x.2 x.1) rfl (fun r H' h => by
   rcases h with ⟨y, _, q1, q2⟩ | ⟨X, q1, _⟩
   · exact ⟨y, q1, q2, trivial⟩
   · exact absurd h2 q1)) ?_
  intro j2 _
  refine AO.gk rfl ?_
  refine AO.c ?_
  refine AO.eq 15 (av' := .v (.bool false)) rfl ?_
  refine AO.pf rfl ?_
  refine AO.c ?_
  refine AO.gk rfl ?_
  refine AO.c ?_
  refine AO.gk rfl ?_
  refine AO.callE (α := List (Option AB)) (av := fun _ => .v (.bool false)) (H2 := fun X => Hn n0 (some (.box 29 zOC) :: X)) (p := fun _ => True) Tryz.func28 rfl rfl (AC.cong (obj_readSyms n0 zOC b hB h1 (some (.row 107 2 0 (([] : List GrpD).map grpA))) j2 x.1) rfl (fun r H' h => by
   rcases h with ⟨x, g1, _⟩ | ⟨X, _, g1, g2⟩
   · exact absurd g1 (h3 _)
   · exact ⟨X, g1, g2, trivial⟩)) ?_
  intro X _
  refine AO.gk rfl ?_
  refine AO.c ?_
  refine AO.eq 20 (av' := .v (.bool true)) rfl ?_
  refine AO.pf rfl ?_
  refine AO.c ?_
  iterate 3 refine AO.sk rfl ?_
  refine AO.pt rfl ?_
  refine AO.c ?_
  iterate 6 refine AO.sk rfl ?_
  refine AO.pt rfl ?_
  refine AO.nil ?_
  refine SQ.normal ?_
  refine AW.iteB (GL.ev _) (fun h0 => ?_) (fun h0 => ?_)
  ·
   skip
   refine AW.seq' ?_
   refine AW.region ?_
   iterate 2 refine AO.c ?_
   refine AO.sst ?_
   refine AO.c ?_
   refine AO.nil ?_
   refine SQ.normal ?_
   refine AW.ret ?_
   refine SQ.ret ?_
   refine Fin.ret (Gh.tellC 0 [.rd 9 (([] : List SecD).map secA), .rd 6 (([] : List SymD).map symA), .rd 2 (([] : List GrpD).map grpA), .v (.bool false), .rd 1 (([] : List Int).map iA)]) noid2 ?_
   rfl
  ·
   cases h0
 ·
  skip
  refine AW.ghost (Gh.mapM 1 kI vI) ?_
  refine AW.ghost (Gh.adoptC 2 1 157 10 rfl) ?_
  refine AW.ghost (Gh.adoptC 2 4 104 9 rfl) ?_
  refine AW.ghost (Gh.adoptC 2 5 82 6 rfl) ?_
  refine AW.ghost (Gh.adoptC 2 6 107 2 rfl) ?_
  refine AW.region ?_
  refine AO.c ?_
  refine AO.callE (α := Nat × Nat) (av := fun _ => .v (.bool true)) (H2 := fun x => Hn n0 (([some (.box 29 zOC), some (.map ((numM b).map (mE kI vI))), some (.box 88 [.rd 1 (bys b), .rd 10 ((hdsN b (mnH b)).map shA), .omap (n0 + 1), .v (.int .i64 (0)), .own (n0 + 4) (x.1) 0 ((secM b (mnH b - 1)).1).length, .own (n0 + 5) 0 0 0, .own (n0 + 6) 0 0 0, .v (.bool false), .v (.slice none 0 0)]), none, some (.row 104 9 (x.1) (((secM b (mnH b - 1)).1).map secN)), some (.row 82 6 0 (([] : List SymD).map symA)), some (.row 107 2 0 (([] : List GrpD).map grpA))] ++ List.replicate x.2 none) ++ [])) (p := fun _ => True) Tryz.func26 rfl rfl (AC.cong (obj_frame n0 zOC b hB (by omega) (some (.row 82 6 0 (([] : List SymD).map symA))) (some (.row 107 2 0 (([] : List GrpD).map grpA)))) rfl (fun r H' h => by
   rcases h with ⟨x, _, q1, q2⟩ | ⟨X, q1, _⟩
   · exact ⟨x, q1, q2.trans rfl, trivial⟩
   · exact absurd h1 q1)) ?_
  intro x _
  refine AO.c ?_
  refine AO.eq 11 (av' := .v (.bool false)) rfl ?_
  refine AO.c ?_
  refine AO.gk rfl ?_
  refine AO.c ?_
  refine AO.gk rfl ?_
  refine AO.callE (α := Nat) (av := fun _ => .v (.bool true)) (H2 := fun y => Hn n0 (([some (.box 29 zOC), some (.map ((numM b).map (mE kI vI))), some (.box 88 [.rd 1 (bys b), .rd 10 ((hdsN b (mnH b)).map shA), .omap (n0 + 1), .v (.int .i64 (0)), .own (n0 + 4) (x.1) 0 (lnkM b (mnH b)).length, .own (n0 + 5) 0 0 0, .own (n0 + 6) 0 0 0, .v (.bool false), .v (.slice none 0 0)]), none, some (.row 104 9 (x.1) ((lnkM b (mnH b)).map secN)), some (.row 82 6 0 (([] : List SymD).map symA)), some (.row 107 2 0 (([] : List GrpD).map grpA))] ++ List.replicate y none) ++ [])) (p := fun _ => True) Tryz.func27 rfl rfl (AC.cong (obj_links n0 zOC b h1 (some (.row 82 6 0 (([] : List SymD).map symA))) (some (.row 107 2 0 (([] : List GrpD).map grpA))) x.2 x.1) rfl (fun r H' h => by
   rcases h with ⟨y, _, q1, q2⟩ | ⟨X, q1, _⟩
   · exact ⟨y, q1, q2, trivial⟩
   · exact absurd h2 q1)) ?_
  intro j2 _
  refine AO.gk rfl ?_
  refine AO.c ?_
  refine AO.eq 15 (av' := .v (.bool false)) rfl ?_
  refine AO.pf rfl ?_
  refine AO.c ?_
  refine AO.gk rfl ?_
  refine AO.c ?_
  refine AO.gk rfl ?_
  refine AO.callE (α := Nat × Nat) (av := fun _ => .v (.bool true)) (H2 := fun y => Hn n0 (([some (.box 29 zOC), some (.map ((numM b).map (mE kI vI))), some (.box 88 [.rd 1 (bys b), .rd 10 ((hdsN b (mnH b)).map shA), .omap (n0 + 1), .v (.int .i64 ((tb : Int))), .own (n0 + 4) x.1 0 (lnkM b (mnH b)).length, .own (n0 + 5) (y.1) 0 (symL b tb (syMany b tb)).length, .own (n0 + 6) 0 0 0, .v (.bool false), .v (.slice none 0 0)]), none, some (.row 104 9 x.1 ((lnkM b (mnH b)).map secN)), some (.row 82 6 (y.1) ((symL b tb (syMany b tb)).map symA)), some (.row 107 2 0 (([] : List GrpD).map grpA))] ++ List.replicate y.2 none) ++ [])) (p := fun _ => True) Tryz.func28 rfl rfl (AC.cong (obj_readSyms n0 zOC b hB h1 (some (.row 107 2 0 (([] : List GrpD).map grpA))) j2 x.1) rfl (fun r H' h => by
   rcases h with ⟨y, g1, g2, g3⟩ | ⟨X, g1, _⟩
   · obtain rfl := symsOk_uniq h3 g1
     exact ⟨y.2, g2, g3, trivial⟩
   · exact absurd h3 (g1 _))) ?_
  rintro ⟨y5, j3⟩ _
  generalize x.1 = ep2
  refine AO.gk rfl ?_
  refine AO.c ?_
  refine AO.eq 20 (av' := .v (.bool false)) rfl ?_
  refine AO.pf rfl ?_
  refine AO.c ?_
  refine AO.gk rfl ?_
  refine AO.c ?_
  refine AO.gk rfl ?_
  refine AO.callE (α := List (Option AB)) (av := fun _ => .v (.bool false)) (H2 := fun X => Hn n0 (some (.box 29 zOC) :: X)) (p := fun _ => True) Tryz.func29 rfl rfl (AC.cong (obj_others n0 zOC b hB h1 tb y5 (symL b tb (syMany b tb)).length (some (.row 82 6 y5 ((symL b tb (syMany b tb)).map symA))) j3 ep2) (by rw [secN_R (lnkM_rels b _)]; rfl) (fun r H' h => by
   rcases h with ⟨x, q1, _⟩ | ⟨X, _, q1, q2⟩
   · exact absurd q1 h4
   · exact ⟨X, q1, q2, trivial⟩)) ?_
  intro X _
  refine AO.gk rfl ?_
  refine AO.c ?_
  refine AO.eq 25 (av' := .v (.bool true)) rfl ?_
  refine AO.pf rfl ?_
  refine AO.c ?_
  iterate 6 refine AO.sk rfl ?_
  refine AO.pt rfl ?_
  refine AO.nil ?_
  refine SQ.normal ?_
  refine AW.iteB (GL.ev _) (fun h0 => ?_) (fun h0 => ?_)
  ·
   skip
   refine AW.seq' ?_
   refine AW.region ?_
   iterate 2 refine AO.c ?_
   refine AO.sst ?_
   refine AO.c ?_
   refine AO.nil ?_
   refine SQ.normal ?_
   refine AW.ret ?_
   refine SQ.ret ?_
   refine Fin.ret (Gh.tellC 0 [.rd 9 (([] : List SecD).map secA), .rd 6 (([] : List SymD).map symA), .rd 2 (([] : List GrpD).map grpA), .v (.bool false), .rd 1 (([] : List Int).map iA)]) noid2 ?_
   rfl
  ·
   cases h0
 ·
  have hq := objG_ok hB ⟨h1, h2, h3, h4⟩
  have hbl := h1.2.1
  have ha1 : (relS b (mnH b)).length ≤ 100000000000000 := (objG_lens ⟨h1, h2, h3, h4⟩).1
  have ha2 : (symL b tb (syMany b tb)).length ≤ 100000000000000 := (objG_lens ⟨h1, h2, h3, h4⟩).2.1
  have ha3 : (grpS b (mnH b)).length ≤ 100000000000000 := Nat.le_trans (objG_lens ⟨h1, h2, h3, h4⟩).2.2 (by decide)
  have hsh := obj_shape (objG b tb) hq
  rw [shape_eq hq] at hsh
  refine AW.ghost (Gh.mapM 1 kI vI) ?_
  refine AW.ghost (Gh.adoptC 2 1 157 10 rfl) ?_
  refine AW.ghost (Gh.adoptC 2 4 104 9 rfl) ?_
  refine AW.ghost (Gh.adoptC 2 5 82 6 rfl) ?_
  refine AW.ghost (Gh.adoptC 2 6 107 2 rfl) ?_
  refine AW.region ?_
  refine AO.c ?_
  refine AO.callE (α := Nat × Nat) (av := fun _ => .v (.bool true)) (H2 := fun x => Hn n0 (([some (.box 29 zOC), some (.map ((numM b).map (mE kI vI))), some (.box 88 [.rd 1 (bys b), .rd 10 ((hdsN b (mnH b)).map shA), .omap (n0 + 1), .v (.int .i64 (0)), .own (n0 + 4) (x.1) 0 ((secM b (mnH b - 1)).1).length, .own (n0 + 5) 0 0 0, .own (n0 + 6) 0 0 0, .v (.bool false), .v (.slice none 0 0)]), none, some (.row 104 9 (x.1) (((secM b (mnH b - 1)).1).map secN)), some (.row 82 6 0 (([] : List SymD).map symA)), some (.row 107 2 0 (([] : List GrpD).map grpA))] ++ List.replicate x.2 none) ++ [])) (p := fun _ => True) Tryz.func26 rfl rfl (AC.cong (obj_frame n0 zOC b hB (by omega) (some (.row 82 6 0 (([] : List SymD).map symA))) (some (.row 107 2 0 (([] : List GrpD).map grpA)))) rfl (fun r H' h => by
   rcases h with ⟨x, _, q1, q2⟩ | ⟨X, q1, _⟩
   · exact ⟨x, q1, q2.trans rfl, trivial⟩
   · exact absurd h1 q1)) ?_
  intro x _
  refine AO.c ?_
  refine AO.eq 11 (av' := .v (.bool false)) rfl ?_
  refine AO.c ?_
  refine AO.gk rfl ?_
  refine AO.c ?_
  refine AO.gk rfl ?_
  refine AO.callE (α := Nat) (av := fun _ => .v (.bool true)) (H2 := fun y => Hn n0 (([some (.box 29 zOC), some (.map ((numM b).map (mE kI vI))), some (.box 88 [.rd 1 (bys b), .rd 10 ((hdsN b (mnH b)).map shA), .omap (n0 + 1), .v (.int .i64 (0)), .own (n0 + 4) (x.1) 0 (lnkM b (mnH b)).length, .own (n0 + 5) 0 0 0, .own (n0 + 6) 0 0 0, .v (.bool false), .v (.slice none 0 0)]), none, some (.row 104 9 (x.1) ((lnkM b (mnH b)).map secN)), some (.row 82 6 0 (([] : List SymD).map symA)), some (.row 107 2 0 (([] : List GrpD).map grpA))] ++ List.replicate y none) ++ [])) (p := fun _ => True) Tryz.func27 rfl rfl (AC.cong (obj_links n0 zOC b h1 (some (.row 82 6 0 (([] : List SymD).map symA))) (some (.row 107 2 0 (([] : List GrpD).map grpA))) x.2 x.1) rfl (fun r H' h => by
   rcases h with ⟨y, _, q1, q2⟩ | ⟨X, q1, _⟩
   · exact ⟨y, q1, q2, trivial⟩
   · exact absurd h2 q1)) ?_
  intro j2 _
  refine AO.gk rfl ?_
  refine AO.c ?_
  refine AO.eq 15 (av' := .v (.bool false)) rfl ?_
  refine AO.pf rfl ?_
  refine AO.c ?_
  refine AO.gk rfl ?_
  refine AO.c ?_
  refine AO.gk rfl ?_
  refine AO.callE (α := Nat × Nat) (av := fun _ => .v (.bool true)) (H2 := fun y => Hn n0 (([some (.box 29 zOC), some (.map ((numM b).map (mE kI vI))), some (.box 88 [.rd 1 (bys b), .rd 10 ((hdsN b (mnH b)).map shA), .omap (n0 + 1), .v (.int .i64 ((tb : Int))), .own (n0 + 4) x.1 0 (lnkM b (mnH b)).length, .own (n0 + 5) (y.1) 0 (symL b tb (syMany b tb)).length, .own (n0 + 6) 0 0 0, .v (.bool false), .v (.slice none 0 0)]), none, some (.row 104 9 x.1 ((lnkM b (mnH b)).map secN)), some (.row 82 6 (y.1) ((symL b tb (syMany b tb)).map symA)), some (.row 107 2 0 (([] : List GrpD).map grpA))] ++ List.replicate y.2 none) ++ [])) (p := fun _ => True) Tryz.func28 rfl rfl (AC.cong (obj_readSyms n0 zOC b hB h1 (some (.row 107 2 0 (([] : List GrpD).map grpA))) j2 x.1) rfl (fun r H' h => by
   rcases h with ⟨y, g1, g2, g3⟩ | ⟨X, g1, _⟩
   · obtain rfl := symsOk_uniq h3 g1
     exact ⟨y.2, g2, g3, trivial⟩
   · exact absurd h3 (g1 _))) ?_
  rintro ⟨y5, j3⟩ _
  generalize x.1 = ep2
  refine AO.gk rfl ?_
  refine AO.c ?_
  refine AO.eq 20 (av' := .v (.bool false)) rfl ?_
  refine AO.pf rfl ?_
  refine AO.c ?_
  refine AO.gk rfl ?_
  refine AO.c ?_
  refine AO.gk rfl ?_
  refine AO.callE (α := Nat × Nat) (av := fun _ => .v (.bool true)) (H2 := fun z => Hn n0 (([some (.box 29 zOC), some (.map ((numM b).map (mE kI vI))), some (.box 88 [.rd 1 (bys b), .rd 10 ((hdsN b (mnH b)).map shA), .omap (n0 + 1), .v (.int .i64 ((tb : Int))), .own (n0 + 4) ep2 0 (relS b (mnH b)).length, .own (n0 + 5) y5 0 (symL b tb (syMany b tb)).length, .own (n0 + 6) (z.1) 0 (grpS b (mnH b)).length, .v (.bool (sgS b (mnH b)).1), .rd 1 ((sgS b (mnH b)).2.map iA)]), none, some (.row 104 9 ep2 ((relS b (mnH b)).map secR)), some (.row 82 6 y5 ((symL b tb (syMany b tb)).map symA)), some (.row 107 2 (z.1) ((grpS b (mnH b)).map grpA))] ++ List.replicate z.2 none) ++ [])) (p := fun _ => True) Tryz.func29 rfl rfl (AC.cong (obj_others n0 zOC b hB h1 tb y5 (symL b tb (syMany b tb)).length (some (.row 82 6 y5 ((symL b tb (syMany b tb)).map symA))) j3 ep2) (by rw [secN_R (lnkM_rels b _)]; rfl) (fun r H' h => by
   rcases h with ⟨z, _, g1, g2⟩ | ⟨X, g1, _⟩
   · exact ⟨z, g1, g2, trivial⟩
   · exact absurd h4 g1)) ?_
  rintro ⟨e7, j4⟩ _
  refine AO.gk rfl ?_
  refine AO.c ?_
  refine AO.eq 25 (av' := .v (.bool false)) rfl ?_
  refine AO.pf rfl ?_
  refine AO.c ?_
  refine AO.gk rfl ?_
  refine AO.ghost (Gh.freezeC 2 4 (by rw [List.length_map]) (by rw [List.length_map]; omega)) ?_
  refine AO.ghost (Gh.freezeC 2 5 (by rw [List.length_map]) (by rw [List.length_map]; omega)) ?_
  refine AO.ghost (Gh.freezeC 2 6 (by rw [List.length_map]) (by rw [List.length_map]; omega)) ?_
  haveI hT : TELL (.rd 9 ((relS b (mnH b)).map secR)) (.rd 9 ((relS b (mnH b)).map secA)) := tell_map fun s _ => secR_tell s
  refine AO.ghost (Gh.tellC 2 [.rd 1 (bys b), .rd 10 ((hdsN b (mnH b)).map shA), .omap (n0 + 1), .v (.int .i64 ((tb : Int))), .rd 9 ((relS b (mnH b)).map secA), .rd 6 ((symL b tb (syMany b tb)).map symA), .rd 2 ((grpS b (mnH b)).map grpA), .v (.bool (sgS b (mnH b)).1), .rd 1 ((sgS b (mnH b)).2.map iA)]) ?_
  refine AO.c ?_
  refine AO.gk rfl ?_
  refine AO.c ?_
  refine AO.gk rfl ?_
  refine AO.c ?_
  refine AO.gk rfl ?_
  refine AO.c ?_
  refine AO.gk rfl ?_
  refine AO.call1 Tryz.func30 rfl rfl hsh ?_
  refine AO.gk rfl ?_
  refine AO.c ?_
  refine AO.eq 33 (av' := .v (.bool true)) (by rw [h5]; rfl) ?_
  refine AO.pf rfl ?_
  refine AO.nil ?_
  refine SQ.normal ?_
  refine AW.iteB (GL.ev _) (fun h0 => ?_) (fun h0 => ?_)
  ·
   skip
   refine AW.seq' ?_
   refine AW.region ?_
   iterate 2 refine AO.c ?_
   refine AO.sst ?_
   refine AO.c ?_
   refine AO.nil ?_
   refine SQ.normal ?_
   refine AW.ret ?_
   refine SQ.ret ?_
   refine Fin.ret (Gh.tellC 0 [.rd 9 (([] : List SecD).map secA), .rd 6 (([] : List SymD).map symA), .rd 2 (([] : List GrpD).map grpA), .v (.bool false), .rd 1 (([] : List Int).map iA)]) noid2 ?_
   rfl
  ·
   cases h0
set_option maxHeartbeats 4000000 in
theorem obj_GetY (b : List Int) (hB : Bytes b) (hb : b.length ≤ 1000000) (tb : Nat) (hg : getOk b tb) (h5 : shapeB (objG b tb) = true) : A0 Tryz.prog 7 [.rd 1 (bys b)] (fun ret => ret = .tup [.agg (objA (objG b tb)), .v (ifV 37 0)]) := by
 obtain ⟨h1, h2, h3, h4⟩ := hg
 have hq := objG_ok hB ⟨h1, h2, h3, h4⟩
 have hbl := h1.2.1
 have ha1 : (relS b (mnH b)).length ≤ 100000000000000 := (objG_lens ⟨h1, h2, h3, h4⟩).1
 have ha2 : (symL b tb (syMany b tb)).length ≤ 100000000000000 := (objG_lens ⟨h1, h2, h3, h4⟩).2.1
 have ha3 : (grpS b (mnH b)).length ≤ 100000000000000 := Nat.le_trans (objG_lens ⟨h1, h2, h3, h4⟩).2.2 (by decide)
 have hsh := obj_shape (objG b tb) hq
 rw [shape_eq hq] at hsh
 refine A0.body 41 Tryz.func7 rfl rfl Tryz.ntmps7 fun base n0 => ?_
 refine AW.seq' ?_
 refine AW.region ?_
 refine AO.ww ?_
 refine AO.c ?_
 refine AO.nil ?_
 refine SQ.normal ?_
 refine AW.seq' ?_
 refine AW.region ?_
 refine AO.c ?_
 refine AO.ww ?_
 refine AO.c ?_
 refine AO.ww ?_
 refine AO.c ?_
 refine AO.nil ?_
 refine SQ.normal ?_
 refine AW.seq' ?_
 refine AW.seq' ?_
 refine AW.ghost (Gh.mapM 1 kI vI) ?_
 refine AW.ghost (Gh.adoptC 2 1 157 10 rfl) ?_
 refine AW.ghost (Gh.adoptC 2 4 104 9 rfl) ?_
 refine AW.ghost (Gh.adoptC 2 5 82 6 rfl) ?_
 refine AW.ghost (Gh.adoptC 2 6 107 2 rfl) ?_
 refine AW.region ?_
 refine AO.c ?_
 refine AO.callE (α := Nat × Nat) (av := fun _ => .v (.bool true)) (H2 := fun x => Hn n0 (([some (.box 29 zOC), some (.map ((numM b).map (mE kI vI))), some (.box 88 [.rd 1 (bys b), .rd 10 ((hdsN b (mnH b)).map shA), .omap (n0 + 1), .v (.int .i64 (0)), .own (n0 + 4) (x.1) 0 ((secM b (mnH b - 1)).1).length, .own (n0 + 5) 0 0 0, .own (n0 + 6) 0 0 0, .v (.bool false), .v (.slice none 0 0)]), none, some (.row 104 9 (x.1) (((secM b (mnH b - 1)).1).map secN)), some (.row 82 6 0 (([] : List SymD).map symA)), some (.row 107 2 0 (([] : List GrpD).map grpA))] ++ List.replicate x.2 none) ++ [])) (p := fun _ => True) Tryz.func26 rfl rfl (AC.cong (obj_frame n0 zOC b hB (by omega) (some (.row 82 6 0 (([] : List SymD).map symA))) (some (.row 107 2 0 (([] : List GrpD).map grpA)))) rfl (fun r H' h => by
  rcases h with ⟨x, _, q1, q2⟩ | ⟨X, q1, _⟩
  · exact ⟨x, q1, q2.trans rfl, trivial⟩
  · exact absurd h1 q1)) ?_
 intro x _
 refine AO.c ?_
 refine AO.eq 11 (av' := .v (.bool false)) rfl ?_
 refine AO.c ?_
 refine AO.gk rfl ?_
 refine AO.c ?_
 refine AO.gk rfl ?_
 refine AO.callE (α := Nat) (av := fun _ => .v (.bool true)) (H2 := fun y => Hn n0 (([some (.box 29 zOC), some (.map ((numM b).map (mE kI vI))), some (.box 88 [.rd 1 (bys b), .rd 10 ((hdsN b (mnH b)).map shA), .omap (n0 + 1), .v (.int .i64 (0)), .own (n0 + 4) (x.1) 0 (lnkM b (mnH b)).length, .own (n0 + 5) 0 0 0, .own (n0 + 6) 0 0 0, .v (.bool false), .v (.slice none 0 0)]), none, some (.row 104 9 (x.1) ((lnkM b (mnH b)).map secN)), some (.row 82 6 0 (([] : List SymD).map symA)), some (.row 107 2 0 (([] : List GrpD).map grpA))] ++ List.replicate y none) ++ [])) (p := fun _ => True) Tryz.func27 rfl rfl (AC.cong (obj_links n0 zOC b h1 (some (.row 82 6 0 (([] : List SymD).map symA))) (some (.row 107 2 0 (([] : List GrpD).map grpA))) x.2 x.1) rfl (fun r H' h => by
  rcases h with ⟨y, _, q1, q2⟩ | ⟨X, q1, _⟩
  · exact ⟨y, q1, q2, trivial⟩
  · exact absurd h2 q1)) ?_
 intro j2 _
 refine AO.gk rfl ?_
 refine AO.c ?_
 refine AO.eq 15 (av' := .v (.bool false)) rfl ?_
 refine AO.pf rfl ?_
 refine AO.c ?_
 refine AO.gk rfl ?_
 refine AO.c ?_
 refine AO.gk rfl ?_
 refine AO.callE (α := Nat × Nat) (av := fun _ => .v (.bool true)) (H2 := fun y => Hn n0 (([some (.box 29 zOC), some (.map ((numM b).map (mE kI vI))), some (.box 88 [.rd 1 (bys b), .rd 10 ((hdsN b (mnH b)).map shA), .omap (n0 + 1), .v (.int .i64 ((tb : Int))), .own (n0 + 4) x.1 0 (lnkM b (mnH b)).length, .own (n0 + 5) (y.1) 0 (symL b tb (syMany b tb)).length, .own (n0 + 6) 0 0 0, .v (.bool false), .v (.slice none 0 0)]), none, some (.row 104 9 x.1 ((lnkM b (mnH b)).map secN)), some (.row 82 6 (y.1) ((symL b tb (syMany b tb)).map symA)), some (.row 107 2 0 (([] : List GrpD).map grpA))] ++ List.replicate y.2 none) ++ [])) (p := fun _ => True) Tryz.func28 rfl rfl (AC.cong (obj_readSyms n0 zOC b hB h1 (some (.row 107 2 0 (([] : List GrpD).map grpA))) j2 x.1) rfl (fun r H' h => by
  rcases h with ⟨y, g1, g2, g3⟩ | ⟨X, g1, _⟩
  · obtain rfl := symsOk_uniq h3 g1
    exact ⟨y.2, g2, g3, trivial⟩
  · exact absurd h3 (g1 _))) ?_
 rintro ⟨y5, j3⟩ _
 generalize x.1 = ep2
 refine AO.gk rfl ?_
 refine AO.c ?_
 refine AO.eq 20 (av' := .v (.bool false)) rfl ?_
 refine AO.pf rfl ?_
 refine AO.c ?_
 refine AO.gk rfl ?_
 refine AO.c ?_
 refine AO.gk rfl ?_
 refine AO.callE (α := Nat × Nat) (av := fun _ => .v (.bool true)) (H2 := fun z => Hn n0 (([some (.box 29 zOC), some (.map ((numM b).map (mE kI vI))), some (.box 88 [.rd 1 (bys b), .rd 10 ((hdsN b (mnH b)).map shA), .omap (n0 + 1), .v (.int .i64 ((tb : Int))), .own (n0 + 4) ep2 0 (relS b (mnH b)).length, .own (n0 + 5) y5 0 (symL b tb (syMany b tb)).length, .own (n0 + 6) (z.1) 0 (grpS b (mnH b)).length, .v (.bool (sgS b (mnH b)).1), .rd 1 ((sgS b (mnH b)).2.map iA)]), none, some (.row 104 9 ep2 ((relS b (mnH b)).map secR)), some (.row 82 6 y5 ((symL b tb (syMany b tb)).map symA)), some (.row 107 2 (z.1) ((grpS b (mnH b)).map grpA))] ++ List.replicate z.2 none) ++ [])) (p := fun _ => True) Tryz.func29 rfl rfl (AC.cong (obj_others n0 zOC b hB h1 tb y5 (symL b tb (syMany b tb)).length (some (.row 82 6 y5 ((symL b tb (syMany b tb)).map symA))) j3 ep2) (by rw [secN_R (lnkM_rels b _)]; rfl) (fun r H' h => by
  rcases h with ⟨z, _, g1, g2⟩ | ⟨X, g1, _⟩
  · exact ⟨z, g1, g2, trivial⟩
  · exact absurd h4 g1)) ?_
 rintro ⟨e7, j4⟩ _
 refine AO.gk rfl ?_
 refine AO.c ?_
 refine AO.eq 25 (av' := .v (.bool false)) rfl ?_
 refine AO.pf rfl ?_
 refine AO.c ?_
 refine AO.gk rfl ?_
 refine AO.ghost (Gh.freezeC 2 4 (by rw [List.length_map]) (by rw [List.length_map]; omega)) ?_
 refine AO.ghost (Gh.freezeC 2 5 (by rw [List.length_map]) (by rw [List.length_map]; omega)) ?_
 refine AO.ghost (Gh.freezeC 2 6 (by rw [List.length_map]) (by rw [List.length_map]; omega)) ?_
 haveI hT : TELL (.rd 9 ((relS b (mnH b)).map secR)) (.rd 9 ((relS b (mnH b)).map secA)) := tell_map fun s _ => secR_tell s
 refine AO.ghost (Gh.tellC 2 [.rd 1 (bys b), .rd 10 ((hdsN b (mnH b)).map shA), .omap (n0 + 1), .v (.int .i64 ((tb : Int))), .rd 9 ((relS b (mnH b)).map secA), .rd 6 ((symL b tb (syMany b tb)).map symA), .rd 2 ((grpS b (mnH b)).map grpA), .v (.bool (sgS b (mnH b)).1), .rd 1 ((sgS b (mnH b)).2.map iA)]) ?_
 refine AO.c ?_
 refine AO.gk rfl ?_
 refine AO.c ?_
 refine AO.gk rfl ?_
 refine AO.c ?_
 refine AO.gk rfl ?_
 refine AO.c ?_
 refine AO.gk rfl ?_
 refine AO.call1 Tryz.func30 rfl rfl hsh ?_
 refine AO.gk rfl ?_
 refine AO.c ?_
 refine AO.eq 33 (av' := .v (.bool false)) (by rw [h5]; rfl) ?_
 refine AO.pf rfl ?_
 refine AO.nil ?_
 refine SQ.normal ?_
 refine AW.iteB (GL.ev _) (fun h0 => ?_) (fun h0 => ?_)
 ·
  cases h0
 ·
  skip
  refine AW.skip ?_
  refine SQ.normal ?_
  refine AW.seq' ?_
  refine AW.region ?_
  iterate 4 refine AO.c ?_
  refine AO.sst ?_
  refine AO.c ?_
  refine AO.nil ?_
  refine SQ.normal ?_
  refine AW.ret ?_
  refine Fin.ret (Gh.refl) noid2 ?_
  rfl
end Go.Proofs.YtdniaamhbfadnaaGreat.AL
namespace Go.Proofs.YtdniaamhbfadnaaGreat.AL
open Go Go.RowKit Go.Proofs.YtdniaamhbfadnaaGreat.Base
set_option linter.unusedVariables false
set_option linter.unusedSimpArgs false
set_option maxRecDepth 4000
set_option synthInstance.maxSize 1000
set_option synthInstance.maxHeartbeats 200000
def outR (b : List Int) : Nat → List SecD
 | 0 => []
 | k + 1 => if isS (shK b (k + 1)) then outR b k ++ [(secO b (shK b (k + 1)) ((nmK b (k + 1)).getD noS)).lnk (numF b (shK b (k + 1)).a6)] else outR b k
theorem outR_yes {b : List Int} {k : Nat} (h : isS (shK b (k + 1))) : outR b (k + 1) = outR b k ++ [(secO b (shK b (k + 1)) ((nmK b (k + 1)).getD noS)).lnk (numF b (shK b (k + 1)).a6)] := by rw [outR, if_pos h]
theorem outR_no {b : List Int} {k : Nat} (h : ¬ isS (shK b (k + 1))) : outR b (k + 1) = outR b k := by rw [outR, if_neg h]
theorem secM_yes {b : List Int} {k : Nat} (h : isS (shK b (k + 1))) : (secM b (k + 1)).1 = (secM b k).1 ++ [secO b (shK b (k + 1)) ((nmK b (k + 1)).getD noS)] := by
 rw [secM_S, if_pos (show (shK b (k + 1)).a1 = 1 ∨ (shK b (k + 1)).a1 = 8 from h)]
theorem secM_no {b : List Int} {k : Nat} (h : ¬ isS (shK b (k + 1))) : (secM b (k + 1)).1 = (secM b k).1 := by
 rw [secM_S, if_neg (show ¬ ((shK b (k + 1)).a1 = 1 ∨ (shK b (k + 1)).a1 = 8) from h)]
theorem outR_len (b : List Int) : ∀ k, (outR b k).length = (secM b k).1.length := by
 intro k
 induction k with
 | zero => rfl
 | succ k ih =>
  by_cases h : isS (shK b (k + 1))
  · rw [outR_yes h, secM_yes h, List.length_append, List.length_append, ih]; rfl
  · rw [outR_no h, secM_no h, ih]
theorem secM_pre (b : List Int) : ∀ n k, k ≤ n → ∃ r, (secM b n).1 = (secM b k).1 ++ r := by
 intro n
 induction n with
 | zero => intro k h; rw [show k = 0 by omega]; exact ⟨[], by simp⟩
 | succ n ih =>
  intro k h
  by_cases e : k = n + 1
  · rw [e]; exact ⟨[], by simp⟩
  · obtain ⟨r, hr⟩ := ih k (by omega)
    by_cases hs : isS (shK b (n + 1))
    · rw [secM_yes hs, hr]; exact ⟨_, List.append_assoc _ _ _⟩
    · rw [secM_no hs, hr]; exact ⟨r, rfl⟩
theorem lnkM_out (b : List Int) : ∀ i, i < mnH b → lnkM b (i + 1) = outR b i ++ (secM b (mnH b - 1)).1.drop (outR b i).length := by
 intro i
 induction i with
 | zero =>
  intro hi
  rw [lnkM_none (by rw [show numM b = (secM b (mnH b - 1)).2 from rfl, secM_get, if_neg (by omega)])]
  rfl
 | succ i ih =>
  intro hi
  by_cases hs : isS (shK b (i + 1))
  · have hv : aget (numM b) ((i + 1 : Nat) : Int) = some ((secM b (i + 1)).1.length : Int) := by
     rw [show numM b = (secM b (mnH b - 1)).2 from rfl, secM_get, if_pos ⟨by omega, by omega, by rw [Int.toNat_natCast]; exact hs⟩, Int.toNat_natCast]
    obtain ⟨r, hr⟩ := secM_pre b (mnH b - 1) (i + 1) (by omega)
    have hl := outR_len b i
    have hlv : (((secM b (i + 1)).1.length : Int) - 1).toNat = (outR b i).length := by rw [secM_yes hs, List.length_append, hl]; simp
    rw [lnkM_some hv, hlv, ih (by omega), outR_yes hs, hr, secM_yes hs, hl]
    have e1 : ((secM b i).1 ++ [secO b (shK b (i + 1)) ((nmK b (i + 1)).getD noS)] ++ r).drop (secM b i).1.length = secO b (shK b (i + 1)) ((nmK b (i + 1)).getD noS) :: r := by
     rw [List.append_assoc, List.drop_left]; rfl
    rw [e1, ← hl]
    have e2 : (outR b i ++ secO b (shK b (i + 1)) ((nmK b (i + 1)).getD noS) :: r).getD (outR b i).length default = secO b (shK b (i + 1)) ((nmK b (i + 1)).getD noS) := by simp
    rw [e2, List.length_append, List.length_singleton, hl]
    have e3 : ((secM b i).1 ++ [secO b (shK b (i + 1)) ((nmK b (i + 1)).getD noS)] ++ r).drop ((secM b i).1.length + 1) = r := by
     rw [show (secM b i).1.length + 1 = ((secM b i).1 ++ [secO b (shK b (i + 1)) ((nmK b (i + 1)).getD noS)]).length by simp, List.drop_left]
    rw [e3, ← hl, List.set_append_right _ _ (Nat.le_refl _), Nat.sub_self, List.append_assoc]
    rfl
  · have hv : aget (numM b) ((i + 1 : Nat) : Int) = none := by
     rw [show numM b = (secM b (mnH b - 1)).2 from rfl, secM_get, if_neg]
     rintro ⟨_, _, h⟩
     rw [Int.toNat_natCast] at h
     exact hs h
    rw [lnkM_none hv, ih (by omega), outR_no hs]
theorem lnkM_R {b : List Int} (h : 0 < mnH b) : lnkM b (mnH b) = outR b (mnH b - 1) := by
 obtain ⟨k, hk⟩ : ∃ k, mnH b = k + 1 := ⟨mnH b - 1, by omega⟩
 have := lnkM_out b k (by omega)
 rw [hk, this, hk, Nat.add_sub_cancel, List.drop_of_length_le (by rw [outR_len]; exact Nat.le_refl _), List.append_nil]
def readOk (b : List Int) : Prop := HdOk b ∧ b.length ≤ 16384 ∧ (∀ k, k < mnH b → hdOk1 b k) ∧ isF (hdsN b (mnH b)) (hdOf b).names 3 = true
def secsOk (b : List Int) : Prop := ∀ k, 1 ≤ k → k < mnH b → (nmK b k).isSome = true ∧ lnk1 b k
theorem fr_read {b : List Int} : (frOk b ∧ lnkOk b) ↔ (readOk b ∧ secsOk b) := by
 constructor
 · rintro ⟨⟨h1, h2, h3, h4, h5⟩, h6⟩
   exact ⟨⟨h1, h2, h3, h4⟩, fun k k1 k2 => ⟨h5 k k1 k2, h6 k k2⟩⟩
 · rintro ⟨⟨h1, h2, h3, h4⟩, h5⟩
   refine ⟨⟨h1, h2, h3, h4, fun k k1 k2 => (h5 k k1 k2).1⟩, fun i hi => ?_⟩
   rcases Nat.eq_zero_or_pos i with h0 | h0
   · intro hs
     rw [show numM b = (secM b (mnH b - 1)).2 from rfl, secM_get, if_neg (by omega)] at hs
     cases hs
   · exact (h5 i h0 hi).2
theorem numF_zero {b : List Int} {q : Int} : numF b q = 0 ↔ aget (numM b) q = none := by
 unfold numF
 cases h : aget (numM b) q with
 | none => simp
 | some v => have := num_rng h; simp; omega
end Go.Proofs.YtdniaamhbfadnaaGreat.AL
namespace Go.Proofs.YtdniaamhbfadnaaGreat.AL
open Go Go.RowKit Go.Proofs.YtdniaamhbfadnaaGreat.Base
set_option linter.unusedVariables false
set_option linter.unusedSimpArgs false
set_option maxRecDepth 4000
set_option synthInstance.maxSize 1000
set_option synthInstance.maxHeartbeats 200000
theorem ref_ints (l : List Int) (hl : l.length ≤ 9223372036854775807) : A0 Tryz.prog 40 [.rd 1 (l.map iA), .rd 1 (l.map iA)] (fun ret => ret = .v (.bool true)) := by
 refine A0.body 26 Tryz.func40 rfl rfl Tryz.ntmps40 fun base n0 => ?_
 refine AW.seq' ?_
 refine AW.region ?_
 refine AO.c ?_
 refine AO.nil ?_
 refine SQ.normal ?_
 refine AW.seq' ?_
 refine AW.seq' ?_
 refine AW.region ?_
 iterate 5 refine AO.c ?_
 refine AO.nil ?_
 refine SQ.normal ?_
 refine AW.iteB (GL.ev _) (fun h0 => ?_) (fun h0 => ?_)
 ·
  exfalso
  simp at h0
 ·
  skip
  refine AW.skip ?_
  refine SQ.normal ?_
  refine AW.seq' ?_
  refine AW.seq' ?_
  refine AW.region ?_
  refine AO.c ?_
  refine AO.nil ?_
  refine SQ.normal ?_
  refine AW.block' ?_
  refine AW.loopU [.k, .k, .f, .f, .f, .k, .F, .F, .f, .f, .f, .f] (fun (i : Nat) => [(5, .v (.int .i64 (i)))]) (fun i => Hn n0 []) (fun m i => i ≤ l.length ∧ m = l.length - i) (l.length) (0) ⟨by omega, by omega⟩ (by first | rfl | (simp; done)) (by first | rfl | (simp; done)) ?_
  rintro m0 i ⟨hx1, hx2⟩
  refine AW.seq' ?_
  refine AW.seq' ?_
  refine AW.region ?_
  iterate 4 refine AO.c ?_
  refine AO.nil ?_
  refine SQ.normal ?_
  refine AW.iteB (GL.ev _) (fun h1 => ?_) (fun h1 => ?_)
  ·
   try simp only [Bool.and_eq_true, Bool.or_eq_true, Bool.not_eq_true', Bool.and_eq_false_iff, Bool.or_eq_false_iff, decide_eq_true_eq, decide_eq_false_iff_not, bys_length] at h1
   refine AW.skip ?_
   refine SQ.normal ?_
   refine AW.seq' ?_
   refine AW.block' ?_
   refine AW.seq' ?_
   refine AW.drawsZ [] (.one 0 false (.one 1 false (.one 2 false (.one 3 false (.one 4 false (.one 5 false (.one 6 false (.one 7 false (.one 8 false .nil))))))))) (by kernel_rfl) rfl (by kernel_rfl) ?_
   iterate 2 refine AZ.c rfl ?_
   refine AZ.oo rfl ?_
   iterate 3 refine AZ.c rfl ?_
   refine AZ.oo rfl ?_
   iterate 2 refine AZ.c rfl ?_
   refine AZ.done ?_
   refine SQ.normal ?_
   refine AW.iteB (GL.ev _) (fun h2 => ?_) (fun h2 => ?_)
   ·
    exfalso
    simp at h2
   ·
    skip
    refine AW.skip ?_
    refine BQ.normal ?_
    refine SQ.normal ?_
    refine AW.region ?_
    refine AO.c ?_
    refine AO.oo ?_
    refine AO.c ?_
    refine AO.nil ?_
    exact AW.backU [.k, .k, .f, .f, .f, .k, .F, .F, .f, .f, .f, .f] (m0 - 1) (i + 1) (by omega) (by (try dsimp only); exact ⟨by omega, by omega⟩) (by first | rfl | (simp; done)) (by first | rfl | (simp; done))
  ·
   try simp only [Bool.and_eq_true, Bool.or_eq_true, Bool.not_eq_true', Bool.and_eq_false_iff, Bool.or_eq_false_iff, decide_eq_true_eq, decide_eq_false_iff_not, bys_length] at h1
   refine AW.exit ?_
   refine SQ.exit <| AW.out <| LU.exit <| BQ.exit ?_
   refine SQ.normal ?_
   refine AW.seq' ?_
   refine AW.region ?_
   refine AO.c ?_
   refine AO.nil ?_
   refine SQ.normal ?_
   refine AW.ret ?_
   refine Fin.ret (Gh.refl) noid1 ?_
   first | rfl | (simp [packA]; done)
theorem ref_sameSec (s : SecD) (hs : s.ok) : A0 Tryz.prog 41 [.agg (secA s), .agg (secA s)] (fun ret => ret = .v (.bool true)) := by
 have hr := hs.2.2.2.2.2.2.2.2.2.1
 rw [maxLen_eq] at hr
 refine A0.body 87 Tryz.func41 rfl rfl Tryz.ntmps41 fun base n0 => ?_
 refine AW.seq' ?_
 refine AW.region ?_
 iterate 2 refine AO.ww ?_
 refine AO.c ?_
 refine AO.nil ?_
 refine SQ.normal ?_
 refine AW.seq' ?_
 refine AW.seq' ?_
 refine AW.region ?_
 iterate 6 refine AO.c ?_
 iterate 5 refine AO.gx ?_
 iterate 2 refine AO.c ?_
 iterate 5 refine AO.gx ?_
 iterate 2 refine AO.c ?_
 iterate 5 refine AO.gx ?_
 iterate 2 refine AO.c ?_
 iterate 5 refine AO.gx ?_
 iterate 2 refine AO.c ?_
 iterate 5 refine AO.gx ?_
 iterate 2 refine AO.c ?_
 iterate 5 refine AO.gx ?_
 refine AO.c ?_
 refine AO.nil ?_
 refine SQ.normal ?_
 refine AW.iteB (GL.ev _) (fun h0 => ?_) (fun h0 => ?_)
 ·
  exfalso
  simp at h0
 ·
  skip
  refine AW.skip ?_
  refine SQ.normal ?_
  refine AW.seq' ?_
  refine AW.seq' ?_
  refine AW.region ?_
  iterate 8 refine AO.c ?_
  iterate 7 refine AO.gx ?_
  refine AO.c ?_
  refine AO.nil ?_
  refine SQ.normal ?_
  refine AW.iteB (GL.ev _) (fun h1 => ?_) (fun h1 => ?_)
  ·
   exfalso
   simp at h1
  ·
   skip
   refine AW.skip ?_
   refine SQ.normal ?_
   refine AW.seq' ?_
   refine AW.seq' ?_
   refine AW.region ?_
   refine AO.c ?_
   refine AO.nil ?_
   refine SQ.normal ?_
   refine AW.block' ?_
   refine AW.loopU [.f, .f, .k, .k, .f, .k, .F, .F, .F, .F, .F, .F, .F, .F, .F, .F, .f] (fun (i : Nat) => [(5, .v (.int .i64 (i)))]) (fun i => Hn n0 [some (.box 104 (secA s)), some (.box 104 (secA s))]) (fun m i => i ≤ s.rels.length ∧ m = s.rels.length - i) (s.rels.length) (0) ⟨by omega, by omega⟩ (by first | rfl | (simp; done)) (by first | rfl | (simp; done)) ?_
   rintro m0 i ⟨hx1, hx2⟩
   refine AW.seq' ?_
   refine AW.seq' ?_
   refine AW.region ?_
   iterate 5 refine AO.c ?_
   refine AO.nil ?_
   refine SQ.normal ?_
   refine AW.iteB (GL.ev _) (fun h2 => ?_) (fun h2 => ?_)
   ·
    try simp only [Bool.and_eq_true, Bool.or_eq_true, Bool.not_eq_true', Bool.and_eq_false_iff, Bool.or_eq_false_iff, decide_eq_true_eq, decide_eq_false_iff_not, bys_length] at h2
    refine AW.skip ?_
    refine SQ.normal ?_
    refine AW.seq' ?_
    refine AW.block' ?_
    refine AW.seq' ?_
    refine AW.drawsZ [] (.one 0 false (.one 1 false (.one 2 false (.one 3 false (.one 4 false (.one 5 false (.one 6 false (.one 7 false (.one 8 false (.one 9 false (.one 10 false .nil))))))))))) (by kernel_rfl) rfl (by kernel_rfl) ?_
    iterate 3 refine AZ.c rfl ?_
    refine AZ.oo rfl ?_
    iterate 4 refine AZ.c rfl ?_
    refine AZ.oo rfl ?_
    iterate 2 refine AZ.c rfl ?_
    refine AZ.done ?_
    refine SQ.normal ?_
    refine AW.iteB (GL.ev _) (fun h3 => ?_) (fun h3 => ?_)
    ·
     exfalso
     simp at h3
    ·
     skip
     refine AW.skip ?_
     refine BQ.normal ?_
     refine SQ.normal ?_
     refine AW.region ?_
     refine AO.c ?_
     refine AO.oo ?_
     refine AO.c ?_
     refine AO.nil ?_
     exact AW.backU [.f, .f, .k, .k, .f, .k, .F, .F, .F, .F, .F, .F, .F, .F, .F, .F, .f] (m0 - 1) (i + 1) (by omega) (by (try dsimp only); exact ⟨by omega, by omega⟩) (by first | rfl | (simp; done)) (by first | rfl | (simp; done))
   ·
    try simp only [Bool.and_eq_true, Bool.or_eq_true, Bool.not_eq_true', Bool.and_eq_false_iff, Bool.or_eq_false_iff, decide_eq_true_eq, decide_eq_false_iff_not, bys_length] at h2
    refine AW.exit ?_
    refine SQ.exit <| AW.out <| LU.exit <| BQ.exit ?_
    refine SQ.normal ?_
    refine AW.seq' ?_
    refine AW.region ?_
    refine AO.c ?_
    refine AO.nil ?_
    refine SQ.normal ?_
    refine AW.ret ?_
    refine Fin.ret (Gh.refl) noid1 ?_
    first | rfl | (simp [packA]; done)
set_option maxHeartbeats 4000000 in
theorem ref_Same (o : ObjD) (ho : o.ok) : A0 Tryz.prog 9 [.agg (objA o), .agg (objA o)] (fun ret => ret = .v (.bool true)) := by
 obtain ⟨q1, q2, q3, q4, q5, q6, q7, q8⟩ := ho
 rw [maxLen_eq] at q1 q3 q5 q7
 refine A0.body 127 Tryz.func9 rfl rfl Tryz.ntmps9 fun base n0 => ?_
 refine AW.seq' ?_
 refine AW.region ?_
 iterate 2 refine AO.ww ?_
 refine AO.c ?_
 refine AO.nil ?_
 refine SQ.normal ?_
 refine AW.seq' ?_
 refine AW.region ?_
 iterate 4 refine AO.c ?_
 refine AO.call1 Tryz.func40 rfl rfl (ref_ints o.sig (by omega)) ?_
 refine AO.c ?_
 refine AO.nil ?_
 refine SQ.normal ?_
 refine AW.seq' ?_
 refine AW.seq' ?_
 refine AW.region ?_
 iterate 8 refine AO.c ?_
 iterate 7 refine AO.gx ?_
 iterate 2 refine AO.c ?_
 iterate 7 refine AO.gx ?_
 iterate 2 refine AO.c ?_
 iterate 5 refine AO.gx ?_
 iterate 2 refine AO.c ?_
 iterate 2 refine AO.gx ?_
 refine AO.c ?_
 refine AO.nil ?_
 refine SQ.normal ?_
 refine AW.iteB (GL.ev _) (fun h0 => ?_) (fun h0 => ?_)
 ·
  exfalso
  simp at h0
 ·
  skip
  refine AW.skip ?_
  refine SQ.normal ?_
  refine AW.seq' ?_
  refine AW.seq' ?_
  refine AW.region ?_
  refine AO.c ?_
  refine AO.nil ?_
  refine SQ.normal ?_
  refine AW.block' ?_
  refine AW.loopU [.f, .f, .k, .k, .f, .f, .k, .F, .F, .F, .F, .F, .F, .F, .F, .F, .F, .F, .F, .F, .F, .F] (fun (i : Nat) => [(6, .v (.int .i64 (i)))]) (fun i => Hn n0 [some (.box 29 (objA o)), some (.box 29 (objA o))]) (fun m i => i ≤ o.secs.length ∧ m = o.secs.length - i) (o.secs.length) (0) ⟨by omega, by omega⟩ (by first | rfl | (simp; done)) (by first | rfl | (simp; done)) ?_
  rintro m0 i ⟨hx1, hx2⟩
  refine AW.seq' ?_
  refine AW.seq' ?_
  refine AW.region ?_
  iterate 5 refine AO.c ?_
  refine AO.nil ?_
  refine SQ.normal ?_
  refine AW.iteB (GL.ev _) (fun h1 => ?_) (fun h1 => ?_)
  ·
   rw [decide_eq_true_eq] at h1
   have hi : i < o.secs.length := by omega
   refine AW.skip ?_
   refine SQ.normal ?_
   refine AW.seq' ?_
   refine AW.block' ?_
   refine AW.seq' ?_
   refine AW.drawsZ [] (.one 0 false (.one 1 false (.one 2 false (.one 3 false (.one 4 false (.one 5 false (.one 6 false (.one 7 false (.one 8 false (.one 9 false (.one 10 true (.one 11 false .nil)))))))))))) (by kernel_rfl) rfl (by kernel_rfl) ?_
   iterate 3 refine AZ.c rfl ?_
   refine AZ.oo rfl ?_
   iterate 4 refine AZ.c rfl ?_
   refine AZ.oo rfl ?_
   refine AZ.c rfl ?_
   refine AZ.call1 rfl Tryz.func41 rfl rfl (ref_sameSec _ (secOk_at q2 hi)) ?_
   refine AZ.c rfl ?_
   refine AZ.done ?_
   refine SQ.normal ?_
   refine AW.seq' ?_
   refine AW.region ?_
   iterate 2 refine AO.c ?_
   refine AO.nil ?_
   refine SQ.normal ?_
   refine AW.iteB (GL.ev _) (fun h2 => ?_) (fun h2 => ?_)
   ·
    exfalso
    simp at h2
   ·
    skip
    refine AW.skip ?_
    refine BQ.normal ?_
    refine SQ.normal ?_
    refine AW.region ?_
    refine AO.c ?_
    refine AO.oo ?_
    refine AO.c ?_
    refine AO.nil ?_
    exact AW.backU [.f, .f, .k, .k, .f, .f, .k, .F, .F, .F, .F, .F, .F, .F, .F, .F, .F, .F, .F, .F, .F, .F] (m0 - 1) (i + 1) (by omega) (by (try dsimp only); exact ⟨by omega, by omega⟩) (by first | rfl | (simp; done)) (by first | rfl | (simp; done))
  ·
   skip
   refine AW.exit ?_
   refine SQ.exit <| AW.out <| LU.exit <| BQ.exit ?_
   refine SQ.normal ?_
   refine AW.seq' ?_
   refine AW.seq' ?_
   refine AW.region ?_
   refine AO.c ?_
   refine AO.nil ?_
   refine SQ.normal ?_
   refine AW.block' ?_
   refine AW.loopU [.f, .f, .k, .k, .f, .f, .f, .f, .k, .F, .F, .F, .F, .F, .F, .F, .F, .F, .F, .F, .F, .F, .F, .f, .f, .f, .f, .f, .f] (fun (i : Nat) => [(8, .v (.int .i64 (i)))]) (fun i => Hn n0 [some (.box 29 (objA o)), some (.box 29 (objA o))]) (fun m i => i ≤ o.syms.length ∧ m = o.syms.length - i) (o.syms.length) (0) ⟨by omega, by omega⟩ (by first | rfl | (simp; done)) (by first | rfl | (simp; done)) ?_
   rintro m1 i ⟨hx1, hx2⟩
   refine AW.seq' ?_
   refine AW.seq' ?_
   refine AW.region ?_
   iterate 5 refine AO.c ?_
   refine AO.nil ?_
   refine SQ.normal ?_
   refine AW.iteB (GL.ev _) (fun h3 => ?_) (fun h3 => ?_)
   ·
    try simp only [Bool.and_eq_true, Bool.or_eq_true, Bool.not_eq_true', Bool.and_eq_false_iff, Bool.or_eq_false_iff, decide_eq_true_eq, decide_eq_false_iff_not, bys_length] at h3
    refine AW.skip ?_
    refine SQ.normal ?_
    refine AW.seq' ?_
    refine AW.block' ?_
    refine AW.seq' ?_
    refine AW.drawsZ [] (.one 0 false (.one 1 false (.one 2 false (.one 3 false (.one 4 false (.one 5 false (.one 6 false (.one 7 false (.one 8 false (.one 9 false (.one 10 false .nil))))))))))) (by kernel_rfl) rfl (by kernel_rfl) ?_
    iterate 3 refine AZ.c rfl ?_
    refine AZ.oo rfl ?_
    iterate 4 refine AZ.c rfl ?_
    refine AZ.oo rfl ?_
    iterate 2 refine AZ.c rfl ?_
    refine AZ.done ?_
    refine SQ.normal ?_
    refine AW.iteB (GL.ev _) (fun h4 => ?_) (fun h4 => ?_)
    ·
     exfalso
     simp at h4
    ·
     skip
     refine AW.skip ?_
     refine BQ.normal ?_
     refine SQ.normal ?_
     refine AW.region ?_
     refine AO.c ?_
     refine AO.oo ?_
     refine AO.c ?_
     refine AO.nil ?_
     exact AW.backU [.f, .f, .k, .k, .f, .f, .f, .f, .k, .F, .F, .F, .F, .F, .F, .F, .F, .F, .F, .F, .F, .F, .F, .f, .f, .f, .f, .f, .f] (m1 - 1) (i + 1) (by omega) (by (try dsimp only); exact ⟨by omega, by omega⟩) (by first | rfl | (simp; done)) (by first | rfl | (simp; done))
   ·
    try simp only [Bool.and_eq_true, Bool.or_eq_true, Bool.not_eq_true', Bool.and_eq_false_iff, Bool.or_eq_false_iff, decide_eq_true_eq, decide_eq_false_iff_not, bys_length] at h3
    refine AW.exit ?_
    refine SQ.exit <| AW.out <| LU.exit <| BQ.exit ?_
    refine SQ.normal ?_
    refine AW.seq' ?_
    refine AW.seq' ?_
    refine AW.region ?_
    refine AO.c ?_
    refine AO.nil ?_
    refine SQ.normal ?_
    refine AW.block' ?_
    refine AW.loopU [.f, .f, .k, .k, .f, .f, .f, .f, .f, .k, .F, .F, .F, .F, .F, .F, .F, .F, .F, .F, .F, .F, .F, .F, .f, .f, .f, .f, .f] (fun (i : Nat) => [(9, .v (.int .i64 (i)))]) (fun i => Hn n0 [some (.box 29 (objA o)), some (.box 29 (objA o))]) (fun m i => i ≤ o.groups.length ∧ m = o.groups.length - i) (o.groups.length) (0) ⟨by omega, by omega⟩ (by first | rfl | (simp; done)) (by first | rfl | (simp; done)) ?_
    rintro m2 i ⟨hx1, hx2⟩
    refine AW.seq' ?_
    refine AW.seq' ?_
    refine AW.region ?_
    iterate 5 refine AO.c ?_
    refine AO.nil ?_
    refine SQ.normal ?_
    refine AW.iteB (GL.ev _) (fun h5 => ?_) (fun h5 => ?_)
    ·
     rw [decide_eq_true_eq] at h5
     have hi : i < o.groups.length := by omega
     refine AW.skip ?_
     refine SQ.normal ?_
     refine AW.seq' ?_
     refine AW.block' ?_
     refine AW.seq' ?_
     refine AW.drawsZ [] (.one 0 false (.one 1 false (.one 2 false (.one 3 false (.one 4 false (.one 5 false (.one 6 false (.one 7 false (.one 8 false (.one 9 false (.one 10 false (.one 11 false (.one 12 true (.one 13 false .nil)))))))))))))) (by kernel_rfl) rfl (by kernel_rfl) ?_
     iterate 3 refine AZ.c rfl ?_
     refine AZ.oo rfl ?_
     iterate 5 refine AZ.c rfl ?_
     refine AZ.oo rfl ?_
     iterate 2 refine AZ.c rfl ?_
     refine AZ.call1 rfl Tryz.func40 rfl rfl (ref_ints _ (by have := (grpOk_at q6 hi).2.1; rw [maxLen_eq] at this; omega)) ?_
     refine AZ.c rfl ?_
     refine AZ.done ?_
     refine SQ.normal ?_
     refine AW.seq' ?_
     refine AW.drawsZ [] (.one 0 false (.one 1 false (.one 2 false (.one 3 false (.one 4 false (.one 5 false (.one 6 false (.one 7 false (.one 8 false (.one 9 false (.one 10 false (.one 11 false (.one 12 false (.one 13 false (.one 14 false (.one 15 false (.one 16 false .nil))))))))))))))))) (by kernel_rfl) rfl (by kernel_rfl) ?_
     iterate 3 refine AZ.c rfl ?_
     iterate 3 refine AZ.gx rfl ?_
     refine AZ.gxoo rfl ?_
     iterate 5 refine AZ.gx rfl ?_
     refine AZ.gxoo rfl ?_
     iterate 3 refine AZ.gx rfl ?_
     refine AZ.c rfl ?_
     refine AZ.done ?_
     refine SQ.normal ?_
     refine AW.iteB (GL.ev _) (fun h6 => ?_) (fun h6 => ?_)
     ·
      exfalso
      simp at h6
     ·
      skip
      refine AW.skip ?_
      refine BQ.normal ?_
      refine SQ.normal ?_
      refine AW.region ?_
      refine AO.c ?_
      refine AO.oo ?_
      refine AO.c ?_
      refine AO.nil ?_
      exact AW.backU [.f, .f, .k, .k, .f, .f, .f, .f, .f, .k, .F, .F, .F, .F, .F, .F, .F, .F, .F, .F, .F, .F, .F, .F, .f, .f, .f, .f, .f] (m2 - 1) (i + 1) (by omega) (by (try dsimp only); exact ⟨by omega, by omega⟩) (by first | rfl | (simp; done)) (by first | rfl | (simp; done))
    ·
     skip
     refine AW.exit ?_
     refine SQ.exit <| AW.out <| LU.exit <| BQ.exit ?_
     refine SQ.normal ?_
     refine AW.seq' ?_
     refine AW.region ?_
     refine AO.c ?_
     refine AO.nil ?_
     refine SQ.normal ?_
     refine AW.ret ?_
     refine Fin.ret (Gh.refl) noid1 ?_
     first | rfl | (simp [packA]; done)
end Go.Proofs.YtdniaamhbfadnaaGreat.AL
namespace Go.Proofs.YtdniaamhbfadnaaGreat.AL
open Go Go.RowKit Go.Proofs.YtdniaamhbfadnaaGreat.Base
set_option linter.unusedVariables false
set_option linter.unusedSimpArgs false
set_option maxRecDepth 4000
set_option synthInstance.maxSize 1000
set_option synthInstance.maxHeartbeats 200000
/-- The number of digits, the lowest first. -/
def valD : List Int → Int
 | [] => 0
 | x :: l => x % 128 + 128 * valD l
def gU (r : Option (Int × Nat)) : Int := match r with | some p => (p.2 : Int) | none => 0
theorem valD_rng : ∀ l : List Int, 0 ≤ valD l ∧ valD l < 128 ^ l.length := by
 intro l
 induction l with
 | nil => exact ⟨by decide, by decide⟩
 | cons x l ih =>
  rw [valD, List.length_cons, Int.pow_succ]
  omega
theorem ulebD_val : ∀ (j k : Nat) (l : List Int), Bytes l → j < k → j < l.length → (∀ i, i < j → 128 ≤ l.getD i 0) → l.getD j 0 < 128 → ulebD k l = some (valD (l.take (j + 1)), j + 1) := by
 intro j
 induction j with
 | zero =>
  intro k l hB hk hl _ h
  obtain ⟨k, rfl⟩ : ∃ q, k = q + 1 := ⟨k - 1, by omega⟩
  cases l with
  | nil => simp at hl
  | cons x l =>
   have hx := hB x (by simp)
   have h' : x < 128 := h
   show (if x < 128 then some (x, 1) else _) = _
   rw [if_pos h']
   show some (x, 1) = some (x % 128 + 128 * 0, 1)
   rw [show x % 128 + 128 * 0 = x by omega]
 | succ j ih =>
  intro k l hB hk hl h1 h2
  obtain ⟨k, rfl⟩ : ∃ q, k = q + 1 := ⟨k - 1, by omega⟩
  cases l with
  | nil => simp at hl
  | cons x l =>
   have hx : 128 ≤ x := h1 0 (by omega)
   have e := ih k l (fun y hy => hB y (by simp [hy])) (by omega) (by simpa using hl) (fun i hi => h1 (i + 1) (by omega)) h2
   show (if x < 128 then some (x, 1) else (ulebD k l).map fun r => (x % 128 + 128 * r.1, r.2 + 1)) = _
   rw [if_neg (by omega), e]; rfl
theorem ulebD_no : ∀ (j k : Nat) (l : List Int), (∀ i, i < j → 128 ≤ l.getD i 0) → j = l.length ∨ j = k → ulebD k l = none := by
 intro j
 induction j with
 | zero =>
  intro k l _ h
  cases l with
  | nil => cases k <;> rfl
  | cons x l =>
   rcases h with h | h
   · simp at h
   · subst h; rfl
 | succ j ih =>
  intro k l h1 h
  cases l with
  | nil => cases k <;> rfl
  | cons x l =>
   cases k with
   | zero => rfl
   | succ k =>
    have hx : 128 ≤ x := h1 0 (by omega)
    show (if x < 128 then some (x, 1) else (ulebD k l).map fun r => (x % 128 + 128 * r.1, r.2 + 1)) = _
    rw [if_neg (by omega), ih k l (fun i hi => h1 (i + 1) (by omega)) (by
     rcases h with h | h
     · left; simpa using h
     · right; omega)]; rfl
theorem drop_gd (b : List Int) (n i : Nat) : (b.drop n).getD i 0 = b.getD (n + i) 0 := by simp [List.getD_eq_getElem?_getD, List.getElem?_drop]
theorem valD_step {b : List Int} {n j q : Nat} (hq : q < j + 1) (hl : n + j < b.length) : valD (((b.drop n).take (j + 1)).drop q) = b.getD (n + q) 0 % 128 + 128 * valD (((b.drop n).take (j + 1)).drop (q + 1)) := by
 have hlt : q < ((b.drop n).take (j + 1)).length := by simp; omega
 rw [List.drop_eq_getElem_cons hlt, valD]
 congr 2
 rw [← drop_gd, List.getD_eq_getElem?_getD, List.getElem_take]
 rw [List.getElem?_eq_getElem (by simp; omega)]; rfl
theorem ulebG_no {b : List Int} {a : Int} (h0 : 0 ≤ a) (h : ulebD 5 (b.drop a.toNat) = none) : ulebG b a = none := by
 unfold ulebG ulebH; rw [if_pos h0, h]
theorem gU_zero {b : List Int} {a : Int} (hB : Bytes b) : gU (ulebG b a) = 0 ↔ ulebG b a = none := by
 cases h : ulebG b a with
 | none => simp [gU]
 | some p =>
  obtain ⟨v, n⟩ := p
  have := ulebG_some hB h
  simp [gU]; omega
set_option maxHeartbeats 1000000 in
theorem ref_Digits (b : List Int) (a : Int) (hB : Bytes b) (hb : b.length ≤ 1000000000000) (ha : I64 a) : A0 Tryz.prog 92 [.rd 1 (bys b), .v (.int .i64 (a))] (fun ret => ret = .tup [.v (.int .i64 (gN (ulebG b a))), .v (.int .i64 (gU (ulebG b a)))]) := by
 unfold I64 at ha
 refine A0.body 69 Tryz.func92 rfl rfl Tryz.ntmps92 fun base n0 => ?_
 refine AW.seq' ?_
 refine AW.region ?_
 iterate 2 refine AO.c ?_
 refine AO.nil ?_
 refine SQ.normal ?_
 refine AW.seq' ?_
 refine AW.seq' ?_
 refine AW.region ?_
 iterate 3 refine AO.c ?_
 iterate 4 refine AO.gx ?_
 refine AO.c ?_
 refine AO.nil ?_
 refine SQ.normal ?_
 refine AW.iteB (GL.ev _) (fun h0 => ?_) (fun h0 => ?_)
 ·
  have hno : ulebG b a = none := by
   by_cases h : 0 ≤ a
   · have hnil : b.drop a.toNat = [] := List.drop_of_length_le (by simp at h0; omega)
     exact ulebG_no h (by rw [hnil]; rfl)
   · unfold ulebG; rw [if_neg h]
  refine AW.seq' ?_
  refine AW.region ?_
  iterate 2 refine AO.c ?_
  refine AO.nil ?_
  refine SQ.normal ?_
  refine AW.ret ?_
  refine SQ.ret ?_
  refine Fin.ret (Gh.refl) noid2 ?_
  rw [hno]; rfl
 ·
  have ha0 : 0 ≤ a ∧ a < b.length := by simp at h0; omega
  refine AW.skip ?_
  refine SQ.normal ?_
  refine AW.seq' ?_
  refine AW.region ?_
  iterate 2 refine AO.c ?_
  refine AO.nil ?_
  refine SQ.normal ?_
  refine AW.seq' ?_
  refine AW.block' ?_
  refine AW.loopU [.k, .k, .f, .f, .f, .f, .k, .F, .F, .F, .F, .F, .F, .F, .f, .f, .f, .f, .f, .f] (fun (j : Nat) => [(6, .v (.int .i64 (a + (j : Int))))]) (fun j => Hn n0 []) (fun m j => j ≤ 5 ∧ a + j ≤ b.length ∧ m = 5 - j ∧ ∀ i, i < j → 128 ≤ (b.drop a.toNat).getD i 0) (5) (0) ⟨by omega, by omega, by omega, fun i h => by omega⟩ (by first | rfl | (simp; done)) (by first | rfl | (simp; done)) ?_
  rintro m0 j ⟨hx1, hx2, hx3, hx4⟩
  refine AW.seq' ?_
  refine AW.seq' ?_
  refine AW.region ?_
  iterate 5 refine AO.c ?_
  iterate 2 refine AO.gx ?_
  refine AO.gxoo ?_
  refine AO.gx ?_
  iterate 2 refine AO.c ?_
  iterate 2 refine AO.gx ?_
  refine AO.gxo (fun h => by simp at h; omega) ?_
  iterate 2 refine AO.gx ?_
  refine AO.c ?_
  refine AO.nil ?_
  refine SQ.normal ?_
  refine AW.iteB (GL.ev _) (fun h1 => ?_) (fun h1 => ?_)
  ·
   have h1f : a + (j : Int) < b.length ∧ (j : Int) < 5 ∧ 127 < b.getD (a.toNat + j) 0 := by
    rw [show (a + (j : Int)).toNat = a.toNat + j by omega] at h1
    simp only [Bool.and_eq_true, decide_eq_true_eq] at h1
    omega
   have hal : ∀ i, i < j + 1 → 128 ≤ (b.drop a.toNat).getD i 0 := fun i hi => by
    by_cases e : i = j
    · rw [e, drop_gd]; omega
    · exact hx4 i (by omega)
   refine AW.skip ?_
   refine SQ.normal ?_
   refine AW.block' ?_
   refine AW.region ?_
   refine AO.c ?_
   refine AO.oo ?_
   refine AO.c ?_
   refine AO.nil ?_
   refine BQ.normal ?_
   exact AW.backU [.k, .k, .f, .f, .f, .f, .k, .F, .F, .F, .F, .F, .F, .F, .f, .f, .f, .f, .f, .f] (m0 - 1) (j + 1) (by omega) (by (try dsimp only); exact ⟨by omega, by omega, by omega, hal⟩) (by (try dsimp only); rw [show a + (j : Int) + 1 = a + ((j + 1 : Nat) : Int) by omega]) (by first | rfl | (simp; done))
  ·
   have h1f : ¬ (a + (j : Int) < b.length ∧ (j : Int) < 5 ∧ 127 < b.getD (a.toNat + j) 0) := by
    rw [show (a + (j : Int)).toNat = a.toNat + j by omega] at h1
    simp only [Bool.and_eq_false_iff, decide_eq_false_iff_not] at h1
    omega
   refine AW.exit ?_
   refine SQ.exit <| AW.out <| LU.exit <| BQ.exit ?_
   refine SQ.normal ?_
   refine AW.seq' ?_
   refine AW.seq' ?_
   refine AW.region ?_
   iterate 5 refine AO.c ?_
   iterate 2 refine AO.gx ?_
   refine AO.gxoo ?_
   refine AO.gx ?_
   refine AO.c ?_
   refine AO.nil ?_
   refine SQ.normal ?_
   refine AW.iteB (GL.ev _) (fun h2 => ?_) (fun h2 => ?_)
   ·
    have hno : ulebG b a = none := ulebG_no ha0.1 (ulebD_no j 5 _ hx4 (by simp only [Bool.or_eq_true, decide_eq_true_eq] at h2; rw [List.length_drop]; omega))
    refine AW.seq' ?_
    refine AW.region ?_
    iterate 2 refine AO.c ?_
    refine AO.nil ?_
    refine SQ.normal ?_
    refine AW.ret ?_
    refine SQ.ret ?_
    refine Fin.ret (Gh.refl) noid2 ?_
    rw [hno]; rfl
   ·
    simp only [Bool.or_eq_false_iff, decide_eq_false_iff_not] at h2
    have hj : j < 5 ∧ a + (j : Int) < b.length ∧ b.getD (a.toNat + j) 0 < 128 := by omega
    have hd : ulebD 5 (b.drop a.toNat) = some (valD (((b.drop a.toNat).take (j + 1)).drop 0), j + 1) := ulebD_val j 5 _ (hB.drop _) hj.1 (by rw [List.length_drop]; omega) hx4 (by rw [drop_gd]; exact hj.2.2)
    have hdv := valD_rng (((b.drop a.toNat).take (j + 1)).drop 0)
    refine AW.skip ?_
    refine SQ.normal ?_
    refine AW.seq' ?_
    refine AW.region ?_
    refine AO.c ?_
    refine AO.nil ?_
    refine SQ.normal ?_
    refine AW.seq' ?_
    refine AW.seq' ?_
    refine AW.region ?_
    iterate 2 refine AO.c ?_
    refine AO.nil ?_
    refine SQ.normal ?_
    refine AW.block' ?_
    refine AW.loopU [.k, .k, .f, .f, .f, .f, .k, .k, .k, .F, .F, .F, .F, .F, .F, .F, .f, .f, .f, .f] (fun (p : Nat) => [(7, .v (.int .i64 (valD (((b.drop a.toNat).take (j + 1)).drop p)))), (8, .v (.int .i64 (a + (p : Int) - 1)))]) (fun p => Hn n0 []) (fun m p => p ≤ j + 1 ∧ m = p) (j + 1) (j + 1) ⟨by omega, by omega⟩ (by rw [List.drop_of_length_le (by rw [List.length_take]; omega), show a + ((j + 1 : Nat) : Int) - 1 = a + j by omega]; rfl) (by first | rfl | (simp; done)) ?_
    rintro m1 p ⟨hy1, hy2⟩
    refine AW.seq' ?_
    refine AW.seq' ?_
    refine AW.region ?_
    iterate 3 refine AO.c ?_
    refine AO.nil ?_
    refine SQ.normal ?_
    refine AW.iteB (GL.ev _) (fun h3 => ?_) (fun h3 => ?_)
    ·
     rw [decide_eq_true_eq] at h3
     obtain ⟨q, rfl⟩ : ∃ q, p = q + 1 := ⟨p - 1, by omega⟩
     have hstep := valD_step (b := b) (n := a.toNat) (j := j) (q := q) (by omega) (by omega)
     have hvr := valD_rng (((b.drop a.toNat).take (j + 1)).drop (q + 1))
     have hpw : (128 : Int) ^ (((b.drop a.toNat).take (j + 1)).drop (q + 1)).length ≤ 128 ^ 4 := pow128_le (by rw [List.length_drop, List.length_take]; omega)
     have hbr := bytes_getD hB (a.toNat + q)
     refine AW.skip ?_
     refine SQ.normal ?_
     refine AW.seq' ?_
     refine AW.block' ?_
     refine AW.region ?_
     refine AO.c ?_
     refine AO.oo ?_
     iterate 2 refine AO.c ?_
     refine AO.o (by omega) ?_
     refine AO.c ?_
     refine AO.eq 58 (av' := .v (.int .u8 (b.getD (a.toNat + q) 0))) (by rw [show (a + ((q + 1 : Nat) : Int) - 1).toNat = a.toNat + q by omega]) ?_
     iterate 2 refine AO.oo ?_
     refine AO.o (by omega) ?_
     refine AO.eq 61 (av' := .v (.int .i64 (valD (((b.drop a.toNat).take (j + 1)).drop q)))) (by rw [hstep, Int.add_comm]) ?_
     refine AO.c ?_
     refine AO.nil ?_
     refine BQ.normal ?_
     refine SQ.normal ?_
     refine AW.region ?_
     refine AO.c ?_
     refine AO.oo ?_
     refine AO.c ?_
     refine AO.nil ?_
     exact AW.backU [.k, .k, .f, .f, .f, .f, .k, .k, .k, .F, .F, .F, .F, .F, .F, .F, .f, .f, .f, .f] (m1 - 1) (q) (by omega) (by (try dsimp only); exact ⟨by omega, by omega⟩) (by rw [show a + ((q + 1 : Nat) : Int) - 1 - 1 = a + q - 1 by omega]) (by first | rfl | (simp; done))
    ·
     rw [decide_eq_false_iff_not] at h3
     have hp : p = 0 := by omega
     subst hp
     refine AW.exit ?_
     refine SQ.exit <| AW.out <| LU.exit <| BQ.exit ?_
     refine SQ.normal ?_
     refine AW.seq' ?_
     refine AW.seq' ?_
     refine AW.region ?_
     iterate 2 refine AO.c ?_
     refine AO.nil ?_
     refine SQ.normal ?_
     refine AW.iteB (GL.ev _) (fun h4 => ?_) (fun h4 => ?_)
     ·
      rw [decide_eq_true_eq] at h4
      have hno : ulebG b a = none := by unfold ulebG ulebH; rw [if_pos ha0.1, hd]; simp only; rw [if_pos h4]
      refine AW.seq' ?_
      refine AW.region ?_
      iterate 2 refine AO.c ?_
      refine AO.nil ?_
      refine SQ.normal ?_
      refine AW.ret ?_
      refine SQ.ret ?_
      refine Fin.ret (Gh.refl) noid2 ?_
      rw [hno]; rfl
     ·
      rw [decide_eq_false_iff_not] at h4
      have hyes : ulebG b a = some (valD (((b.drop a.toNat).take (j + 1)).drop 0), j + 1) := by unfold ulebG ulebH; rw [if_pos ha0.1, hd]; simp only; rw [if_neg h4]
      refine AW.skip ?_
      refine SQ.normal ?_
      refine AW.seq' ?_
      refine AW.region ?_
      iterate 2 refine AO.c ?_
      refine AO.oo ?_
      refine AO.c ?_
      refine AO.oo ?_
      iterate 2 refine AO.c ?_
      refine AO.nil ?_
      refine SQ.normal ?_
      refine AW.ret ?_
      refine Fin.ret (Gh.refl) noid2 ?_
      rw [hyes]
      show AV.tup [_, AV.v (.int .i64 (a + (j : Int) + 1 - a))] = AV.tup [_, AV.v (.int .i64 ((j + 1 : Nat) : Int))]
      rw [show a + (j : Int) + 1 - a = ((j + 1 : Nat) : Int) by omega]
      rfl
theorem ref_ListI (b : List Int) (hB : Bytes b) (hb : b.length ≤ 1000000000) : A0 Tryz.prog 37 [.rd 1 (bys b)] (fun ret => ret = .tup [.rd 1 (((ulebAll b.length b).getD []).map iA), .v (.bool (ulebAll b.length b).isSome)]) := by
 refine A0.body 28 Tryz.func37 rfl rfl Tryz.ntmps37 fun base n0 => ?_
 refine AW.seq' ?_
 refine AW.region ?_
 iterate 2 refine AO.c ?_
 refine AO.nil ?_
 refine SQ.normal ?_
 refine AW.seq' ?_
 refine AW.region ?_
 refine AO.c ?_
 refine AO.nil ?_
 refine SQ.normal ?_
 refine AW.seq' ?_
 refine AW.region ?_
 refine AO.c ?_
 refine AO.nil ?_
 refine SQ.normal ?_
 refine AW.seq' ?_
 refine AW.block' ?_
 refine AW.ghost (Gh.adoptM 4 3 1) ?_
 refine AW.loopU3 [.k, .f, .f, .f, .k, .k, .F, .F, .f, .f, .f, .f, .f, .f] (fun (ep : Nat) (a : Int) (out : List Int) => [(4, .own (n0 + 0) ep 0 out.length), (5, .v (.int .i64 (a)))]) (fun ep a out => Hn n0 [some (.row 3 1 ep (out.map iA))]) (fun m ep a out => (0 ≤ a ∧ a ≤ b.length ∧ (b.length : Int) - a ≤ m ∧ (out.length : Int) ≤ a) ∧ ulebAll b.length b = (ulebAll m (b.drop a.toNat)).map (out ++ ·)) (b.length) (0) (0) ([]) ⟨by simp, by simp⟩ (by first | rfl | (simp; done)) (by first | rfl | (simp; done)) ?_
 rintro m0 ep a out ⟨hx1, hx2⟩
 refine AW.seq' ?_
 refine AW.seq' ?_
 refine AW.region ?_
 iterate 4 refine AO.c ?_
 refine AO.nil ?_
 refine SQ.normal ?_
 refine AW.iteB (GL.ev _) (fun h0 => ?_) (fun h0 => ?_)
 ·
  rw [decide_eq_true_eq] at h0
  have hne : b.drop a.toNat ≠ [] := fun h => by have := congrArg List.length h; rw [List.length_drop] at this; simp at this; omega
  have hI : I64 a := by unfold I64; omega
  have hgd : ulebG b a = ulebH (b.drop a.toNat) := by unfold ulebG; rw [if_pos hx1.1]
  refine AW.skip ?_
  refine SQ.normal ?_
  refine AW.block' ?_
  refine AW.seq' ?_
  refine AW.region ?_
  iterate 2 refine AO.c ?_
  refine AO.call1 Tryz.func92 rfl rfl (ref_Digits b a hB (by omega) hI) ?_
  iterate 5 refine AO.c ?_
  refine AO.nil ?_
  refine SQ.normal ?_
  refine AW.seq' ?_
  refine AW.seq' ?_
  refine AW.region ?_
  iterate 2 refine AO.c ?_
  refine AO.nil ?_
  refine SQ.normal ?_
  refine AW.iteB (GL.ev _) (fun h1 => ?_) (fun h1 => ?_)
  ·
   rw [decide_eq_true_eq] at h1
   have hgn : ulebG b a = none := (gU_zero hB).1 h1
   rw [ulebAll_cons hne (by omega), ← hgd, hgn] at hx2
   refine AW.seq' ?_
   refine AW.region ?_
   iterate 2 refine AO.c ?_
   refine AO.nil ?_
   refine SQ.normal ?_
   refine AW.ret ?_
   refine SQ.ret <| BQ.ret <| AW.out <| LU.ret <| BQ.ret <| SQ.ret ?_
   refine Fin.ret (Gh.nilM (α := Int) 2 1 iA) noid2 ?_
   rw [hx2]; rfl
  ·
   rw [decide_eq_false_iff_not, gU_zero hB] at h1
   obtain ⟨⟨v, n⟩, hg⟩ : ∃ p, ulebG b a = some p := Option.isSome_iff_exists.1 (by cases hc : ulebG b a; exact absurd hc h1; rfl)
   have hgs := ulebG_some hB hg
   have hnext : ulebAll b.length b = (ulebAll (m0 - 1) (b.drop (a + gU (ulebG b a)).toNat)).map ((out ++ [gN (ulebG b a)]) ++ ·) := by
    rw [hx2, ulebAll_cons hne (by omega), ← hgd, hg]
    simp only [gU, gN, List.drop_drop]
    rw [Option.map_map, show (a + (n : Int)).toNat = a.toNat + n by omega]
    congr 1
    funext r
    simp
   refine AW.skip ?_
   refine SQ.normal ?_
   refine AW.seq' ?_
   refine AW.region ?_
   iterate 2 refine AO.c ?_
   refine AO.rr ?_
   refine AO.ww ?_
   refine AO.c ?_
   refine AO.nil ?_
   refine SQ.normal ?_
   refine AW.region ?_
   iterate 2 refine AO.c ?_
   refine AO.o (by rw [hg]; simp only [gU]; omega) ?_
   refine AO.c ?_
   refine AO.nil ?_
   refine BQ.normal ?_
   exact AW.backU [.k, .f, .f, .f, .k, .k, .F, .F, .f, .f, .f, .f, .f, .f] (m0 - 1) (ep + 1, a + gU (ulebG b a), out ++ [gN (ulebG b a)]) (by omega) (by (try dsimp only); exact ⟨by rw [hg]; simp only [gU, List.length_append, List.length_cons, List.length_nil]; omega, hnext⟩) (by first | rfl | (simp; done)) (by first | rfl | (simp; done))
 ·
  rw [decide_eq_false_iff_not] at h0
  have hnil : b.drop a.toNat = [] := List.drop_of_length_le (by omega)
  rw [hnil, ulebAll_nil] at hx2
  refine AW.exit ?_
  refine SQ.exit <| AW.out <| LU.exit <| BQ.exit ?_
  refine SQ.normal ?_
  refine AW.seq' ?_
  refine AW.region ?_
  iterate 3 refine AO.c ?_
  refine AO.nil ?_
  refine SQ.normal ?_
  refine AW.ret ?_
  refine Fin.ret (Gh.freezeM 2 iA out rfl rfl (by omega)) noid2 ?_
  rw [hx2]; simp [packA]
end Go.Proofs.YtdniaamhbfadnaaGreat.AL
