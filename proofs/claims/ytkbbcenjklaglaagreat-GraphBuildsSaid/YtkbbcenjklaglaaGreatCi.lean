/- A part of the proof: rules of an own logic over blocks, and what functions of the program compute, each by its own contract; the conditions stand with each. -/
import Derived.Test.YtkbbcenjklaglaaGreatCg
import Derived.Test.YtkbbcenjklaglaaGreatCh
import Derived.Test.YtkbbcenjklaglaaGreatCd
namespace Go.Proofs.YtkbbcenjklaglaaGreat.AL
open Go Go.RowKit Go.Proofs.YtkbbcenjklaglaaGreat.Base
set_option linter.unusedVariables false
set_option linter.unusedSimpArgs false
set_option maxRecDepth 4000
set_option synthInstance.maxSize 1000
set_option synthInstance.maxHeartbeats 200000
def pK (l : List ObjD) (i : Nat) (st : List DefD × Bool) : Nat → List DefD × Bool
 | 0 => st
 | k + 1 => if ((l.getD i default).syms.getD k default).bind = 0 then pK l i st k
  else (if (findR l ((l.getD i default).syms.getD k default).name).2 = true then putF (pK l i st k).1 (findR l ((l.getD i default).syms.getD k default).name).1 else (pK l i st k).1, (pK l i st k).2 || (!(findR l ((l.getD i default).syms.getD k default).name).2 && decide (((l.getD i default).syms.getD k default).bind = 1)))
def pI (l : List ObjD) : Nat → List DefD × Bool
 | 0 => ([], false)
 | i + 1 => pK l i (pI l i) (l.getD i default).syms.length
def mny (l : List ObjD) (i k : Nat) : Bool := decide (((l.getD i default).syms.getD k default).bind ≠ 0) && decide ((fI l ((l.getD i default).syms.getD k default).name 1 l.length).2 > 1)
def mnyE (l : List ObjD) : Prop := ∃ i k, i < l.length ∧ k < (l.getD i default).syms.length ∧ mny l i k = true
theorem filter_two {p q : DefD → Bool} (h : ∀ x, ¬ (p x = true ∧ q x = true)) : ∀ L : List DefD, (L.filter p).length + (L.filter q).length ≤ L.length := by
 intro L
 induction L with
 | nil => simp
 | cons x L ih =>
  have := h x;rw [List.filter_cons, List.filter_cons]
  cases hp : p x <;> cases hq : q x <;> simp [hp, hq] at this ⊢ <;> omega
theorem putF_len (L : List DefD) (d : DefD) : (putF L d).length ≤ L.length + 1 := by
 unfold putF
 split
 · omega
 · have := filter_two (p := fun x => sLt x.name d.name) (q := fun x => sLt d.name x.name) (fun x ⟨h1, h2⟩ => by rw [sLt_asym h1] at h2; cases h2) L
   simp only [List.length_append, List.length_cons, List.length_nil];omega
theorem pK_len (l : List ObjD) (i : Nat) (st : List DefD × Bool) : ∀ k, (pK l i st k).1.length ≤ st.1.length + k := by
 intro k
 induction k with
 | zero => exact Nat.le_refl _
 | succ k ih =>
  rw [pK]
  split
  · omega
  · show (if _ then _ else _ : List DefD).length ≤ _
    split
    · have := putF_len (pK l i st k).1 (findR l ((l.getD i default).syms.getD k default).name).1
      omega
    · omega
theorem pI_len {l : List ObjD} (hw : ResW l) : ∀ i, i ≤ l.length → (pI l i).1.length ≤ 128 * i := by
 intro i
 induction i with
 | zero => intro _; exact Nat.le_refl _
 | succ i ih =>
  intro hi;have h1 := pK_len l i (pI l i) (l.getD i default).syms.length;have h2 := (hw.sy i (by omega)).1;have h3 := ih (by omega);rw [pI]; omega
set_option maxHeartbeats 8000000 in
theorem ref_Resolve (l : List ObjD) (hk : LOk l) : A0 Tryz.prog 17 [.rd 5 (l.map objA)] (fun ret => (¬ AllMay l ∧ ret = .tup [.agg (tabA ⟨[], []⟩), .v (.int .i64 (1))]) ∨ (AllMay l ∧ mnyE l ∧ ret = .tup [.agg (tabA ⟨[], []⟩), .v (.int .i64 (3))]) ∨ (AllMay l ∧ ¬ mnyE l ∧ (pI l l.length).2 = true ∧ ret = .tup [.agg (tabA ⟨[], []⟩), .v (.int .i64 (4))]) ∨ (AllMay l ∧ ¬ mnyE l ∧ (pI l l.length).2 = false ∧ ret = .tup [.agg (tabA ⟨dropF l l.length, (pI l l.length).1⟩), .v (.int .i64 (0))])) := by
 have hlen := hk.len;refine A0.body 114 Tryz.func17 rfl rfl Tryz.ntmps17 fun base n0 => ?_
 refine n2 ?_;refine AO.ww ?_;refine AO.c ?_;refine n3 ?_;refine AO.c ?_;refine AO.ww ?_;refine AO.sst ?_;refine n4 ?_;iterate 3 refine AO.c ?_
 refine n1 ?_;refine AW.iteB (GL.ev _) (fun h0 => ?_) (fun h0 => ?_)
 ·
  rw [decide_eq_true_eq] at h0;have hno : ¬ AllMay l := fun h => by have := h.1; omega
  refine n2 ?_;refine AO.c ?_;refine AO.sst ?_;refine AO.c ?_;refine na <|SQ.ret ?_;refine Fin.ret (Gh.tellC 0 [.rd 1 (([] : List (List Bool)).map drA), .rd 3 (([] : List DefD).map defA)]) noid2 ?_;exact .inl ⟨hno, rfl⟩
 ·
  rw [decide_eq_false_iff_not] at h0;refine n5 <|n8 ?_;refine AO.c ?_;refine nb ?_
  refine AW.loopU [.k, .f, .k, .f, .k, .k, .F, .F, .F, .F, .F, .F, .F, .F, .F, .F, .F, .F, .F, .f, .f, .f, .f] (fun (i : Nat) => [(5, .v (.int .i64 ((i : Int))))]) (fun i => Hn n0 [some (.box 78 [.v (.slice none 0 0), .v (.slice none 0 0)]), some (.box 78 [.v (.slice none 0 0), .v (.slice none 0 0)])]) (fun m i => (i ≤ l.length ∧ m = l.length - i) ∧ ∀ q, q < i → mayP (l.getD q default) = true) (l.length) (0) ⟨by omega, fun q h => by omega⟩ (by first | rfl | (simp; done)) (by first | rfl | (simp; done)) ?_
  rintro m0 i ⟨hx1, hx2⟩
  refine n8 ?_;iterate 4 refine AO.c ?_
  refine n1 ?_;refine AW.iteB (GL.ev _) (fun h1 => ?_) (fun h1 => ?_)
  ·
   rw [decide_eq_true_eq] at h1;have hi : i < l.length := by omega
   have hin : l.getD i default ∈ l := getD_in hi;refine nc ?_;iterate 2 refine AO.c ?_
   refine AO.oo ?_;refine AO.c ?_;refine AO.call1 Tryz.func33 rfl rfl (ref_May8 _ (hk.ok _ hin).1 (hk.ok _ hin).2.1 (hk.ok _ hin).2.2 (hk.gs _ hin)) ?_;refine AO.c ?_;refine n3 ?_;iterate 2 refine AO.c ?_
   refine n1 ?_;refine AW.iteB (GL.ev _) (fun h2 => ?_) (fun h2 => ?_)
   ·
    rw [Bool.not_eq_true'] at h2;have hno : ¬ AllMay l := fun h => by have := h.2 _ hin; rw [this] at h2; cases h2
    refine n2 ?_;refine AO.c ?_;refine AO.sst ?_;refine AO.c ?_;refine na <|BQ.ret <|SQ.ret <|AW.out <|LU.ret <|BQ.ret <|SQ.ret ?_;refine Fin.ret (Gh.tellC 0 [.rd 1 (([] : List (List Bool)).map drA), .rd 3 (([] : List DefD).map defA)]) noid2 ?_;exact .inl ⟨hno, rfl⟩
   ·
    rw [Bool.not_eq_false'] at h2;have hal : ∀ q, q < i + 1 → mayP (l.getD q default) = true := fun q hq => by
     by_cases e : q = i
     · rw [e]; exact h2
     · exact hx2 q (by omega)
    refine n9 ?_;refine AO.c ?_;refine AO.oo ?_;refine AO.c ?_;refine AO.nil ?_;exact AW.backU [.k, .f, .k, .f, .k, .k, .F, .F, .F, .F, .F, .F, .F, .F, .F, .F, .F, .F, .F, .f, .f, .f, .f] (m0 - 1) (i + 1) (by omega) (by (try dsimp only); exact ⟨by omega, hal⟩) (by first | rfl | (simp; done)) (by first | rfl | (simp; done))
  ·
   rw [decide_eq_false_iff_not] at h1;have hmay : AllMay l := ⟨by omega, fun o ho => by
    obtain ⟨q, hq, rfl⟩ := List.getElem_of_mem ho;have := hx2 q (by omega);rw [List.getD_eq_getElem?_getD, List.getElem?_eq_getElem hq] at this;exact this⟩
   have hw := may_res hk hmay;have hl8 := hw.len;refine AW.exit <|SQ.exit <|AW.out <|LU.exit <|BQ.exit <|SQ.normal <|AW.seq' <|AW.seq' ?_;refine AW.ghost (Gh.adoptC 1 0 98 1 rfl) ?_;refine AW.region ?_;refine AO.c ?_;refine nb ?_
   refine AW.loopU2 [.k, .f, .k, .f, .k, .f, .f, .k, .F, .F, .F, .F, .F, .F, .F, .F, .F, .F, .F, .F, .F, .f, .f] (fun (i ep : Nat) => [(7, .v (.int .i64 ((i : Int))))]) (fun i ep => Hn n0 [some (.box 78 [.v (.slice none 0 0), .v (.slice none 0 0)]), some (.box 78 [.own (n0 + 2) ep 0 (dropF l i).length, .v (.slice none 0 0)]), some (.row 98 1 ep ((dropF l i).map drA))]) (fun m i ep => i ≤ l.length ∧ m = l.length - i) (l.length) (0) (0) ⟨by omega, by omega⟩ (by first | rfl | (simp; done)) (by simp [dropF]) ?_
   rintro m1 i ep ⟨hy1, hy2⟩
   refine n8 ?_;iterate 4 refine AO.c ?_
   refine n1 ?_;refine AW.iteB (GL.ev _) (fun h3 => ?_) (fun h3 => ?_)
   ·
    rw [decide_eq_true_eq] at h3;have hi : i < l.length := by omega
    have hdl := dropF_len l i;have hdr : A0 Tryz.prog 34 [.rd 5 (l.map objA), .v (.int .i64 ((i : Int)))] (fun ret => ret = .rd 1 ((dropR l i).map bA)) := by rw [dropR_eq hk hmay hi]; exact ref_Dropped l hw.g i hi
    refine n5 <|AW.seq' <|AW.block' ?_;refine AW.drawsZ [6, 8] (.one 0 false (.one 1 false (.one 2 false (.one 3 false (.one 4 true (.one 5 true (.one 6 true (.one 7 false (.one 8 true .nil))))))))) (by kernel_rfl) rfl (by kernel_rfl) ?_;iterate 4 refine AZ.c rfl ?_
    refine AZ.call1 rfl Tryz.func34 rfl rfl (hdr) ?_;refine AZ.rr rfl ?_;refine AZ.ww rfl rfl ?_;refine AZ.c rfl ?_;refine AZ.sst rfl rfl ?_;refine AZ.done ?_;refine BQ.normal <|SQ.normal <|AW.region ?_;refine AO.c ?_;refine AO.oo ?_;refine AO.c ?_;refine AO.nil ?_
    exact AW.backU [.k, .f, .k, .f, .k, .f, .f, .k, .F, .F, .F, .F, .F, .F, .F, .F, .F, .F, .F, .F, .F, .f, .f] (m1 - 1) (i + 1, ep + 1) (by omega) (by (try dsimp only); exact ⟨by omega, by omega⟩) (by first | rfl | (simp; done)) (by first | ((try dsimp only); rw [dropF_succ, List.map_append, List.length_append]; done) | ((try dsimp only); rw [dropF_succ, List.map_append, List.length_append]; rfl))
   ·
    rw [decide_eq_false_iff_not] at h3;have hi : i = l.length := by omega
    subst hi;refine AW.exit <|SQ.exit <|AW.out <|LU.exit <|BQ.exit <|SQ.normal <|AW.seq' ?_;refine AW.ghost (Gh.freezeC 1 0 (by rw [List.length_map]) (by rw [List.length_map, dropF_len]; omega)) ?_;refine AW.ghost (Gh.tellC 1 [.rd 1 ((dropF l l.length).map drA), .rd 3 (([] : List DefD).map defA)]) ?_;refine AW.region ?_;refine AO.c ?_;refine n4 ?_;refine AO.c ?_;refine nb ?_
    refine AW.loopU2 [.k, .f, .k, .f, .k, .f, .f, .f, .k, .k, .F, .F, .F, .F, .F, .F, .F, .F, .F, .F, .F, .F, .F] (fun (i j : Nat) => [(8, .v (.bool (pI l i).2)), (9, .v (.int .i64 ((i : Int))))]) (fun i j => Hn n0 (([some (.box 78 [.v (.slice none 0 0), .v (.slice none 0 0)]), some (.box 78 (tabA ⟨dropF l l.length, (pI l i).1⟩)), none] ++ List.replicate j none) ++ [])) (fun m i j => (i ≤ l.length ∧ m = l.length - i) ∧ ∀ a k, a < i → k < (l.getD a default).syms.length → mny l a k = false) (l.length) (0) (0) ⟨by omega, fun a k h => by omega⟩ (by first | rfl | (simp; done)) (by first | rfl | (simp [pI]; rfl) | (simp [pI]; done)) ?_
    rintro m2 i j ⟨hz1, hz2⟩
    refine n8 ?_;iterate 4 refine AO.c ?_
    refine n1 ?_;refine AW.iteB (GL.ev _) (fun h4 => ?_) (fun h4 => ?_)
    ·
     rw [decide_eq_true_eq] at h4;have hi : i < l.length := by omega
     have hsy := hw.sy i hi;have hpl := pI_len hw i (by omega);refine nc ?_;refine AO.c ?_;refine nb ?_
     refine AW.loopU2 [.k, .f, .k, .f, .k, .f, .f, .f, .k, .k, .k, .F, .F, .F, .F, .F, .F, .F, .F, .F, .F, .F, .F, .f, .f, .f, .f, .f, .f, .f] (fun (k j2 : Nat) => [(8, .v (.bool (pK l i (pI l i) k).2)), (10, .v (.int .i64 ((k : Int))))]) (fun k j2 => Hn n0 ((([some (.box 78 [.v (.slice none 0 0), .v (.slice none 0 0)]), some (.box 78 (tabA ⟨dropF l l.length, (pK l i (pI l i) k).1⟩)), none] ++ List.replicate j none) ++ List.replicate j2 none) ++ [])) (fun m k j2 => (k ≤ (l.getD i default).syms.length ∧ m = (l.getD i default).syms.length - k) ∧ ∀ q, q < k → mny l i q = false) ((l.getD i default).syms.length) (0) (0) ⟨by omega, fun q h => by omega⟩ (by first | rfl | (simp; done)) (by simp [pK]) ?_
     rintro m3 k j2 ⟨hw1, hw2⟩
     refine n8 ?_;iterate 3 refine AO.c ?_
     refine AO.oo ?_;iterate 4 refine AO.c ?_
     refine n1 ?_;refine AW.iteB (GL.ev _) (fun h5 => ?_) (fun h5 => ?_)
     ·
      rw [decide_eq_true_eq] at h5;have hk2 : k < (l.getD i default).syms.length := by omega
      have hkl := pK_len l i (pI l i) k;refine nc ?_;iterate 2 refine AO.c ?_
      refine AO.oo ?_;iterate 3 refine AO.c ?_
      refine AO.oo ?_;refine AO.c ?_;refine AO.ww ?_;refine AO.sst ?_;refine n4 ?_;iterate 3 refine AO.c ?_
      refine n1 ?_;refine AW.iteB (GL.ev _) (fun h6 => ?_) (fun h6 => ?_)
      ·
       rw [decide_eq_true_eq] at h6;have hst : pK l i (pI l i) (k + 1) = (pK l i (pI l i) k) := by rw [pK, if_pos h6]
       have hmn : mny l i k = false := by unfold mny; rw [decide_eq_false (by rw [h6]; decide)]; rfl
       have hal : ∀ q, q < k + 1 → mny l i q = false := fun q hq => by
        by_cases e : q = k
        · rw [e]; exact hmn
        · exact hw2 q (by omega)
       refine AW.exit <|SQ.exit <|BQ.exit <|SQ.normal <|AW.region ?_;refine AO.c ?_;refine AO.oo ?_;refine AO.c ?_;refine AO.nil ?_
       exact AW.backE [.k, .f, .k, .f, .k, .f, .f, .f, .k, .k, .k, .F, .F, .F, .F, .F, .F, .F, .F, .F, .F, .F, .F, .f, .f, .f, .f, .f, .f, .f] (j2) (m3 - 1) (k + 1, j2 + 1) (by omega) (by (try dsimp only); exact ⟨by omega, hal⟩) (by first | ((try dsimp only); rw [hst]; done) | ((try dsimp only); rw [hst]; rfl)) (by first | ((try dsimp only); rw [hst]; done) | ((try dsimp only); rw [hst]; rfl))
      ·
       rw [decide_eq_false_iff_not] at h6;refine n6 ?_;iterate 4 refine AO.c ?_
       refine AO.call1 Tryz.func35 rfl rfl (ref_First l hw (pK l i (pI l i) k).1 ((l.getD i default).syms.getD k default).name 1) ?_;iterate 3 refine AO.c ?_
       refine AO.ww ?_;refine AO.sst ?_;refine AO.c ?_;refine n4 ?_;iterate 2 refine AO.c ?_
       refine n1 ?_;refine AW.iteB (GL.ev _) (fun h7 => ?_) (fun h7 => ?_)
       ·
        rw [decide_eq_true_eq] at h7;have hme : mnyE l := ⟨i, k, hi, hk2, by unfold mny; rw [decide_eq_true h6, decide_eq_true h7]; rfl⟩;refine n2 ?_;refine AO.c ?_;refine AO.sst ?_;refine AO.c ?_;refine na <|SQ.ret <|BQ.ret <|SQ.ret <|AW.out <|LU.ret <|BQ.ret <|BQ.ret <|SQ.ret <|AW.out <|LU.ret <|BQ.ret <|SQ.ret ?_
        refine Fin.ret (Gh.tellC 0 [.rd 1 (([] : List (List Bool)).map drA), .rd 3 (([] : List DefD).map defA)]) noid2 ?_;exact .inr (.inl ⟨hmay, hme, rfl⟩)
       ·
        rw [decide_eq_false_iff_not] at h7;have hmn : mny l i k = false := by unfold mny; rw [decide_eq_false h7, Bool.and_false]
        have hal : ∀ q, q < k + 1 → mny l i q = false := fun q hq => by
         by_cases e : q = k
         · rw [e]; exact hmn
         · exact hw2 q (by omega)
        refine n6 ?_;iterate 4 refine AO.c ?_
        refine AO.call1 Tryz.func36 rfl rfl (ref_FindN l hw (pK l i (pI l i) k).1 ((l.getD i default).syms.getD k default).name) ?_;iterate 3 refine AO.c ?_
        refine AO.ww ?_;refine AO.sst ?_;refine AO.c ?_;refine n4 ?_;refine AO.c ?_;refine n1 ?_;refine AW.iteB (GL.ev _) (fun h8 => ?_) (fun h8 => ?_)
        ·
         have hst : pK l i (pI l i) (k + 1) = (putF (pK l i (pI l i) k).1 (findR l ((l.getD i default).syms.getD k default).name).1, (pK l i (pI l i) k).2 || (!(findR l ((l.getD i default).syms.getD k default).name).2 && decide (((l.getD i default).syms.getD k default).bind = 1))) := by rw [pK, if_neg h6, if_pos h8]
         refine AW.region ?_;iterate 3 refine AO.c ?_
         refine AO.call1 Tryz.func37 rfl rfl (ref_put (pK l i (pI l i) k).1 (findR l ((l.getD i default).syms.getD k default).name).1 (by omega)) ?_;refine AO.c ?_;refine AO.sst ?_;refine n1 <|AW.region ?_;iterate 2 refine AO.c ?_
         iterate 7 refine AO.gx ?_
         iterate 2 refine AO.c ?_
         refine n7 ?_;refine AO.c ?_;refine AO.oo ?_;refine AO.c ?_;refine AO.nil ?_
         exact AW.backE [.k, .f, .k, .f, .k, .f, .f, .f, .k, .k, .k, .F, .F, .F, .F, .F, .F, .F, .F, .F, .F, .F, .F, .f, .f, .f, .f, .f, .f, .f] (j2) (m3 - 1) (k + 1, j2 + 3) (by omega) (by (try dsimp only); exact ⟨by omega, hal⟩) (by (try dsimp only); rw [hst]; simp [h8]) (by first | ((try dsimp only); rw [hst]; done) | ((try dsimp only); rw [hst]; rfl))
        ·
         have hst : pK l i (pI l i) (k + 1) = ((pK l i (pI l i) k).1, (pK l i (pI l i) k).2 || (!(findR l ((l.getD i default).syms.getD k default).name).2 && decide (((l.getD i default).syms.getD k default).bind = 1))) := by rw [pK, if_neg h6, if_neg (by rw [h8]; decide)]
         refine n5 <|AW.region ?_;iterate 2 refine AO.c ?_
         iterate 7 refine AO.gx ?_
         iterate 2 refine AO.c ?_
         refine n7 ?_;refine AO.c ?_;refine AO.oo ?_;refine AO.c ?_;refine AO.nil ?_
         exact AW.backE [.k, .f, .k, .f, .k, .f, .f, .f, .k, .k, .k, .F, .F, .F, .F, .F, .F, .F, .F, .F, .F, .F, .F, .f, .f, .f, .f, .f, .f, .f] (j2) (m3 - 1) (k + 1, j2 + 3) (by omega) (by (try dsimp only); exact ⟨by omega, hal⟩) (by (try dsimp only); rw [hst]; simp [h8]) (by first | ((try dsimp only); rw [hst]; done) | ((try dsimp only); rw [hst]; rfl))
     ·
      rw [decide_eq_false_iff_not] at h5;have hk2 : k = (l.getD i default).syms.length := by omega
      subst hk2;have hnx : ∀ a k, a < i + 1 → k < (l.getD a default).syms.length → mny l a k = false := fun a k g1 g2 => by
       by_cases e : a = i
       · subst e; exact hw2 k g2
       · exact hz2 a k (by omega) g2
      refine AW.exit <|SQ.exit <|AW.out <|LU.exit <|BQ.exit <|BQ.normal <|SQ.normal <|AW.region ?_;refine AO.c ?_;refine AO.oo ?_;refine AO.c ?_;refine AO.nil ?_
      exact AW.backE [.k, .f, .k, .f, .k, .f, .f, .f, .k, .k, .F, .F, .F, .F, .F, .F, .F, .F, .F, .F, .F, .F, .F] (j) (m2 - 1) (i + 1, j + j2) (by omega) (by (try dsimp only); exact ⟨by omega, hnx⟩) (by first | rfl | (simp; done)) ((Hn_repJ (b := j + j2) (by first | (simp; done) | (simp; omega))).trans (by (try dsimp only) <;> rfl))
    ·
     rw [decide_eq_false_iff_not] at h4;have hi : i = l.length := by omega
     subst hi;have hnm : ¬ mnyE l := fun ⟨a, k, g1, g2, g3⟩ => by rw [hz2 a k g1 g2] at g3; cases g3
     refine AW.exit <|SQ.exit <|AW.out <|LU.exit <|BQ.exit <|SQ.normal <|n8 ?_;refine AO.c ?_;refine n1 ?_;refine AW.iteB (GL.ev _) (fun h9 => ?_) (fun h9 => ?_)
     ·
      skip;refine n2 ?_;refine AO.c ?_;refine AO.sst ?_;refine AO.c ?_;refine na <|SQ.ret ?_;refine Fin.ret (Gh.tellC 0 [.rd 1 (([] : List (List Bool)).map drA), .rd 3 (([] : List DefD).map defA)]) noid2 ?_;exact .inr (.inr (.inl ⟨hmay, hnm, h9, rfl⟩))
     ·
      skip;refine n6 ?_;refine AO.c ?_;refine AO.sst ?_;refine AO.c ?_;refine na ?_;refine Fin.ret (Gh.refl) noid2 ?_;exact .inr (.inr (.inr ⟨hmay, hnm, h9, rfl⟩))
def whereR (l : List ObjD) (t : TabD) (o s : Int) : PlcD × Int :=
 if o < 0 ∨ o ≥ l.length ∨ s < 0 ∨ s ≥ (l.getD o.toNat default).syms.length then (⟨0, 0, 0⟩, 1)
 else if ((l.getD o.toNat default).syms.getD s.toNat default).bind = 0 then placeF l t o s
 else if (findR l ((l.getD o.toNat default).syms.getD s.toNat default).name).2 = true then placeF l t (findR l ((l.getD o.toNat default).syms.getD s.toNat default).name).1.obj (findR l ((l.getD o.toNat default).syms.getD s.toNat default).name).1.sym
 else if ((l.getD o.toNat default).syms.getD s.toNat default).bind = 2 then (⟨0, 0, 0⟩, 0) else (⟨0, 0, 0⟩, 4)
theorem fK_in {l : List ObjD} {nm : ByteArray} {bd : Int} {i : Nat} (hi : i < l.length) {st : DefD × Int} (h0 : 0 ≤ st.2) (h : st.2 > 0 → DefIn l st.1) : ∀ k, k ≤ (l.getD i default).syms.length → (fK l nm bd i st k).2 > 0 → DefIn l (fK l nm bd i st k).1 := by
 intro k
 induction k with
 | zero => intro _; exact h
 | succ k ih =>
  intro hk;have hr := fK_rng l nm bd i st h0 k;rw [fK]
  split
  · intro _
    show DefIn l (if (fK l nm bd i st k).2 = 0 then _ else _)
    split
    · refine ⟨by show (0 : Int) ≤ i; omega, by show (i : Int) < l.length; omega, by show (0 : Int) ≤ k; omega, ?_⟩
      show (k : Int) < ((l.getD ((i : Int)).toNat default).syms.length : Int)
      rw [Int.toNat_natCast]; omega
    · exact ih (by omega) (by omega)
  · exact ih (by omega)
theorem fI_in {l : List ObjD} (hw : ResW l) {nm : ByteArray} {bd : Int} : ∀ i, i ≤ l.length → (fI l nm bd i).2 > 0 → DefIn l (fI l nm bd i).1 := by
 intro i
 induction i with
 | zero => intro _ h; exact absurd h (by show ¬ (0 : Int) > 0; decide)
 | succ i ih => intro hi; exact fK_in (by omega) (fI_rng hw nm bd i (by omega)).1 (ih (by omega)) _ (Nat.le_refl _)
theorem findR_in {l : List ObjD} (hw : ResW l) {nm : ByteArray} (h : (findR l nm).2 = true) : DefIn l (findR l nm).1 := by
 unfold findR at h ⊢
 split
 · rename_i h1; exact fI_in hw _ (Nat.le_refl _) h1
 · rename_i h1
   rw [if_neg h1] at h;exact fI_in hw _ (Nat.le_refl _) (of_decide_eq_true h)
set_option maxHeartbeats 1000000 in
theorem ref_own (l : List ObjD) (L : List DefD) (o s : Int) (hw : TabW l ⟨dropF l l.length, L⟩) (ho : 0 ≤ o ∧ o < l.length) (hs : 0 ≤ s ∧ s < (l.getD o.toNat default).syms.length) : A0 Tryz.prog 41 [.rd 5 (l.map objA), .agg (tabA ⟨dropF l l.length, L⟩), .v (.int .i64 (o)), .v (.int .i64 (s))] (fun ret => ret = .tup [.agg (plcA (placeF l (⟨dropF l l.length, L⟩ : TabD) o s).1), .v (.int .i64 ((placeF l (⟨dropF l l.length, L⟩ : TabD) o s).2))]) := by
 obtain ⟨t, ht⟩ : ∃ t : TabD, (⟨dropF l l.length, L⟩ : TabD) = t := ⟨_, rfl⟩;have hmy := hw.many;rw [ht] at hw ⊢;have hsc := hw.sec o.toNat s.toNat (by omega) (by omega);have hrow := hw.row o.toNat (by omega);have hlen := hw.len;have hsz := hw.szs o.toNat (by omega);refine A0.body 42 Tryz.func41 rfl rfl Tryz.ntmps41 fun base n0 => ?_
 refine n2 ?_;iterate 2 refine AO.ww ?_
 refine AO.c ?_;refine n3 ?_;iterate 2 refine AO.c ?_
 refine AO.o (by omega) ?_;iterate 3 refine AO.c ?_
 refine AO.o (by omega) ?_;refine AO.c ?_;refine AO.ww ?_;refine AO.sst ?_;refine n4 ?_;iterate 3 refine AO.c ?_
 refine n1 ?_;refine AW.iteB (GL.ev _) (fun h0 => ?_) (fun h0 => ?_)
 ·
  rw [decide_eq_true_eq] at h0;have e : placeF l t o s = (⟨0, 0, ((l.getD o.toNat default).syms.getD s.toNat default).val⟩, 0) := by unfold placeF; rw [if_pos (by omega)]
  refine n2 ?_;iterate 3 refine AO.c ?_
  refine AO.sst ?_;refine AO.c ?_;refine na <|SQ.ret ?_;refine Fin.ret (Gh.refl) noid2 ?_;rw [e]; rfl
 ·
  rw [decide_eq_false_iff_not] at h0;refine n5 <|AW.seq' <|AW.seq' ?_;refine AW.drawsZ [] (.one 0 false (.one 1 false (.one 2 false (.one 3 false (.one 4 false (.one 5 false (.one 6 false (.one 7 false (.one 8 false (.one 9 false .nil)))))))))) (by kernel_rfl) rfl (by kernel_rfl) ?_;iterate 3 refine AZ.c rfl ?_
  refine AZ.o rfl (by omega) ?_;iterate 3 refine AZ.c rfl ?_
  refine AZ.o rfl (by omega) ?_;refine AZ.o rfl (by omega) ?_;refine AZ.c rfl ?_;refine AZ.done ?_;refine SQ.normal ?_;refine AW.iteB (GL.ev _) (fun h1 => ?_) (fun h1 => ?_)
  ·
   have e : placeF l t o s = (⟨0, 0, 0⟩, 4) := by unfold placeF; rw [if_neg (by omega), if_pos h1]
   refine n2 ?_;refine AO.c ?_;refine AO.sst ?_;refine AO.c ?_;refine na <|SQ.ret ?_;refine Fin.ret (Gh.refl) noid2 ?_;rw [e]; rfl
  ·
   have e : placeF l t o s = (⟨o, ((l.getD o.toNat default).syms.getD s.toNat default).sec, ((l.getD o.toNat default).syms.getD s.toNat default).val⟩, 0) := by unfold placeF; rw [if_neg (by omega), if_neg (by rw [h1]; decide)]
   refine n6 ?_;iterate 6 refine AO.c ?_
   refine AO.sst ?_;refine AO.c ?_;refine na ?_;refine Fin.ret (Gh.refl) noid2 ?_;rw [e]; rfl
set_option maxHeartbeats 2000000 in
theorem ref_Where (l : List ObjD) (hr : ResW l) (L : List DefD) (o s : Int) (hw : TabW l ⟨dropF l l.length, L⟩) : A0 Tryz.prog 20 [.rd 5 (l.map objA), .agg (tabA ⟨dropF l l.length, L⟩), .v (.int .i64 (o)), .v (.int .i64 (s))] (fun ret => ret = .tup [.agg (plcA (whereR l (⟨dropF l l.length, L⟩ : TabD) o s).1), .v (.int .i64 ((whereR l (⟨dropF l l.length, L⟩ : TabD) o s).2))]) := by
 have hmy := hw.many;refine A0.body 76 Tryz.func20 rfl rfl Tryz.ntmps20 fun base n0 => ?_
 refine n2 ?_;iterate 2 refine AO.ww ?_
 refine AO.c ?_;refine n4 ?_;iterate 3 refine AO.c ?_
 iterate 4 refine AO.gx ?_
 refine AO.c ?_;refine n1 ?_;refine AW.iteB (GL.ev _) (fun h0 => ?_) (fun h0 => ?_)
 ·
  have hno : o < 0 ∨ o ≥ l.length ∨ s < 0 ∨ s ≥ (l.getD o.toNat default).syms.length := by simp only [Bool.or_eq_true, decide_eq_true_eq] at h0; omega
  have e : whereR l (⟨dropF l l.length, L⟩ : TabD) o s = (⟨0, 0, 0⟩, 1) := by unfold whereR; rw [if_pos hno]
  refine n2 ?_;refine AO.c ?_;refine AO.sst ?_;refine AO.c ?_;refine na <|SQ.ret ?_;refine Fin.ret (Gh.refl) noid2 ?_;rw [e]; rfl
 ·
  have ho : 0 ≤ o ∧ o < l.length := by simp only [Bool.or_eq_false_iff, decide_eq_false_iff_not] at h0; omega
  refine n5 <|n8 ?_;iterate 3 refine AO.c ?_
  iterate 3 refine AO.gx ?_
  refine AO.gxo (fun h => by omega) ?_;iterate 4 refine AO.gx ?_
  refine AO.c ?_;refine n1 ?_;refine AW.iteB (GL.ev _) (fun h1 => ?_) (fun h1 => ?_)
  ·
   have hno : o < 0 ∨ o ≥ l.length ∨ s < 0 ∨ s ≥ (l.getD o.toNat default).syms.length := by simp only [Bool.or_eq_true, decide_eq_true_eq] at h1; omega
   have e : whereR l (⟨dropF l l.length, L⟩ : TabD) o s = (⟨0, 0, 0⟩, 1) := by unfold whereR; rw [if_pos hno]
   refine n2 ?_;refine AO.c ?_;refine AO.sst ?_;refine AO.c ?_;refine na <|SQ.ret ?_;refine Fin.ret (Gh.refl) noid2 ?_;rw [e]; rfl
  ·
   have hyes : ¬ (o < 0 ∨ o ≥ l.length ∨ s < 0 ∨ s ≥ (l.getD o.toNat default).syms.length) := by simp only [Bool.or_eq_false_iff, decide_eq_false_iff_not] at h1; omega
   refine n6 ?_;iterate 2 refine AO.c ?_
   refine AO.o (by omega) ?_;iterate 3 refine AO.c ?_
   refine AO.o (by omega) ?_;refine AO.c ?_;refine AO.ww ?_;refine AO.sst ?_;refine n4 ?_;iterate 3 refine AO.c ?_
   refine n1 ?_;refine AW.iteB (GL.ev _) (fun h2 => ?_) (fun h2 => ?_)
   ·
    rw [decide_eq_true_eq] at h2;have e : whereR l (⟨dropF l l.length, L⟩ : TabD) o s = placeF l (⟨dropF l l.length, L⟩ : TabD) o s := by unfold whereR; rw [if_neg hyes, if_pos h2]
    refine n2 ?_;iterate 4 refine AO.c ?_
    refine AO.call1 Tryz.func41 rfl rfl (ref_own l L o s hw (by omega) (by omega)) ?_;iterate 2 refine AO.c ?_
    refine AO.sst ?_;refine AO.c ?_;refine na <|SQ.ret ?_;refine Fin.ret (Gh.refl) noid2 ?_;rw [e]; rfl
   ·
    rw [decide_eq_false_iff_not] at h2;refine n6 ?_;iterate 4 refine AO.c ?_
    refine AO.call1 Tryz.func36 rfl rfl (ref_FindN l hr L _) ?_;iterate 3 refine AO.c ?_
    refine AO.ww ?_;refine AO.sst ?_;refine AO.c ?_;refine n4 ?_;refine AO.c ?_;refine n1 ?_;refine AW.iteB (GL.ev _) (fun h3 => ?_) (fun h3 => ?_)
    ·
     have e : whereR l (⟨dropF l l.length, L⟩ : TabD) o s = placeF l (⟨dropF l l.length, L⟩ : TabD) (findR l ((l.getD o.toNat default).syms.getD s.toNat default).name).1.obj (findR l ((l.getD o.toNat default).syms.getD s.toNat default).name).1.sym := by unfold whereR; rw [if_neg hyes, if_neg h2, if_pos h3]
     have hfd := findR_in hr h3;unfold DefIn at hfd;refine n2 ?_;iterate 6 refine AO.c ?_
     refine AO.call1 Tryz.func41 rfl rfl (ref_own l L _ _ hw ⟨hfd.1, hfd.2.1⟩ ⟨hfd.2.2.1, hfd.2.2.2⟩) ?_;iterate 2 refine AO.c ?_
     refine AO.sst ?_;refine AO.c ?_;refine na <|SQ.ret ?_;refine Fin.ret (Gh.refl) noid2 ?_;rw [e]; rfl
    ·
     skip;refine n5 <|n8 ?_;iterate 3 refine AO.c ?_
     refine n1 ?_;refine AW.iteB (GL.ev _) (fun h4 => ?_) (fun h4 => ?_)
     ·
      rw [decide_eq_true_eq] at h4;have e : whereR l (⟨dropF l l.length, L⟩ : TabD) o s = (⟨0, 0, 0⟩, 0) := by unfold whereR; rw [if_neg hyes, if_neg h2, if_neg (by rw [h3]; decide), if_pos h4]
      refine n2 ?_;refine AO.c ?_;refine AO.sst ?_;refine AO.c ?_;refine na <|SQ.ret ?_;refine Fin.ret (Gh.refl) noid2 ?_;rw [e]; rfl
     ·
      rw [decide_eq_false_iff_not] at h4;have e : whereR l (⟨dropF l l.length, L⟩ : TabD) o s = (⟨0, 0, 0⟩, 4) := by unfold whereR; rw [if_neg hyes, if_neg h2, if_neg (by rw [h3]; decide), if_neg h4]
      refine n6 ?_;refine AO.c ?_;refine AO.sst ?_;refine AO.c ?_;refine na ?_;refine Fin.ret (Gh.refl) noid2 ?_;rw [e]; rfl
def look (L : List DefD) (nm : ByteArray) : Option DefD := L.find? fun x => decide (x.name = nm)
theorem sLt_ne {a b : ByteArray} (h : sLt a b = true) : a ≠ b := fun e => by rw [e, sLt_irrefl] at h; cases h
theorem look_yes {L : List DefD} {nm : ByteArray} (hs : Srt L) (h : findB L nm = true) : look L nm = some (L.getD (lowF L nm) default) := by
 obtain ⟨h1, h2⟩ := find_yes h;have h3 := (low_spec hs nm).1;unfold look;rw [List.find?_eq_some_iff_getElem];refine ⟨decide_eq_true h2, lowF L nm, h1, ?_, fun j hj => ?_⟩
 · rw [List.getD_eq_getElem?_getD, List.getElem?_eq_getElem h1]; rfl
 · have := h3 j hj
   rw [List.getD_eq_getElem?_getD, List.getElem?_eq_getElem (by omega)] at this;rw [Bool.not_eq_true', decide_eq_false_iff_not];exact sLt_ne this
theorem look_no {L : List DefD} {nm : ByteArray} (hs : Srt L) (h : findB L nm = false) : look L nm = none := by
 have h3 := (low_spec hs nm).1;have h4 := find_no hs h;unfold look;rw [List.find?_eq_none];intro x hx;obtain ⟨k, hk, rfl⟩ := List.getElem_of_mem hx;rw [decide_eq_true_eq];by_cases e : k < lowF L nm
 · have := h3 k e
   rw [List.getD_eq_getElem?_getD, List.getElem?_eq_getElem hk] at this;exact sLt_ne this
 · have := h4 k (by omega) hk
   rw [List.getD_eq_getElem?_getD, List.getElem?_eq_getElem hk] at this;exact fun c => sLt_ne this c.symm
theorem look_isSome {L : List DefD} {nm : ByteArray} (hs : Srt L) : (look L nm).isSome = findB L nm := by
 cases h : findB L nm with
 | true => rw [look_yes hs h]; rfl
 | false => rw [look_no hs h]; rfl
theorem look_mem {L : List DefD} {nm : ByteArray} {d : DefD} (h : look L nm = some d) : d ∈ L ∧ d.name = nm :=
 ⟨List.mem_of_find?_eq_some h, of_decide_eq_true (List.find?_some (p := fun x : DefD => decide (x.name = nm)) h)⟩
theorem look_of {L : List DefD} {d : DefD} (hs : Srt L) (h : d ∈ L) : look L d.name = some d := by
 have hp := srt_pw.1 hs
 cases hl : look L d.name with
 | none =>
  exfalso
  unfold look at hl;rw [List.find?_eq_none] at hl;exact hl d h (decide_eq_true rfl)
 | some x =>
  obtain ⟨h1, h2⟩ := look_mem hl;obtain ⟨a, ha, rfl⟩ := List.getElem_of_mem h;obtain ⟨b, hb, rfl⟩ := List.getElem_of_mem h1;rw [List.pairwise_iff_getElem] at hp;rcases Nat.lt_trichotomy a b with c | c | c
  · exact absurd h2.symm (sLt_ne (hp a b ha hb c))
  · subst c; rfl
  · exact absurd h2 (sLt_ne (hp b a hb ha c))
theorem srt_ext : ∀ {L M : List DefD}, Srt L → Srt M → (∀ nm, look L nm = look M nm) → L = M := by
 intro L M hL hM h;have hmem : ∀ d, d ∈ L ↔ d ∈ M := fun d => by
  constructor
  · intro hd
    have := look_of hL hd;rw [h] at this;exact (look_mem this).1
  · intro hd
    have := look_of hM hd;rw [← h] at this;exact (look_mem this).1
 have pL := srt_pw.1 hL;have pM := srt_pw.1 hM
 clear h hL hM
 induction L generalizing M with
 | nil =>
  cases M with
  | nil => rfl
  | cons x M => have := (hmem x).2 (by simp); cases this
 | cons a L ih =>
  cases M with
  | nil => have := (hmem a).1 (by simp); cases this
  | cons b M =>
   rw [List.pairwise_cons] at pL pM;have e : a = b := by
    rcases List.mem_cons.1 ((hmem a).1 (by simp)) with e | ha
    · exact e
    · rcases List.mem_cons.1 ((hmem b).2 (by simp)) with e | hb
      · exact e.symm
      · have h1 := pM.1 a ha
        have h2 := pL.1 b hb;unfold RL at h1 h2;rw [sLt_asym h1] at h2; cases h2
   subst e;rw [ih (fun d => ⟨fun hd => ?_, fun hd => ?_⟩) pL.2 pM.2]
   · rcases List.mem_cons.1 ((hmem d).1 (by simp [hd])) with e | h1
     · subst e; exact absurd rfl (sLt_ne (pL.1 d hd))
     · exact h1
   · rcases List.mem_cons.1 ((hmem d).2 (by simp [hd])) with e | h1
     · subst e; exact absurd rfl (sLt_ne (pM.1 d hd))
     · exact h1
theorem look_iff {L : List DefD} (hs : Srt L) {nm : ByteArray} {x : DefD} : look L nm = some x ↔ x ∈ L ∧ x.name = nm := by
 constructor
 · exact look_mem
 · rintro ⟨h, rfl⟩; exact look_of hs h
theorem set_mem {L : List DefD} {d : DefD} (hs : Srt L) (h : findB L d.name = true) {x : DefD} : x ∈ L.set (lowF L d.name) d ↔ x = d ∨ (x ∈ L ∧ x.name ≠ d.name) := by
 obtain ⟨h1, h2⟩ := find_yes h;have hp := srt_pw.1 hs;rw [List.pairwise_iff_getElem] at hp;rw [List.getD_eq_getElem?_getD, List.getElem?_eq_getElem h1] at h2;simp only [Option.getD_some] at h2
 constructor
 · intro hx
   obtain ⟨k, hk, rfl⟩ := List.getElem_of_mem hx;rw [List.length_set] at hk;by_cases e : lowF L d.name = k
   · left; rw [List.getElem_set]; rw [if_pos e]
   · right
     rw [List.getElem_set_ne e];refine ⟨List.getElem_mem hk, ?_⟩;intro e2;have e3 := e2.trans h2.symm;rcases Nat.lt_or_gt_of_ne e with c | c
     · exact sLt_ne (hp _ _ h1 hk c) e3.symm
     · exact sLt_ne (hp _ _ hk h1 c) e3
 · rintro (rfl | ⟨hx, hn⟩)
   · exact List.mem_set h1 _
   · obtain ⟨k, hk, rfl⟩ := List.getElem_of_mem hx
     have e : lowF L d.name ≠ k := fun e => by subst e; exact hn h2
     rw [List.mem_iff_getElem];exact ⟨k, by rw [List.length_set]; exact hk, List.getElem_set_ne e _⟩
theorem look_add {l : List ObjD} {L : List DefD} {d : DefD} (hs : Srt L) (nm : ByteArray) : look (addF l L d) nm = if d.name = nm then (match look L nm with | none => some d | some h => if bindD l h = 2 ∧ bindD l d = 1 then some d else some h) else look L nm := by
 have hs2 := addF_srt (l := l) (d := d) hs;apply Option.ext;intro x;rw [look_iff hs2];by_cases hn : d.name = nm
 · subst hn
   rw [if_pos rfl]
   cases hf : findB L d.name with
   | false =>
    have e : addF l L d = insD L (lowF L d.name) d := by unfold addF; rw [if_neg (by rw [hf]; decide)]
    have hl := look_no hs hf;rw [e, hl, insD_mem]
    constructor
    · rintro ⟨rfl | hx, h2⟩
      · rfl
      · have := look_of hs hx; rw [h2, hl] at this; cases this
    · intro h; obtain rfl := Option.some.inj h; exact ⟨.inl rfl, rfl⟩
   | true =>
    have hl := look_yes hs hf;rw [hl];simp only;by_cases hb : bindD l (L.getD (lowF L d.name) default) = 2 ∧ bindD l d = 1
    · have e : addF l L d = L.set (lowF L d.name) d := by unfold addF; rw [if_pos hf, if_pos hb]
      rw [e, if_pos hb, set_mem hs hf]
      constructor
      · rintro ⟨rfl | ⟨_, h1⟩, h2⟩
        · rfl
        · exact absurd h2 h1
      · intro h; obtain rfl := Option.some.inj h; exact ⟨.inl rfl, rfl⟩
    · have e : addF l L d = L := by unfold addF; rw [if_pos hf, if_neg hb]
      rw [e, if_neg hb, ← look_iff hs, hl]
 · rw [if_neg hn, look_iff hs]
   cases hf : findB L d.name with
   | false =>
    have e : addF l L d = insD L (lowF L d.name) d := by unfold addF; rw [if_neg (by rw [hf]; decide)]
    rw [e, insD_mem]
    constructor
    · rintro ⟨rfl | hx, h2⟩
      · exact absurd h2 hn
      · exact ⟨hx, h2⟩
    · rintro ⟨hx, h2⟩; exact ⟨.inr hx, h2⟩
   | true =>
    by_cases hb : bindD l (L.getD (lowF L d.name) default) = 2 ∧ bindD l d = 1
    · have e : addF l L d = L.set (lowF L d.name) d := by unfold addF; rw [if_pos hf, if_pos hb]
      rw [e, set_mem hs hf]
      constructor
      · rintro ⟨rfl | ⟨hx, _⟩, h2⟩
        · exact absurd h2 hn
        · exact ⟨hx, h2⟩
      · rintro ⟨hx, h2⟩; exact ⟨.inr ⟨hx, by rw [h2]; exact fun c => hn c.symm⟩, h2⟩
    · have e : addF l L d = L := by unfold addF; rw [if_pos hf, if_neg hb]
      rw [e]
theorem put_srt {L : List DefD} {d : DefD} (hs : Srt L) : Srt (putF L d) := by
 unfold putF
 split
 · exact hs
 · have hp := srt_pw.1 hs
   rw [srt_pw, List.pairwise_append, List.pairwise_append];refine ⟨⟨hp.filter _, List.pairwise_singleton _ _, fun a ha b hb => ?_⟩, hp.filter _, fun a ha b hb => ?_⟩
   · obtain rfl := List.mem_singleton.1 hb
     exact (List.mem_filter.1 ha).2
   · have hb2 := (List.mem_filter.1 hb).2
     rcases List.mem_append.1 ha with ha | ha
     · have ha2 := (List.mem_filter.1 ha).2
       exact sLt_trans ha2 hb2
     · obtain rfl := List.mem_singleton.1 ha
       exact hb2
theorem put_mem {L : List DefD} {d : DefD} (hn : ¬ ∃ x ∈ L, x.name = d.name) {x : DefD} : x ∈ putF L d ↔ x = d ∨ x ∈ L := by
 unfold putF;rw [if_neg hn, List.mem_append, List.mem_append, List.mem_singleton, List.mem_filter, List.mem_filter]
 constructor
 · rintro ((h | h) | h)
   · exact .inr h.1
   · exact .inl h
   · exact .inr h.1
 · rintro (h | h)
   · exact .inl (.inr h)
   · cases h1 : sLt x.name d.name with
     | true => exact .inl (.inl ⟨h, rfl⟩)
     | false =>
      cases h2 : sLt d.name x.name with
      | true => exact .inr ⟨h, rfl⟩
      | false => exact absurd ⟨x, h, ba_eq.1 (sLt_tri h1 h2)⟩ hn
theorem look_put {L : List DefD} {d : DefD} (hs : Srt L) (nm : ByteArray) : look (putF L d) nm = if d.name = nm then some ((look L nm).getD d) else look L nm := by
 have hs2 := put_srt (d := d) hs;apply Option.ext;intro x;rw [look_iff hs2];by_cases he : ∃ x ∈ L, x.name = d.name
 · have e : putF L d = L := by unfold putF; rw [if_pos he]
   rw [e, ← look_iff hs];by_cases hn : d.name = nm
   · subst hn
     rw [if_pos rfl];obtain ⟨y, hy, h2⟩ := he;have h3 := look_of hs hy;rw [h2] at h3;rw [h3]; rfl
   · rw [if_neg hn]
 · rw [put_mem he]
   by_cases hn : d.name = nm
   · subst hn
     have hl : look L d.name = none := by
      cases h : look L d.name with
      | none => rfl
      | some y => exact absurd ⟨y, look_mem h⟩ he
     rw [if_pos rfl, hl]
     constructor
     · rintro ⟨rfl | hx, h2⟩
       · rfl
       · exact absurd ⟨x, hx, h2⟩ he
     · intro h; obtain rfl := Option.some.inj h; exact ⟨.inl rfl, rfl⟩
   · rw [if_neg hn, look_iff hs]
     constructor
     · rintro ⟨rfl | hx, h2⟩
       · exact absurd h2 hn
       · exact ⟨hx, h2⟩
     · rintro ⟨hx, h2⟩; exact ⟨.inr hx, h2⟩
theorem posInd {l : List ObjD} {P : Nat → Nat → Prop} (h0 : P 0 0) (hs : ∀ i k, i < l.length → k < (l.getD i default).syms.length → P i k → P i (k + 1)) (hn : ∀ i, i < l.length → P i (l.getD i default).syms.length → P (i + 1) 0) : (∀ i, i ≤ l.length → P i 0) ∧ ∀ i k, i < l.length → k ≤ (l.getD i default).syms.length → P i k := by
 have hk : ∀ i, i < l.length → P i 0 → ∀ k, k ≤ (l.getD i default).syms.length → P i k := by
  intro i hi h k
  induction k with
  | zero => intro _; exact h
  | succ k ih => intro hk; exact hs i k hi (by omega) (ih (by omega))
 have hi : ∀ i, i ≤ l.length → P i 0 := by
  intro i
  induction i with
  | zero => intro _; exact h0
  | succ i ih => intro hi; exact hn i (by omega) (hk i (by omega) (ih (by omega)) _ (Nat.le_refl _))
 exact ⟨hi, fun i k h1 h2 => hk i h1 (hi i (by omega)) k h2⟩
def nF (l : List ObjD) (nm : ByteArray) (bd : Int) (i k : Nat) : DefD × Int := fK l nm bd i (fI l nm bd i) k
def nD (l : List ObjD) (i k : Nat) : List DefD := dKf l i (dI l i) k
def nP (l : List ObjD) (i k : Nat) : List DefD × Bool := pK l i (pI l i) k
def nS (l : List ObjD) (i k : Nat) : SymD := (l.getD i default).syms.getD k default
def want (a b : DefD × Int) : Option DefD := if a.2 > 0 then some a.1 else if b.2 > 0 then some b.1 else none
theorem nF_yes {l : List ObjD} {nm : ByteArray} {bd : Int} {i k : Nat} (h : isFst l nm bd i k = true) : nF l nm bd i (k + 1) = (if (nF l nm bd i k).2 = 0 then ⟨nm, (i : Int), (k : Int)⟩ else (nF l nm bd i k).1, (nF l nm bd i k).2 + 1) := fK_yes h
theorem nF_no {l : List ObjD} {nm : ByteArray} {bd : Int} {i k : Nat} (h : isFst l nm bd i k = false) : nF l nm bd i (k + 1) = nF l nm bd i k := fK_no h
theorem isFst_iff {l : List ObjD} {nm : ByteArray} {bd : Int} {i k : Nat} : isFst l nm bd i k = true ↔ defB (nS l i k) (dropR l i) = true ∧ (nS l i k).name = nm ∧ (nS l i k).bind = bd := by
 unfold isFst nS;simp only [Bool.and_eq_true, decide_eq_true_eq, and_assoc]
theorem isFst_ff {l : List ObjD} {nm : ByteArray} {bd : Int} {i k : Nat} (h : ¬ (defB (nS l i k) (dropR l i) = true ∧ (nS l i k).name = nm ∧ (nS l i k).bind = bd)) : isFst l nm bd i k = false := by
 cases hc : isFst l nm bd i k with
 | false => rfl
 | true => exact absurd (isFst_iff.1 hc) h
theorem defB_ne {s : SymD} {dr : List Bool} (h : defB s dr = true) : s.bind ≠ 0 := by
 unfold defB at h;simp only [Bool.and_eq_true, decide_eq_true_eq] at h;exact h.1
structure LkI (l : List ObjD) (i k : Nat) : Prop where
 lk : ∀ nm, look (nD l i k) nm = want (nF l nm 1 i k) (nF l nm 2 i k)
 nn : ∀ nm bd, 0 ≤ (nF l nm bd i k).2
 bd : ∀ nm bd, (nF l nm bd i k).2 > 0 → bindD l (nF l nm bd i k).1 = bd ∧ (nF l nm bd i k).1.name = nm
theorem nF_step {l : List ObjD} {i k : Nat} (h : LkI l i k) : (∀ nm bd, 0 ≤ (nF l nm bd i (k + 1)).2) ∧ ∀ nm bd, (nF l nm bd i (k + 1)).2 > 0 → bindD l (nF l nm bd i (k + 1)).1 = bd ∧ (nF l nm bd i (k + 1)).1.name = nm := by
 constructor
 · intro nm bd
   have := h.nn nm bd
   cases hc : isFst l nm bd i k with
   | false => rw [nF_no hc]; exact this
   | true => rw [nF_yes hc]; show (0 : Int) ≤ _ + 1; omega
 · intro nm bd
   have h1 := h.nn nm bd;have h2 := h.bd nm bd
   cases hc : isFst l nm bd i k with
   | false => rw [nF_no hc]; exact h2
   | true =>
    obtain ⟨h3, h4, h5⟩ := isFst_iff.1 hc;rw [nF_yes hc];intro _;by_cases e : (nF l nm bd i k).2 = 0
    · show bindD l (if _ then _ else _) = bd ∧ (if _ then _ else _ : DefD).name = nm
      rw [if_pos e];refine ⟨?_, rfl⟩;unfold bindD;show ((l.getD ((i : Int)).toNat default).syms.getD ((k : Int)).toNat default).bind = bd
      rw [Int.toNat_natCast, Int.toNat_natCast];exact h5
    · show bindD l (if _ then _ else _) = bd ∧ (if _ then _ else _ : DefD).name = nm
      rw [if_neg e];exact h2 (by omega)
theorem bindD_at (l : List ObjD) (i k : Nat) (nm : ByteArray) : bindD l ⟨nm, (i : Int), (k : Int)⟩ = (nS l i k).bind := by
 unfold bindD nS;show ((l.getD ((i : Int)).toNat default).syms.getD ((k : Int)).toNat default).bind = _
 rw [Int.toNat_natCast, Int.toNat_natCast]
theorem nD_srt (l : List ObjD) (i k : Nat) : Srt (nD l i k) := dKf_srt (dI_srt l i) k
theorem nD_step (l : List ObjD) (i k : Nat) : nD l i (k + 1) = if defB (nS l i k) (dropR l i) = true then addF l (nD l i k) ⟨(nS l i k).name, (i : Int), (k : Int)⟩ else nD l i k := rfl
theorem lkI_all {l : List ObjD} (hw : ResW l) : (∀ i, i ≤ l.length → LkI l i 0) ∧ ∀ i k, i < l.length → k ≤ (l.getD i default).syms.length → LkI l i k := by
 refine posInd (P := LkI l) ⟨fun nm => rfl, fun nm bd => Int.le_refl _, fun nm bd h => absurd h (by show ¬ (0 : Int) > 0; decide)⟩ (fun i k hi hk h => ?_) (fun i hi h => ⟨h.lk, h.nn, h.bd⟩);have hst := nF_step h;refine ⟨fun nm => ?_, hst.1, hst.2⟩;have hsy := (hw.sym i k hi hk).1;have hl := h.lk nm;have n1 := h.nn nm 1;have n2 := h.nn nm 2;have b1 := h.bd nm 1;have b2 := h.bd nm 2;rw [nD_step]
 by_cases hd : defB (nS l i k) (dropR l i) = true
 · rw [if_pos hd, look_add (nD_srt l i k), bindD_at]
   have hb0 := defB_ne hd;by_cases hn : (nS l i k).name = nm
   · rw [if_pos hn]
     have hb : (nS l i k).bind = 1 ∨ (nS l i k).bind = 2 := by unfold nS at hb0 ⊢; omega
     rcases hb with hb | hb
     · rw [nF_yes (isFst_iff.2 ⟨hd, hn, hb⟩), nF_no (bd := 2) (isFst_ff fun c => by have := c.2.2; omega), hl, hb, hn]
       unfold want;by_cases c1 : (nF l nm 1 i k).2 > 0
       · rw [if_pos c1]
         show (if _ then _ else _ : Option DefD) = if (nF l nm 1 i k).2 + 1 > 0 then some (if (nF l nm 1 i k).2 = 0 then _ else _) else _
         rw [if_neg (by rw [(b1 c1).1]; omega), if_pos (by omega), if_neg (by omega)]
       · rw [if_neg c1]
         show _ = if (nF l nm 1 i k).2 + 1 > 0 then some (if (nF l nm 1 i k).2 = 0 then _ else _) else _
         rw [if_pos (show (nF l nm 1 i k).2 + 1 > 0 by omega), if_pos (show (nF l nm 1 i k).2 = 0 by omega)];by_cases c2 : (nF l nm 2 i k).2 > 0
         · rw [if_pos c2]
           show (if _ then _ else _ : Option DefD) = _
           rw [if_pos ⟨(b2 c2).1, rfl⟩]
         · rw [if_neg c2]
     · rw [nF_yes (isFst_iff.2 ⟨hd, hn, hb⟩), nF_no (bd := 1) (isFst_ff fun c => by have := c.2.2; omega), hl, hb, hn]
       unfold want;by_cases c1 : (nF l nm 1 i k).2 > 0
       · rw [if_pos c1, if_pos c1]
         show (if _ then _ else _ : Option DefD) = _
         rw [if_neg (fun c => by have := c.2; omega)]
       · rw [if_neg c1, if_neg c1]
         show _ = if (nF l nm 2 i k).2 + 1 > 0 then some (if (nF l nm 2 i k).2 = 0 then _ else _) else _
         rw [if_pos (show (nF l nm 2 i k).2 + 1 > 0 by omega)];by_cases c2 : (nF l nm 2 i k).2 > 0
         · rw [if_pos c2, if_neg (show ¬ (nF l nm 2 i k).2 = 0 by omega)]
           show (if _ then _ else _ : Option DefD) = _
           rw [if_neg (fun c => by have := c.2; omega)]
         · rw [if_neg c2, if_pos (show (nF l nm 2 i k).2 = 0 by omega)]
   · rw [if_neg hn, nF_no (isFst_ff fun c => hn c.2.1), nF_no (isFst_ff fun c => hn c.2.1)]
     exact hl
 · rw [if_neg hd, nF_no (isFst_ff fun c => hd c.1), nF_no (isFst_ff fun c => hd c.1)]
   exact hl
theorem fK_mono (l : List ObjD) (nm : ByteArray) (bd : Int) (i : Nat) (st : DefD × Int) (k : Nat) : ∀ j : Nat, (fK l nm bd i st k).2 ≤ (fK l nm bd i st (k + j)).2 := by
 intro j
 induction j with
 | zero => exact Int.le_refl _
 | succ j ih =>
  refine Int.le_trans ih ?_;show _ ≤ (fK l nm bd i st ((k + j) + 1)).2
  rw [fK]
  split
  · show _ ≤ (fK l nm bd i st (k + j)).2 + 1
    omega
  · exact Int.le_refl _
theorem fI_mono (l : List ObjD) (nm : ByteArray) (bd : Int) (i : Nat) : ∀ j : Nat, (fI l nm bd i).2 ≤ (fI l nm bd (i + j)).2 := by
 intro j
 induction j with
 | zero => exact Int.le_refl _
 | succ j ih =>
  refine Int.le_trans ih ?_;have := fK_mono l nm bd (i + j) (fI l nm bd (i + j)) 0 (l.getD (i + j) default).syms.length;rw [Nat.zero_add] at this;exact this
theorem nF_le {l : List ObjD} {nm : ByteArray} {bd : Int} {i k : Nat} (hi : i < l.length) (hk : k ≤ (l.getD i default).syms.length) : (nF l nm bd i k).2 ≤ (fI l nm bd l.length).2 := by
 have h1 := fK_mono l nm bd i (fI l nm bd i) k ((l.getD i default).syms.length - k);have h2 := fI_mono l nm bd (i + 1) (l.length - (i + 1));rw [show k + ((l.getD i default).syms.length - k) = (l.getD i default).syms.length by omega] at h1;rw [show i + 1 + (l.length - (i + 1)) = l.length by omega] at h2;exact Int.le_trans h1 h2
theorem findR_of {l : List ObjD} {nm : ByteArray} (h : (fI l nm 1 l.length).2 > 0 ∨ (fI l nm 2 l.length).2 > 0) : (findR l nm).2 = true := by
 unfold findR
 split
 · rfl
 · rename_i h1
   rcases h with h | h
   · exact absurd h h1
   · exact decide_eq_true h
theorem of_findR {l : List ObjD} {nm : ByteArray} (h : (findR l nm).2 = true) : (fI l nm 1 l.length).2 > 0 ∨ (fI l nm 2 l.length).2 > 0 := by
 unfold findR at h
 split at h
 · rename_i h1; exact .inl h1
 · exact .inr (of_decide_eq_true h)
theorem look_findR {l : List ObjD} (hw : ResW l) (nm : ByteArray) : look (dI l l.length) nm = if (findR l nm).2 = true then some (findR l nm).1 else none := by
 have h := ((lkI_all hw).1 l.length (Nat.le_refl _)).lk nm;refine h.trans ?_;show want (fI l nm 1 l.length) (fI l nm 2 l.length) = _
 unfold want findR;by_cases h1 : (fI l nm 1 l.length).2 > 0
 · rw [if_pos h1, if_pos h1]; rfl
 · rw [if_neg h1, if_neg h1]
   by_cases h2 : (fI l nm 2 l.length).2 > 0
   · rw [if_pos h2, if_pos (decide_eq_true h2)]
   · rw [if_neg h2, if_neg (by rw [decide_eq_false h2]; exact Bool.false_ne_true)]
theorem findB_R {l : List ObjD} (hw : ResW l) (nm : ByteArray) : findB (dI l l.length) nm = (findR l nm).2 := by
 rw [← look_isSome (dI_srt l _), look_findR hw]
 cases (findR l nm).2 <;> rfl
theorem findD_R {l : List ObjD} (hw : ResW l) {nm : ByteArray} (h : (findR l nm).2 = true) : findD (dI l l.length) nm = (findR l nm).1 := by
 have hb : findB (dI l l.length) nm = true := by rw [findB_R hw]; exact h
 have h1 := look_yes (dI_srt l _) hb;rw [look_findR hw, if_pos h] at h1;unfold findD;rw [if_pos hb];exact (Option.some.inj h1).symm
theorem findR_name {l : List ObjD} (hw : ResW l) {nm : ByteArray} (h : (findR l nm).2 = true) : (findR l nm).1.name = nm := by
 have h1 := look_findR hw nm;rw [if_pos h] at h1;exact (look_mem h1).2
theorem dupAt_iff {l : List ObjD} (hw : ResW l) {i k : Nat} (hi : i < l.length) (hk : k < (l.getD i default).syms.length) : dupAt l i k = true ↔ isFst l (nS l i k).name 1 i k = true ∧ (nF l (nS l i k).name 1 i k).2 > 0 := by
 have h := (lkI_all hw).2 i k hi (by omega);have hl := h.lk (nS l i k).name;have hs := nD_srt l i k;rw [isFst_iff];have e : dupAt l i k = (defB (nS l i k) (dropR l i) && addB l (nD l i k) ⟨(nS l i k).name, (i : Int), (k : Int)⟩) := rfl;rw [e];unfold addB;rw [bindD_at]
 show (defB (nS l i k) (dropR l i) && (findB (nD l i k) (nS l i k).name && decide (bindD l ((nD l i k).getD (lowF (nD l i k) (nS l i k).name) default) = 1) && decide ((nS l i k).bind = 1))) = true ↔ _
 simp only [Bool.and_eq_true, decide_eq_true_eq];unfold want at hl
 constructor
 · rintro ⟨h1, ⟨h2, h3⟩, h4⟩
   refine ⟨⟨h1, trivial, h4⟩, ?_⟩;rw [look_yes hs h2] at hl;by_cases c1 : (nF l (nS l i k).name 1 i k).2 > 0
   · exact c1
   · rw [if_neg c1] at hl
     by_cases c2 : (nF l (nS l i k).name 2 i k).2 > 0
     · rw [if_pos c2] at hl
       have := (h.bd _ _ c2).1;rw [Option.some.inj hl] at h3;omega
     · rw [if_neg c2] at hl; cases hl
 · rintro ⟨⟨h1, _, h4⟩, h5⟩
   rw [if_pos h5] at hl;have hb : findB (nD l i k) (nS l i k).name = true := by rw [← look_isSome hs, hl]; rfl
   rw [look_yes hs hb] at hl;refine ⟨h1, ⟨hb, ?_⟩, h4⟩;rw [Option.some.inj hl];exact (h.bd _ _ h5).1
theorem dup_mny {l : List ObjD} (hw : ResW l) : dupE l ↔ mnyE l := by
 constructor
 · rintro ⟨i, k, hi, hk, hd⟩
   obtain ⟨h1, h2⟩ := (dupAt_iff hw hi hk).1 hd;refine ⟨i, k, hi, hk, ?_⟩;have h3 := nF_le (nm := (nS l i k).name) (bd := 1) hi (show k + 1 ≤ _ by omega);rw [nF_yes h1] at h3;have h4 : (nF l (nS l i k).name 1 i k).2 + 1 ≤ (fI l (nS l i k).name 1 l.length).2 := h3;have h5 := (isFst_iff.1 h1).2.2;unfold mny;simp only [Bool.and_eq_true, decide_eq_true_eq]
   exact ⟨by show (nS l i k).bind ≠ 0; omega, by show (fI l (nS l i k).name 1 l.length).2 > 1; omega⟩
 · rintro ⟨i, k, hi, hk, hm⟩
   refine Classical.byContradiction fun hno => ?_
   have hall := (posInd (l := l) (P := fun i k => ∀ nm, (nF l nm 1 i k).2 ≤ 1) (fun nm => by show (0 : Int) ≤ 1; decide) (fun a b ha hb h nm => ?_) (fun a ha h => h)).1 l.length (Nat.le_refl _)
   · unfold mny at hm
     simp only [Bool.and_eq_true, decide_eq_true_eq] at hm;have h1 : (fI l ((l.getD i default).syms.getD k default).name 1 l.length).2 ≤ 1 := hall _;omega
   · cases hc : isFst l nm 1 a b with
     | false => rw [nF_no hc]; exact h nm
     | true =>
      rw [nF_yes hc];show (nF l nm 1 a b).2 + 1 ≤ 1
      have hn := (isFst_iff.1 hc).2.1;by_cases c : (nF l nm 1 a b).2 > 0
      · exfalso
        exact hno ⟨a, b, ha, hb, (dupAt_iff hw ha hb).2 ⟨by rw [hn]; exact hc, by rw [hn]; exact c⟩⟩
      · omega
theorem nP_step (l : List ObjD) (i k : Nat) : nP l i (k + 1) = if (nS l i k).bind = 0 then nP l i k else (if (findR l (nS l i k).name).2 = true then putF (nP l i k).1 (findR l (nS l i k).name).1 else (nP l i k).1, (nP l i k).2 || (!(findR l (nS l i k).name).2 && decide ((nS l i k).bind = 1))) := rfl
structure PtI (l : List ObjD) (i k : Nat) : Prop where
 srt : Srt (nP l i k).1
 no : ∀ nm x, look (nP l i k).1 nm = some x → (findR l nm).2 = true ∧ x = (findR l nm).1
 yes : ∀ nm, (nF l nm 1 i k).2 > 0 ∨ (nF l nm 2 i k).2 > 0 → look (nP l i k).1 nm = some (findR l nm).1
theorem ptI_all {l : List ObjD} (hw : ResW l) : (∀ i, i ≤ l.length → PtI l i 0) ∧ ∀ i k, i < l.length → k ≤ (l.getD i default).syms.length → PtI l i k := by
 refine posInd (P := PtI l) ⟨fun i j _ h => absurd h (by show ¬ j < 0; omega), fun nm x h => (by cases h), fun nm h => (by rcases h with h | h <;> exact absurd h (by show ¬ (0 : Int) > 0; decide))⟩ (fun i k hi hk h => ?_) (fun i hi h => ⟨h.srt, h.no, h.yes⟩);by_cases hb : (nS l i k).bind = 0
 · have e : nP l i (k + 1) = nP l i k := by rw [nP_step, if_pos hb]
   have hf : ∀ nm bd, nF l nm bd i (k + 1) = nF l nm bd i k := fun nm bd => nF_no (isFst_ff fun c => defB_ne c.1 hb)
   exact ⟨by rw [e]; exact h.srt, by rw [e]; exact h.no, fun nm hc => by rw [hf, hf] at hc; rw [e]; exact h.yes nm hc⟩
 · by_cases hr : (findR l (nS l i k).name).2 = true
   · have e : (nP l i (k + 1)).1 = putF (nP l i k).1 (findR l (nS l i k).name).1 := by rw [nP_step, if_neg hb, if_pos hr]
     have hn := findR_name hw hr;have hlk : ∀ nm, look (nP l i (k + 1)).1 nm = if (nS l i k).name = nm then some (findR l nm).1 else look (nP l i k).1 nm := fun nm => by
      rw [e, look_put h.srt, hn];by_cases c : (nS l i k).name = nm
      · subst c
        rw [if_pos rfl, if_pos rfl]
        cases hq : look (nP l i k).1 (nS l i k).name with
        | none => rfl
        | some x => rw [(h.no _ _ hq).2]; rfl
      · rw [if_neg c, if_neg c]
     refine ⟨by rw [e]; exact put_srt h.srt, fun nm x hx => ?_, fun nm hc => ?_⟩
     · rw [hlk] at hx
       by_cases c : (nS l i k).name = nm
       · subst c
         rw [if_pos rfl] at hx;exact ⟨hr, (Option.some.inj hx).symm⟩
       · rw [if_neg c] at hx; exact h.no nm x hx
     · rw [hlk]
       by_cases c : (nS l i k).name = nm
       · rw [if_pos c]
       · rw [if_neg c]
         rw [nF_no (isFst_ff fun q => c q.2.1), nF_no (isFst_ff fun q => c q.2.1)] at hc;exact h.yes nm hc
   · have e : (nP l i (k + 1)).1 = (nP l i k).1 := by rw [nP_step, if_neg hb, if_neg hr]
     refine ⟨by rw [e]; exact h.srt, by rw [e]; exact h.no, fun nm hc => ?_⟩;rw [e];by_cases c : (nS l i k).name = nm
     · exfalso
       apply hr;subst c;apply findR_of;have g1 := nF_le (nm := (nS l i k).name) (bd := 1) hi (show k + 1 ≤ _ by omega);have g2 := nF_le (nm := (nS l i k).name) (bd := 2) hi (show k + 1 ≤ _ by omega);omega
     · rw [nF_no (isFst_ff fun q => c q.2.1), nF_no (isFst_ff fun q => c q.2.1)] at hc
       exact h.yes nm hc
theorem defs_eq {l : List ObjD} (hw : ResW l) : (pI l l.length).1 = dI l l.length := by
 have h := (ptI_all hw).1 l.length (Nat.le_refl _);refine srt_ext h.srt (dI_srt l _) fun nm => ?_
 rw [look_findR hw];by_cases hr : (findR l nm).2 = true
 · rw [if_pos hr]
   exact h.yes nm (of_findR hr)
 · rw [if_neg hr]
   show look (nP l l.length 0).1 nm = none
   cases hq : look (nP l l.length 0).1 nm with
   | none => rfl
   | some x => exact absurd (h.no nm x hq).1 hr
def undQ (l : List ObjD) (i k : Nat) : Prop := (nS l i k).bind = 1 ∧ (findR l (nS l i k).name).2 = false
theorem und_eq {l : List ObjD} (hw : ResW l) : undE l ↔ (pI l l.length).2 = true := by
 have h := (posInd (l := l) (P := fun i k => (nP l i k).2 = true ↔ ∃ a b, (a < i ∨ (a = i ∧ b < k)) ∧ a < l.length ∧ b < (l.getD a default).syms.length ∧ undQ l a b) ?_ (fun i k hi hk h => ?_) (fun i hi h => ?_)).1 l.length (Nat.le_refl _)
 · have h2 : (pI l l.length).2 = true ↔ _ := h
   rw [h2]
   constructor
   · rintro ⟨a, b, ha, hb, hu⟩
     refine ⟨a, b, .inl ha, ha, hb, ?_⟩;unfold undAt at hu;simp only [Bool.and_eq_true, decide_eq_true_eq, Bool.not_eq_true'] at hu;rw [findB_R hw] at hu;exact ⟨hu.1.1, hu.2⟩
   · rintro ⟨a, b, _, ha, hb, h1, h3⟩
     refine ⟨a, b, ha, hb, ?_⟩;unfold undAt;simp only [Bool.and_eq_true, decide_eq_true_eq, Bool.not_eq_true'];rw [findB_R hw];refine ⟨⟨h1, ?_⟩, h3⟩
     cases hd : defB (nS l a b) (dropR l a) with
     | false => exact hd
     | true =>
      exfalso
      have g1 := nF_le (nm := (nS l a b).name) (bd := 1) ha (show b + 1 ≤ _ by omega);rw [nF_yes (isFst_iff.2 ⟨hd, rfl, h1⟩)] at g1;have g2 : (nF l (nS l a b).name 1 a b).2 + 1 ≤ (fI l (nS l a b).name 1 l.length).2 := g1;have g3 := ((lkI_all hw).2 a b ha (by omega)).nn (nS l a b).name 1;rw [findR_of (.inl (by omega))] at h3;cases h3
 · constructor
   · intro h; cases h
   · rintro ⟨a, b, h | h, _⟩ <;> omega
 · have hs : (nP l i (k + 1)).2 = true ↔ (nP l i k).2 = true ∨ undQ l i k := by
    rw [nP_step];unfold undQ;by_cases hb : (nS l i k).bind = 0
    · rw [if_pos hb]
      exact ⟨.inl, fun q => by rcases q with q | q; exact q; exact absurd q.1 (by omega)⟩
    · rw [if_neg hb]
      show (_ || _) = true ↔ _
      simp only [Bool.or_eq_true, Bool.and_eq_true, Bool.not_eq_true', decide_eq_true_eq]
      constructor
      · rintro (q | ⟨q1, q2⟩)
        · exact .inl q
        · exact .inr ⟨q2, q1⟩
      · rintro (q | ⟨q1, q2⟩)
        · exact .inl q
        · exact .inr ⟨q2, q1⟩
   rw [hs, h]
   constructor
   · rintro (⟨a, b, h1, h2⟩ | h1)
     · exact ⟨a, b, by omega, h2⟩
     · exact ⟨i, k, by omega, hi, hk, h1⟩
   · rintro ⟨a, b, h1, h2⟩
     by_cases e : a = i ∧ b = k
     · obtain ⟨rfl, rfl⟩ := e
       exact .inr h2.2.2
     · exact .inl ⟨a, b, by omega, h2⟩
 · have e : (nP l (i + 1) 0).2 = (nP l i (l.getD i default).syms.length).2 := rfl
   rw [e, h]
   constructor
   · rintro ⟨a, b, h1, h2⟩
     exact ⟨a, b, by omega, h2⟩
   · rintro ⟨a, b, h1, h2, h3, h4⟩
     refine ⟨a, b, ?_, h2, h3, h4⟩;by_cases e : a = i
     · subst e; exact .inr ⟨rfl, h3⟩
     · left; omega
theorem tab_w {l : List ObjD} (hk : LOk l) (hw : ResW l) : TabW l ⟨dropF l l.length, dI l l.length⟩ := by
 have h1 := dI_len hw l.length (Nat.le_refl _);have h2 := hw.len;refine ⟨⟨by omega, by show (dI l l.length).length ≤ _; omega⟩, ?_, fun i hi => ?_, fun i k hi hk2 => (hw.sym i k hi hk2).2, fun i hi => ?_, fun k hk2 => ?_, dI_srt l _⟩
 · show (dropF l l.length).length = _
   rw [dropF_len]
 · show ((dropF l l.length).getD i default).length = _
   rw [dropF_get hi, dropR_len]
 · have := hw.sy i hi
   omega
 · exact dI_in l.length (Nat.le_refl _) _ (getD_in hk2)
theorem where_eq {l : List ObjD} (hw : ResW l) (o s : Int) : whereR l ⟨dropF l l.length, dI l l.length⟩ o s = whereF l ⟨dropF l l.length, dI l l.length⟩ o s := by
 unfold whereR whereF;by_cases h1 : o < 0 ∨ o ≥ l.length ∨ s < 0 ∨ s ≥ (l.getD o.toNat default).syms.length
 · rw [if_pos h1, if_pos h1]
 · rw [if_neg h1, if_neg h1]
   by_cases h2 : ((l.getD o.toNat default).syms.getD s.toNat default).bind = 0
   · rw [if_pos h2, if_pos h2]
   · rw [if_neg h2, if_neg h2]
     show _ = if findB (dI l l.length) _ = true then _ else _
     rw [findB_R hw];by_cases h3 : (findR l ((l.getD o.toNat default).syms.getD s.toNat default).name).2 = true
     · rw [if_pos h3, if_pos h3]
       show _ = placeF l _ (findD (dI l l.length) _).obj (findD (dI l l.length) _).sym
       rw [findD_R hw h3]
     · rw [if_neg h3, if_neg h3]
def mayAll (l : List ObjD) : Bool := decide (l.length ≤ 8) && l.all mayP
def dupB (l : List ObjD) : Bool := (List.range l.length).any fun i => (List.range (l.getD i default).syms.length).any fun k => dupAt l i k
def undB (l : List ObjD) : Bool := (List.range l.length).any fun i => (List.range (l.getD i default).syms.length).any fun k => undAt l i k
theorem may_A {l : List ObjD} : AllMay l ↔ mayAll l = true := by
 unfold mayAll AllMay;rw [Bool.and_eq_true, decide_eq_true_eq, List.all_eq_true]
theorem dup_B {l : List ObjD} : dupE l ↔ dupB l = true := by
 unfold dupB dupE;simp only [List.any_eq_true, List.mem_range];exact ⟨fun ⟨i, k, h1, h2, h3⟩ => ⟨i, h1, k, h2, h3⟩, fun ⟨i, h1, k, h2, h3⟩ => ⟨i, k, h1, h2, h3⟩⟩
theorem und_B {l : List ObjD} : undE l ↔ undB l = true := by
 unfold undB undE;simp only [List.any_eq_true, List.mem_range];exact ⟨fun ⟨i, k, h1, h2, h3⟩ => ⟨i, h1, k, h2, h3⟩, fun ⟨i, h1, k, h2, h3⟩ => ⟨i, k, h1, h2, h3⟩⟩
def resE (l : List ObjD) : Int := if mayAll l = false then 1 else if dupB l = true then 3 else if undB l = true then 4 else 0
def resT (l : List ObjD) : TabD := if resE l = 0 then ⟨dropF l l.length, dI l l.length⟩ else ⟨[], []⟩
theorem resT_0 {l : List ObjD} (h : resE l = 0) : resT l = ⟨dropF l l.length, dI l l.length⟩ := by unfold resT; rw [if_pos h]
theorem resT_n {l : List ObjD} (h : resE l ≠ 0) : resT l = ⟨[], []⟩ := by unfold resT; rw [if_neg h]
theorem resE_0 {l : List ObjD} (h : resE l = 0) : AllMay l := by
 rw [may_A]
 cases c : mayAll l with
 | true => rfl
 | false =>
  unfold resE at h;rw [if_pos c] at h; cases h
theorem resE_1 {l : List ObjD} (h1 : ¬ AllMay l) : resE l = 1 := by
 rw [may_A, Bool.not_eq_true] at h1;unfold resE; rw [if_pos h1]
theorem resE_3 {l : List ObjD} (h1 : AllMay l) (h2 : dupE l) : resE l = 3 := by
 rw [may_A] at h1;unfold resE; rw [if_neg (by rw [h1]; decide), if_pos (dup_B.1 h2)]
theorem resE_4 {l : List ObjD} (h1 : AllMay l) (h2 : ¬ dupE l) (h3 : undE l) : resE l = 4 := by
 rw [may_A] at h1;unfold resE; rw [if_neg (by rw [h1]; decide), if_neg (fun c => h2 (dup_B.2 c)), if_pos (und_B.1 h3)]
theorem resE_ok {l : List ObjD} (h1 : AllMay l) (h2 : ¬ dupE l) (h3 : ¬ undE l) : resE l = 0 := by
 rw [may_A] at h1;unfold resE; rw [if_neg (by rw [h1]; decide), if_neg (fun c => h2 (dup_B.2 c)), if_neg (fun c => h3 (und_B.2 c))]
def dsum (l : List SecD) : Nat := (l.map fun s => s.data.length).sum
def smallB (o : ObjD) : Bool := !(decide ((o.secs.length : Int) > 40) || decide ((o.syms.length : Int) > 140) || decide ((o.groups.length : Int) > 40) || decide ((o.sig.length : Int) > 200)) && (o.secs.all fun s => !(decide ((s.data.length : Int) > 20000) || decide ((s.rels.length : Int) > 80))) && (o.groups.all fun g => !decide ((g.mem.length : Int) > 50)) && !decide ((dsum o.secs : Int) > 40000)
theorem dsum_succ {l : List SecD} {i : Nat} (h : i < l.length) : dsum (l.take (i + 1)) = dsum (l.take i) + (l.getD i default).data.length := by
 unfold dsum;rw [map_take_succ _ h, List.sum_append]; simp
theorem dsum_le {l : List SecD} (h : ∀ s ∈ l, s.data.length ≤ 20000) : dsum l ≤ 20000 * l.length := by
 induction l with
 | nil => simp [dsum]
 | cons s l ih =>
  have h1 := ih fun x hx => h x (List.mem_cons_of_mem _ hx)
  have h2 := h s List.mem_cons_self;unfold dsum at h1 ⊢;rw [List.map_cons, List.sum_cons, List.length_cons];omega
structure SmallW (o : ObjD) : Prop where
 len : o.secs.length ≤ 40 ∧ o.syms.length ≤ 140 ∧ o.groups.length ≤ 40 ∧ o.sig.length ≤ 200
 sec : ∀ s ∈ o.secs, s.data.length ≤ 20000 ∧ s.rels.length ≤ 80
 grp : ∀ g ∈ o.groups, g.mem.length ≤ 50
theorem small_W {o : ObjD} (h : smallB o = true) : SmallW o := by
 unfold smallB at h;simp only [Bool.and_eq_true, Bool.not_eq_true', Bool.or_eq_false_iff, decide_eq_false_iff_not] at h;obtain ⟨⟨⟨h1, h2⟩, h3⟩, h4⟩ := h;refine ⟨by omega, fun s hs => ?_, fun g hg => ?_⟩
 · have := List.all_eq_true.1 h2 s hs
   simp only [Bool.not_eq_true', Bool.or_eq_false_iff, decide_eq_false_iff_not] at this;omega
 · have := List.all_eq_true.1 h3 g hg
   simp only [Bool.not_eq_true', decide_eq_false_iff_not] at this;omega
theorem smallB_bound {o : ObjD} (h : smallB o = true) : dsum o.secs ≤ 800000 := by
 have W := small_W h;have h1 := dsum_le (l := o.secs) fun s hs => (W.sec s hs).1
 have h2 := W.len;omega
def dsumO (l : List ObjD) : Nat := (l.map fun o => dsum o.secs).sum
theorem dsumO_succ {l : List ObjD} {i : Nat} (h : i < l.length) : dsumO (l.take (i + 1)) = dsumO (l.take i) + dsum (l.getD i default).secs := by
 unfold dsumO;rw [map_take_succ _ h, List.sum_append]; simp
def fewB (l : List ObjD) : Bool := !decide ((l.length : Int) > 10) && l.all smallB && !decide ((dsumO l : Int) > 12000)
theorem few_W {l : List ObjD} (h : fewB l = true) : l.length ≤ 10 ∧ (∀ o ∈ l, SmallW o) ∧ dsumO l ≤ 12000 := by
 unfold fewB at h;simp only [Bool.and_eq_true, Bool.not_eq_true', decide_eq_false_iff_not, List.all_eq_true] at h;exact ⟨by omega, fun o ho => small_W (h.1.2 o ho), by omega⟩
theorem few_lok {l : List ObjD} (hok : ∀ o ∈ l, o.ok) (h : fewB l = true) : LOk l := by
 obtain ⟨h1, h2, h3⟩ := few_W h;refine ⟨by omega, fun o ho => ⟨hok o ho, ?_, ?_⟩, fun o ho => ⟨?_, fun g hg => ?_⟩⟩
 · have := (h2 o ho).len; omega
 · have := (h2 o ho).len; omega
 · have := (h2 o ho).len; omega
 · have := (h2 o ho).grp g hg; omega
theorem small_ff {b : Bool} (h : decide ((if b = true then (1 : Int) else 0) = 0) = true) : b = false := by cases b <;> simp at h ⊢
theorem small_tt {b : Bool} (h : decide ((if b = true then (1 : Int) else 0) = 0) = false) : b = true := by cases b <;> simp at h ⊢
set_option maxHeartbeats 1000000 in
theorem law_Small (o : ObjD) (ho : o.ok) : A0 Tryz.prog 11 [.agg (objA o)] (fun ret => ret = .v (.int .i64 (if smallB o = true then 1 else 0))) := by
 have ho0 := ho;obtain ⟨q1, q2, q3, q4, q5, q6, q7, q8⟩ := ho;rw [maxLen_eq] at q1 q3 q5 q7;refine A0.body 79 Tryz.func11 rfl rfl Tryz.ntmps11 fun base n0 => ?_
 refine go ?_;refine AW.iteB (GL.ev _) (fun h0 => ?_) (fun h0 => ?_)
 ·
  have hb : smallB o = false := by unfold smallB; rw [h0]; rfl
  refine go ?_;refine AW.ret <|SQ.ret ?_;refine Fin.ret (Gh.refl) noid1 ?_;rw [hb]; rfl
 ·
  have h0w := h0;simp only [Bool.or_eq_false_iff, decide_eq_false_iff_not] at h0w;refine go ?_
  refine AW.loopU [.f, .k, .f, .k, .k, .F, .F, .F, .F, .F, .F, .F, .F, .F, .f, .f] (fun (i : Nat) => [(3, .v (.int .i64 ((dsum (o.secs.take i) : Int)))), (4, .v (.int .i64 (i)))]) (fun i => Hn n0 [some (.box 52 (objA o))]) (fun m i => (i ≤ o.secs.length ∧ m = o.secs.length - i) ∧ dsum (o.secs.take i) ≤ 20000 * i ∧ ((o.secs.take i).all fun s => !(decide ((s.data.length : Int) > 20000) || decide ((s.rels.length : Int) > 80))) = true) (o.secs.length) (0) ⟨by omega, by simp [dsum], rfl⟩ (by simp [dsum]) cr ?_
  rintro m0 i ⟨hx1, hx2, hx3⟩
  refine go ?_;refine AW.iteB (GL.ev _) (fun h1 => ?_) (fun h1 => ?_)
  ·
   rw [decide_eq_true_eq] at h1;have hi : i < o.secs.length := by omega
   refine go ?_;refine AW.iteB (GL.ev _) (fun h2 => ?_) (fun h2 => ?_)
   ·
    have hb : smallB o = false := by
     unfold smallB;rw [all_false_at hi (by (try dsimp only); rw [h2]; rfl)]; simp
    refine go ?_;refine AW.ret <|SQ.ret <|BQ.ret <|SQ.ret <|AW.out <|LU.ret <|BQ.ret <|SQ.ret ?_;refine Fin.ret (Gh.refl) noid1 ?_;rw [hb]; rfl
   ·
    have h2w := h2;simp only [Bool.or_eq_false_iff, decide_eq_false_iff_not] at h2w;have hal : ((o.secs.take (i + 1)).all fun s => !(decide ((s.data.length : Int) > 20000) || decide ((s.rels.length : Int) > 80))) = true := by
     rw [all_take_succ hi, hx3]; (try dsimp only); rw [h2]; rfl
    have hd := dsum_succ hi;refine go ?_;refine BQ.normal ?_;refine go ?_;exact AW.backU [.f, .k, .f, .k, .k, .F, .F, .F, .F, .F, .F, .F, .F, .F, .f, .f] (m0 - 1) (i + 1) (by omega) (by (try dsimp only); exact ⟨by omega, by omega, hal⟩) (by rw [hd]; simp) cr
  ·
   rw [decide_eq_false_iff_not] at h1;have hi : i = o.secs.length := by omega
   subst hi;rw [List.take_of_length_le (Nat.le_refl _)] at *;refine AW.exit <|SQ.exit <|AW.out <|LU.exit <|BQ.exit ?_;refine go ?_
   refine AW.loopU [.f, .k, .f, .k, .f, .k, .F, .F, .F, .F, .F, .F, .F, .F, .F, .f] (fun (k : Nat) => [(5, .v (.int .i64 (k)))]) (fun k => Hn n0 [some (.box 52 (objA o))]) (fun m k => (k ≤ o.groups.length ∧ m = o.groups.length - k) ∧ ((o.groups.take k).all fun g => !decide ((g.mem.length : Int) > 50)) = true) (o.groups.length) (0) ⟨by omega, rfl⟩ cr cr ?_;rintro m1 k ⟨hy1, hy3⟩
   refine go ?_;refine AW.iteB (GL.ev _) (fun h3 => ?_) (fun h3 => ?_)
   ·
    rw [decide_eq_true_eq] at h3;have hk : k < o.groups.length := by omega
    refine go ?_;refine AW.iteB (GL.ev _) (fun h4 => ?_) (fun h4 => ?_)
    ·
     have hb : smallB o = false := by
      unfold smallB;rw [all_false_at (l := o.groups) hk (by (try dsimp only); rw [h4]; rfl)]; simp
     refine go ?_;refine AW.ret <|BQ.ret <|SQ.ret <|AW.out <|LU.ret <|BQ.ret <|SQ.ret ?_;refine Fin.ret (Gh.refl) noid1 ?_;rw [hb]; rfl
    ·
     have hal2 : ((o.groups.take (k + 1)).all fun g => !decide ((g.mem.length : Int) > 50)) = true := by
      rw [all_take_succ hk, hy3]; (try dsimp only); rw [h4]; rfl
     refine AW.skip <|BQ.normal ?_;refine go ?_;exact AW.backU [.f, .k, .f, .k, .f, .k, .F, .F, .F, .F, .F, .F, .F, .F, .F, .f] (m1 - 1) (k + 1) (by omega) (by (try dsimp only); exact ⟨by omega, hal2⟩) cr cr
   ·
    rw [decide_eq_false_iff_not] at h3;have hk : k = o.groups.length := by omega
    subst hk;rw [List.take_of_length_le (Nat.le_refl _)] at hy3;refine AW.exit <|SQ.exit <|AW.out <|LU.exit <|BQ.exit ?_;refine go ?_;refine AW.iteB (GL.ev _) (fun h5 => ?_) (fun h5 => ?_)
    ·
     have hb : smallB o = false := by unfold smallB; rw [h5]; simp
     refine go ?_;refine AW.ret <|SQ.ret ?_;refine Fin.ret (Gh.refl) noid1 ?_;rw [hb]; rfl
    ·
     have hb : smallB o = true := by unfold smallB; rw [h0, hx3, hy3, h5]; rfl
     refine go ?_;refine AW.ret ?_;refine Fin.ret (Gh.refl) noid1 ?_;rw [hb]; rfl
theorem law_Code (k : Int) (hk : 0 ≤ k ∧ k ≤ 8) : A0 Tryz.prog 9 [.v (ifV 53 k)] (fun ret => ret = .v (.int .i64 (k))) := by
 refine A0.body 15 Tryz.func9 rfl rfl Tryz.ntmps9 fun base n0 => ?_
 refine go ?_;refine AW.iteB (GL.ev _) (fun h0 => ?_) (fun h0 => ?_)
 ·
  rw [decide_eq_true_eq] at h0;refine go ?_;refine AW.ret <|SQ.ret ?_;refine Fin.ret (Gh.refl) noid1 ?_;rw [h0]; rfl
 ·
  rw [decide_eq_false_iff_not] at h0;refine go ?_;refine AW.loopU [.k, .f, .f, .k, .F, .f, .f, .f] (fun (c : Int) => [(3, .v (.int .i64 (c)))]) (fun c => Hn n0 []) (fun m c => (1 ≤ c ∧ c ≤ k) ∧ m = (k - c).toNat) ((k - 1).toNat) (1) ⟨by omega, by omega⟩ cr cr ?_;rintro m0 c ⟨hx1, hx2⟩
  refine go ?_;refine AW.iteB (GL.ev _) (fun h1 => ?_) (fun h1 => ?_)
  ·
   refine go ?_;refine AW.iteB (GL.ev _) (fun h2 => ?_) (fun h2 => ?_)
   ·
    rw [decide_eq_true_eq] at h2;refine go ?_;refine AW.ret <|BQ.ret <|SQ.ret <|AW.out <|LU.ret <|BQ.ret <|SQ.ret ?_;refine Fin.ret (Gh.refl) noid1 ?_;rw [h2]; rfl
   ·
    rw [decide_eq_false_iff_not] at h2;refine AW.skip <|BQ.normal ?_;refine go ?_;exact AW.backU [.k, .f, .f, .k, .F, .f, .f, .f] (m0 - 1) (c + 1) (by omega) c2 cr cr
  ·
   exfalso
   rw [decide_eq_false_iff_not] at h1;omega
set_option maxHeartbeats 1000000 in
theorem law_Few (l : List ObjD) (hl : l.length ≤ 9223372036854775807) (hok : ∀ o ∈ l, o.ok) : A0 Tryz.prog 5 [.rd 5 (l.map objA)] (fun ret => ret = .v (.int .i64 (if fewB l = true then 1 else 0))) := by
 refine A0.body 45 Tryz.func5 rfl rfl Tryz.ntmps5 fun base n0 => ?_
 refine go ?_;refine AW.iteB (GL.ev _) (fun h0 => ?_) (fun h0 => ?_)
 ·
  have hb : fewB l = false := by unfold fewB; rw [h0]; rfl
  refine go ?_;refine AW.ret <|SQ.ret ?_;refine Fin.ret (Gh.refl) noid1 ?_;rw [hb]; rfl
 ·
  have h0w := h0;rw [decide_eq_false_iff_not] at h0w;refine go ?_
  refine AW.loopU [.k, .f, .f, .k, .k, .F, .F, .F, .F, .F] (fun (i : Nat) => [(3, .v (.int .i64 ((dsumO (l.take i) : Int)))), (4, .v (.int .i64 (i)))]) (fun i => Hn n0 []) (fun m i => (i ≤ l.length ∧ m = l.length - i) ∧ dsumO (l.take i) ≤ 800000 * i ∧ ((l.take i).all smallB) = true) (l.length) (0) ⟨by omega, by simp [dsumO], rfl⟩ (by simp [dsumO]) cr ?_;rintro m0 i ⟨hx1, hx2, hx3⟩
  refine go ?_;refine AW.iteB (GL.ev _) (fun h1 => ?_) (fun h1 => ?_)
  ·
   rw [decide_eq_true_eq] at h1;have hi : i < l.length := by omega
   refine go ?_;refine AO.call1 Tryz.func11 rfl rfl (law_Small (l.getD i default) (hok _ (getD_in hi))) ?_;refine go ?_;refine AW.iteB (GL.ev _) (fun h2 => ?_) (fun h2 => ?_)
   ·
    have hs := small_ff h2;have hb : fewB l = false := by unfold fewB; rw [all_false_at hi hs]; simp
    refine go ?_;refine AW.ret <|SQ.ret <|BQ.ret <|SQ.ret <|AW.out <|LU.ret <|BQ.ret <|SQ.ret ?_;refine Fin.ret (Gh.refl) noid1 ?_;rw [hb]; rfl
   ·
    have hs := small_tt h2;have W := small_W hs;have Wl := W.len;have hbd := smallB_bound hs;have hdO := dsumO_succ hi;have hal : ((l.take (i + 1)).all smallB) = true := by rw [all_take_succ hi, hx3, hs]; rfl
    refine go ?_
    refine AW.loopU [.k, .f, .f, .k, .k, .k, .F, .F, .F, .F, .f, .f, .f, .f, .f, .f, .f] (fun (k : Nat) => [(3, .v (.int .i64 ((dsumO (l.take i) : Int) + (dsum ((l.getD i default).secs.take k) : Int)))), (5, .v (.int .i64 (k)))]) (fun k => Hn n0 []) (fun m k => (k ≤ (l.getD i default).secs.length ∧ m = (l.getD i default).secs.length - k) ∧ dsum ((l.getD i default).secs.take k) ≤ 20000 * k) ((l.getD i default).secs.length) (0) ⟨by omega, by simp [dsum]⟩ (by simp [dsum]) cr ?_
    rintro m1 k ⟨hy1, hy2⟩
    refine go ?_;refine AW.iteB (GL.ev _) (fun h3 => ?_) (fun h3 => ?_)
    ·
     rw [decide_eq_true_eq] at h3;have hk : k < (l.getD i default).secs.length := by omega
     have hd := dsum_succ hk;have hd2 := (W.sec _ (getD_in hk)).1;refine go ?_;refine BQ.normal ?_;refine go ?_;exact AW.backU [.k, .f, .f, .k, .k, .k, .F, .F, .F, .F, .f, .f, .f, .f, .f, .f, .f] (m1 - 1) (k + 1) (by omega) c2 (by rw [hd]; simp [Int.add_assoc]) cr
    ·
     rw [decide_eq_false_iff_not] at h3;have hk : k = (l.getD i default).secs.length := by omega
     subst hk;rw [List.take_of_length_le (Nat.le_refl _)] at *;refine AW.exit <|SQ.exit <|AW.out <|LU.exit <|BQ.exit <|BQ.normal ?_;refine go ?_;exact AW.backU [.k, .f, .f, .k, .k, .F, .F, .F, .F, .F] (m0 - 1) (i + 1) (by omega) (by (try dsimp only); exact ⟨by omega, by omega, hal⟩) (by rw [hdO]; simp) cr
  ·
   rw [decide_eq_false_iff_not] at h1;have hi : i = l.length := by omega
   subst hi;rw [List.take_of_length_le (Nat.le_refl _)] at *;refine AW.exit <|SQ.exit <|AW.out <|LU.exit <|BQ.exit ?_;refine go ?_;refine AW.iteB (GL.ev _) (fun h4 => ?_) (fun h4 => ?_)
   ·
    have hb : fewB l = false := by unfold fewB; rw [h4]; simp
    refine go ?_;refine AW.ret <|SQ.ret ?_;refine Fin.ret (Gh.refl) noid1 ?_;rw [hb]; rfl
   ·
    have hb : fewB l = true := by unfold fewB; rw [h0, hx3, h4]; rfl
    refine go ?_;refine AW.ret ?_;refine Fin.ret (Gh.refl) noid1 ?_;rw [hb]; rfl
theorem ta_rel {avs : List AV} (h : TA Tryz.prog 44 avs) : ∃ r : RelD, avs = relA r ∧ r.ok := by
 have h1 := h.inv_struct;obtain ⟨a1, b1, rfl, k1, h2⟩ := TAs.inv_cons h1;obtain ⟨a2, b2, rfl, k2, h3⟩ := TAs.inv_cons h2;obtain ⟨a3, b3, rfl, k3, h4⟩ := TAs.inv_cons h3;obtain ⟨a4, b4, rfl, k4, h5⟩ := TAs.inv_cons h4;obtain rfl := TAs.inv_nil h5;obtain ⟨n1, rfl, w1⟩ := k1.inv_int (k := .i64);obtain ⟨n2, rfl, w2⟩ := k2.inv_int (k := .i64);obtain ⟨n3, rfl, w3⟩ := k3.inv_int (k := .i64)
 obtain ⟨n4, rfl, w4⟩ := k4.inv_int (k := .i64);exact ⟨⟨n1, n2, n3, n4⟩, rfl, wf_i64 w1, wf_i64 w2, wf_i64 w3, wf_i64 w4⟩
theorem ta_rels {avs : List AV} (h : TA Tryz.prog 39 avs) : ∃ l : List RelD, avs = [.rd 4 (l.map relA)] ∧ l.length ≤ maxLen ∧ ∀ r ∈ l, r.ok := by
 obtain ⟨rows, rfl, hl, hr⟩ := TA.inv_slice (e := 44) (g := true) (sz := 4) h;obtain ⟨l, rfl, h2⟩ := rows_map relA RelD.ok fun row hm => ta_rel (hr row hm)
 exact ⟨l, rfl, by simpa using hl, h2⟩
theorem ta_sec {avs : List AV} (h : TA Tryz.prog 41 avs) : ∃ s : SecD, avs = secA s ∧ s.ok := by
 have h0 := h.inv_struct;obtain ⟨a1, b1, rfl, k1, h1⟩ := TAs.inv_cons h0;obtain ⟨a2, b2, rfl, k2, h2⟩ := TAs.inv_cons h1;obtain ⟨a3, b3, rfl, k3, h3⟩ := TAs.inv_cons h2;obtain ⟨a4, b4, rfl, k4, h4⟩ := TAs.inv_cons h3;obtain ⟨a5, b5, rfl, k5, h5⟩ := TAs.inv_cons h4;obtain ⟨a6, b6, rfl, k6, h6⟩ := TAs.inv_cons h5;obtain ⟨a7, b7, rfl, k7, h7⟩ := TAs.inv_cons h6
 obtain ⟨a8, b8, rfl, k8, h8⟩ := TAs.inv_cons h7;obtain ⟨a9, b9, rfl, k9, h9⟩ := TAs.inv_cons h8;obtain rfl := TAs.inv_nil h9;obtain ⟨n1, rfl, w1⟩ := k1.inv_str;obtain ⟨n2, rfl, w2⟩ := k2.inv_int (k := .i64);obtain ⟨n3, rfl, w3⟩ := k3.inv_int (k := .i64);obtain ⟨n4, rfl, w4⟩ := k4.inv_int (k := .i64);obtain ⟨n5, rfl, w5⟩ := k5.inv_int (k := .i64);obtain ⟨n6, rfl, w6⟩ := k6.inv_int (k := .i64)
 obtain ⟨n7, rfl, w7⟩ := k7.inv_int (k := .i64);obtain ⟨n8, rfl, w8, q8⟩ := TA.inv_bytes (e := 5) k8;obtain ⟨n9, rfl, w9, q9⟩ := ta_rels k9;exact ⟨⟨n1, n2, n3, n4, n5, n6, n7, n8, n9⟩, rfl, w1, wf_i64 w2, wf_i64 w3, wf_i64 w4, wf_i64 w5, wf_i64 w6, wf_i64 w7, w8, q8, w9, q9⟩
theorem ta_sym {avs : List AV} (h : TA Tryz.prog 47 avs) : ∃ s : SymD, avs = symA s ∧ s.ok := by
 have h0 := h.inv_struct;obtain ⟨a1, b1, rfl, k1, h1⟩ := TAs.inv_cons h0;obtain ⟨a2, b2, rfl, k2, h2⟩ := TAs.inv_cons h1;obtain ⟨a3, b3, rfl, k3, h3⟩ := TAs.inv_cons h2;obtain ⟨a4, b4, rfl, k4, h4⟩ := TAs.inv_cons h3;obtain ⟨a5, b5, rfl, k5, h5⟩ := TAs.inv_cons h4;obtain ⟨a6, b6, rfl, k6, h6⟩ := TAs.inv_cons h5;obtain rfl := TAs.inv_nil h6;obtain ⟨n1, rfl, w1⟩ := k1.inv_str
 obtain ⟨n2, rfl, w2⟩ := k2.inv_int (k := .i64);obtain ⟨n3, rfl, w3⟩ := k3.inv_int (k := .i64);obtain ⟨n4, rfl, w4⟩ := k4.inv_int (k := .i64);obtain ⟨n5, rfl, w5⟩ := k5.inv_int (k := .i64);obtain ⟨n6, rfl, w6⟩ := k6.inv_int (k := .i64);exact ⟨⟨n1, n2, n3, n4, n5, n6⟩, rfl, w1, wf_i64 w2, wf_i64 w3, wf_i64 w4, wf_i64 w5, wf_i64 w6⟩
theorem ta_grp {avs : List AV} (h : TA Tryz.prog 93 avs) : ∃ g : GrpD, avs = grpA g ∧ g.ok := by
 have h0 := h.inv_struct;obtain ⟨a1, b1, rfl, k1, h1⟩ := TAs.inv_cons h0;obtain ⟨a2, b2, rfl, k2, h2⟩ := TAs.inv_cons h1;obtain rfl := TAs.inv_nil h2;obtain ⟨n1, rfl, w1⟩ := k1.inv_int (k := .i64);obtain ⟨n2, rfl, w2, q2⟩ := TA.inv_ints (e := 3) (k := .i64) k2;exact ⟨⟨n1, n2⟩, rfl, wf_i64 w1, w2, fun x hx => wf_i64 (q2 x hx)⟩
theorem ta_obj {avs : List AV} (h : TA Tryz.prog 52 avs) : ∃ o : ObjD, avs = objA o ∧ o.ok := by
 have h0 := h.inv_struct;obtain ⟨a1, b1, rfl, k1, h1⟩ := TAs.inv_cons h0;obtain ⟨a2, b2, rfl, k2, h2⟩ := TAs.inv_cons h1;obtain ⟨a3, b3, rfl, k3, h3⟩ := TAs.inv_cons h2;obtain ⟨a4, b4, rfl, k4, h4⟩ := TAs.inv_cons h3;obtain ⟨a5, b5, rfl, k5, h5⟩ := TAs.inv_cons h4;obtain rfl := TAs.inv_nil h5;obtain ⟨r1, e1, l1, q1⟩ := TA.inv_slice (e := 41) (g := true) (sz := 9) k1;cases e1
 obtain ⟨s1, rfl, p1⟩ := rows_map secA SecD.ok fun row hm => ta_sec (q1 row hm)
 obtain ⟨r2, e2, l2, q2⟩ := TA.inv_slice (e := 47) (g := true) (sz := 6) k2;cases e2;obtain ⟨s2, rfl, p2⟩ := rows_map symA SymD.ok fun row hm => ta_sym (q2 row hm)
 obtain ⟨r3, e3, l3, q3⟩ := TA.inv_slice (e := 93) (g := true) (sz := 2) k3;cases e3;obtain ⟨s3, rfl, p3⟩ := rows_map grpA GrpD.ok fun row hm => ta_grp (q3 row hm)
 obtain ⟨b4, rfl⟩ := k4.inv_bool;obtain ⟨n5, rfl, w5, q5⟩ := TA.inv_ints (e := 3) (k := .i64) k5;exact ⟨⟨s1, s2, s3, b4, n5⟩, rfl, by simpa using l1, p1, by simpa using l2, p2, by simpa using l3, p3, w5, fun x hx => wf_i64 (q5 x hx)⟩
theorem ta_objs {av : AV} (h : TA Tryz.prog 22 [av]) : ∃ l : List ObjD, av = .rd 5 (l.map objA) ∧ l.length ≤ 9223372036854775807 ∧ ∀ o ∈ l, o.ok := by
 obtain ⟨rows, he, hl, hr⟩ := TA.inv_slice (e := 52) (g := true) (sz := 5) h;cases he;obtain ⟨l, rfl, h2⟩ := rows_map objA ObjD.ok fun row hm => ta_obj (hr row hm)
 rw [maxLen_eq] at hl;exact ⟨l, rfl, by simpa using hl, h2⟩
@[reducible] def zSy : SymD := ⟨noS, 0, 0, 0, 0, 0⟩
theorem names_ResolveV (l : List ObjD) (hk : LOk l) : A0 Tryz.prog 12 [.rd 5 (l.map objA)] (fun ret => ret = .tup [.agg (tabA (resT l)), .v (ifV 53 (resE l))]) := by
 refine A0.mono (names_Resolve l hk) fun r q => ?_
 rcases q with ⟨q1, q⟩ | ⟨q1, q2, q⟩ | ⟨q1, q2, q3, q⟩ | ⟨q1, q2, q3, q⟩
 · have e := resE_1 q1
   rw [q, resT_n (by rw [e]; decide), e]
 · have e := resE_3 q1 q2
   rw [q, resT_n (by rw [e]; decide), e]
 · have e := resE_4 q1 q2 q3
   rw [q, resT_n (by rw [e]; decide), e]
 · have e := resE_ok q1 q2 q3
   rw [q, resT_0 e, e]
theorem ref_ResolveV (l : List ObjD) (hk : LOk l) : A0 Tryz.prog 17 [.rd 5 (l.map objA)] (fun ret => ret = .tup [.agg (tabA (resT l)), .v (.int .i64 (resE l))]) := by
 refine A0.mono (ref_Resolve l hk) fun r q => ?_
 rcases q with ⟨q1, q⟩ | ⟨q1, q2, q⟩ | ⟨q1, q2, q3, q⟩ | ⟨q1, q2, q3, q⟩
 · have e := resE_1 q1
   rw [q, resT_n (by rw [e]; decide), e]
 · have e := resE_3 q1 ((dup_mny (may_res hk q1)).2 q2)
   rw [q, resT_n (by rw [e]; decide), e]
 · have e := resE_4 q1 (fun c => q2 ((dup_mny (may_res hk q1)).1 c)) ((und_eq (may_res hk q1)).2 q3)
   rw [q, resT_n (by rw [e]; decide), e]
 · have e := resE_ok q1 (fun c => q2 ((dup_mny (may_res hk q1)).1 c)) (fun c => by rw [(und_eq (may_res hk q1)).1 c] at q3; cases q3)
   rw [q, resT_0 e, e, defs_eq (may_res hk q1)]
theorem resE_rng (l : List ObjD) : 0 ≤ resE l ∧ resE l ≤ 8 := by
 unfold resE
 split
 · omega
 · split
   · omega
   · split <;> omega
theorem placeF_rng (l : List ObjD) (t : TabD) (o s : Int) : 0 ≤ (placeF l t o s).2 ∧ (placeF l t o s).2 ≤ 8 := by
 have h0 : (0 : Int) ≤ 0 ∧ (0 : Int) ≤ 8 := by decide
 have h4 : (0 : Int) ≤ 4 ∧ (4 : Int) ≤ 8 := by decide
 unfold placeF
 split
 · exact h0
 · split
   · exact h4
   · exact h0
theorem whereF_rng (l : List ObjD) (t : TabD) (o s : Int) : 0 ≤ (whereF l t o s).2 ∧ (whereF l t o s).2 ≤ 8 := by
 unfold whereF
 split
 · exact ⟨by decide, by decide⟩
 · split
   · exact placeF_rng _ _ _ _
   · split
     · exact placeF_rng _ _ _ _
     · split <;> exact ⟨by decide, by decide⟩
theorem ref_WhereV {l : List ObjD} (hk : LOk l) (hw : ResW l) (o s : Int) : A0 Tryz.prog 20 [.rd 5 (l.map objA), .agg (tabA ⟨dropF l l.length, dI l l.length⟩), .v (.int .i64 o), .v (.int .i64 s)] (fun ret => ret = .tup [.agg (plcA (whereF l ⟨dropF l l.length, dI l l.length⟩ o s).1), .v (.int .i64 (whereF l ⟨dropF l l.length, dI l l.length⟩ o s).2)]) := by
 have h := ref_Where l hw (dI l l.length) o s (tab_w hk hw);rw [where_eq hw] at h;exact h
structure EdgeD where
 off : Int
 typ : Int
 add : Int
 to : Int
 at_ : Int
 deriving Inhabited, DecidableEq
structure NodeD where
 obj : Int
 sec : Int
 pos : Int
 name : ByteArray
 typ : Int
 flags : Int
 align : Int
 ent : Int
 size : Int
 data : List Int
 edges : List EdgeD
 uniq : Bool
 group : Int
 link : Int
 deriving Inhabited
@[reducible] def edgeA (e : EdgeD) : List AV := [.v (.int .i64 e.off), .v (.int .i64 e.typ), .v (.int .i64 e.add), .v (.int .i64 e.to), .v (.int .i64 e.at_)]
@[reducible] def nodeA (x : NodeD) : List AV := [.v (.int .i64 x.obj), .v (.int .i64 x.sec), .v (.int .i64 x.pos), .v (.string x.name), .v (.int .i64 x.typ), .v (.int .i64 x.flags), .v (.int .i64 x.align), .v (.int .i64 x.ent), .v (.int .i64 x.size), .rd 1 (bys x.data), .rd 5 (x.edges.map edgeA), .v (.bool x.uniq), .v (.int .i64 x.group), .v (.int .i64 x.link)]
@[reducible] def vP (ps : List (Int × Int)) : AV := .rd 2 (ps.map pcA)
instance {ps : List (Int × Int)} : EV vP (.rd 2 (ps.map pcA)) ps := ⟨rfl⟩
instance : ZV vP (.slice none 0 0) [] := ⟨tellNilM⟩
instance : PairT Tryz.prog 106 := ⟨_, _, _, _, _, _, _, _, _, _, _, _, rfl, rfl, rfl, by kernel_rfl, rfl, rfl, by kernel_rfl, by kernel_rfl⟩
def secNd (o n : Int) (s : SecD) (g : Int) (p : Int × Int) : NodeD := ⟨o, n, p.1, s.name, s.typ, s.flags, s.align, s.ent, p.2, if s.typ = 1 then (s.data.drop p.1.toNat).take p.2.toNat else [], [], false, g, s.link⟩
structure SecG (s : SecD) : Prop where
 ok : s.ok
 fl : 0 ≤ s.flags
 en : s.ent ≤ 1000000000
 dat : s.data.length ≤ 20000
 pcs : (splitB s).length ≤ 20001
 rng : s.typ = 1 → ∀ p ∈ splitB s, 0 ≤ p.1 ∧ 0 ≤ p.2 ∧ p.1 + p.2 ≤ s.data.length
def secD (s : SecD) : Nat := 2 + 3 * (splitB s).length
theorem Gh.dropY {base : Cx} {l : List AV} {n j : Nat} {A X T : List (Option AB)} : Gh base ⟨l, Hn n (((A ++ (X ++ T)) ++ List.replicate j none) ++ [])⟩ ⟨l, Hn n ((A ++ X) ++ List.replicate (T.length + j) none)⟩ := by
 have h := Gh.dropX (base := base) (l := l) (n := n) (A := A) (X := X) (T := T ++ List.replicate j none);simpa [List.append_assoc] using h
theorem node_snoc {o k g : Int} {s : SecD} {N : List NodeD} {i : Nat} (h : i < (splitB s).length) : N ++ ((splitB s).take (i + 1)).map (secNd o k s g) = (N ++ ((splitB s).take i).map (secNd o k s g)) ++ [secNd o k s g ((splitB s).getD i default)] := by
 rw [map_take_succ _ h, List.append_assoc]
theorem node_map {o k g : Int} {s : SecD} {N : List NodeD} {i : Nat} {x : NodeD} (h : i < (splitB s).length) (hx : secNd o k s g ((splitB s).getD i default) = x) : (N ++ ((splitB s).take (i + 1)).map (secNd o k s g)).map nodeA = (N ++ ((splitB s).take i).map (secNd o k s g)).map nodeA ++ [nodeA x] ∧ (N ++ ((splitB s).take (i + 1)).map (secNd o k s g)).length = (N ++ ((splitB s).take i).map (secNd o k s g)).length + 1 := by
 rw [node_snoc h, hx, List.map_append, List.length_append];exact ⟨rfl, rfl⟩
@[reducible] def z3 : OT := (.one 1 false (.one 2 false (.one 3 false (.one 4 false (.one 5 false (.pur 0 (.one 6 true (.one 7 true (.one 8 false (.one 9 false (.one 10 true .nil)))))))))))
@[reducible] def z4 (s : SecD) (i : Nat) := (s.data.drop ((splitB s).getD i default).1.toNat)
set_option maxHeartbeats 8000000 in
theorem graph_section (n : Nat) (z0 z1 : Option AB) (l : List ObjD) (dr df : List (List AV)) (N : List NodeD) (P : List ((Int × Int) × List (Int × Int))) (B U : List ((Int × Int) × Int)) (ep : Nat) (X : List (Option AB)) {lx : Nat} [le : LEN X lx] (o k : Int) (s : SecD) (g : Int) (hs : SecG s) (hN : N.length ≤ 6000000) (hP : P.length ≤ 100000) : AC Tryz.prog 30 (Hn n ([z0, z1, some (.map ((P).map (mE kP vP))), some (.map ((B).map (mE kP vI))), some (.map ((U).map (mE kP vI))), some (.box 70 [.rd 5 (l.map objA), .rd 1 dr, .rd 3 df, .own (n + 6) (ep) 0 (N).length, .omap (n + 2), .omap (n + 3), .omap (n + 4)]), some (.row 56 14 (ep) ((N).map nodeA))] ++ X)) [.box (n + 5) 0, .v (.int .i64 (o)), .v (.int .i64 (k)), .agg (secA s), .v (.int .i64 (g))] (fun r H' => r = .tup [] ∧ H' = Hn n (([z0, z1, some (.map (((aput P (o, k) (splitB s))).map (mE kP vP))), some (.map (((aput B (o, k) (N.length : Int))).map (mE kP vI))), some (.map ((U).map (mE kP vI))), some (.box 70 [.rd 5 (l.map objA), .rd 1 dr, .rd 3 df, .own (n + 6) (ep + (splitB s).length) 0 (N ++ (splitB s).map (secNd o k s g)).length, .omap (n + 2), .omap (n + 3), .omap (n + 4)]), some (.row 56 14 (ep + (splitB s).length) ((N ++ (splitB s).map (secNd o k s g)).map nodeA))] ++ X) ++ List.replicate (secD s) none)) := by
 have hsd := hs.dat;have hsp := hs.pcs;have hse := hs.en;have hsf := hs.fl;have hso := hs.ok;have hpl := (aput_len (l := P) (k := (o, k)) (v := splitB s));refine AC.body 92 Tryz.func30 rfl rfl Tryz.ntmps30 fun base => ?_
 refine n2 ?_;refine AO.ww ?_;refine n3 ?_;iterate 3 refine AO.c ?_
 refine AO.ww ?_;refine AO.sst ?_;refine n1 <|AW.seq' ?_;refine AW.drawsZ [7] (.one 0 false (.one 1 false (.one 2 false (.one 3 false (.one 4 false (.one 5 false (.one 6 true (.one 7 true .nil)))))))) (by kernel_rfl) rfl (by kernel_rfl) ?_;iterate 6 refine AZ.c rfl ?_
 refine AZ.call1 rfl Tryz.func48 rfl rfl (piece_Split s hso hsf (by omega) (by omega)) ?_;refine AZ.ghost (Gh.tell 21 (.v (.agg ⟨[.int .i64 o, .int .i64 k]⟩))) ?_;refine AZ.sst rfl rfl ?_;refine AZ.done ?_;refine SQ.normal <|AW.seq' ?_
 refine AW.drawsZ [10] (.one 0 false (.one 1 false (.one 2 false (.one 3 false (.one 4 false (.one 5 false (.one 6 false (.one 7 false (.one 8 false (.one 9 false (.one 10 true .nil))))))))))) (by kernel_rfl) rfl (by kernel_rfl) ?_;iterate 10 refine AZ.c rfl ?_
 refine AZ.ghost (Gh.tell 28 (.v (.agg ⟨[.int .i64 o, .int .i64 k]⟩))) ?_;refine AZ.sst rfl rfl ?_;refine AZ.done ?_;refine SQ.normal <|AW.seq' ?_;refine AW.drawsZ [] (.one 0 false (.one 1 false (.one 2 false (.one 3 false (.one 4 false (.one 5 false (.one 6 false (.one 7 false .nil)))))))) (by kernel_rfl) rfl (by kernel_rfl) ?_;iterate 5 refine AZ.c rfl ?_
 refine AZ.ghost (Gh.tell 38 (.v (.agg ⟨[.int .i64 o, .int .i64 k]⟩))) ?_;refine AZ.c rfl ?_;refine AZ.eq 39 (av' := .rd 2 ((splitB s).map pcA)) (by rw [aget_aput, if_pos rfl]; rfl) ?_;iterate 2 refine AZ.c rfl ?_
 refine AZ.done ?_;refine SQ.normal <|AW.block' ?_
 refine AW.loopU2 [.k, .k, .k, .f, .k, .f, .f, .f, .k, .F, .F, .F, .f, .f, .f, .f, .f, .f, .k, .k, .k, .F, .F, .F, .F, .F, .F, .f, .f] (fun (i j : Nat) => [(41, .v (.int .i64 (i)))]) (fun i j => Hn n ((([z0, z1, some (.map (((aput P (o, k) (splitB s))).map (mE kP vP))), some (.map (((aput B (o, k) (N.length : Int))).map (mE kP vI))), some (.map ((U).map (mE kP vI))), some (.box 70 [.rd 5 (l.map objA), .rd 1 dr, .rd 3 df, .own (n + 6) (ep + i) 0 ((N ++ ((splitB s).take i).map (secNd o k s g))).length, .omap (n + 2), .omap (n + 3), .omap (n + 4)]), some (.row 56 14 (ep + i) (((N ++ ((splitB s).take i).map (secNd o k s g))).map nodeA))] ++ (X ++ [some (.box 41 (secA s)), some (.box 106 [.v (.int .i64 (o)), .v (.int .i64 (k))])])) ++ List.replicate j none) ++ [])) (fun m i j => (i ≤ (splitB s).length ∧ m = (splitB s).length - i) ∧ j = 3 * i) ((splitB s).length) (0) (0) ⟨by omega, by omega⟩ (by first | rfl | (simp; done)) (by simp) ?_
 rintro m0 i j ⟨hx1, hx2⟩
 refine n2 ?_;refine AO.c ?_;refine n1 <|AW.seq' ?_;refine AW.iteB (GL.ev _) (fun h0 => ?_) (fun h0 => ?_)
 ·
  rw [decide_eq_true_eq] at h0;have hi : i < (splitB s).length := by omega
  refine nc ?_;refine AO.oo ?_;refine AO.c ?_;refine AO.ww ?_;refine AO.sst ?_;refine n3 ?_;iterate 20 refine AO.c ?_
  refine AO.ww ?_;refine AO.sst ?_;refine n4 ?_;iterate 3 refine AO.c ?_
  refine n1 ?_;refine AW.iteB (GL.ev _) (fun h1 => ?_) (fun h1 => ?_)
  ·
   rw [decide_eq_true_eq] at h1;have hr := hs.rng h1 _ (getD_in hi)
   have hns := node_map (o := o) (k := k) (g := g) (N := N) hi (show secNd o k s g ((splitB s).getD i default) = (⟨o, k, ((splitB s).getD i default).1, s.name, s.typ, s.flags, s.align, s.ent, ((splitB s).getD i default).2, (z4 s i).take ((splitB s).getD i default).2.toNat, [], false, g, s.link⟩ : NodeD) by unfold secNd; rw [if_pos h1]);refine AW.region ?_;refine AO.b0 ?_;intro ad
   iterate 8 refine AO.c ?_
   refine AO.oo ?_;refine AO.o (by simp only [Option.getD_some]; omega) ?_;refine AO.eq 78 (av' := .rd 1 (bys ((z4 s i).take ((splitB s).getD i default).2.toNat))) (by simp only [Option.getD_some]; rw [List.drop_take, show (((splitB s).getD i default).1 + ((splitB s).getD i default).2).toNat - ((splitB s).getD i default).1.toNat = ((splitB s).getD i default).2.toNat by omega]) ?_
   refine AO.app0 rfl (by rw [bys_length, List.length_take, List.length_drop]; omega) (by rw [bys_length, List.length_take, List.length_drop]; omega) ?_;refine AO.c ?_;refine AO.sst ?_;refine n1 ?_;refine AW.drawsZ [7, 10] z3 (by kernel_rfl) rfl (by kernel_rfl) ?_;iterate 5 refine AZ.c rfl ?_
   refine AZ.p rfl ?_
   first | refine AZ.ghost (Gh.tell 86 (.agg (nodeA (⟨o, k, ((splitB s).getD i default).1, s.name, s.typ, s.flags, s.align, s.ent, ((splitB s).getD i default).2, (z4 s i).take ((splitB s).getD i default).2.toNat, [], false, g, s.link⟩ : NodeD)))) ?_ | refine AZ.ghost (Gh.tell 86 (.agg (nodeA (⟨o, k, ((splitB s).getD i default).1, s.name, s.typ, s.flags, s.align, s.ent, ((splitB s).getD i default).2, [], [], false, g, s.link⟩ : NodeD)))) ?_
   refine AZ.mkk rfl ?_;refine AZ.ww rfl rfl ?_;iterate 2 refine AZ.c rfl ?_
   refine AZ.sst rfl rfl ?_;refine AZ.done ?_;refine BQ.normal <|SQ.normal <|AW.region ?_;refine AO.oo ?_;refine AO.c ?_;refine AO.nil ?_
   exact AW.backE [.k, .k, .k, .f, .k, .f, .f, .f, .k, .F, .F, .F, .f, .f, .f, .f, .f, .f, .k, .k, .k, .F, .F, .F, .F, .F, .F, .f, .f] (j) (m0 - 1) (i + 1, j + 3) (by omega) (by (try dsimp only); exact ⟨by omega, by omega⟩) (by first | rfl | (simp; done)) (by first | ((try dsimp only); rw [hns.1, hns.2]; done) | ((try dsimp only); rw [hns.1, hns.2]; rfl))
  ·
   rw [decide_eq_false_iff_not] at h1;have hns := node_map (o := o) (k := k) (g := g) (N := N) hi (show secNd o k s g ((splitB s).getD i default) = (⟨o, k, ((splitB s).getD i default).1, s.name, s.typ, s.flags, s.align, s.ent, ((splitB s).getD i default).2, [], [], false, g, s.link⟩ : NodeD) by unfold secNd; rw [if_neg h1]);refine n5 ?_
   refine AW.drawsZ [7, 10] z3 (by kernel_rfl) rfl (by kernel_rfl) ?_;iterate 5 refine AZ.c rfl ?_
   refine AZ.p rfl ?_
   first | refine AZ.ghost (Gh.tell 86 (.agg (nodeA (⟨o, k, ((splitB s).getD i default).1, s.name, s.typ, s.flags, s.align, s.ent, ((splitB s).getD i default).2, (z4 s i).take ((splitB s).getD i default).2.toNat, [], false, g, s.link⟩ : NodeD)))) ?_ | refine AZ.ghost (Gh.tell 86 (.agg (nodeA (⟨o, k, ((splitB s).getD i default).1, s.name, s.typ, s.flags, s.align, s.ent, ((splitB s).getD i default).2, [], [], false, g, s.link⟩ : NodeD)))) ?_
   refine AZ.mkk rfl ?_;refine AZ.ww rfl rfl ?_;iterate 2 refine AZ.c rfl ?_
   refine AZ.sst rfl rfl ?_;refine AZ.done ?_;refine BQ.normal <|SQ.normal <|AW.region ?_;refine AO.oo ?_;refine AO.c ?_;refine AO.nil ?_
   exact AW.backE [.k, .k, .k, .f, .k, .f, .f, .f, .k, .F, .F, .F, .f, .f, .f, .f, .f, .f, .k, .k, .k, .F, .F, .F, .F, .F, .F, .f, .f] (j) (m0 - 1) (i + 1, j + 3) (by omega) (by (try dsimp only); exact ⟨by omega, by omega⟩) (by first | rfl | (simp; done)) (by first | ((try dsimp only); rw [hns.1, hns.2]; done) | ((try dsimp only); rw [hns.1, hns.2]; rfl))
 ·
  rw [decide_eq_false_iff_not] at h0;have hi : i = (splitB s).length := by omega
  subst hi;subst hx2;rw [List.take_length];refine AW.exit <|SQ.exit <|AW.out <|LU.exit <|BQ.exit ?_;refine FinC.ret Gh.dropY ⟨rfl, ?_⟩ (.inl rfl);unfold secD;simp
theorem findG_rng {N at_ : Int} : ∀ (l : List (Int × Int)) (i : Int), findG N at_ i l = -1 ∨ ∃ q : Nat, q < l.length ∧ findG N at_ i l = i + q ∧ (((l.getD q default).1 ≤ at_ ∧ at_ - (l.getD q default).1 < (l.getD q default).2) ∨ (i + q + 1 = N ∧ at_ - (l.getD q default).1 = (l.getD q default).2 ∧ 0 ≤ at_)) := by
 intro l
 induction l with
 | nil => intro i; exact .inl rfl
 | cons p ps ih =>
  intro i;unfold findG
  split
  · rename_i h
    refine .inr ⟨0, by simp, by simp, ?_⟩;rcases h with h | h
    · exact .inl h
    · exact .inr ⟨by simp; exact h.1, h.2⟩
  · rcases ih (i + 1) with h | ⟨q, h1, h2, h3⟩
    · exact .inl h
    · refine .inr ⟨q + 1, by simp; omega, by rw [h2]; push_cast; omega, ?_⟩
      rcases h3 with h3 | h3
      · exact .inl h3
      · refine .inr ⟨by push_cast; have := h3.1; omega, h3.2⟩
def pcsAt (P : List ((Int × Int) × List (Int × Int))) (p : PlcD) : List (Int × Int) := (aget P (p.obj, p.sec)).getD []
def nodeP (P : List ((Int × Int) × List (Int × Int))) (B : List ((Int × Int) × Int)) (p : PlcD) : Int × Int :=
 if p.sec = 0 ∨ findG (pcsAt P p).length p.at_ 0 (pcsAt P p) < 0 then (-1, 0) else ((aget B (p.obj, p.sec)).getD 0 + findG (pcsAt P p).length p.at_ 0 (pcsAt P p), p.at_ - ((pcsAt P p).getD (findG (pcsAt P p).length p.at_ 0 (pcsAt P p)).toNat default).1)
structure MapG (P : List ((Int × Int) × List (Int × Int))) (B : List ((Int × Int) × Int)) : Prop where
 pc : ∀ k ps, aget P k = some ps → PcOk ps
 bg : ∀ k v, aget B k = some v → 0 ≤ v ∧ v ≤ 6000000
theorem pcsAt_ok {P : List ((Int × Int) × List (Int × Int))} {B : List ((Int × Int) × Int)} (h : MapG P B) (p : PlcD) : PcOk (pcsAt P p) := by
 unfold pcsAt
 cases hq : aget P (p.obj, p.sec) with
 | none => exact ⟨by simp, fun x hx => (by cases hx)⟩
 | some ps => exact h.pc _ _ hq
theorem bgAt_ok {P : List ((Int × Int) × List (Int × Int))} {B : List ((Int × Int) × Int)} (h : MapG P B) (k : Int × Int) : 0 ≤ (aget B k).getD 0 ∧ (aget B k).getD 0 ≤ 6000000 := by
 cases hq : aget B k with
 | none => exact ⟨by simp, by simp⟩
 | some v => exact h.bg _ _ hq
set_option maxHeartbeats 8000000 in
theorem graph_node (n : Nat) (z0 z1 : Option AB) (l : List ObjD) (dr df : List (List AV)) (N : List NodeD) (P : List ((Int × Int) × List (Int × Int))) (B U : List ((Int × Int) × Int)) (ep : Nat) (X : List (Option AB)) {lx : Nat} [le : LEN X lx] (p : PlcD) (hp : I64 p.at_) (hm : MapG P B) : AC Tryz.prog 32 (Hn n ([z0, z1, some (.map ((P).map (mE kP vP))), some (.map ((B).map (mE kP vI))), some (.map ((U).map (mE kP vI))), some (.box 70 [.rd 5 (l.map objA), .rd 1 dr, .rd 3 df, .own (n + 6) (ep) 0 (N).length, .omap (n + 2), .omap (n + 3), .omap (n + 4)]), some (.row 56 14 (ep) ((N).map nodeA))] ++ X)) [.box (n + 5) 0, .agg (plcA p)] (fun r H' => r = .tup [.v (.int .i64 (nodeP P B p).1), .v (.int .i64 (nodeP P B p).2)] ∧ H' = Hn n (([z0, z1, some (.map ((P).map (mE kP vP))), some (.map ((B).map (mE kP vI))), some (.map ((U).map (mE kP vI))), some (.box 70 [.rd 5 (l.map objA), .rd 1 dr, .rd 3 df, .own (n + 6) (ep) 0 (N).length, .omap (n + 2), .omap (n + 3), .omap (n + 4)]), some (.row 56 14 (ep) ((N).map nodeA))] ++ X) ++ [none, none])) := by
 obtain ⟨ps, hps⟩ : ∃ ps, pcsAt P p = ps := ⟨_, rfl⟩;have hpc := pcsAt_ok hm p;have hbg := bgAt_ok hm (p.obj, p.sec);rw [hps] at hpc;have hpc1 := hpc.1;have hfr := findG_rng (N := ps.length) (at_ := p.at_) ps 0;unfold I64 at hp;refine AC.body 47 Tryz.func32 rfl rfl Tryz.ntmps32 fun base => ?_
 refine n2 ?_;refine AO.ww ?_;iterate 2 refine AO.c ?_
 refine n3 ?_;iterate 5 refine AO.c ?_
 refine AO.ww ?_;refine AO.sst ?_;refine n1 <|AW.seq' ?_;refine AW.drawsZ [] (.one 0 false (.one 1 false (.one 2 false (.one 3 false (.one 4 false (.one 5 false (.one 6 false .nil))))))) (by kernel_rfl) rfl (by kernel_rfl) ?_;iterate 5 refine AZ.c rfl ?_
 refine AZ.ghost (Gh.tell 18 (.v (.agg ⟨[.int .i64 p.obj, .int .i64 p.sec]⟩))) ?_;refine AZ.c rfl ?_;refine AZ.eq 19 (av' := .rd 2 (ps.map pcA)) (by rw [← hps]; rfl) ?_;refine AZ.c rfl ?_;refine AZ.done ?_;refine SQ.normal <|n2 ?_;iterate 3 refine AO.c ?_
 refine AO.call1 Tryz.func50 rfl rfl (piece_Find ps p.at_ hpc hp) ?_;refine AO.c ?_;refine n4 ?_;iterate 4 refine AO.c ?_
 iterate 2 refine AO.gx ?_
 refine AO.c ?_;refine n1 ?_;refine AW.iteB (GL.ev _) (fun h0 => ?_) (fun h0 => ?_)
 ·
  have hno : p.sec = 0 ∨ findG ps.length p.at_ 0 ps < 0 := by simpa using h0
  have e : nodeP P B p = (-1, 0) := by unfold nodeP; rw [hps, if_pos hno]
  refine n2 ?_;iterate 2 refine AO.c ?_
  refine na <|SQ.ret ?_;refine FinC.ret Gh.dropX ⟨?_, rfl⟩ (.inr rfl);rw [e]; rfl
 ·
  have hyes : ¬ (p.sec = 0 ∨ findG ps.length p.at_ 0 ps < 0) := by simpa using h0
  have e : nodeP P B p = ((aget B (p.obj, p.sec)).getD 0 + findG ps.length p.at_ 0 ps, p.at_ - (ps.getD (findG ps.length p.at_ 0 ps).toNat default).1) := by unfold nodeP; rw [hps, if_neg hyes]
  obtain ⟨q, hq1, hq2, hq3⟩ := hfr.resolve_left (by omega);rw [Int.zero_add] at hq2;have hpq := pcs_at hpc q;rw [hq2] at e ⊢;rw [Int.toNat_natCast] at e;refine n5 <|AW.seq' ?_
  refine AW.drawsZ [] (.one 0 false (.one 1 false (.one 2 false (.one 3 false (.one 4 false (.one 5 false (.one 6 false (.one 7 false (.one 8 false (.one 9 false (.one 10 false (.one 11 false (.one 12 false (.one 13 false (.one 14 false (.one 15 false (.one 16 false (.one 17 false .nil)))))))))))))))))) (by kernel_rfl) rfl (by kernel_rfl) ?_;iterate 5 refine AZ.c rfl ?_
  refine AZ.ghost (Gh.tell 35 (.v (.agg ⟨[.int .i64 p.obj, .int .i64 p.sec]⟩))) ?_;iterate 2 refine AZ.c rfl ?_
  refine AZ.o rfl (by omega) ?_;iterate 4 refine AZ.c rfl ?_
  refine AZ.o rfl (by omega) ?_;iterate 2 refine AZ.c rfl ?_
  refine AZ.eq 45 (av' := .v (.int .i64 (ps.getD q default).1)) (by rfl) ?_;refine AZ.o rfl (by omega) ?_;iterate 2 refine AZ.c rfl ?_
  refine AZ.done ?_;refine SQ.normal <|AW.ret ?_;refine FinC.ret Gh.dropX ⟨?_, rfl⟩ (.inr rfl);rw [e]; rfl
theorem and2 {n : Int} (h0 : 0 ≤ n) (h1 : n ≤ 9223372036854775807) : decide (IntKind.i64.wrap (BitVec.ofInt IntKind.i64.bits n &&& BitVec.ofInt IntKind.i64.bits 2).toNat ≠ 0) = hasF n 2 := by
 have := and_pow 1 h0 h1 (by decide);rw [show ((2 ^ 1 : Nat) : Int) = 2 from rfl] at this;rw [this];unfold hasF;by_cases h : n / 2 % 2 = 1 <;> simp [h, h0]
def inS (es : List (Int × Int)) (g : Int) (mem : List Int) : List (Int × Int) := mem.foldl (fun es m => aput es m g) es
def inK (o : ObjD) (g : Int) : Nat → List (Int × Int)
 | 0 => []
 | j + 1 => inS (inK o g j) (g + j + 1) (o.groups.getD j default).mem
def grpN (l : List ObjD) : Nat → Int
 | 0 => 0
 | i + 1 => grpN l i + ((l.getD i default).groups.length : Int)
def keptB (l : List ObjD) (i k : Nat) : Bool := hasF ((l.getD i default).secs.getD k default).flags 2 && !((dropR l i).getD k default)
def sG (l : List ObjD) (i k : Nat) : Int := (aget (inK (l.getD i default) (grpN l i) (l.getD i default).groups.length) ((k : Int) + 1)).getD 0
structure SecSt where
 nodes : List NodeD
 pcs : List ((Int × Int) × List (Int × Int))
 bg : List ((Int × Int) × Int)
def secStep (st : SecSt) (o k : Int) (s : SecD) (g : Int) : SecSt := ⟨st.nodes ++ (splitB s).map (secNd o k s g), aput st.pcs (o, k) (splitB s), aput st.bg (o, k) (st.nodes.length : Int)⟩
def secK (l : List ObjD) (i : Nat) (st : SecSt) : Nat → SecSt
 | 0 => st
 | k + 1 => if keptB l i k = true then secStep (secK l i st k) i ((k : Int) + 1) ((l.getD i default).secs.getD k default) (sG l i k) else secK l i st k
def secI (l : List ObjD) : Nat → SecSt
 | 0 => ⟨[], [], []⟩
 | i + 1 => secK l i (secI l i) (l.getD i default).secs.length
structure GraphW (l : List ObjD) : Prop where
 rw_ : ResW l
 grp : ∀ i, i < l.length → (l.getD i default).groups.length ≤ 40
 sec : ∀ i k, i < l.length → k < (l.getD i default).secs.length → SecG ((l.getD i default).secs.getD k default)
theorem grpN_rng {l : List ObjD} (hw : GraphW l) : ∀ i : Nat, i ≤ l.length → 0 ≤ grpN l i ∧ grpN l i ≤ 40 * i := by
 intro i
 induction i with
 | zero => intro _; exact ⟨Int.le_refl _, by show (0 : Int) ≤ _; omega⟩
 | succ i ih =>
  intro hi;have h1 := ih (by omega);have h2 := hw.grp i (by omega);rw [grpN]; omega
theorem secK_len {l : List ObjD} (hw : GraphW l) {i : Nat} (hi : i < l.length) (st : SecSt) : ∀ k, k ≤ (l.getD i default).secs.length → (secK l i st k).nodes.length ≤ st.nodes.length + 20001 * k ∧ (secK l i st k).pcs.length ≤ st.pcs.length + k ∧ (secK l i st k).bg.length ≤ st.bg.length + k := by
 intro k
 induction k with
 | zero => intro _; exact ⟨Nat.le_refl _, Nat.le_refl _, Nat.le_refl _⟩
 | succ k ih =>
  intro hk;have h1 := ih (by omega);have h2 := (hw.sec i k hi (by omega)).pcs;rw [secK]
  split
  · unfold secStep
    have a1 := aput_len (l := (secK l i st k).pcs) (k := ((i : Int), (k : Int) + 1)) (v := splitB ((l.getD i default).secs.getD k default));have a2 := aput_len (l := (secK l i st k).bg) (k := ((i : Int), (k : Int) + 1)) (v := ((secK l i st k).nodes.length : Int));refine ⟨?_, ?_, ?_⟩
    · show ((secK l i st k).nodes ++ _).length ≤ _
      rw [List.length_append, List.length_map]; omega
    · show (aput _ _ _).length ≤ _
      rw [a1]; split <;> omega
    · show (aput _ _ _).length ≤ _
      rw [a2]; split <;> omega
  · omega
theorem secI_len {l : List ObjD} (hw : GraphW l) : ∀ i, i ≤ l.length → (secI l i).nodes.length ≤ 640032 * i ∧ (secI l i).pcs.length ≤ 32 * i ∧ (secI l i).bg.length ≤ 32 * i := by
 intro i
 induction i with
 | zero => intro _; exact ⟨Nat.le_refl _, Nat.le_refl _, Nat.le_refl _⟩
 | succ i ih =>
  intro hi;have h1 := ih (by omega);have h2 := secK_len hw (show i < l.length by omega) (secI l i) (l.getD i default).secs.length (Nat.le_refl _);have h3 := (hw.rw_.sy i (by omega)).2;rw [secI]; omega
theorem inS_snoc (es : List (Int × Int)) (g : Int) {m : List Int} {q : Nat} (h : q < m.length) : inS es g (m.take (q + 1)) = aput (inS es g (m.take q)) (m.getD q default) g := by
 unfold inS;rw [foldl_take_succ _ _ _ _ h]
set_option maxHeartbeats 8000000 in
theorem graph_sections (n : Nat) (z0 z1 : Option AB) (l : List ObjD) (df : List (List AV)) (hw : GraphW l) (j0 : Nat) : AC Tryz.prog 13 (Hn n (([z0, z1, some (.map ((([] : List ((Int × Int) × List (Int × Int)))).map (mE kP vP))), some (.map ((([] : List ((Int × Int) × Int))).map (mE kP vI))), some (.map ((([] : List ((Int × Int) × Int))).map (mE kP vI))), some (.box 70 [.rd 5 (l.map objA), .rd 1 ((dropF l l.length).map drA), .rd 3 df, .own (n + 6) (0) 0 (([] : List NodeD)).length, .omap (n + 2), .omap (n + 3), .omap (n + 4)]), some (.row 56 14 (0) ((([] : List NodeD)).map nodeA))] ++ List.replicate j0 none) ++ [])) [.box (n + 5) 0] (fun r H' => ∃ x : Nat, r = .tup [] ∧ H' = Hn n (([z0, z1, some (.map (((secI l l.length).pcs).map (mE kP vP))), some (.map (((secI l l.length).bg).map (mE kP vI))), some (.map ((([] : List ((Int × Int) × Int))).map (mE kP vI))), some (.box 70 [.rd 5 (l.map objA), .rd 1 ((dropF l l.length).map drA), .rd 3 df, .own (n + 6) ((secI l l.length).nodes.length) 0 ((secI l l.length).nodes).length, .omap (n + 2), .omap (n + 3), .omap (n + 4)]), some (.row 56 14 ((secI l l.length).nodes.length) (((secI l l.length).nodes).map nodeA))] ++ List.replicate x none) ++ [])) := by
 have hl8 := hw.rw_.len
 refine AC.body 82 Tryz.func13 rfl rfl Tryz.ntmps13 fun base => ?_
 refine AW.seq' ?_
 refine AW.region ?_
 refine AO.c ?_
 refine AO.nil ?_
 refine SQ.normal ?_
 refine AW.seq' ?_
 refine AW.region ?_
 iterate 6 refine AO.c ?_
 refine AO.nil ?_
 refine SQ.normal ?_
 refine AW.block' ?_
 refine AW.loopU2 [.k, .f, .k, .F, .f, .f, .f, .f, .k, .k, .k, .F, .F, .F, .F, .F, .F, .F, .F] (fun (i j : Nat) => [(2, .v (.int .i64 (grpN l i))), (17, .v (.int .i64 ((i : Int))))]) (fun i j => Hn n (([z0, z1, some (.map (((secI l i).pcs).map (mE kP vP))), some (.map (((secI l i).bg).map (mE kP vI))), some (.map ((([] : List ((Int × Int) × Int))).map (mE kP vI))), some (.box 70 [.rd 5 (l.map objA), .rd 1 ((dropF l l.length).map drA), .rd 3 df, .own (n + 6) ((secI l i).nodes.length) 0 ((secI l i).nodes).length, .omap (n + 2), .omap (n + 3), .omap (n + 4)]), some (.row 56 14 ((secI l i).nodes.length) (((secI l i).nodes).map nodeA))] ++ List.replicate j none) ++ [])) (fun m i j => i ≤ l.length ∧ m = l.length - i) (l.length) (0) (j0) ⟨by omega, by omega⟩ (by first | rfl | (simp; done)) (by first | rfl | (simp; done)) ?_
 rintro m0 i j ⟨hx1, hx2⟩
 refine AW.seq' ?_
 refine AW.region ?_
 refine AO.c ?_
 refine AO.nil ?_
 refine SQ.normal ?_
 refine AW.seq' ?_
 refine AW.iteB (GL.ev _) (fun h0 => ?_) (fun h0 => ?_)
 ·
  rw [decide_eq_true_eq] at h0
  have hi : i < l.length := by omega
  have hgn := grpN_rng hw i (by omega)
  have hgi := hw.grp i hi
  have hsy := hw.rw_.sy i hi
  have hsl := secI_len hw i (by omega)
  have hdl := dropF_len l l.length
  have hrl := dropR_len l i
  refine AW.skip ?_
  refine SQ.normal ?_
  refine AW.seq' ?_
  refine AW.block' ?_
  refine AW.seq' ?_
  refine AW.region ?_
  refine AO.c ?_
  refine AO.oo ?_
  refine AO.c ?_
  refine AO.ww ?_
  refine AO.c ?_
  refine AO.sst ?_
  refine AO.nil ?_
  refine SQ.normal ?_
  refine AW.seq' ?_
  refine AW.region ?_
  refine AO.ww ?_
  refine AO.c ?_
  refine AO.nil ?_
  refine SQ.normal ?_
  refine AW.seq' ?_
  refine AW.seq' ?_
  refine AW.region ?_
  iterate 4 refine AO.c ?_
  refine AO.nil ?_
  refine SQ.normal ?_
  refine AW.block' ?_
  refine AW.loopU2 [.k, .f, .k, .k, .k, .k, .F, .f, .k, .k, .k, .f, .f, .f, .f, .f, .f, .k, .k, .k, .F, .F, .F, .F, .F, .F, .f, .f, .f, .f, .f, .f, .f] (fun (k j2 : Nat) => [(2, .v (.int .i64 (grpN l i + (k : Int)))), (26, .v (.int .i64 ((k : Int))))]) (fun k j2 => Hn n ((([z0, z1, some (.map (((secI l i).pcs).map (mE kP vP))), some (.map (((secI l i).bg).map (mE kP vI))), some (.map ((([] : List ((Int × Int) × Int))).map (mE kP vI))), some (.box 70 [.rd 5 (l.map objA), .rd 1 ((dropF l l.length).map drA), .rd 3 df, .own (n + 6) ((secI l i).nodes.length) 0 ((secI l i).nodes).length, .omap (n + 2), .omap (n + 3), .omap (n + 4)]), some (.row 56 14 ((secI l i).nodes.length) (((secI l i).nodes).map nodeA))] ++ List.replicate j none ++ [some (.box 52 (objA (l.getD i default))), some (.map (((inK (l.getD i default) (grpN l i) (k))).map (mE kI vI)))]) ++ List.replicate j2 none) ++ [])) (fun m k j2 => k ≤ (l.getD i default).groups.length ∧ m = (l.getD i default).groups.length - k) ((l.getD i default).groups.length) (0) (0) ⟨by omega, by omega⟩ (by first | rfl | (simp; done)) (by simp [inK]) ?_
  rintro m1 k j2 ⟨hy1, hy2⟩
  refine AW.seq' ?_
  refine AW.region ?_
  refine AO.c ?_
  refine AO.nil ?_
  refine SQ.normal ?_
  refine AW.seq' ?_
  refine AW.iteB (GL.ev _) (fun h1 => ?_) (fun h1 => ?_)
  ·
   rw [decide_eq_true_eq] at h1
   have hk : k < (l.getD i default).groups.length := by omega
   have hmm := (hw.rw_.g.mem i k hi hk).1
   refine AW.skip ?_
   refine SQ.normal ?_
   refine AW.seq' ?_
   refine AW.block' ?_
   refine AW.seq' ?_
   refine AW.region ?_
   refine AO.oo ?_
   refine AO.c ?_
   refine AO.ww ?_
   refine AO.sst ?_
   refine AO.nil ?_
   refine SQ.normal ?_
   refine AW.seq' ?_
   refine AW.region ?_
   refine AO.c ?_
   refine AO.o (by omega) ?_
   refine AO.c ?_
   refine AO.nil ?_
   refine SQ.normal ?_
   refine AW.seq' ?_
   refine AW.region ?_
   iterate 4 refine AO.c ?_
   refine AO.nil ?_
   refine SQ.normal ?_
   refine AW.block' ?_
   refine AW.loopU [.k, .f, .k, .k, .k, .k, .F, .f, .k, .k, .k, .f, .f, .f, .f, .f, .f, .k, .k, .k, .f, .f, .f, .f, .f, .f, .k, .k, .k, .F, .F, .F, .F, .F, .f, .f, .f, .f, .f, .f] (fun (q : Nat) => [(35, .v (.int .i64 ((q : Int))))]) (fun q => Hn n ((([z0, z1, some (.map (((secI l i).pcs).map (mE kP vP))), some (.map (((secI l i).bg).map (mE kP vI))), some (.map ((([] : List ((Int × Int) × Int))).map (mE kP vI))), some (.box 70 [.rd 5 (l.map objA), .rd 1 ((dropF l l.length).map drA), .rd 3 df, .own (n + 6) ((secI l i).nodes.length) 0 ((secI l i).nodes).length, .omap (n + 2), .omap (n + 3), .omap (n + 4)]), some (.row 56 14 ((secI l i).nodes.length) (((secI l i).nodes).map nodeA))] ++ List.replicate j none ++ [some (.box 52 (objA (l.getD i default))), some (.map ((inS (inK (l.getD i default) (grpN l i) (k)) (grpN l i + (k : Int) + 1) (((l.getD i default).groups.getD k default).mem.take q)).map (mE kI vI)))]) ++ List.replicate j2 none) ++ [some (.box 93 (grpA ((l.getD i default).groups.getD k default)))])) (fun m q => q ≤ ((l.getD i default).groups.getD k default).mem.length ∧ m = ((l.getD i default).groups.getD k default).mem.length - q) (((l.getD i default).groups.getD k default).mem.length) (0) ⟨by omega, by omega⟩ (by first | rfl | (simp; done)) (by simp [inS]) ?_
   rintro m2 q ⟨hz1, hz2⟩
   refine AW.seq' ?_
   refine AW.region ?_
   refine AO.c ?_
   refine AO.nil ?_
   refine SQ.normal ?_
   refine AW.seq' ?_
   refine AW.iteB (GL.ev _) (fun h2 => ?_) (fun h2 => ?_)
   ·
    rw [decide_eq_true_eq] at h2
    have hq : q < ((l.getD i default).groups.getD k default).mem.length := by omega
    refine AW.skip ?_
    refine SQ.normal ?_
    refine AW.seq' ?_
    refine AW.block' ?_
    refine AW.seq' ?_
    refine AW.region ?_
    refine AO.oo ?_
    iterate 2 refine AO.c ?_
    refine AO.nil ?_
    refine SQ.normal ?_
    refine AW.region ?_
    iterate 3 refine AO.c ?_
    refine AO.sst ?_
    refine AO.nil ?_
    refine BQ.normal ?_
    refine SQ.normal ?_
    refine AW.region ?_
    refine AO.oo ?_
    refine AO.c ?_
    refine AO.nil ?_
    exact AW.backU [.k, .f, .k, .k, .k, .k, .F, .f, .k, .k, .k, .f, .f, .f, .f, .f, .f, .k, .k, .k, .f, .f, .f, .f, .f, .f, .k, .k, .k, .F, .F, .F, .F, .F, .f, .f, .f, .f, .f, .f] (m2 - 1) (q + 1) (by omega) (by (try dsimp only); exact ⟨by omega, by omega⟩) (by first | rfl | (simp; done)) (by (try dsimp only); rw [inS_snoc _ _ hq])
   ·
    rw [decide_eq_false_iff_not] at h2
    have hq : q = ((l.getD i default).groups.getD k default).mem.length := by omega
    subst hq
    rw [List.take_length]
    refine AW.exit ?_
    refine SQ.exit <| AW.out <| LU.exit <| BQ.exit ?_
    refine BQ.normal ?_
    refine SQ.normal ?_
    refine AW.region ?_
    refine AO.oo ?_
    refine AO.c ?_
    refine AO.nil ?_
    exact AW.backE [.k, .f, .k, .k, .k, .k, .F, .f, .k, .k, .k, .f, .f, .f, .f, .f, .f, .k, .k, .k, .F, .F, .F, .F, .F, .F, .f, .f, .f, .f, .f, .f, .f] (j2) (m1 - 1) (k + 1, j2 + 1) (by omega) (by (try dsimp only); exact ⟨by omega, by omega⟩) (by simp [Int.add_assoc]) (by first | rfl | (simp; done))
  ·
   rw [decide_eq_false_iff_not] at h1
   have hk : k = (l.getD i default).groups.length := by omega
   subst hk
   refine AW.exit ?_
   refine SQ.exit <| AW.out <| LU.exit <| BQ.exit ?_
   refine SQ.normal ?_
   refine AW.seq' ?_
   refine AW.region ?_
   iterate 4 refine AO.c ?_
   refine AO.nil ?_
   refine SQ.normal ?_
   refine AW.block' ?_
   refine AW.loopU2 [.k, .f, .k, .k, .f, .k, .F, .f, .k, .k, .k, .F, .F, .F, .f, .f, .f, .k, .k, .k, .F, .F, .F, .F, .f, .f] (fun (k j3 : Nat) => [(47, .v (.int .i64 ((k : Int))))]) (fun k j3 => Hn n ((([z0, z1, some (.map ((((secK l i (secI l i) k)).pcs).map (mE kP vP))), some (.map ((((secK l i (secI l i) k)).bg).map (mE kP vI))), some (.map ((([] : List ((Int × Int) × Int))).map (mE kP vI))), some (.box 70 [.rd 5 (l.map objA), .rd 1 ((dropF l l.length).map drA), .rd 3 df, .own (n + 6) (((secK l i (secI l i) k)).nodes.length) 0 (((secK l i (secI l i) k)).nodes).length, .omap (n + 2), .omap (n + 3), .omap (n + 4)]), some (.row 56 14 (((secK l i (secI l i) k)).nodes.length) ((((secK l i (secI l i) k)).nodes).map nodeA))] ++ List.replicate j none ++ [some (.box 52 (objA (l.getD i default))), some (.map (((inK (l.getD i default) (grpN l i) ((l.getD i default).groups.length))).map (mE kI vI)))]) ++ List.replicate j3 none) ++ [])) (fun m k j3 => k ≤ (l.getD i default).secs.length ∧ m = (l.getD i default).secs.length - k) ((l.getD i default).secs.length) (0) (j2) ⟨by omega, by omega⟩ (by first | rfl | (simp; done)) (by simp [secK]) ?_
   rintro m3 k j3 ⟨hv1, hv2⟩
   refine AW.seq' ?_
   refine AW.region ?_
   refine AO.c ?_
   refine AO.nil ?_
   refine SQ.normal ?_
   refine AW.seq' ?_
   refine AW.iteB (GL.ev _) (fun h3 => ?_) (fun h3 => ?_)
   ·
    rw [decide_eq_true_eq] at h3
    have hk : k < (l.getD i default).secs.length := by omega
    have hsg := hw.sec i k hi hk
    have hkl := secK_len hw hi (secI l i) k (by omega)
    refine AW.skip ?_
    refine SQ.normal ?_
    refine AW.seq' ?_
    refine AW.block' ?_
    refine AW.seq' ?_
    refine AW.region ?_
    refine AO.c ?_
    refine AO.oo ?_
    refine AO.c ?_
    refine AO.ww ?_
    refine AO.c ?_
    refine AO.sst ?_
    refine AO.nil ?_
    refine SQ.normal ?_
    refine AW.seq' ?_
    refine AW.region ?_
    iterate 4 refine AO.c ?_
    refine AO.eq 55 (av' := .v (.bool (hasF ((l.getD i default).secs.getD k default).flags 2))) (by rw [and2 hsg.fl hsg.ok.2.2.1.2]) ?_
    refine AO.c ?_
    iterate 6 refine AO.gx ?_
    refine AO.gxo (fun _ => by omega) ?_
    refine AO.gx ?_
    refine AO.eq 64 (av' := cv (hasF ((l.getD i default).secs.getD k default).flags 2) (.rd 1 ((dropR l i).map bA))) (by rw [dropF_get hi]) ?_
    refine AO.gx ?_
    refine AO.gxo (fun _ => by omega) ?_
    iterate 2 refine AO.gx ?_
    refine AO.c ?_
    refine AO.nil ?_
    refine SQ.normal ?_
    refine AW.iteB (GL.ev _) (fun h4 => ?_) (fun h4 => ?_)
    ·
     have hst : secK l i (secI l i) (k + 1) = secStep (secK l i (secI l i) k) (i : Int) ((k : Int) + 1) ((l.getD i default).secs.getD k default) (sG l i k) := by rw [secK, if_pos (show keptB l i k = true from h4)]
     refine AW.region ?_
     iterate 3 refine AO.c ?_
     refine AO.oo ?_
     iterate 3 refine AO.c ?_
     refine AO.oo ?_
     refine AO.c ?_
     refine AO.eq 78 (av' := .v (.int .i64 (sG l i k))) rfl ?_
     refine AO.callL (H2 := Hn n ((([z0, z1, some (.map (((secStep (secK l i (secI l i) k) (i : Int) ((k : Int) + 1) ((l.getD i default).secs.getD k default) (sG l i k)).pcs).map (mE kP vP))), some (.map (((secStep (secK l i (secI l i) k) (i : Int) ((k : Int) + 1) ((l.getD i default).secs.getD k default) (sG l i k)).bg).map (mE kP vI))), some (.map ((([] : List ((Int × Int) × Int))).map (mE kP vI))), some (.box 70 [.rd 5 (l.map objA), .rd 1 ((dropF l l.length).map drA), .rd 3 df, .own (n + 6) ((secStep (secK l i (secI l i) k) (i : Int) ((k : Int) + 1) ((l.getD i default).secs.getD k default) (sG l i k)).nodes.length) 0 ((secStep (secK l i (secI l i) k) (i : Int) ((k : Int) + 1) ((l.getD i default).secs.getD k default) (sG l i k)).nodes).length, .omap (n + 2), .omap (n + 3), .omap (n + 4)]), some (.row 56 14 ((secStep (secK l i (secI l i) k) (i : Int) ((k : Int) + 1) ((l.getD i default).secs.getD k default) (sG l i k)).nodes.length) (((secStep (secK l i (secI l i) k) (i : Int) ((k : Int) + 1) ((l.getD i default).secs.getD k default) (sG l i k)).nodes).map nodeA))] ++ List.replicate j none ++ [some (.box 52 (objA (l.getD i default))), some (.map (((inK (l.getD i default) (grpN l i) ((l.getD i default).groups.length))).map (mE kI vI)))]) ++ List.replicate j3 none) ++ ([some (.box 41 (secA ((l.getD i default).secs.getD k default)))] ++ List.replicate (secD ((l.getD i default).secs.getD k default)) none))) Tryz.func30 rfl rfl (AC.cong (graph_section n z0 z1 l ((dropF l l.length).map drA) df (secK l i (secI l i) k).nodes (secK l i (secI l i) k).pcs (secK l i (secI l i) k).bg [] (secK l i (secI l i) k).nodes.length (List.replicate j none ++ [some (.box 52 (objA (l.getD i default))), some (.map (((inK (l.getD i default) (grpN l i) ((l.getD i default).groups.length))).map (mE kI vI)))] ++ List.replicate j3 none ++ [some (.box 41 (secA ((l.getD i default).secs.getD k default)))]) (i : Int) ((k : Int) + 1) ((l.getD i default).secs.getD k default) (sG l i k) hsg (by omega) (by omega)) (by simp) (fun r H' h => ⟨h.1, h.2.trans (by simp [secStep])⟩)) ?_
     refine AO.nil ?_
     refine BQ.normal ?_
     refine SQ.normal ?_
     refine AW.region ?_
     refine AO.oo ?_
     refine AO.c ?_
     refine AO.nil ?_
     exact AW.backE [.k, .f, .k, .k, .f, .k, .F, .f, .k, .k, .k, .F, .F, .F, .f, .f, .f, .k, .k, .k, .F, .F, .F, .F, .f, .f] (j3) (m3 - 1) (k + 1, j3 + (1 + secD ((l.getD i default).secs.getD k default))) (by omega) (by (try dsimp only); exact ⟨by omega, by omega⟩) (by first | rfl | (simp; done)) ((Hn_repJ (b := j3 + (1 + secD ((l.getD i default).secs.getD k default))) (by first | (simp; done) | (simp; omega))).trans (by (try dsimp only); rw [hst]; try rfl))
    ·
     have hst : secK l i (secI l i) (k + 1) = (secK l i (secI l i) k) := by rw [secK, if_neg (by rw [show keptB l i k = false from h4]; decide)]
     refine AW.skip ?_
     refine BQ.normal ?_
     refine SQ.normal ?_
     refine AW.region ?_
     refine AO.oo ?_
     refine AO.c ?_
     refine AO.nil ?_
     exact AW.backE [.k, .f, .k, .k, .f, .k, .F, .f, .k, .k, .k, .F, .F, .F, .f, .f, .f, .k, .k, .k, .F, .F, .F, .F, .f, .f] (j3) (m3 - 1) (k + 1, j3 + 1) (by omega) (by (try dsimp only); exact ⟨by omega, by omega⟩) (by first | rfl | (simp; done)) (by first | ((try dsimp only); rw [hst]; done) | ((try dsimp only); rw [hst]; rfl))
   ·
    rw [decide_eq_false_iff_not] at h3
    have hk : k = (l.getD i default).secs.length := by omega
    subst hk
    refine AW.exit ?_
    refine SQ.exit <| AW.out <| LU.exit <| BQ.exit ?_
    refine BQ.normal ?_
    refine SQ.normal ?_
    refine AW.region ?_
    refine AO.oo ?_
    refine AO.c ?_
    refine AO.nil ?_
    exact AW.backE [.k, .f, .k, .F, .f, .f, .f, .f, .k, .k, .k, .F, .F, .F, .F, .F, .F, .F, .F] (j) (m0 - 1) (i + 1, j + (2 + j3)) (by omega) (by (try dsimp only); exact ⟨by omega, by omega⟩) (by first | rfl | (simp; done)) ((Hn_repJ (b := j + (2 + j3)) (by first | (simp; done) | (simp; omega))).trans (by (try dsimp only) <;> rfl))
 ·
  rw [decide_eq_false_iff_not] at h0
  have hi : i = l.length := by omega
  subst hi
  refine AW.exit ?_
  refine SQ.exit <| AW.out <| LU.exit <| BQ.exit ?_
  exact FinC.ret Gh.refl ⟨j, rfl, rfl⟩ (.inl rfl)
def incM (U : List ((Int × Int) × Int)) (k : Int × Int) : List ((Int × Int) × Int) := aput U k ((aget U k).getD 0 + 1)
def uqA (o : ObjD) (i : Nat) (U : List ((Int × Int) × Int)) : Nat → List ((Int × Int) × Int)
 | 0 => U
 | k + 1 => if o.hasSig = false then incM (uqA o i U k) ((i : Int), (k : Int) + 1) else uqA o i U k
def uqB (l : List ObjD) (i : Nat) (U : List ((Int × Int) × Int)) : Nat → List ((Int × Int) × Int)
 | 0 => U
 | q + 1 => if (whereF l ⟨dropF l l.length, dI l l.length⟩ (i : Int) ((l.getD i default).sig.getD q default)).2 = 0 ∧ (whereF l ⟨dropF l l.length, dI l l.length⟩ (i : Int) ((l.getD i default).sig.getD q default)).1.sec > 0 then incM (uqB l i U q) ((whereF l ⟨dropF l l.length, dI l l.length⟩ (i : Int) ((l.getD i default).sig.getD q default)).1.obj, (whereF l ⟨dropF l l.length, dI l l.length⟩ (i : Int) ((l.getD i default).sig.getD q default)).1.sec) else uqB l i U q
def uqI (l : List ObjD) : Nat → List ((Int × Int) × Int)
 | 0 => []
 | i + 1 => uqB l i (uqA (l.getD i default) i (uqI l i) (l.getD i default).secs.length) (l.getD i default).sig.length
def UOk (U : List ((Int × Int) × Int)) (b : Nat) : Prop := ∀ k, 0 ≤ (aget U k).getD 0 ∧ (aget U k).getD 0 ≤ b
theorem incM_ok {U : List ((Int × Int) × Int)} {b : Nat} (h : UOk U b) (k : Int × Int) : UOk (incM U k) (b + 1) := fun k' => by
 have h1 := h k
 have h2 := h k'
 unfold incM
 rw [aget_aput]
 by_cases e : k = k'
 · rw [if_pos e]
   show 0 ≤ (aget U k).getD 0 + 1 ∧ (aget U k).getD 0 + 1 ≤ ((b + 1 : Nat) : Int)
   omega
 · rw [if_neg e]; omega
theorem UOk.up {U : List ((Int × Int) × Int)} {b : Nat} (h : UOk U b) : UOk U (b + 1) := fun k => by have := h k; omega
theorem uqA_ok {o : ObjD} {i : Nat} {U : List ((Int × Int) × Int)} {b : Nat} (h : UOk U b) : ∀ k, UOk (uqA o i U k) (b + k) := by
 intro k
 induction k with
 | zero => exact h
 | succ k ih =>
  rw [uqA]
  split
  · exact incM_ok ih _
  · exact ih.up
theorem uqB_ok {l : List ObjD} {i : Nat} {U : List ((Int × Int) × Int)} {b : Nat} (h : UOk U b) : ∀ k, UOk (uqB l i U k) (b + k) := by
 intro k
 induction k with
 | zero => exact h
 | succ k ih =>
  rw [uqB]
  split
  · exact incM_ok ih _
  · exact ih.up
theorem UOk.le {U : List ((Int × Int) × Int)} {b c : Nat} (h : UOk U b) (hc : b ≤ c) : UOk U c := fun k => by have := h k; omega
theorem uqI_ok {l : List ObjD} (hw : ResW l) (hs : ∀ o ∈ l, o.sig.length ≤ 1000000) : ∀ i, i ≤ l.length → UOk (uqI l i) (1000032 * i) := by
 intro i
 induction i with
 | zero => intro _ k; exact ⟨Int.le_refl _, Int.le_refl _⟩
 | succ i ih =>
  intro hi;have h1 := ih (by omega);have h2 := uqB_ok (l := l) (i := i) (uqA_ok (o := l.getD i default) (i := i) h1 (l.getD i default).secs.length) (l.getD i default).sig.length;have h3 := (hw.sy i (by omega)).2;have h4 := hs _ (getD_in (show i < l.length by omega));rw [uqI];exact h2.le (by omega)
def mrkN (U : List ((Int × Int) × Int)) (x : NodeD) : NodeD := { x with uniq := !hasF x.flags 16 && decide ((aget U (x.obj, x.sec)).getD 0 > 0) }
def mrkT (U : List ((Int × Int) × Int)) (N : List NodeD) (i : Nat) : List NodeD := (N.take i).map (mrkN U) ++ N.drop i
theorem mrkT_len (U : List ((Int × Int) × Int)) (N : List NodeD) (i : Nat) : (mrkT U N i).length = N.length := by
 unfold mrkT; simp; omega
theorem mrkT_get {U : List ((Int × Int) × Int)} {N : List NodeD} {i : Nat} (h : i < N.length) : (mrkT U N i)[i]? = some (N.getD i default) := by
 unfold mrkT;rw [List.getElem?_append_right (by simp; omega), List.length_map, List.length_take, Nat.min_eq_left (by omega), Nat.sub_self, drop_getD h]; rfl
theorem mrkT_set {U : List ((Int × Int) × Int)} {N : List NodeD} {i : Nat} (h : i < N.length) : (mrkT U N i).set i (mrkN U (N.getD i default)) = mrkT U N (i + 1) := by
 unfold mrkT;rw [map_take_succ _ h, List.set_append_right _ _ (by simp; omega), List.length_map, List.length_take, Nat.min_eq_left (by omega), Nat.sub_self, drop_getD h, List.append_assoc]; rfl
theorem mrkT_at {U : List ((Int × Int) × Int)} {N : List NodeD} {i : Nat} (h : i < N.length) : ((mrkT U N i).map nodeA)[i]? = some (nodeA (N.getD i default)) := by
 rw [List.getElem?_map, mrkT_get h]; rfl
theorem mrkT_row {U : List ((Int × Int) × Int)} {N : List NodeD} {i : Nat} {b : Bool} (h : i < N.length) (hb : b = (mrkN U (N.getD i default)).uniq) : ((mrkT U N i).map nodeA).set i (layAt (((mrkT U N i).map nodeA).getD i []) 11 [.v (.bool b)]) = (mrkT U N (i + 1)).map nodeA := by
 subst hb;rw [← mrkT_set h, List.map_set, List.getD_eq_getElem?_getD, mrkT_at h];rfl
theorem mrkT_all (U : List ((Int × Int) × Int)) (N : List NodeD) : mrkT U N N.length = N.map (mrkN U) := by
 unfold mrkT; simp
@[reducible] def z5 : OT := (.one 0 false (.one 1 false (.one 2 false (.one 3 false (.one 4 false (.one 5 false (.one 6 false (.one 7 false (.one 8 false (.one 9 false (.one 10 false (.one 11 false (.one 12 false (.one 13 false (.one 14 false (.one 15 false (.one 16 false (.one 17 false (.one 18 false (.one 19 false (.one 20 false (.one 21 false (.one 22 false (.one 23 false (.one 24 true .nil)))))))))))))))))))))))))
set_option maxHeartbeats 8000000 in
theorem graph_marks (n : Nat) (z0 z1 : Option AB) (l : List ObjD) (hk : LOk l) (hw : ResW l) (N : List NodeD) (P : List ((Int × Int) × List (Int × Int))) (B : List ((Int × Int) × Int)) (ep : Nat) (hN : N.length ≤ 6000000) (hfN : ∀ x ∈ N, 0 ≤ x.flags ∧ x.flags ≤ 9223372036854775807) (j0 : Nat) : AC Tryz.prog 14 (Hn n (([z0, z1, some (.map ((P).map (mE kP vP))), some (.map ((B).map (mE kP vI))), some (.map ((([] : List ((Int × Int) × Int))).map (mE kP vI))), some (.box 70 [.rd 5 (l.map objA), .rd 1 ((dropF l l.length).map drA), .rd 3 ((dI l l.length).map defA), .own (n + 6) (ep) 0 (N).length, .omap (n + 2), .omap (n + 3), .omap (n + 4)]), some (.row 56 14 (ep) ((N).map nodeA))] ++ List.replicate j0 none) ++ [])) [.box (n + 5) 0] (fun r H' => ∃ x : Nat, r = .tup [] ∧ H' = Hn n (([z0, z1, some (.map ((P).map (mE kP vP))), some (.map ((B).map (mE kP vI))), some (.map (((uqI l l.length)).map (mE kP vI))), some (.box 70 [.rd 5 (l.map objA), .rd 1 ((dropF l l.length).map drA), .rd 3 ((dI l l.length).map defA), .own (n + 6) (ep) 0 (N).length, .omap (n + 2), .omap (n + 3), .omap (n + 4)]), some (.row 56 14 (ep) ((N.map (mrkN (uqI l l.length))).map nodeA))] ++ List.replicate x none) ++ [])) := by
 have hl8 := hw.len
 have hsg : ∀ o ∈ l, o.sig.length ≤ 1000000 := fun o ho => (hk.ok o ho).2.2
 have hT := tab_w hk hw
 refine AC.body 121 Tryz.func14 rfl rfl Tryz.ntmps14 fun base => ?_
 refine AW.seq' ?_
 refine AW.seq' ?_
 refine AW.region ?_
 iterate 6 refine AO.c ?_
 refine AO.nil ?_
 refine SQ.normal ?_
 refine AW.block' ?_
 refine AW.loopU2 [.k, .F, .f, .f, .f, .f, .f, .k, .k, .k, .F, .F, .F, .F, .F, .F, .F, .F, .F, .F, .F, .F, .F] (fun (i j : Nat) => [(16, .v (.int .i64 ((i : Int))))]) (fun i j => Hn n (([z0, z1, some (.map ((P).map (mE kP vP))), some (.map ((B).map (mE kP vI))), some (.map (((uqI l i)).map (mE kP vI))), some (.box 70 [.rd 5 (l.map objA), .rd 1 ((dropF l l.length).map drA), .rd 3 ((dI l l.length).map defA), .own (n + 6) (ep) 0 (N).length, .omap (n + 2), .omap (n + 3), .omap (n + 4)]), some (.row 56 14 (ep) ((N).map nodeA))] ++ List.replicate j none) ++ [])) (fun m i j => i ≤ l.length ∧ m = l.length - i) (l.length) (0) (j0) ⟨by omega, by omega⟩ (by first | rfl | (simp; done)) (by first | rfl | (simp; done)) ?_
 rintro m0 i j ⟨hx1, hx2⟩
 refine AW.seq' ?_
 refine AW.region ?_
 refine AO.c ?_
 refine AO.nil ?_
 refine SQ.normal ?_
 refine AW.seq' ?_
 refine AW.iteB (GL.ev _) (fun h0 => ?_) (fun h0 => ?_)
 ·
  rw [decide_eq_true_eq] at h0
  have hi : i < l.length := by omega
  have hsy := hw.sy i hi
  have hsi := hsg _ (getD_in hi)
  have hui := uqI_ok hw hsg i (by omega)
  refine AW.skip ?_
  refine SQ.normal ?_
  refine AW.seq' ?_
  refine AW.block' ?_
  refine AW.seq' ?_
  refine AW.region ?_
  refine AO.c ?_
  refine AO.oo ?_
  refine AO.c ?_
  refine AO.ww ?_
  refine AO.c ?_
  refine AO.sst ?_
  refine AO.nil ?_
  refine SQ.normal ?_
  refine AW.seq' ?_
  refine AW.seq' ?_
  refine AW.region ?_
  iterate 4 refine AO.c ?_
  refine AO.nil ?_
  refine SQ.normal ?_
  refine AW.block' ?_
  refine AW.loopU [.k, .f, .k, .k, .F, .f, .f, .k, .k, .k, .f, .f, .f, .f, .f, .f, .k, .k, .F, .F, .F, .F, .F, .F, .F, .F, .F, .F, .F, .F] (fun (k : Nat) => [(24, .v (.int .i64 ((k : Int))))]) (fun k => Hn n (([z0, z1, some (.map ((P).map (mE kP vP))), some (.map ((B).map (mE kP vI))), some (.map (((uqA (l.getD i default) i (uqI l i) (k))).map (mE kP vI))), some (.box 70 [.rd 5 (l.map objA), .rd 1 ((dropF l l.length).map drA), .rd 3 ((dI l l.length).map defA), .own (n + 6) (ep) 0 (N).length, .omap (n + 2), .omap (n + 3), .omap (n + 4)]), some (.row 56 14 (ep) ((N).map nodeA))] ++ List.replicate j none) ++ [some (.box 52 (objA (l.getD i default)))])) (fun m k => k ≤ (l.getD i default).secs.length ∧ m = (l.getD i default).secs.length - k) ((l.getD i default).secs.length) (0) ⟨by omega, by omega⟩ (by first | rfl | (simp; done)) (by simp [uqA]) ?_
  rintro m1 k ⟨hy1, hy2⟩
  refine AW.seq' ?_
  refine AW.region ?_
  refine AO.c ?_
  refine AO.nil ?_
  refine SQ.normal ?_
  refine AW.seq' ?_
  refine AW.iteB (GL.ev _) (fun h1 => ?_) (fun h1 => ?_)
  ·
   rw [decide_eq_true_eq] at h1
   have hk1 : k < (l.getD i default).secs.length := by omega
   have hua := uqA_ok (o := (l.getD i default)) (i := i) hui k
   refine AW.skip ?_
   refine SQ.normal ?_
   refine AW.seq' ?_
   refine AW.block' ?_
   refine AW.seq' ?_
   refine AW.region ?_
   iterate 2 refine AO.c ?_
   refine AO.nil ?_
   refine SQ.normal ?_
   refine AW.seq' ?_
   refine AW.region ?_
   iterate 3 refine AO.c ?_
   refine AO.nil ?_
   refine SQ.normal ?_
   refine AW.iteB (GL.ev _) (fun h2 => ?_) (fun h2 => ?_)
   ·
    rw [Bool.not_eq_true'] at h2
    have hst : (uqA (l.getD i default) i (uqI l i) (k + 1)) = incM (uqA (l.getD i default) i (uqI l i) (k)) ((i : Int), (k : Int) + 1) := by rw [uqA, if_pos h2]
    apply AW.mid
    case h =>
     refine AW.drawsZ [10, 12] (.one 0 false (.one 1 false (.one 2 false (.one 3 false (.one 4 false (.one 5 false (.one 6 false (.one 7 false (.two 8 10 (.pur 9 (.one 10 true (.one 11 true (.one 12 true .nil)))) (.pur 11 (.one 8 true (.one 9 true (.one 12 true .nil))))))))))))) (by kernel_rfl) rfl (by kernel_rfl) ?_
     iterate 6 refine AZ.c rfl ?_
     refine AZ.oo rfl ?_
     refine AZ.c rfl ?_
     refine AZ.ghost (Gh.tell 37 (.v (.agg ⟨[.int .i64 (i : Int), .int .i64 ((k : Int) + 1)]⟩))) ?_
     refine AZ.two ?_ ?_
     · refine AZi.c rfl ?_
       refine AZ.po rfl (by have := hua ((i : Int), (k : Int) + 1); omega) ?_
       refine AZ.inc rfl rfl rfl rfl rfl ?_
       exact AZ.done ⟨rfl, rfl⟩
     · refine AZi.incB rfl rfl rfl rfl rfl rfl rfl rfl (by have := hua ((i : Int), (k : Int) + 1); omega) ?_
       exact AZ.done ⟨rfl, rfl⟩
    refine BQ.normal ?_
    refine SQ.normal ?_
    refine AW.region ?_
    refine AO.oo ?_
    refine AO.c ?_
    refine AO.nil ?_
    exact AW.backU [.k, .f, .k, .k, .F, .f, .f, .k, .k, .k, .f, .f, .f, .f, .f, .f, .k, .k, .F, .F, .F, .F, .F, .F, .F, .F, .F, .F, .F, .F] (m1 - 1) (k + 1) (by omega) (by (try dsimp only); exact ⟨by omega, by omega⟩) (by first | rfl | (simp; done)) (by first | ((try dsimp only); rw [hst]; done) | ((try dsimp only); rw [hst]; rfl))
   ·
    rw [Bool.not_eq_false'] at h2
    have hst : (uqA (l.getD i default) i (uqI l i) (k + 1)) = (uqA (l.getD i default) i (uqI l i) (k)) := by rw [uqA, if_neg (by rw [h2]; decide)]
    refine AW.skip ?_
    refine BQ.normal ?_
    refine SQ.normal ?_
    refine AW.region ?_
    refine AO.oo ?_
    refine AO.c ?_
    refine AO.nil ?_
    exact AW.backU [.k, .f, .k, .k, .F, .f, .f, .k, .k, .k, .f, .f, .f, .f, .f, .f, .k, .k, .F, .F, .F, .F, .F, .F, .F, .F, .F, .F, .F, .F] (m1 - 1) (k + 1) (by omega) (by (try dsimp only); exact ⟨by omega, by omega⟩) (by first | rfl | (simp; done)) (by first | ((try dsimp only); rw [hst]; done) | ((try dsimp only); rw [hst]; rfl))
  ·
   rw [decide_eq_false_iff_not] at h1
   have hk1 : k = (l.getD i default).secs.length := by omega
   subst hk1
   refine AW.exit ?_
   refine SQ.exit <| AW.out <| LU.exit <| BQ.exit ?_
   refine SQ.normal ?_
   refine AW.seq' ?_
   refine AW.region ?_
   iterate 4 refine AO.c ?_
   refine AO.nil ?_
   refine SQ.normal ?_
   refine AW.block' ?_
   refine AW.loopU2 [.k, .f, .k, .F, .f, .f, .f, .k, .k, .k, .F, .F, .F, .f, .f, .f, .k, .k, .k, .F, .F, .F, .F, .F, .F, .F, .F, .F, .f, .f] (fun (q j2 : Nat) => [(46, .v (.int .i64 ((q : Int))))]) (fun q j2 => Hn n ((([z0, z1, some (.map ((P).map (mE kP vP))), some (.map ((B).map (mE kP vI))), some (.map (((uqB l i (uqA (l.getD i default) i (uqI l i) ((l.getD i default).secs.length)) (q))).map (mE kP vI))), some (.box 70 [.rd 5 (l.map objA), .rd 1 ((dropF l l.length).map drA), .rd 3 ((dI l l.length).map defA), .own (n + 6) (ep) 0 (N).length, .omap (n + 2), .omap (n + 3), .omap (n + 4)]), some (.row 56 14 (ep) ((N).map nodeA))] ++ List.replicate j none ++ [some (.box 52 (objA (l.getD i default)))]) ++ List.replicate j2 none) ++ [])) (fun m q j2 => q ≤ (l.getD i default).sig.length ∧ m = (l.getD i default).sig.length - q) ((l.getD i default).sig.length) (0) (0) ⟨by omega, by omega⟩ (by first | rfl | (simp; done)) (by simp [uqB]) ?_
   rintro m2 q j2 ⟨hz1, hz2⟩
   refine AW.seq' ?_
   refine AW.region ?_
   refine AO.c ?_
   refine AO.nil ?_
   refine SQ.normal ?_
   refine AW.seq' ?_
   refine AW.iteB (GL.ev _) (fun h3 => ?_) (fun h3 => ?_)
   ·
    rw [decide_eq_true_eq] at h3
    have hq : q < (l.getD i default).sig.length := by omega
    have hub := uqB_ok (l := l) (i := i) (uqA_ok (o := (l.getD i default)) (i := i) hui (l.getD i default).secs.length) q
    refine AW.skip ?_
    refine SQ.normal ?_
    refine AW.seq' ?_
    refine AW.block' ?_
    refine AW.seq' ?_
    refine AW.region ?_
    refine AO.oo ?_
    iterate 2 refine AO.c ?_
    refine AO.nil ?_
    refine SQ.normal ?_
    refine AW.seq' ?_
    apply AW.mid
    case h =>
     refine AW.drawsZ [15] (.one 0 false (.one 1 false (.one 2 false (.one 3 false (.one 4 false (.one 5 false (.one 6 false (.one 7 false (.one 8 false (.one 9 false (.two 10 14 (.one 11 false (.one 12 false (.pur 13 (.one 14 true (.one 15 true (.one 16 false .nil)))))) (.one 10 true (.one 11 false (.one 12 false (.pur 13 (.one 15 true (.one 16 false .nil))))))))))))))))) (by kernel_rfl) rfl (by kernel_rfl) ?_
     iterate 10 refine AZ.c rfl ?_
     refine AZ.two ?_ ?_
     · refine AZi.call1 rfl Tryz.func31 rfl rfl (names_Where l ⟨dropF l l.length, dI l l.length⟩ (i : Int) ((l.getD i default).sig.getD q default) hT) ?_
       iterate 2 refine AZ.c rfl ?_
       refine AZ.p rfl ?_
       refine AZ.mkk rfl ?_
       refine AZ.sst rfl rfl ?_
       refine AZ.c rfl ?_
       exact AZ.done ⟨rfl, rfl⟩
     · refine AZi.mkk rfl ?_
       refine AZ.call1 rfl Tryz.func31 rfl rfl (names_Where l ⟨dropF l l.length, dI l l.length⟩ (i : Int) ((l.getD i default).sig.getD q default) hT) ?_
       iterate 2 refine AZ.c rfl ?_
       refine AZ.p rfl ?_
       refine AZ.sst rfl rfl ?_
       refine AZ.c rfl ?_
       exact AZ.done ⟨rfl, rfl⟩
    refine SQ.normal ?_
    refine AW.seq' ?_
    refine AW.region ?_
    iterate 3 refine AO.c ?_
    iterate 3 refine AO.gx ?_
    refine AO.c ?_
    refine AO.nil ?_
    refine SQ.normal ?_
    refine AW.iteB (GL.ev _) (fun h4 => ?_) (fun h4 => ?_)
    ·
     simp only [Bool.and_eq_true, decide_eq_true_eq] at h4
     have hst : (uqB l i (uqA (l.getD i default) i (uqI l i) ((l.getD i default).secs.length)) (q + 1)) = incM (uqB l i (uqA (l.getD i default) i (uqI l i) ((l.getD i default).secs.length)) (q)) ((whereF l ⟨dropF l l.length, dI l l.length⟩ (i : Int) ((l.getD i default).sig.getD q default)).1.obj, (whereF l ⟨dropF l l.length, dI l l.length⟩ (i : Int) ((l.getD i default).sig.getD q default)).1.sec) := by rw [uqB, if_pos h4]
     apply AW.mid
     case h =>
      refine AW.drawsZ [11, 13] (.one 0 false (.one 1 false (.one 2 false (.one 3 false (.one 4 false (.one 5 false (.one 6 false (.one 7 false (.one 8 false (.two 9 11 (.pur 10 (.one 11 true (.one 12 true (.one 13 true .nil)))) (.pur 12 (.one 9 true (.one 10 true (.one 13 true .nil)))))))))))))) (by kernel_rfl) rfl (by kernel_rfl) ?_
      iterate 9 refine AZ.c rfl ?_
      refine AZ.ghost (Gh.tell 79 (.v (.agg ⟨[.int .i64 (whereF l ⟨dropF l l.length, dI l l.length⟩ (i : Int) ((l.getD i default).sig.getD q default)).1.obj, .int .i64 (whereF l ⟨dropF l l.length, dI l l.length⟩ (i : Int) ((l.getD i default).sig.getD q default)).1.sec]⟩))) ?_
      refine AZ.two ?_ ?_
      · refine AZi.c rfl ?_
        refine AZ.po rfl (by have := hub ((whereF l ⟨dropF l l.length, dI l l.length⟩ (i : Int) ((l.getD i default).sig.getD q default)).1.obj, (whereF l ⟨dropF l l.length, dI l l.length⟩ (i : Int) ((l.getD i default).sig.getD q default)).1.sec); omega) ?_
        refine AZ.inc rfl rfl rfl rfl rfl ?_
        exact AZ.done ⟨rfl, rfl⟩
      · refine AZi.incB rfl rfl rfl rfl rfl rfl rfl rfl (by have := hub ((whereF l ⟨dropF l l.length, dI l l.length⟩ (i : Int) ((l.getD i default).sig.getD q default)).1.obj, (whereF l ⟨dropF l l.length, dI l l.length⟩ (i : Int) ((l.getD i default).sig.getD q default)).1.sec); omega) ?_
        exact AZ.done ⟨rfl, rfl⟩
     refine BQ.normal ?_
     refine SQ.normal ?_
     refine AW.region ?_
     refine AO.oo ?_
     refine AO.c ?_
     refine AO.nil ?_
     exact AW.backE [.k, .f, .k, .F, .f, .f, .f, .k, .k, .k, .F, .F, .F, .f, .f, .f, .k, .k, .k, .F, .F, .F, .F, .F, .F, .F, .F, .F, .f, .f] (j2) (m2 - 1) (q + 1, j2 + 1) (by omega) (by (try dsimp only); exact ⟨by omega, by omega⟩) (by first | rfl | (simp; done)) (by first | ((try dsimp only); rw [hst]; done) | ((try dsimp only); rw [hst]; rfl))
    ·
     have hst : (uqB l i (uqA (l.getD i default) i (uqI l i) ((l.getD i default).secs.length)) (q + 1)) = (uqB l i (uqA (l.getD i default) i (uqI l i) ((l.getD i default).secs.length)) (q)) := by
      rw [uqB, if_neg]
      intro c
      rw [decide_eq_true c.1, decide_eq_true c.2] at h4; cases h4
     refine AW.skip ?_
     refine BQ.normal ?_
     refine SQ.normal ?_
     refine AW.region ?_
     refine AO.oo ?_
     refine AO.c ?_
     refine AO.nil ?_
     exact AW.backE [.k, .f, .k, .F, .f, .f, .f, .k, .k, .k, .F, .F, .F, .f, .f, .f, .k, .k, .k, .F, .F, .F, .F, .F, .F, .F, .F, .F, .f, .f] (j2) (m2 - 1) (q + 1, j2 + 1) (by omega) (by (try dsimp only); exact ⟨by omega, by omega⟩) (by first | rfl | (simp; done)) (by first | ((try dsimp only); rw [hst]; done) | ((try dsimp only); rw [hst]; rfl))
   ·
    rw [decide_eq_false_iff_not] at h3
    have hq : q = (l.getD i default).sig.length := by omega
    subst hq
    refine AW.exit ?_
    refine SQ.exit <| AW.out <| LU.exit <| BQ.exit ?_
    refine BQ.normal ?_
    refine SQ.normal ?_
    refine AW.region ?_
    refine AO.oo ?_
    refine AO.c ?_
    refine AO.nil ?_
    exact AW.backE [.k, .F, .f, .f, .f, .f, .f, .k, .k, .k, .F, .F, .F, .F, .F, .F, .F, .F, .F, .F, .F, .F, .F] (j) (m0 - 1) (i + 1, j + (1 + j2)) (by omega) (by (try dsimp only); exact ⟨by omega, by omega⟩) (by first | rfl | (simp; done)) ((Hn_repJ (b := j + (1 + j2)) (by first | (simp; done) | (simp; omega))).trans (by (try dsimp only) <;> rfl))
 ·
  rw [decide_eq_false_iff_not] at h0
  have hi : i = l.length := by omega
  subst hi
  refine AW.exit ?_
  refine SQ.exit <| AW.out <| LU.exit <| BQ.exit ?_
  refine SQ.normal ?_
  refine AW.seq' ?_
  refine AW.region ?_
  iterate 6 refine AO.c ?_
  refine AO.nil ?_
  refine SQ.normal ?_
  refine AW.block' ?_
  refine AW.loopU2 [.k, .F, .F, .F, .F, .F, .F, .F, .F, .F, .F, .F, .k, .k, .k, .F, .F, .F, .f, .f, .f, .f, .f] (fun (i j4 : Nat) => [(91, .v (.int .i64 ((i : Int))))]) (fun i j4 => Hn n (([z0, z1, some (.map ((P).map (mE kP vP))), some (.map ((B).map (mE kP vI))), some (.map (((uqI l l.length)).map (mE kP vI))), some (.box 70 [.rd 5 (l.map objA), .rd 1 ((dropF l l.length).map drA), .rd 3 ((dI l l.length).map defA), .own (n + 6) (ep) 0 (N).length, .omap (n + 2), .omap (n + 3), .omap (n + 4)]), some (.row 56 14 (ep) (((mrkT (uqI l l.length) N (i))).map nodeA))] ++ List.replicate j4 none) ++ [])) (fun m i j4 => i ≤ N.length ∧ m = N.length - i) (N.length) (0) (j) ⟨by omega, by omega⟩ (by first | rfl | (simp; done)) (by simp [mrkT]) ?_
  rintro m3 i j4 ⟨hv1, hv2⟩
  refine AW.seq' ?_
  refine AW.region ?_
  refine AO.c ?_
  refine AO.nil ?_
  refine SQ.normal ?_
  refine AW.seq' ?_
  refine AW.iteB (GL.ev _) (fun h5 => ?_) (fun h5 => ?_)
  ·
   rw [decide_eq_true_eq] at h5
   have hi : i < N.length := by omega
   have hfx := hfN _ (getD_in hi)
   refine AW.skip ?_
   refine SQ.normal ?_
   refine AW.seq' ?_
   refine AW.block' ?_
   refine AW.seq' ?_
   refine AW.region ?_
   refine AO.c ?_
   refine AO.oo ?_
   refine AO.ldRN (nodeA (N.getD i default)) (nodeA (N.getD i default)) (by first | (rw [Nat.zero_add]; exact mrkT_at hi) | exact mrkT_at hi) (by exact (by decide : 0 < 14)) (by exact (by decide : 0 + 14 ≤ 14)) rfl ?_
   refine AO.ww ?_
   refine AO.c ?_
   refine AO.sst ?_
   refine AO.nil ?_
   refine SQ.normal ?_
   cases hfl : hasF (N.getD i default).flags 16
   ·
    refine AW.drawsZ [24] z5 (by kernel_rfl) rfl (by kernel_rfl) ?_
    iterate 9 refine AZ.c rfl ?_
    refine AZ.eq 104 (av' := .v (.bool true)) (by rw [and16 hfx.1 hfx.2, hfl]; rfl) ?_
    refine AZ.c rfl ?_
    refine AZ.gkc rfl rfl ?_
    refine AZ.gkc rfl rfl ?_
    refine AZ.gkc rfl rfl ?_
    refine AZ.gkc rfl rfl ?_
    refine AZ.gkc rfl rfl ?_
    refine AZ.gkc rfl rfl ?_
    refine AZ.gkc rfl rfl ?_
    refine AZ.gkc rfl rfl ?_
    refine AZ.gkc rfl rfl ?_
    refine AZ.ghost (Gh.tell 114 (.v (.agg ⟨[.int .i64 (N.getD i default).obj, .int .i64 (N.getD i default).sec]⟩))) ?_
    refine AZ.gkc rfl rfl ?_
    refine AZ.gkc rfl rfl ?_
    refine AZ.pt rfl rfl ?_
    refine AZ.o rfl (by omega) ?_
    refine AZ.c rfl ?_
    refine AZ.stR (((mrkT (uqI l l.length) N (i + 1))).map nodeA) rfl rfl (by rw [List.length_map, mrkT_len]; exact ⟨by omega, by decide⟩) ?_ ?_
    · rw [Nat.zero_add, Int.toNat_natCast]; exact mrkT_row hi (by show _ = (!hasF (N.getD i default).flags 16 && decide _); rw [hfl]; rfl)
    refine AZ.done ?_
    refine BQ.normal ?_
    refine SQ.normal ?_
    refine AW.region ?_
    refine AO.oo ?_
    refine AO.c ?_
    refine AO.nil ?_
    exact AW.backE [.k, .F, .F, .F, .F, .F, .F, .F, .F, .F, .F, .F, .k, .k, .k, .F, .F, .F, .f, .f, .f, .f, .f] (j4) (m3 - 1) (i + 1, j4 + 1) (by omega) (by (try dsimp only); exact ⟨by omega, by omega⟩) (by first | rfl | (simp; done)) (by first | rfl | (simp; done))
   ·
    refine AW.drawsZ [24] z5 (by kernel_rfl) rfl (by kernel_rfl) ?_
    iterate 9 refine AZ.c rfl ?_
    refine AZ.eq 104 (av' := .v (.bool false)) (by rw [and16 hfx.1 hfx.2, hfl]; rfl) ?_
    refine AZ.c rfl ?_
    refine AZ.sk rfl rfl ?_
    refine AZ.sk rfl rfl ?_
    refine AZ.sk rfl rfl ?_
    refine AZ.sk rfl rfl ?_
    refine AZ.sk rfl rfl ?_
    refine AZ.sk rfl rfl ?_
    refine AZ.sk rfl rfl ?_
    refine AZ.sk rfl rfl ?_
    refine AZ.sk rfl rfl ?_
    refine AZ.sk rfl rfl ?_
    refine AZ.sk rfl rfl ?_
    refine AZ.pf rfl rfl ?_
    refine AZ.o rfl (by omega) ?_
    refine AZ.c rfl ?_
    refine AZ.stR (((mrkT (uqI l l.length) N (i + 1))).map nodeA) rfl rfl (by rw [List.length_map, mrkT_len]; exact ⟨by omega, by decide⟩) ?_ ?_
    · rw [Nat.zero_add, Int.toNat_natCast]; exact mrkT_row hi (by show _ = (!hasF (N.getD i default).flags 16 && decide _); rw [hfl]; rfl)
    refine AZ.done ?_
    refine BQ.normal ?_
    refine SQ.normal ?_
    refine AW.region ?_
    refine AO.oo ?_
    refine AO.c ?_
    refine AO.nil ?_
    exact AW.backE [.k, .F, .F, .F, .F, .F, .F, .F, .F, .F, .F, .F, .k, .k, .k, .F, .F, .F, .f, .f, .f, .f, .f] (j4) (m3 - 1) (i + 1, j4 + 1) (by omega) (by (try dsimp only); exact ⟨by omega, by omega⟩) (by first | rfl | (simp; done)) (by first | rfl | (simp; done))
  ·
   rw [decide_eq_false_iff_not] at h5
   have hi : i = N.length := by omega
   subst hi
   rw [mrkT_all]
   refine AW.exit ?_
   refine SQ.exit <| AW.out <| LU.exit <| BQ.exit ?_
   exact FinC.ret Gh.refl ⟨j4, rfl, rfl⟩ (.inl rfl)
end Go.Proofs.YtkbbcenjklaglaaGreat.AL
