/- A part of the proof: rules of an own logic over blocks, and what functions of the program compute, each by its own contract; the conditions stand with each. -/
import Derived.Test.YtkbbcenjklaglaaGreatCd
import Derived.Test.YtkbbcenjklaglaaGreatCj
import Derived.Test.YtkbbcenjklaglaaGreatCi
namespace Go.Proofs.YtkbbcenjklaglaaGreat.AL
open Go Go.RowKit Go.Proofs.YtkbbcenjklaglaaGreat.Base
set_option linter.unusedVariables false
set_option linter.unusedSimpArgs false
set_option maxRecDepth 4000
set_option synthInstance.maxSize 1000
set_option synthInstance.maxHeartbeats 200000
@[reducible] def nodeY (x : NodeD) : List AV := nodeE x .any
def inL (N : List NodeD) (i : Nat) : Bool := decide ((i : Int) + 1 = (N.length : Int)) || decide ((N.getD (min ((i : Int) + 1) ((N.length : Int) - 1)).toNat default).obj ≠ (N.getD i default).obj) || decide ((N.getD (min ((i : Int) + 1) ((N.length : Int) - 1)).toNat default).sec ≠ (N.getD i default).sec)
def inC (N : List NodeD) (p : PlcD) (i : Nat) : Bool := !(decide (p.sec = 0) || decide ((N.getD i default).obj ≠ p.obj) || decide ((N.getD i default).sec ≠ p.sec) || decide (p.at_ < (N.getD i default).pos)) && (decide (p.at_ < (N.getD i default).pos + (N.getD i default).size) || (inL N i && decide (p.at_ = (N.getD i default).pos + (N.getD i default).size)))
def inF (N : List NodeD) (p : PlcD) : Nat → Int
 | 0 => -1
 | i + 1 => if inC N p i = true then (i : Int) else inF N p i
def inR (N : List NodeD) (p : PlcD) : Int × Int := if inF N p N.length < 0 then (-1, 0) else (inF N p N.length, p.at_ - (N.getD (inF N p N.length).toNat default).pos)
theorem inF_rng (N : List NodeD) (p : PlcD) : ∀ n : Nat, -1 ≤ inF N p n ∧ inF N p n < n ∧ (0 ≤ inF N p n → inC N p (inF N p n).toNat = true) := by
 intro n
 induction n with
 | zero => exact ⟨Int.le_refl _, by show (-1 : Int) < 0; decide, fun h => absurd h (by show ¬ (0 : Int) ≤ -1; decide)⟩
 | succ n ih =>
  rw [inF]
  split
  · rename_i h
    refine ⟨by omega, by omega, fun _ => ?_⟩;rw [Int.toNat_natCast]; exact h
  · exact ⟨ih.1, by omega, ih.2.2⟩
structure NodeB (x : NodeD) : Prop where
 pos : 0 ≤ x.pos ∧ x.pos ≤ 2147483647
 size : 0 ≤ x.size ∧ x.size ≤ 2147483647
set_option maxHeartbeats 8000000 in
theorem ref_InN (N : List NodeD) (p : PlcD) (hN : N.length ≤ 6000000) (hB : ∀ x ∈ N, NodeB x) (hp : I64 p.at_) : A0 Tryz.prog 21 [.rd 14 (N.map nodeY), .agg (plcA p)] (fun ret => ret = .tup [.v (.int .i64 ((inR N p).1)), .v (.int .i64 ((inR N p).2))]) := by
 unfold I64 at hp
 refine A0.body 112 Tryz.func21 rfl rfl Tryz.ntmps21 fun base n0 => ?_
 refine AW.seq' ?_
 refine AW.region ?_
 refine AO.ww ?_
 iterate 2 refine AO.c ?_
 refine AO.nil ?_
 refine SQ.normal ?_
 refine AW.seq' ?_
 refine AW.region ?_
 refine AO.c ?_
 refine AO.nil ?_
 refine SQ.normal ?_
 refine AW.seq' ?_
 refine AW.seq' ?_
 refine AW.region ?_
 refine AO.c ?_
 refine AO.nil ?_
 refine SQ.normal ?_
 refine AW.block' ?_
 refine AW.loopU2 [.k, .f, .f, .k, .f, .f, .k, .k, .F, .F, .F, .F, .F, .F, .F, .F, .F, .F, .F, .F, .F] (fun (i j : Nat) => [(6, .v (.int .i64 (inF N p i))), (7, .v (.int .i64 ((i : Int))))]) (fun i j => Hn n0 (([some (.box 84 (plcA p))] ++ List.replicate j none) ++ [])) (fun m i j => i ≤ N.length ∧ m = N.length - i) (N.length) (0) (0) ⟨by omega, by omega⟩ (by first | rfl | (simp; done)) (by first | rfl | (simp; done)) ?_
 rintro m0 i j ⟨hx1, hx2⟩
 refine AW.seq' ?_
 refine AW.seq' ?_
 refine AW.region ?_
 iterate 4 refine AO.c ?_
 refine AO.nil ?_
 refine SQ.normal ?_
 refine AW.iteB (GL.ev _) (fun h0 => ?_) (fun h0 => ?_)
 ·
  rw [decide_eq_true_eq] at h0
  have hi : i < N.length := by omega
  have hb := hB _ (getD_in hi)
  have hb1 := hb.pos
  have hb2 := hb.size
  refine AW.skip ?_
  refine SQ.normal ?_
  refine AW.seq' ?_
  refine AW.block' ?_
  refine AW.seq' ?_
  refine AW.region ?_
  iterate 2 refine AO.c ?_
  refine AO.oo ?_
  refine AO.c ?_
  refine AO.ww ?_
  refine AO.sst ?_
  refine AO.nil ?_
  refine SQ.normal ?_
  refine AW.seq' ?_
  refine AW.seq' ?_
  refine AW.region ?_
  iterate 4 refine AO.c ?_
  iterate 5 refine AO.gx ?_
  iterate 2 refine AO.c ?_
  iterate 5 refine AO.gx ?_
  iterate 2 refine AO.c ?_
  iterate 5 refine AO.gx ?_
  refine AO.c ?_
  refine AO.nil ?_
  refine SQ.normal ?_
  refine AW.iteB (GL.ev _) (fun h1 => ?_) (fun h1 => ?_)
  ·
   have hst : inF N p (i + 1) = inF N p i := by
    rw [inF, if_neg]
    unfold inC
    rw [h1]; simp
   refine AW.exit ?_
   refine SQ.exit <| BQ.exit ?_
   refine SQ.normal ?_
   refine AW.region ?_
   refine AO.c ?_
   refine AO.oo ?_
   refine AO.c ?_
   refine AO.nil ?_
   exact AW.backE [.k, .f, .f, .k, .f, .f, .k, .k, .F, .F, .F, .F, .F, .F, .F, .F, .F, .F, .F, .F, .F] (j) (m0 - 1) (i + 1, j + 1) (by omega) (by (try dsimp only); exact ⟨by omega, by omega⟩) (by first | ((try dsimp only); rw [hst]; done) | ((try dsimp only); rw [hst]; rfl)) (by first | rfl | (simp; done))
  ·
   skip
   refine AW.skip ?_
   refine SQ.normal ?_
   refine AW.seq' ?_
   refine AW.drawsZ [] (.one 0 false (.one 1 false (.one 2 false (.one 3 false (.one 4 false (.one 5 false (.one 6 false (.one 7 false (.one 8 false (.one 9 false (.one 10 false (.one 11 false (.one 12 false (.one 13 false (.one 14 false (.one 15 false (.one 16 false (.one 17 false (.one 18 false (.one 19 false (.one 20 false (.one 21 false (.one 22 false (.one 23 false (.one 24 false (.one 25 false (.one 26 false (.one 27 false (.one 28 false (.one 29 false (.one 30 false (.one 31 false (.one 32 false (.one 33 false (.one 34 false (.one 35 false .nil)))))))))))))))))))))))))))))))))))) (by kernel_rfl) rfl (by kernel_rfl) ?_
   refine AZ.c rfl ?_
   refine AZ.oo rfl ?_
   iterate 4 refine AZ.c rfl ?_
   iterate 2 refine AZ.gx rfl ?_
   refine AZ.gxoo rfl ?_
   iterate 2 refine AZ.gx rfl ?_
   refine AZ.gxoo rfl ?_
   refine AZ.gx rfl ?_
   refine AZ.gxo rfl (fun _ => by omega) ?_
   iterate 5 refine AZ.gx rfl ?_
   iterate 2 refine AZ.c rfl ?_
   iterate 2 refine AZ.gx rfl ?_
   refine AZ.gxoo rfl ?_
   iterate 2 refine AZ.gx rfl ?_
   refine AZ.gxoo rfl ?_
   refine AZ.gx rfl ?_
   refine AZ.gxo rfl (fun _ => by omega) ?_
   iterate 5 refine AZ.gx rfl ?_
   refine AZ.c rfl ?_
   refine AZ.eq 78 (av' := .v (.bool (inL N i))) (by rfl) ?_
   refine AZ.c rfl ?_
   refine AZ.done ?_
   refine SQ.normal ?_
   refine AW.seq' ?_
   refine AW.region ?_
   iterate 6 refine AO.c ?_
   refine AO.oo ?_
   iterate 2 refine AO.c ?_
   iterate 8 refine AO.gx ?_
   refine AO.gxoo ?_
   iterate 2 refine AO.gx ?_
   refine AO.c ?_
   refine AO.nil ?_
   refine SQ.normal ?_
   refine AW.iteB (GL.ev _) (fun h2 => ?_) (fun h2 => ?_)
   ·
    have hst : inF N p (i + 1) = (i : Int) := by
     rw [inF, if_pos]
     unfold inC
     rw [h1, h2]; rfl
    refine AW.region ?_
    iterate 2 refine AO.c ?_
    refine AO.nil ?_
    refine BQ.normal ?_
    refine SQ.normal ?_
    refine AW.region ?_
    refine AO.c ?_
    refine AO.oo ?_
    refine AO.c ?_
    refine AO.nil ?_
    exact AW.backE [.k, .f, .f, .k, .f, .f, .k, .k, .F, .F, .F, .F, .F, .F, .F, .F, .F, .F, .F, .F, .F] (j) (m0 - 1) (i + 1, j + 1) (by omega) (by (try dsimp only); exact ⟨by omega, by omega⟩) (by first | ((try dsimp only); rw [hst]; done) | ((try dsimp only); rw [hst]; rfl)) (by first | rfl | (simp; done))
   ·
    have hst : inF N p (i + 1) = inF N p i := by
     rw [inF, if_neg]
     unfold inC
     rw [h1, h2]; simp
    refine AW.skip ?_
    refine BQ.normal ?_
    refine SQ.normal ?_
    refine AW.region ?_
    refine AO.c ?_
    refine AO.oo ?_
    refine AO.c ?_
    refine AO.nil ?_
    exact AW.backE [.k, .f, .f, .k, .f, .f, .k, .k, .F, .F, .F, .F, .F, .F, .F, .F, .F, .F, .F, .F, .F] (j) (m0 - 1) (i + 1, j + 1) (by omega) (by (try dsimp only); exact ⟨by omega, by omega⟩) (by first | ((try dsimp only); rw [hst]; done) | ((try dsimp only); rw [hst]; rfl)) (by first | rfl | (simp; done))
 ·
  rw [decide_eq_false_iff_not] at h0
  have hi : i = N.length := by omega
  subst hi
  have hir := inF_rng N p N.length
  refine AW.exit ?_
  refine SQ.exit <| AW.out <| LU.exit <| BQ.exit ?_
  refine SQ.normal ?_
  refine AW.seq' ?_
  refine AW.seq' ?_
  refine AW.region ?_
  iterate 2 refine AO.c ?_
  refine AO.nil ?_
  refine SQ.normal ?_
  refine AW.iteB (GL.ev _) (fun h3 => ?_) (fun h3 => ?_)
  ·
   rw [decide_eq_true_eq] at h3
   have hres : inR N p = (-1, 0) := by unfold inR; rw [if_pos h3]
   refine AW.seq' ?_
   refine AW.region ?_
   iterate 2 refine AO.c ?_
   refine AO.nil ?_
   refine SQ.normal ?_
   refine AW.ret ?_
   refine SQ.ret ?_
   refine Fin.ret (Gh.refl) noid2 ?_
   rw [hres]; rfl
  ·
   rw [decide_eq_false_iff_not] at h3
   have hres : inR N p = (inF N p N.length, p.at_ - (N.getD (inF N p N.length).toNat default).pos) := by unfold inR; rw [if_neg h3]
   have hc := hir.2.2 (by omega)
   have hlt : (inF N p N.length).toNat < N.length := by omega
   have hb := hB _ (getD_in hlt)
   have hb1 := hb.pos
   have hat : (N.getD (inF N p N.length).toNat default).pos ≤ p.at_ := by
    unfold inC at hc
    simp only [Bool.and_eq_true, Bool.not_eq_true', Bool.or_eq_false_iff, decide_eq_false_iff_not] at hc
    omega
   refine AW.skip ?_
   refine SQ.normal ?_
   refine AW.seq' ?_
   refine AW.drawsZ [] (.one 0 false (.one 1 false (.one 2 false (.one 3 false (.one 4 false (.one 5 false (.one 6 false (.one 7 false (.one 8 false (.one 9 false (.one 10 false .nil))))))))))) (by kernel_rfl) rfl (by kernel_rfl) ?_
   iterate 5 refine AZ.c rfl ?_
   refine AZ.o rfl (by omega) ?_
   iterate 2 refine AZ.c rfl ?_
   refine AZ.o rfl (by omega) ?_
   iterate 2 refine AZ.c rfl ?_
   refine AZ.done ?_
   refine SQ.normal ?_
   refine AW.ret ?_
   refine Fin.ret (Gh.refl) noid2 ?_
   rw [hres]; rfl
theorem nd_some {N : List NodeD} {i : Nat} (h : i < N.length) : N[i]? = some (N.getD i default) := by
 rw [List.getD_eq_getElem?_getD, List.getElem?_eq_getElem h]; rfl
structure PosJ (st : SecSt) : Prop where
 a : ∀ key ps, aget st.pcs key = some ps → Cont 0 ps ∧ PcOk ps ∧ ∃ v : Nat, aget st.bg key = some (v : Int) ∧ ∀ q, q < ps.length → ∃ x, st.nodes[v + q]? = some x ∧ (x.obj, x.sec) = key ∧ x.pos = (ps.getD q default).1 ∧ x.size = (ps.getD q default).2
 b : ∀ (j : Nat) x, st.nodes[j]? = some x → ∃ (ps : List (Int × Int)) (v : Nat), aget st.pcs (x.obj, x.sec) = some ps ∧ aget st.bg (x.obj, x.sec) = some (v : Int) ∧ v ≤ j ∧ j < v + ps.length
theorem posJ_step {st : SecSt} (h : PosJ st) {o k g : Int} {s : SecD} (hd : ∀ x ∈ st.nodes, ¬ ((o, k) : Int × Int) = (x.obj, x.sec)) (hc : Cont 0 (splitB s)) (hp : PcOk (splitB s)) : PosJ (secStep st o k s g) := by
 refine ⟨fun key ps hq => ?_, fun j x hx => ?_⟩
 · have hq : aget (aput st.pcs (o, k) (splitB s)) key = some ps := hq
   show Cont 0 ps ∧ PcOk ps ∧ ∃ v : Nat, aget (aput st.bg (o, k) (st.nodes.length : Int)) key = some (v : Int) ∧ ∀ q, q < ps.length → ∃ x, (st.nodes ++ (splitB s).map (secNd o k s g))[v + q]? = some x ∧ (x.obj, x.sec) = key ∧ x.pos = (ps.getD q default).1 ∧ x.size = (ps.getD q default).2
   rw [aget_aput] at hq;rw [aget_aput];by_cases e : (o, k) = key
   · rw [if_pos e] at hq ⊢
     obtain rfl := Option.some.inj hq;refine ⟨hc, hp, st.nodes.length, rfl, fun q hq => ⟨secNd o k s g ((splitB s).getD q default), ?_, e, rfl, rfl⟩⟩;rw [List.getElem?_append_right (by omega), show st.nodes.length + q - st.nodes.length = q by omega, List.getElem?_map, List.getD_eq_getElem?_getD, List.getElem?_eq_getElem hq]; rfl
   · rw [if_neg e] at hq ⊢
     obtain ⟨h1, h2, v, h3, h4⟩ := h.a key ps hq;refine ⟨h1, h2, v, h3, fun q hq => ?_⟩;obtain ⟨x, h5, h6⟩ := h4 q hq;exact ⟨x, by rw [List.getElem?_append_left (List.getElem?_eq_some_iff.1 h5).1]; exact h5, h6⟩
 · have hx : (st.nodes ++ (splitB s).map (secNd o k s g))[j]? = some x := hx
   show ∃ (ps : List (Int × Int)) (v : Nat), aget (aput st.pcs (o, k) (splitB s)) (x.obj, x.sec) = some ps ∧ aget (aput st.bg (o, k) (st.nodes.length : Int)) (x.obj, x.sec) = some (v : Int) ∧ v ≤ j ∧ j < v + ps.length
   rw [aget_aput, aget_aput];by_cases c : j < st.nodes.length
   · rw [List.getElem?_append_left c] at hx
     have hne := hd x (List.mem_of_getElem? hx);rw [if_neg hne, if_neg hne];exact h.b j x hx
   · rw [List.getElem?_append_right (by omega)] at hx
     obtain ⟨h1, rfl⟩ := nd_get hx;refine ⟨splitB s, st.nodes.length, ?_, ?_, by omega, by omega⟩
     · exact if_pos rfl
     · exact if_pos rfl
theorem secI_posJ {l : List ObjD} (hm : AllMay l) (hw : GraphW l) : ∀ i, i ≤ l.length → PosJ (secI l i) ∧ Below (secI l i).nodes i 0 := by
 intro i
 induction i with
 | zero => intro _; exact ⟨⟨fun key ps h => (by cases h), fun j x h => (by cases h)⟩, fun x hx => by cases hx⟩
 | succ i ih =>
  intro hi;obtain ⟨g0, b0⟩ := ih (by omega);have key : ∀ k, k ≤ (l.getD i default).secs.length → PosJ (secK l i (secI l i) k) ∧ Below (secK l i (secI l i) k).nodes i k := by
   intro k
   induction k with
   | zero => intro _; exact ⟨g0, b0⟩
   | succ k ihk =>
    intro hk;obtain ⟨g1, b1⟩ := ihk (by omega);rw [secK]
    split
    · have hS := sec_split (sec_kind (may_shape hm (by omega)) (show k < _ by omega)).1 (hw.sec i k (by omega) (by omega)).dat
      refine ⟨posJ_step g1 (fun x hx c => ?_) hS.1 hS.2.1, fun x hx => ?_⟩
      · have c1 : (i : Int) = x.obj := congrArg Prod.fst c
        have c2 : (k : Int) + 1 = x.sec := congrArg Prod.snd c;rcases b1 x hx with h | h <;> omega
      · rcases List.mem_append.1 hx with hx | hx
        · rcases b1 x hx with h | h
          · exact .inl h
          · exact .inr ⟨h.1, by omega⟩
        · obtain ⟨p, _, rfl⟩ := List.mem_map.1 hx
          refine .inr ⟨rfl, ?_⟩;show (k : Int) + 1 ≤ ((k + 1 : Nat) : Int)
          omega
    · exact ⟨g1, fun x hx => by
       rcases b1 x hx with h | h
       · exact .inl h
       · exact .inr ⟨h.1, by omega⟩⟩
  obtain ⟨g2, b2⟩ := key _ (Nat.le_refl _);exact ⟨g2, fun x hx => by
   rcases b2 x hx with h | h
   · left; omega
   · left; omega⟩
theorem cont_mono : ∀ (l : List (Int × Int)) (a : Int) (i j : Nat), Cont a l → i < j → j < l.length → (l.getD i default).1 + (l.getD i default).2 ≤ (l.getD j default).1 := by
 have low : ∀ (l : List (Int × Int)) (a : Int) (j : Nat), Cont a l → j < l.length → a ≤ (l.getD j default).1 := by
  intro l
  induction l with
  | nil => intro a j _ h; exact absurd h (by simp)
  | cons p l ih =>
   intro a j hc h;obtain ⟨h1, h2, h3⟩ := hc
   cases j with
   | zero => show a ≤ p.1; omega
   | succ j =>
    have := ih (a + p.2) j h3 (by simpa using h);show a ≤ (l.getD j default).1
    omega
 intro l
 induction l with
 | nil => intro a i j _ _ h; exact absurd h (by simp)
 | cons p l ih =>
  intro a i j hc hij hj;obtain ⟨h1, h2, h3⟩ := hc
  cases j with
  | zero => omega
  | succ j =>
   cases i with
   | zero =>
    have := low l (a + p.2) j h3 (by simpa using hj);show p.1 + p.2 ≤ (l.getD j default).1
    omega
   | succ i => exact ih (a + p.2) i j h3 (by omega) (by simpa using hj)
theorem findG_none {N at_ : Int} : ∀ (l : List (Int × Int)) (i : Int), 0 ≤ i → findG N at_ i l = -1 → ∀ q, q < l.length → ¬ (((l.getD q default).1 ≤ at_ ∧ at_ - (l.getD q default).1 < (l.getD q default).2) ∨ (i + q + 1 = N ∧ at_ - (l.getD q default).1 = (l.getD q default).2 ∧ 0 ≤ at_)) := by
 intro l
 induction l with
 | nil => intro i _ _ q h; exact absurd h (by simp)
 | cons p l ih =>
  intro i hi h q hq;rw [findG] at h;by_cases hc : (p.1 ≤ at_ ∧ at_ - p.1 < p.2) ∨ (i + 1 = N ∧ at_ - p.1 = p.2 ∧ 0 ≤ at_)
  · rw [if_pos hc] at h; omega
  · rw [if_neg hc] at h
    cases q with
    | zero =>
     intro c;apply hc;rcases c with c | c
     · exact .inl c
     · exact .inr ⟨by have := c.1; simp at this; omega, c.2⟩
    | succ q =>
     intro c;refine ih (i + 1) (by omega) h q (by simpa using hq) ?_;rcases c with c | c
     · exact .inl c
     · exact .inr ⟨by have := c.1; push_cast at this; omega, c.2⟩
theorem inF_none {N : List NodeD} {p : PlcD} : ∀ n : Nat, (∀ j, j < n → inC N p j = false) → inF N p n = -1 := by
 intro n
 induction n with
 | zero => intro _; rfl
 | succ n ih =>
  intro h;rw [inF, if_neg (by rw [h n (by omega)]; decide)];exact ih fun j hj => h j (by omega)
theorem inF_one {N : List NodeD} {p : PlcD} {j : Nat} (hj : inC N p j = true) : ∀ n : Nat, j < n → (∀ i, i < n → inC N p i = true → i = j) → inF N p n = j := by
 intro n
 induction n with
 | zero => intro h _; omega
 | succ n ih =>
  intro h hu;rw [inF];by_cases hc : inC N p n = true
  · rw [if_pos hc, hu n (by omega) hc]
  · rw [if_neg hc]
    have hne : j ≠ n := fun e => by subst e; exact hc hj
    exact ih (by omega) fun i hi hci => hu i (by omega) hci
theorem inC_iff {st : SecSt} (h : PosJ st) {p : PlcD} {j : Nat} (hj : j < st.nodes.length) : inC st.nodes p j = true ↔ p.sec ≠ 0 ∧ ∃ (ps : List (Int × Int)) (v q : Nat), aget st.pcs (p.obj, p.sec) = some ps ∧ aget st.bg (p.obj, p.sec) = some (v : Int) ∧ q < ps.length ∧ j = v + q ∧ (ps.getD q default).1 ≤ p.at_ ∧ (p.at_ < (ps.getD q default).1 + (ps.getD q default).2 ∨ (q + 1 = ps.length ∧ p.at_ = (ps.getD q default).1 + (ps.getD q default).2)) := by
 obtain ⟨ps, v, hb1, hb2, hb3, hb4⟩ := h.b j _ (nd_some hj);obtain ⟨hc, hpc, v', hv', hx⟩ := h.a _ ps hb1;have e : v' = v := by rw [hb2] at hv'; have := Option.some.inj hv'; omega
 subst e;obtain ⟨x, hx1, hx2, hx3, hx4⟩ := hx (j - v') (by omega);rw [show v' + (j - v') = j by omega, nd_some hj] at hx1;obtain rfl := Option.some.inj hx1;have hlast : inL st.nodes j = true ↔ (j - v') + 1 = ps.length := by
  unfold inL;simp only [Bool.or_eq_true, decide_eq_true_eq];by_cases hl : (j - v') + 1 = ps.length
  · refine ⟨fun _ => hl, fun _ => ?_⟩
    by_cases h1 : j + 1 = st.nodes.length
    · exact .inl (.inl (by omega))
    · have hj1 : j + 1 < st.nodes.length := by omega
      rw [show (min ((j : Int) + 1) ((st.nodes.length : Int) - 1)).toNat = j + 1 by omega];by_cases hk : (st.nodes.getD (j + 1) default).obj = (st.nodes.getD j default).obj ∧ (st.nodes.getD (j + 1) default).sec = (st.nodes.getD j default).sec
      · exfalso
        obtain ⟨ps2, v2, g1, g2, g3, g4⟩ := h.b (j + 1) _ (nd_some hj1);rw [hk.1, hk.2] at g1 g2;rw [hb1] at g1;rw [hb2] at g2;obtain rfl := Option.some.inj g1;have := Option.some.inj g2;omega
      · by_cases h2 : (st.nodes.getD (j + 1) default).obj = (st.nodes.getD j default).obj
        · exact .inr fun c => hk ⟨h2, c⟩
        · exact .inl (.inr h2)
  · refine ⟨fun c => ?_, fun c => absurd c hl⟩
    exfalso
    obtain ⟨y, hy1, hy2, _, _⟩ := hx (j - v' + 1) (by omega);have hj1 : j + 1 < st.nodes.length := by have := (List.getElem?_eq_some_iff.1 hy1).1; omega
    rw [show v' + (j - v' + 1) = j + 1 by omega, nd_some hj1] at hy1;obtain rfl := Option.some.inj hy1;rw [show (min ((j : Int) + 1) ((st.nodes.length : Int) - 1)).toNat = j + 1 by omega] at c;have e1 : (st.nodes.getD (j + 1) default).obj = (st.nodes.getD j default).obj := congrArg Prod.fst hy2;have e2 : (st.nodes.getD (j + 1) default).sec = (st.nodes.getD j default).sec := congrArg Prod.snd hy2
    rcases c with (c | c) | c
    · omega
    · exact c e1
    · exact c e2
 unfold inC;simp only [Bool.and_eq_true, Bool.or_eq_true, Bool.not_eq_true', Bool.or_eq_false_iff, decide_eq_true_eq, decide_eq_false_iff_not, hlast];rw [hx3, hx4]
 constructor
 · rintro ⟨⟨⟨⟨a1, a2⟩, a3⟩, a4⟩, a5⟩
   have e1 : (st.nodes.getD j default).obj = p.obj := Decidable.not_not.1 a2;have e2 : (st.nodes.getD j default).sec = p.sec := Decidable.not_not.1 a3;rw [e1, e2] at hb1 hb2;exact ⟨a1, ps, v', j - v', hb1, hb2, by omega, by omega, by omega, by omega⟩
 · rintro ⟨a1, ps2, v2, q, b1, b2, b3, b4, b5, b6⟩
   obtain ⟨_, _, v3, hv3, hz⟩ := h.a _ ps2 b1;have e : v3 = v2 := by rw [b2] at hv3; have := Option.some.inj hv3; omega
   subst e;obtain ⟨y, hy1, hy2, _, _⟩ := hz q b3;rw [← b4, nd_some hj] at hy1;obtain rfl := Option.some.inj hy1;have e1 : (st.nodes.getD j default).obj = p.obj := congrArg Prod.fst hy2;have e2 : (st.nodes.getD j default).sec = p.sec := congrArg Prod.snd hy2;rw [e1, e2] at hb1 hb2;rw [b1] at hb1;rw [b2] at hb2;obtain rfl := Option.some.inj hb1;have e3 := Option.some.inj hb2
   have e4 : j - v' = q := by omega
   rw [e4];exact ⟨⟨⟨⟨a1, fun c => c e1⟩, fun c => c e2⟩, by omega⟩, by omega⟩
theorem in_same {l : List ObjD} (hm : AllMay l) (hw : GraphW l) (p : PlcD) : inR (secI l l.length).nodes p = nodeP (secI l l.length).pcs (secI l l.length).bg p := by
 have hJ := (secI_posJ hm hw l.length (Nat.le_refl _)).1;unfold inR nodeP;by_cases h0 : p.sec = 0
 · have hn : inF (secI l l.length).nodes p (secI l l.length).nodes.length = -1 := inF_none _ fun j hj => by
    cases hc : inC (secI l l.length).nodes p j with
    | false => rfl
    | true => exact absurd h0 ((inC_iff hJ hj).1 hc).1
   rw [hn, if_pos (by decide), if_pos (.inl h0)]
 · cases hq : aget (secI l l.length).pcs (p.obj, p.sec) with
   | none =>
    have hn : inF (secI l l.length).nodes p (secI l l.length).nodes.length = -1 := inF_none _ fun j hj => by
     cases hc : inC (secI l l.length).nodes p j with
     | false => rfl
     | true =>
      obtain ⟨_, ps, v, q, b1, _⟩ := (inC_iff hJ hj).1 hc;rw [hq] at b1; cases b1
    have he : pcsAt (secI l l.length).pcs p = [] := by unfold pcsAt; rw [hq]; rfl
    rw [hn, if_pos (by decide), if_pos (.inr (by rw [he]; show (-1 : Int) < 0; decide))]
   | some ps =>
    have he : pcsAt (secI l l.length).pcs p = ps := by unfold pcsAt; rw [hq]; rfl
    obtain ⟨hc, hpc, v, hv, hx⟩ := hJ.a _ ps hq;rw [he, hv];have huniq : ∀ (i q : Nat), i < (secI l l.length).nodes.length → q < ps.length → ((ps.getD q default).1 ≤ p.at_ ∧ (p.at_ < (ps.getD q default).1 + (ps.getD q default).2 ∨ (q + 1 = ps.length ∧ p.at_ = (ps.getD q default).1 + (ps.getD q default).2))) → inC (secI l l.length).nodes p i = true → i = v + q := by
     intro i q hi hq2 hcq hci;obtain ⟨_, ps2, v2, r, b1, b2, b3, b4, b5, b6⟩ := (inC_iff hJ hi).1 hci;rw [hq] at b1;rw [hv] at b2;obtain rfl := Option.some.inj b1;have e := Option.some.inj b2;have e2 : r = q := by
      rcases Nat.lt_trichotomy r q with c | c | c
      · have := cont_mono ps 0 r q hc c hq2; omega
      · exact c
      · have := cont_mono ps 0 q r hc c b3; omega
     omega
    rcases findG_rng (N := (ps.length : Int)) (at_ := p.at_) ps 0 with hf | ⟨q, h1, h2, h3⟩
    · have hn : inF (secI l l.length).nodes p (secI l l.length).nodes.length = -1 := inF_none _ fun j hj => by
       cases hci : inC (secI l l.length).nodes p j with
       | false => rfl
       | true =>
        exfalso
        obtain ⟨_, ps2, v2, r, b1, b2, b3, b4, b5, b6⟩ := (inC_iff hJ hj).1 hci;rw [hq] at b1;obtain rfl := Option.some.inj b1;have hpr := pcs_at hpc r;refine findG_none ps 0 (Int.le_refl _) hf r b3 ?_;rcases b6 with b6 | b6
        · exact .inl ⟨b5, by omega⟩
        · exact .inr ⟨by omega, by omega, by omega⟩
      rw [hn, hf, if_pos (by decide), if_pos (.inr (by decide))]
    · have hpq := pcs_at hpc q
      obtain ⟨x, hx1, hx2, hx3, hx4⟩ := hx q h1;have hlt := (List.getElem?_eq_some_iff.1 hx1).1;have hcq : (ps.getD q default).1 ≤ p.at_ ∧ (p.at_ < (ps.getD q default).1 + (ps.getD q default).2 ∨ (q + 1 = ps.length ∧ p.at_ = (ps.getD q default).1 + (ps.getD q default).2)) := by
       rcases h3 with h3 | h3
       · exact ⟨h3.1, .inl (by omega)⟩
       · exact ⟨by omega, .inr ⟨by omega, by omega⟩⟩
      have hci : inC (secI l l.length).nodes p (v + q) = true := (inC_iff hJ hlt).2 ⟨h0, ps, v, q, hq, hv, h1, rfl, hcq.1, hcq.2⟩;have hF := inF_one hci _ hlt fun i hi hcc => huniq i q hi h1 hcq hcc
      rw [hF, h2, if_neg (by omega), if_neg (by omega)];rw [Int.toNat_natCast, show (0 + (q : Int)).toNat = q by omega, List.getD_eq_getElem?_getD, hx1];show (((v + q : Nat) : Int), p.at_ - x.pos) = ((v : Int) + (0 + (q : Int)), p.at_ - (ps.getD q default).1)
      rw [hx3]
      congr 1
      omega
theorem inR_map {f : NodeD → NodeD} (h1 : ∀ x, (f x).obj = x.obj) (h2 : ∀ x, (f x).sec = x.sec) (h3 : ∀ x, (f x).pos = x.pos) (h4 : ∀ x, (f x).size = x.size) (N : List NodeD) (p : PlcD) : inR (N.map f) p = inR N p := by
 have hg : ∀ i, i < N.length → (N.map f).getD i default = f (N.getD i default) := fun i hi => by
  rw [List.getD_eq_getElem?_getD, List.getElem?_map, List.getElem?_eq_getElem hi, List.getD_eq_getElem?_getD, List.getElem?_eq_getElem hi]; rfl
 have hL : ∀ i, i < N.length → inL (N.map f) i = inL N i := fun i hi => by
  unfold inL;rw [List.length_map, hg i hi, hg _ (show (min ((i : Int) + 1) ((N.length : Int) - 1)).toNat < N.length by omega), h1, h1, h2, h2]
 have hC : ∀ i, i < N.length → inC (N.map f) p i = inC N p i := fun i hi => by
  unfold inC;rw [hL i hi, hg i hi, h1, h2, h3, h4]
 have hF : ∀ n, n ≤ N.length → inF (N.map f) p n = inF N p n := by
  intro n
  induction n with
  | zero => intro _; rfl
  | succ n ih => intro hn; rw [inF, inF, hC n (by omega), ih (by omega)]
 unfold inR;rw [List.length_map, hF _ (Nat.le_refl _)]
 split
 · rfl
 · rename_i h
   have := (inF_rng N p N.length).2.1;rw [hg _ (by omega), h3]
structure NdF (l : List ObjD) (x : NodeD) : Prop where
 ok : (sX l x).ok
 b : NodeB x
 mg : hasF (sX l x).flags 16 = true → relsX l x = []
theorem ndA_f {l : List ObjD} (hok : ∀ o ∈ l, o.ok) (hm : AllMay l) {x : NodeD} (hx : x ∈ ndA l) : NdF l x := by
 obtain ⟨y, ⟨i, k, hi, hk, hkp, p, hp, rfl⟩, rfl⟩ := ndA_of hx;have hkd := (sec_kind (may_shape hm hi) hk).1;have K := kind_facts hkd;have K2 := kind_more hkd;have hsx : sX l (mrkN (uqI l l.length) (secNd (i : Int) ((k : Int) + 1) ((l.getD i default).secs.getD k default) (sG l i k) p)) = (l.getD i default).secs.getD k default := sX_nd l i k ((l.getD i default).secs.getD k default) (sG l i k) p
 obtain ⟨q, hq, hpq⟩ : ∃ q, q < (splitB ((l.getD i default).secs.getD k default)).length ∧ (splitB ((l.getD i default).secs.getD k default)).getD q default = p := by
  obtain ⟨q, hq, e⟩ := List.getElem_of_mem hp;exact ⟨q, hq, by rw [List.getD_eq_getElem?_getD, List.getElem?_eq_getElem hq]; exact e⟩
 have hpi := piece_in hkd hq;rw [hpq] at hpi;have hsz := K.sz;refine ⟨by rw [hsx]; exact (hok _ (getD_in hi)).2.1 _ (getD_in hk), ⟨?_, ?_⟩, fun h => ?_⟩
 · show 0 ≤ p.1 ∧ p.1 ≤ 2147483647; omega
 · show 0 ≤ p.2 ∧ p.2 ≤ 2147483647; omega
 · have hrx : relsX l (mrkN (uqI l l.length) (secNd (i : Int) ((k : Int) + 1) ((l.getD i default).secs.getD k default) (sG l i k) p)) = ((l.getD i default).secs.getD k default).rels := congrArg SecD.rels hsx
   rw [hsx] at h;rw [hrx]; exact List.length_eq_zero_iff.1 (K2.rl h)
def NRows (N : List NodeD) (rows : List (List AV)) : Prop := rows.length = N.length ∧ ∀ j, j < N.length → ∃ c, rows[j]? = some (nodeE (N.getD j default) c)
theorem NRows.tell {N : List NodeD} {rows : List (List AV)} (h : NRows N rows) : TELL (.rd 14 rows) (.rd 14 (N.map nodeY)) := by
 refine tell_rows (by rw [List.length_map]; exact h.1) fun i r r' h1 h2 => ?_
 have hi : i < N.length := by rw [← h.1]; exact (List.getElem?_eq_some_iff.1 h1).1
 obtain ⟨c, hc⟩ := h.2 i hi;rw [hc] at h1;obtain rfl := Option.some.inj h1;rw [List.getElem?_map, nd_some hi] at h2;obtain rfl := Option.some.inj h2;exact inferInstance
theorem NRows.set {N : List NodeD} {rows : List (List AV)} (h : NRows N rows) {i : Nat} (hi : i < N.length) (c : AV) : NRows N (rows.set i (nodeE (N.getD i default) c)) := by
 refine ⟨by rw [List.length_set]; exact h.1, fun j hj => ?_⟩;by_cases e : i = j
 · subst e; exact ⟨c, List.getElem?_set_self (by rw [h.1]; exact hi)⟩
 · rw [List.getElem?_set_ne e]; exact h.2 j hj
@[reducible] def nilE : AV := .v (.slice none 0 0)
def rowI (l : List ObjD) (i : Nat) : List (List AV) := (((ndA l).take i).map (setE l)).map nodeA ++ ((ndA l).drop i).map nodeZ
theorem rowI_at {l : List ObjD} {i : Nat} (h : i < (ndA l).length) : (rowI l i)[i]? = some (nodeE ((ndA l).getD i default) nilE) := by
 unfold rowI;rw [List.getElem?_append_right (by simp; omega), List.length_map, List.length_map, List.length_take, Nat.min_eq_left (by omega), Nat.sub_self, drop_getD h]; rfl
theorem rowI_len (l : List ObjD) (i : Nat) : (rowI l i).length = (ndA l).length := by unfold rowI; simp; omega
theorem rowI_set {l : List ObjD} {i : Nat} {E : List EdgeD} (h : i < (ndA l).length) (hE : (edX l ((ndA l).getD i default)).1 = E) : (rowI l i).set i (nodeE ((ndA l).getD i default) (.rd 5 (E.map edgeA))) = rowI l (i + 1) := by
 unfold rowI;rw [map_take_succ _ h, List.map_append, List.set_append_right _ _ (by simp; omega), List.length_map, List.length_map, List.length_take, Nat.min_eq_left (by omega), Nat.sub_self, drop_getD h, List.append_assoc, ← hE]; rfl
theorem rowI_zero (l : List ObjD) : rowI l 0 = (ndA l).map nodeZ := by unfold rowI; simp
theorem rowI_all (l : List ObjD) : rowI l (ndA l).length = ((ndA l).map (setE l)).map nodeA := by unfold rowI; simp
theorem rowI_rows (l : List ObjD) (i : Nat) : NRows (ndA l) (rowI l i) := by
 refine ⟨rowI_len l i, fun j hj => ?_⟩;unfold rowI;by_cases e : j < i
 · rw [List.getElem?_append_left (by simp; omega), List.getElem?_map, List.getElem?_map, List.getElem?_take_of_lt e, nd_some hj]
   exact ⟨_, rfl⟩
 · rw [List.getElem?_append_right (by simp; omega), List.getElem?_map, List.getElem?_drop, List.length_map, List.length_map, List.length_take]
   rw [show i + (j - min i (ndA l).length) = j by omega, nd_some hj];exact ⟨_, rfl⟩
theorem all_rows (l : List ObjD) : NRows (ndA l) (((ndA l).map (setE l)).map nodeA) := by
 rw [← rowI_all]; exact rowI_rows l _
theorem lay_set {rows : List (List AV)} {i c : Nat} {r ps : List AV} (h : i < rows.length) : (rows.set i r).set i (layAt ((rows.set i r).getD i []) c ps) = rows.set i (layAt r c ps) := by
 rw [List.getD_eq_getElem?_getD, List.getElem?_set_self h, List.set_set]; rfl
def fst12 (N : List DefD) (e : ByteArray) : Option DefD := N.find? (fun d => decide (d.name = e))
def fTo (N : List DefD) (e : ByteArray) : Int := match fst12 N e with | none => 0 | some d => d.obj
def fAt (N : List DefD) (e : ByteArray) : Int := match fst12 N e with | none => 0 | some d => d.sym
theorem nam_from {l : List ObjD} {P : List ((Int × Int) × List (Int × Int))} {B : List ((Int × Int) × Int)} {D : List DefD} : ∀ k, ∀ x ∈ namK l P B D k, ∃ j, j < k ∧ x.name = (D.getD j default).name := by
 intro k
 induction k with
 | zero => intro x hx; cases hx
 | succ k ih =>
  intro x hx;rw [namK] at hx
  split at hx
  · rcases List.mem_append.1 hx with hx | hx
    · obtain ⟨j, h1, h2⟩ := ih x hx
      exact ⟨j, by omega, h2⟩
    · obtain rfl := List.mem_singleton.1 hx
      exact ⟨k, by omega, rfl⟩
  · obtain ⟨j, h1, h2⟩ := ih x hx
    exact ⟨j, by omega, h2⟩
theorem fst_no {N : List DefD} {e : ByteArray} {x : DefD} (h : x.name ≠ e) : fst12 (N ++ [x]) e = fst12 N e := by
 unfold fst12;rw [List.find?_append, List.find?_cons_of_neg (by rw [decide_eq_true_eq]; exact h), List.find?_nil]
 cases List.find? (fun d => decide (d.name = e)) N <;> rfl
theorem fst_yes {N : List DefD} {e : ByteArray} {x : DefD} (hN : ∀ y ∈ N, y.name ≠ e) (h : x.name = e) : fst12 (N ++ [x]) e = some x := by
 unfold fst12;rw [List.find?_append, List.find?_eq_none.2 (fun y hy => by rw [decide_eq_true_eq]; exact hN y hy)];simp [h]
theorem fTo_yes {N : List DefD} {e : ByteArray} {x : DefD} (hN : ∀ y ∈ N, y.name ≠ e) (h : x.name = e) : fTo (N ++ [x]) e = x.obj := by unfold fTo; rw [fst_yes hN h]
theorem fAt_yes {N : List DefD} {e : ByteArray} {x : DefD} (hN : ∀ y ∈ N, y.name ≠ e) (h : x.name = e) : fAt (N ++ [x]) e = x.sym := by unfold fAt; rw [fst_yes hN h]
theorem fTo_no {N : List DefD} {e : ByteArray} {x : DefD} (h : x.name ≠ e) : fTo (N ++ [x]) e = fTo N e := by unfold fTo; rw [fst_no h]
theorem fAt_no {N : List DefD} {e : ByteArray} {x : DefD} (h : x.name ≠ e) : fAt (N ++ [x]) e = fAt N e := by unfold fAt; rw [fst_no h]
theorem nam_new {l : List ObjD} {P : List ((Int × Int) × List (Int × Int))} {B : List ((Int × Int) × Int)} {k : Nat} (hk : k < (dI l l.length).length) : ∀ y ∈ namK l P B (dI l l.length) k, y.name ≠ ((dI l l.length).getD k default).name := fun y hy c => by
 obtain ⟨j, h1, h2⟩ := nam_from k y hy
 have := dI_srt l l.length j k h1 hk
 rw [← h2, c] at this
 exact absurd this (by rw [sLt_irrefl]; decide)
theorem ref_InV {l : List ObjD} (hok : ∀ o ∈ l, o.ok) (hm : AllMay l) (hw : GraphW l) (p : PlcD) (hp : I64 p.at_) : A0 Tryz.prog 21 [.rd 14 ((ndA l).map nodeY), .agg (plcA p)] (fun r => r = .tup [.v (.int .i64 (nodeP (secI l l.length).pcs (secI l l.length).bg p).1), .v (.int .i64 (nodeP (secI l l.length).pcs (secI l l.length).bg p).2)]) := by
 have h := ref_InN (ndA l) p (ndA_len hw).1 (fun x hx => (ndA_f hok hm hx).b) hp;have e : inR (ndA l) p = nodeP (secI l l.length).pcs (secI l l.length).bg p := by
  rw [← in_same hm hw p];exact inR_map (f := mrkN (uqI l l.length)) (fun _ => rfl) (fun _ => rfl) (fun _ => rfl) (fun _ => rfl) _ p
 rw [e] at h;exact h
set_option maxHeartbeats 16000000 in
theorem ref_Build12 (l : List ObjD) (hok : ∀ o ∈ l, o.ok) (hf : fewB l = true) (e : ByteArray) : A0 Tryz.prog 7 [.rd 5 (l.map objA), .v (.string e)] (fun ret => ret = .tup [.agg (graphA (grF l e).1), .v (.int .i64 ((grF l e).2))]) := by
 have hk := few_lok hok hf
 have hfw := few_W hf
 have hrl : ∀ i k, i < l.length → k < (l.getD i default).secs.length → ((l.getD i default).secs.getD k default).rels.length ≤ 1000000 := fun i k hi hk2 => by have := ((hfw.2.1 _ (getD_in hi)).sec _ (getD_in hk2)).2; omega
 refine A0.body 223 Tryz.func7 rfl rfl Tryz.ntmps7 fun base n0 => ?_
 refine AW.seq' ?_
 refine AW.region ?_
 refine AO.ww ?_
 refine AO.c ?_
 refine AO.nil ?_
 refine SQ.normal ?_
 refine AW.seq' ?_
 refine AW.region ?_
 refine AO.c ?_
 refine AO.call1 Tryz.func17 rfl rfl (ref_ResolveV l hk) ?_
 iterate 3 refine AO.c ?_
 refine AO.ww ?_
 refine AO.sst ?_
 refine AO.c ?_
 refine AO.nil ?_
 refine SQ.normal ?_
 refine AW.seq' ?_
 refine AW.seq' ?_
 refine AW.region ?_
 iterate 2 refine AO.c ?_
 refine AO.nil ?_
 refine SQ.normal ?_
 refine AW.iteB (GL.ev _) (fun h0 => ?_) (fun h0 => ?_)
 ·
  rw [decide_eq_true_eq] at h0
  have hg : grF l e = (zGr, resE l) := by unfold grF; rw [if_pos h0]
  refine AW.seq' ?_
  refine AW.region ?_
  iterate 2 refine AO.c ?_
  refine AO.sst ?_
  refine AO.c ?_
  refine AO.nil ?_
  refine SQ.normal ?_
  refine AW.ret ?_
  refine SQ.ret ?_
  refine Fin.ret (Gh.tellC 0 [.rd 14 (([] : List NodeD).map nodeA), .v (.int .i64 (0)), .v (.int .i64 (0)), .rd 3 (([] : List DefD).map defA)]) noid2 ?_
  rw [hg]; rfl
 ·
  rw [decide_eq_false_iff_not, ne_eq, Decidable.not_not] at h0
  have hmay := resE_0 h0
  have hGW := graph_w hok hf hmay
  have hw := hGW.rw_
  have hnl := ndA_len hGW
  have hgl := grN_len hw
  rw [resT_0 h0]
  refine AW.skip ?_
  refine SQ.normal ?_
  refine AW.seq' ?_
  refine AW.region ?_
  iterate 2 refine AO.c ?_
  refine AO.callR Tryz.func18 rfl rfl (ref_nodes l hk hmay hGW) (by rw [List.length_map]) ?_
  refine AO.c ?_
  refine AO.nil ?_
  refine SQ.normal ?_
  refine AW.seq' ?_
  refine AW.region ?_
  iterate 2 refine AO.c ?_
  refine AO.ww ?_
  refine AO.sst ?_
  refine AO.nil ?_
  refine SQ.normal ?_
  refine AW.seq' ?_
  refine AW.seq' ?_
  rw [← rowI_zero]
  refine AW.ghost (Gh.adoptC 3 3 75 3 rfl) ?_
  refine AW.region ?_
  refine AO.c ?_
  refine AO.nil ?_
  refine SQ.normal ?_
  refine AW.block' ?_
  refine AW.loopU2 [.k, .k, .f, .f, .k, .f, .k, .f, .k, .k, .k, .F, .F, .F, .F, .F, .F, .F, .F, .F, .F, .F, .F, .F, .F, .F, .F, .F, .F, .F, .F, .F, .F, .F, .F, .F, .F, .f, .f, .f, .f] (fun (i j : Nat) => [(10, .v (.int .i64 ((i : Int))))]) (fun i j => Hn n0 (([some (.box 28 [.v (.slice none 0 0), .v (.int .i64 (0)), .v (.int .i64 (0)), .v (.slice none 0 0)]), some (.box 78 (tabA ⟨dropF l l.length, dI l l.length⟩)), some (.row 56 14 0 (rowI l i)), some (.box 28 [.own (n0 + 2) 0 0 (ndA l).length, .v (.int .i64 (0)), .v (.int .i64 (0)), .own (n0 + 4) (0) 0 (0)]), some (.row 75 3 (0) ([]))] ++ List.replicate j none) ++ [])) (fun m i j => (i ≤ (ndA l).length ∧ m = (ndA l).length - i) ∧ ∀ q, q < i → (edX l ((ndA l).getD q default)).2 = 0) ((ndA l).length) (0) (0) ⟨by omega, fun q h => by omega⟩ (by first | rfl | (simp; done)) (by first | rfl | (simp; done)) ?_
  rintro m0 i j ⟨hx1, hx2⟩
  refine AW.seq' ?_
  refine AW.seq' ?_
  refine AW.region ?_
  iterate 4 refine AO.c ?_
  refine AO.nil ?_
  refine SQ.normal ?_
  refine AW.iteB (GL.ev _) (fun h1 => ?_) (fun h1 => ?_)
  ·
   rw [decide_eq_true_eq] at h1
   have hi : i < (ndA l).length := by omega
   have hnr := ndA_rng hGW hrl (getD_in hi)
   have hnf := ndA_f hok hmay (getD_in hi)
   have hnr1 := hnr.1
   have hnr2 := hnr.2.1
   have hnr3 := hnr.2.2
   have hsy := (hw.sy ((ndA l).getD i default).obj.toNat (by omega)).2
   have hel := rowI_len l i
   have hil : i < (rowI l i).length := by omega
   refine AW.skip ?_
   refine SQ.normal ?_
   refine AW.seq' ?_
   refine AW.block' ?_
   refine AW.seq' ?_
   refine AW.drawsZ [] (.one 0 false (.one 1 false (.one 2 false (.pur 3 (.one 4 false (.one 5 false (.one 6 false (.one 7 false (.one 8 false (.one 9 false (.one 10 false (.pur 11 (.one 12 false (.one 13 false (.one 14 false (.one 15 false (.one 16 false (.one 17 true (.one 18 false .nil))))))))))))))))))) (by kernel_rfl) rfl (by kernel_rfl) ?_
   iterate 3 refine AZ.c rfl ?_
   refine AZ.po rfl (by omega) ?_
   refine AZ.c rfl ?_
   refine AZ.ldR1 (nodeE ((ndA l).getD i default) nilE) (.v (.int .i64 ((ndA l).getD i default).obj)) rfl (by first | (rw [Nat.zero_add]; exact rowI_at hi) | exact rowI_at hi) rfl ?_
   refine AZ.o rfl (by omega) ?_
   iterate 4 refine AZ.c rfl ?_
   refine AZ.po rfl (by omega) ?_
   refine AZ.c rfl ?_
   refine AZ.ldR1 (nodeE ((ndA l).getD i default) nilE) (.v (.int .i64 ((ndA l).getD i default).sec)) rfl (by first | (rw [Nat.zero_add]; exact rowI_at hi) | exact rowI_at hi) rfl ?_
   refine AZ.oo rfl ?_
   refine AZ.o rfl (by omega) ?_
   refine AZ.c rfl ?_
   refine AZ.eq 61 (av' := .agg (secA (sX l ((ndA l).getD i default)))) rfl ?_
   refine AZ.call1 rfl Tryz.func19 rfl rfl (ref_Has (sX l ((ndA l).getD i default)) 16 hnf.ok (by omega)) ?_
   refine AZ.c rfl ?_
   refine AZ.done ?_
   refine SQ.normal ?_
   refine AW.seq' ?_
   refine AW.seq' ?_
   refine AW.region ?_
   refine AO.c ?_
   refine AO.nil ?_
   refine SQ.normal ?_
   refine AW.iteB (GL.ev _) (fun h2 => ?_) (fun h2 => ?_)
   ·
    have hrz := hnf.mg h2
    have hed : edX l ((ndA l).getD i default) = ([], 0) := by unfold edX edgF; rw [hrz]; rfl
    have hal : ∀ q, q < i + 1 → (edX l ((ndA l).getD q default)).2 = 0 := fun q hq => by
     by_cases c : q = i
     · rw [c, hed]
     · exact hx2 q (by omega)
    refine AW.ghost (Gh.adoptR 2 i 10 58 5 (rowI_at hi) rfl (rows2 := (rowI l i).set i (nodeE ((ndA l).getD i default) (.own (n0 + (zadd (zadd (0 + 1 + 1 + 1 + 1 + 1) j) 0)) (0) 0 (0)))) rfl) ?_
    refine AW.ghost (Gh.freezeR 2 (zadd (zadd (0 + 1 + 1 + 1 + 1 + 1) j) 0) i 10 (List.getElem?_set_self hil) rfl (rows2 := rowI l (i + 1)) (by rw [List.set_set]; exact rowI_set (E := []) hi (by rw [hed])) (by simp) (by simp) (by simp only [zadd]; omega)) ?_
    refine AW.exit ?_
    refine SQ.exit <| BQ.exit ?_
    refine SQ.normal ?_
    refine AW.region ?_
    refine AO.c ?_
    refine AO.oo ?_
    refine AO.c ?_
    refine AO.nil ?_
    exact AW.backE [.k, .k, .f, .f, .k, .f, .k, .f, .k, .k, .k, .F, .F, .F, .F, .F, .F, .F, .F, .F, .F, .F, .F, .F, .F, .F, .F, .F, .F, .F, .F, .F, .F, .F, .F, .F, .F, .f, .f, .f, .f] (j) (m0 - 1) (i + 1, j + 1) (by omega) (by (try dsimp only); exact ⟨by omega, hal⟩) (by first | rfl | (simp; done)) (by first | rfl | (simp; done))
   ·
    skip
    refine AW.skip ?_
    refine SQ.normal ?_
    refine AW.seq' ?_
    refine AW.drawsZ [] (.one 0 false (.one 1 false (.one 2 false (.pur 3 (.one 4 false (.one 5 false (.one 6 false (.one 7 false (.one 8 false (.one 9 false (.one 10 false (.pur 11 (.one 12 false (.one 13 false (.one 14 false (.one 15 false (.one 16 false (.one 17 false (.one 18 false .nil))))))))))))))))))) (by kernel_rfl) rfl (by kernel_rfl) ?_
    iterate 3 refine AZ.c rfl ?_
    refine AZ.po rfl (by omega) ?_
    refine AZ.c rfl ?_
    refine AZ.ldR1 (nodeE ((ndA l).getD i default) nilE) (.v (.int .i64 ((ndA l).getD i default).obj)) rfl (by first | (rw [Nat.zero_add]; exact rowI_at hi) | exact rowI_at hi) rfl ?_
    refine AZ.o rfl (by omega) ?_
    iterate 4 refine AZ.c rfl ?_
    refine AZ.po rfl (by omega) ?_
    refine AZ.c rfl ?_
    refine AZ.ldR1 (nodeE ((ndA l).getD i default) nilE) (.v (.int .i64 ((ndA l).getD i default).sec)) rfl (by first | (rw [Nat.zero_add]; exact rowI_at hi) | exact rowI_at hi) rfl ?_
    refine AZ.oo rfl ?_
    refine AZ.o rfl (by omega) ?_
    iterate 2 refine AZ.c rfl ?_
    refine AZ.eq 81 (av' := .rd 4 ((relsX l ((ndA l).getD i default)).map relA)) rfl ?_
    refine AZ.c rfl ?_
    refine AZ.done ?_
    refine SQ.normal ?_
    refine AW.seq' ?_
    refine AW.ghost (Gh.adoptR 2 i 10 58 5 (rowI_at hi) rfl (rows2 := (rowI l i).set i (nodeE ((ndA l).getD i default) (.own (n0 + (zadd (zadd (0 + 1 + 1 + 1 + 1 + 1) j) 0)) (0) 0 (0)))) rfl) ?_
    refine AW.region ?_
    refine AO.c ?_
    refine AO.nil ?_
    refine SQ.normal ?_
    refine AW.block' ?_
    refine AW.loopU3 [.k, .k, .f, .f, .k, .f, .k, .f, .k, .k, .k, .f, .k, .k, .F, .F, .F, .F, .F, .F, .F, .F, .F, .F, .F, .F, .F, .F, .F, .F, .F, .F, .F, .F, .F, .F, .F, .F, .F, .F, .f] (fun (k j2 e2 : Nat) => [(13, .v (.int .i64 ((k : Int))))]) (fun k j2 e2 => Hn n0 ((([some (.box 28 [.v (.slice none 0 0), .v (.int .i64 (0)), .v (.int .i64 (0)), .v (.slice none 0 0)]), some (.box 78 (tabA ⟨dropF l l.length, dI l l.length⟩)), some (.row 56 14 0 ((rowI l i).set i (nodeE ((ndA l).getD i default) (.own (n0 + (zadd (zadd (0 + 1 + 1 + 1 + 1 + 1) j) 0)) (e2) 0 ((((relsX l ((ndA l).getD i default)).take (k)).map (relT l (secI l l.length).pcs (secI l l.length).bg ((ndA l).getD i default).obj)).length))))), some (.box 28 [.own (n0 + 2) 0 0 (ndA l).length, .v (.int .i64 (0)), .v (.int .i64 (0)), .own (n0 + 4) (0) 0 (0)]), some (.row 75 3 (0) ([]))] ++ List.replicate j none ++ [some (.row 58 5 (e2) (((((relsX l ((ndA l).getD i default)).take (k)).map (relT l (secI l l.length).pcs (secI l l.length).bg ((ndA l).getD i default).obj))).map edgeA))]) ++ List.replicate j2 none) ++ [])) (fun m k j2 e2 => (k ≤ (relsX l ((ndA l).getD i default)).length ∧ m = (relsX l ((ndA l).getD i default)).length - k) ∧ ∀ q, q < k → relE l (secI l l.length).pcs (secI l l.length).bg ((ndA l).getD i default).obj ((relsX l ((ndA l).getD i default)).getD q default) = 0) ((relsX l ((ndA l).getD i default)).length) (0) (0) (0) ⟨by omega, fun q h => by omega⟩ (by first | rfl | (simp; done)) (by simp) ?_
    rintro m1 k j2 e2 ⟨hy1, hy2⟩
    refine AW.seq' ?_
    refine AW.seq' ?_
    refine AW.region ?_
    iterate 4 refine AO.c ?_
    refine AO.nil ?_
    refine SQ.normal ?_
    refine AW.iteB (GL.ev _) (fun h3 => ?_) (fun h3 => ?_)
    ·
     rw [decide_eq_true_eq] at h3
     have hk2 : k < (relsX l ((ndA l).getD i default)).length := by omega
     refine AW.skip ?_
     refine SQ.normal ?_
     refine AW.seq' ?_
     refine AW.block' ?_
     refine AW.seq' ?_
     apply AW.mid
     case h =>
      refine AW.drawsZ [17] (.one 0 false (.one 1 false (.one 2 false (.one 3 false (.pur 4 (.one 5 false (.one 6 false (.one 7 false (.one 8 false (.one 9 false (.one 10 false (.one 11 false (.two 12 16 (.one 13 false (.one 14 false (.pur 15 (.one 16 true (.one 17 true (.one 18 false .nil)))))) (.one 12 true (.one 13 false (.one 14 false (.pur 15 (.one 17 true (.one 18 false .nil))))))))))))))))))) (by kernel_rfl) rfl (by kernel_rfl) ?_
      iterate 4 refine AZ.c rfl ?_
      refine AZ.po rfl (by omega) ?_
      refine AZ.c rfl ?_
      refine AZ.ldR1 (nodeE ((ndA l).getD i default) (.own (n0 + (zadd (zadd (0 + 1 + 1 + 1 + 1 + 1) j) 0)) (e2) 0 ((((relsX l ((ndA l).getD i default)).take (k)).map (relT l (secI l l.length).pcs (secI l l.length).bg ((ndA l).getD i default).obj)).length))) (.v (.int .i64 ((ndA l).getD i default).obj)) rfl (by rw [show 0 + ((i : Int)).toNat = i by rw [Int.toNat_natCast, Nat.zero_add]]; exact List.getElem?_set_self hil) rfl ?_
      iterate 2 refine AZ.c rfl ?_
      refine AZ.oo rfl ?_
      iterate 2 refine AZ.c rfl ?_
      refine AZ.two ?_ ?_
      · refine AZi.call1 rfl Tryz.func20 rfl rfl (ref_WhereV hk hw ((ndA l).getD i default).obj ((relsX l ((ndA l).getD i default)).getD k default).sym) ?_
        iterate 2 refine AZ.c rfl ?_
        refine AZ.p rfl ?_
        refine AZ.mkk rfl ?_
        refine AZ.sst rfl rfl ?_
        refine AZ.c rfl ?_
        exact AZ.done ⟨rfl, rfl⟩
      · refine AZi.mkk rfl ?_
        refine AZ.call1 rfl Tryz.func20 rfl rfl (ref_WhereV hk hw ((ndA l).getD i default).obj ((relsX l ((ndA l).getD i default)).getD k default).sym) ?_
        iterate 2 refine AZ.c rfl ?_
        refine AZ.p rfl ?_
        refine AZ.sst rfl rfl ?_
        refine AZ.c rfl ?_
        exact AZ.done ⟨rfl, rfl⟩
     refine SQ.normal ?_
     refine AW.seq' ?_
     refine AW.seq' ?_
     refine AW.region ?_
     iterate 2 refine AO.c ?_
     refine AO.nil ?_
     refine SQ.normal ?_
     refine AW.iteB (GL.ev _) (fun h4 => ?_) (fun h4 => ?_)
     ·
      rw [decide_eq_true_eq] at h4
      have hre : relE l (secI l l.length).pcs (secI l l.length).bg ((ndA l).getD i default).obj ((relsX l ((ndA l).getD i default)).getD k default) = (whereF l ⟨dropF l l.length, dI l l.length⟩ ((ndA l).getD i default).obj ((relsX l ((ndA l).getD i default)).getD k default).sym).2 := by unfold relE; rw [if_pos h4]
      have hfi : (edX l ((ndA l).getD i default)).2 = (whereF l ⟨dropF l l.length, dI l l.length⟩ ((ndA l).getD i default).obj ((relsX l ((ndA l).getD i default)).getD k default).sym).2 := (firE_at hk2 hy2 (by rw [hre]; exact h4)).trans hre
      have hfe : grE l = (whereF l ⟨dropF l l.length, dI l l.length⟩ ((ndA l).getD i default).obj ((relsX l ((ndA l).getD i default)).getD k default).sym).2 := (firE_at (f := fun x => (edX l x).2) hi hx2 (by rw [hfi]; exact h4)).trans hfi
      have hg : grF l e = (zGr, (whereF l ⟨dropF l l.length, dI l l.length⟩ ((ndA l).getD i default).obj ((relsX l ((ndA l).getD i default)).getD k default).sym).2) := by unfold grF; rw [if_neg (fun c => c h0), if_pos (by rw [hfe]; exact h4), hfe]
      refine AW.seq' ?_
      refine AW.region ?_
      iterate 2 refine AO.c ?_
      refine AO.sst ?_
      refine AO.c ?_
      refine AO.nil ?_
      refine SQ.normal ?_
      refine AW.ret ?_
      refine SQ.ret <| BQ.ret <| SQ.ret <| AW.out <| LU.ret <| BQ.ret <| BQ.ret <| SQ.ret <| AW.out <| LU.ret <| BQ.ret <| SQ.ret ?_
      refine Fin.ret (Gh.tellC 0 [.rd 14 (([] : List NodeD).map nodeA), .v (.int .i64 (0)), .v (.int .i64 (0)), .rd 3 (([] : List DefD).map defA)]) noid2 ?_
      rw [hg]; rfl
     ·
      rw [decide_eq_false_iff_not, ne_eq, Decidable.not_not] at h4
      refine AW.skip ?_
      refine SQ.normal ?_
      refine AW.seq' ?_
      refine AW.drawsZ [19] (.one 0 false (.one 1 false (.one 2 false (.one 3 false (.one 4 false (.one 5 false (.one 6 false (.one 7 false (.one 8 false (.one 9 false (.one 10 false (.one 11 false (.one 12 false (.one 13 false (.one 14 false (.one 15 false (.one 16 false (.one 17 false (.one 18 true (.one 19 true .nil)))))))))))))))))))) (by kernel_rfl) rfl (by kernel_rfl) ?_
      iterate 2 refine AZ.c rfl ?_
      refine AZ.oo rfl ?_
      iterate 4 refine AZ.c rfl ?_
      refine AZ.oo rfl ?_
      iterate 4 refine AZ.c rfl ?_
      refine AZ.oo rfl ?_
      iterate 5 refine AZ.c rfl ?_
      refine AZ.mkk rfl ?_
      refine AZ.sst rfl rfl ?_
      refine AZ.done ?_
      refine SQ.normal ?_
      refine AW.seq' ?_
      refine AW.seq' ?_
      refine AW.region ?_
      iterate 3 refine AO.c ?_
      refine AO.nil ?_
      refine SQ.normal ?_
      refine AW.iteB (GL.ev _) (fun h5 => ?_) (fun h5 => ?_)
      ·
       rw [decide_eq_true_eq] at h5
       refine AW.seq' ?_
       refine AW.region ?_
       iterate 2 refine AO.c ?_
       refine AO.callT 2 [.rd 14 ((ndA l).map nodeY), .agg (plcA (whereF l ⟨dropF l l.length, dI l l.length⟩ ((ndA l).getD i default).obj ((relsX l ((ndA l).getD i default)).getD k default).sym).1)] Tryz.func21 rfl rfl (by exact ⟨showTell (by rw [List.length_set, rowI_len]) (((rowI_rows l i).set hi _).tell), .inl rfl, trivial⟩) (by rw [List.length_set, rowI_len]; omega) (ref_InV hok hmay hGW (whereF l ⟨dropF l l.length, dI l l.length⟩ ((ndA l).getD i default).obj ((relsX l ((ndA l).getD i default)).getD k default).sym).1 (whereF_i64 hk _ _ _)) ?_
       iterate 5 refine AO.c ?_
       refine AO.nil ?_
       refine SQ.normal ?_
       refine AW.seq' ?_
       refine AW.seq' ?_
       refine AW.region ?_
       iterate 2 refine AO.c ?_
       refine AO.nil ?_
       refine SQ.normal ?_
       refine AW.iteB (GL.ev _) (fun h6 => ?_) (fun h6 => ?_)
       ·
        rw [decide_eq_true_eq] at h6
        have hre : relE l (secI l l.length).pcs (secI l l.length).bg ((ndA l).getD i default).obj ((relsX l ((ndA l).getD i default)).getD k default) = 6 := by unfold relE; rw [if_neg (fun c => c h4), if_pos ⟨h5, h6⟩]
        have hfi : (edX l ((ndA l).getD i default)).2 = 6 := (firE_at hk2 hy2 (by rw [hre]; decide)).trans hre
        have hfe : grE l = 6 := (firE_at (f := fun x => (edX l x).2) hi hx2 (by rw [hfi]; decide)).trans hfi
        have hg : grF l e = (zGr, 6) := by unfold grF; rw [if_neg (fun c => c h0), if_pos (by rw [hfe]; decide), hfe]
        refine AW.seq' ?_
        refine AW.region ?_
        refine AO.c ?_
        refine AO.sst ?_
        refine AO.c ?_
        refine AO.nil ?_
        refine SQ.normal ?_
        refine AW.ret ?_
        refine SQ.ret <| SQ.ret <| BQ.ret <| SQ.ret <| AW.out <| LU.ret <| BQ.ret <| BQ.ret <| SQ.ret <| AW.out <| LU.ret <| BQ.ret <| SQ.ret ?_
        refine Fin.ret (Gh.tellC 0 [.rd 14 (([] : List NodeD).map nodeA), .v (.int .i64 (0)), .v (.int .i64 (0)), .rd 3 (([] : List DefD).map defA)]) noid2 ?_
        rw [hg]; rfl
       ·
        rw [decide_eq_false_iff_not] at h6
        have hre : relE l (secI l l.length).pcs (secI l l.length).bg ((ndA l).getD i default).obj ((relsX l ((ndA l).getD i default)).getD k default) = 0 := by unfold relE; rw [if_neg (fun c => c h4), if_neg (fun c => h6 c.2)]
        have hal2 : ∀ q, q < k + 1 → relE l (secI l l.length).pcs (secI l l.length).bg ((ndA l).getD i default).obj ((relsX l ((ndA l).getD i default)).getD q default) = 0 := fun q hq => by
         by_cases e : q = k
         · rw [e]; exact hre
         · exact hy2 q (by omega)
        have hsn := edge_snoc (f := relT l (secI l l.length).pcs (secI l l.length).bg ((ndA l).getD i default).obj) hk2 (show relT l (secI l l.length).pcs (secI l l.length).bg ((ndA l).getD i default).obj ((relsX l ((ndA l).getD i default)).getD k default) = ⟨((relsX l ((ndA l).getD i default)).getD k default).off, ((relsX l ((ndA l).getD i default)).getD k default).typ, ((relsX l ((ndA l).getD i default)).getD k default).add, (nodeP (secI l l.length).pcs (secI l l.length).bg (whereF l ⟨dropF l l.length, dI l l.length⟩ ((ndA l).getD i default).obj ((relsX l ((ndA l).getD i default)).getD k default).sym).1).1, (nodeP (secI l l.length).pcs (secI l l.length).bg (whereF l ⟨dropF l l.length, dI l l.length⟩ ((ndA l).getD i default).obj ((relsX l ((ndA l).getD i default)).getD k default).sym).1).2⟩ by unfold relT; rw [if_pos h5])
        refine AW.skip ?_
        refine SQ.normal ?_
        refine AW.seq' ?_
        refine AW.region ?_
        iterate 2 refine AO.c ?_
        refine AO.sst ?_
        refine AO.nil ?_
        refine SQ.normal ?_
        refine AW.region ?_
        iterate 2 refine AO.c ?_
        refine AO.sst ?_
        refine AO.nil ?_
        refine SQ.normal ?_
        apply AW.mid
        case h =>
         refine AW.drawsZ [11, 14] (.one 3 false (.one 4 false (.one 5 false (.pur 6 (.one 7 false (.one 8 false (.one 9 false (.pur 0 (.pur 2 (.two 1 10 (.one 10 true (.one 11 true (.pur 12 (.one 13 false (.one 14 true .nil))))) (.two 1 11 (.one 11 true (.pur 12 (.one 13 false (.one 14 true .nil)))) (.one 1 false (.pur 12 (.one 13 false (.one 14 true .nil))))))))))))))) (by kernel_rfl) rfl (by kernel_rfl) ?_
         iterate 3 refine AZ.c rfl ?_
         refine AZ.po rfl (by omega) ?_
         refine AZ.c rfl ?_
         refine AZ.ldR1 (nodeE ((ndA l).getD i default) (.own (n0 + (zadd (zadd (0 + 1 + 1 + 1 + 1 + 1) j) 0)) (e2) 0 ((((relsX l ((ndA l).getD i default)).take (k)).map (relT l (secI l l.length).pcs (secI l l.length).bg ((ndA l).getD i default).obj)).length))) (.own (n0 + (zadd (zadd (0 + 1 + 1 + 1 + 1 + 1) j) 0)) (e2) 0 ((((relsX l ((ndA l).getD i default)).take (k)).map (relT l (secI l l.length).pcs (secI l l.length).bg ((ndA l).getD i default).obj)).length)) rfl (by rw [show 0 + ((i : Int)).toNat = i by rw [Int.toNat_natCast, Nat.zero_add]]; exact List.getElem?_set_self hil) rfl ?_
         refine AZ.c rfl ?_
         iterate 2 refine AZ.p rfl ?_
         refine AZ.two ?_ ?_
         · refine AZi.c rfl ?_
           refine AZ.rr rfl ?_
           refine AZ.ww rfl rfl ?_
           refine AZ.po rfl (by omega) ?_
           refine AZ.c rfl ?_
           refine AZ.stR ((rowI l i).set i (nodeE ((ndA l).getD i default) (.own (n0 + (zadd (zadd (0 + 1 + 1 + 1 + 1 + 1) j) 0)) (e2 + 1) 0 ((((relsX l ((ndA l).getD i default)).take (k)).map (relT l (secI l l.length).pcs (secI l l.length).bg ((ndA l).getD i default).obj)).length + 1)))) rfl rfl (by rw [List.length_set, rowI_len]; exact ⟨by omega, by decide⟩) ?_ ?_
           · rw [show 0 + ((i : Int)).toNat = i by rw [Int.toNat_natCast, Nat.zero_add], lay_set hil]; rfl
           exact AZ.done ⟨rfl, rfl⟩
         · refine AZi.rr rfl ?_
           refine AZ.two ?_ ?_
           · refine AZi.c rfl ?_
             refine AZ.ww rfl rfl ?_
             refine AZ.po rfl (by omega) ?_
             refine AZ.c rfl ?_
             refine AZ.stR ((rowI l i).set i (nodeE ((ndA l).getD i default) (.own (n0 + (zadd (zadd (0 + 1 + 1 + 1 + 1 + 1) j) 0)) (e2 + 1) 0 ((((relsX l ((ndA l).getD i default)).take (k)).map (relT l (secI l l.length).pcs (secI l l.length).bg ((ndA l).getD i default).obj)).length + 1)))) rfl rfl (by rw [List.length_set, rowI_len]; exact ⟨by omega, by decide⟩) ?_ ?_
             · rw [show 0 + ((i : Int)).toNat = i by rw [Int.toNat_natCast, Nat.zero_add], lay_set hil]; rfl
             exact AZ.done ⟨rfl, rfl⟩
           · refine AZi.ww rfl rfl ?_
             refine AZ.c rfl ?_
             refine AZ.po rfl (by omega) ?_
             refine AZ.c rfl ?_
             refine AZ.stR ((rowI l i).set i (nodeE ((ndA l).getD i default) (.own (n0 + (zadd (zadd (0 + 1 + 1 + 1 + 1 + 1) j) 0)) (e2 + 1) 0 ((((relsX l ((ndA l).getD i default)).take (k)).map (relT l (secI l l.length).pcs (secI l l.length).bg ((ndA l).getD i default).obj)).length + 1)))) rfl rfl (by rw [List.length_set, rowI_len]; exact ⟨by omega, by decide⟩) ?_ ?_
             · rw [show 0 + ((i : Int)).toNat = i by rw [Int.toNat_natCast, Nat.zero_add], lay_set hil]; rfl
             exact AZ.done ⟨rfl, rfl⟩
        refine BQ.normal ?_
        refine SQ.normal ?_
        refine AW.region ?_
        refine AO.c ?_
        refine AO.oo ?_
        refine AO.c ?_
        refine AO.nil ?_
        exact AW.backE [.k, .k, .f, .f, .k, .f, .k, .f, .k, .k, .k, .f, .k, .k, .F, .F, .F, .F, .F, .F, .F, .F, .F, .F, .F, .F, .F, .F, .F, .F, .F, .F, .F, .F, .F, .F, .F, .F, .F, .F, .f] (j2) (m1 - 1) (k + 1, j2 + 2, e2 + 1) (by omega) (by (try dsimp only); exact ⟨by omega, hal2⟩) (by first | rfl | (simp; done)) (by first | ((try dsimp only); rw [hsn.1, hsn.2]; done) | ((try dsimp only); rw [hsn.1, hsn.2]; rfl))
      ·
       rw [decide_eq_false_iff_not] at h5
       have hre : relE l (secI l l.length).pcs (secI l l.length).bg ((ndA l).getD i default).obj ((relsX l ((ndA l).getD i default)).getD k default) = 0 := by unfold relE; rw [if_neg (fun c => c h4), if_neg (fun c => h5 c.1)]
       have hal2 : ∀ q, q < k + 1 → relE l (secI l l.length).pcs (secI l l.length).bg ((ndA l).getD i default).obj ((relsX l ((ndA l).getD i default)).getD q default) = 0 := fun q hq => by
        by_cases e : q = k
        · rw [e]; exact hre
        · exact hy2 q (by omega)
       have hsn := edge_snoc (f := relT l (secI l l.length).pcs (secI l l.length).bg ((ndA l).getD i default).obj) hk2 (show relT l (secI l l.length).pcs (secI l l.length).bg ((ndA l).getD i default).obj ((relsX l ((ndA l).getD i default)).getD k default) = ⟨((relsX l ((ndA l).getD i default)).getD k default).off, ((relsX l ((ndA l).getD i default)).getD k default).typ, ((relsX l ((ndA l).getD i default)).getD k default).add, -1, (whereF l ⟨dropF l l.length, dI l l.length⟩ ((ndA l).getD i default).obj ((relsX l ((ndA l).getD i default)).getD k default).sym).1.at_⟩ by unfold relT; rw [if_neg h5])
       refine AW.skip ?_
       refine SQ.normal ?_
       apply AW.mid
       case h =>
        refine AW.drawsZ [11, 14] (.one 3 false (.one 4 false (.one 5 false (.pur 6 (.one 7 false (.one 8 false (.one 9 false (.pur 0 (.pur 2 (.two 1 10 (.one 10 true (.one 11 true (.pur 12 (.one 13 false (.one 14 true .nil))))) (.two 1 11 (.one 11 true (.pur 12 (.one 13 false (.one 14 true .nil)))) (.one 1 false (.pur 12 (.one 13 false (.one 14 true .nil))))))))))))))) (by kernel_rfl) rfl (by kernel_rfl) ?_
        iterate 3 refine AZ.c rfl ?_
        refine AZ.po rfl (by omega) ?_
        refine AZ.c rfl ?_
        refine AZ.ldR1 (nodeE ((ndA l).getD i default) (.own (n0 + (zadd (zadd (0 + 1 + 1 + 1 + 1 + 1) j) 0)) (e2) 0 ((((relsX l ((ndA l).getD i default)).take (k)).map (relT l (secI l l.length).pcs (secI l l.length).bg ((ndA l).getD i default).obj)).length))) (.own (n0 + (zadd (zadd (0 + 1 + 1 + 1 + 1 + 1) j) 0)) (e2) 0 ((((relsX l ((ndA l).getD i default)).take (k)).map (relT l (secI l l.length).pcs (secI l l.length).bg ((ndA l).getD i default).obj)).length)) rfl (by rw [show 0 + ((i : Int)).toNat = i by rw [Int.toNat_natCast, Nat.zero_add]]; exact List.getElem?_set_self hil) rfl ?_
        refine AZ.c rfl ?_
        iterate 2 refine AZ.p rfl ?_
        refine AZ.two ?_ ?_
        · refine AZi.c rfl ?_
          refine AZ.rr rfl ?_
          refine AZ.ww rfl rfl ?_
          refine AZ.po rfl (by omega) ?_
          refine AZ.c rfl ?_
          refine AZ.stR ((rowI l i).set i (nodeE ((ndA l).getD i default) (.own (n0 + (zadd (zadd (0 + 1 + 1 + 1 + 1 + 1) j) 0)) (e2 + 1) 0 ((((relsX l ((ndA l).getD i default)).take (k)).map (relT l (secI l l.length).pcs (secI l l.length).bg ((ndA l).getD i default).obj)).length + 1)))) rfl rfl (by rw [List.length_set, rowI_len]; exact ⟨by omega, by decide⟩) ?_ ?_
          · rw [show 0 + ((i : Int)).toNat = i by rw [Int.toNat_natCast, Nat.zero_add], lay_set hil]; rfl
          exact AZ.done ⟨rfl, rfl⟩
        · refine AZi.rr rfl ?_
          refine AZ.two ?_ ?_
          · refine AZi.c rfl ?_
            refine AZ.ww rfl rfl ?_
            refine AZ.po rfl (by omega) ?_
            refine AZ.c rfl ?_
            refine AZ.stR ((rowI l i).set i (nodeE ((ndA l).getD i default) (.own (n0 + (zadd (zadd (0 + 1 + 1 + 1 + 1 + 1) j) 0)) (e2 + 1) 0 ((((relsX l ((ndA l).getD i default)).take (k)).map (relT l (secI l l.length).pcs (secI l l.length).bg ((ndA l).getD i default).obj)).length + 1)))) rfl rfl (by rw [List.length_set, rowI_len]; exact ⟨by omega, by decide⟩) ?_ ?_
            · rw [show 0 + ((i : Int)).toNat = i by rw [Int.toNat_natCast, Nat.zero_add], lay_set hil]; rfl
            exact AZ.done ⟨rfl, rfl⟩
          · refine AZi.ww rfl rfl ?_
            refine AZ.c rfl ?_
            refine AZ.po rfl (by omega) ?_
            refine AZ.c rfl ?_
            refine AZ.stR ((rowI l i).set i (nodeE ((ndA l).getD i default) (.own (n0 + (zadd (zadd (0 + 1 + 1 + 1 + 1 + 1) j) 0)) (e2 + 1) 0 ((((relsX l ((ndA l).getD i default)).take (k)).map (relT l (secI l l.length).pcs (secI l l.length).bg ((ndA l).getD i default).obj)).length + 1)))) rfl rfl (by rw [List.length_set, rowI_len]; exact ⟨by omega, by decide⟩) ?_ ?_
            · rw [show 0 + ((i : Int)).toNat = i by rw [Int.toNat_natCast, Nat.zero_add], lay_set hil]; rfl
            exact AZ.done ⟨rfl, rfl⟩
       refine BQ.normal ?_
       refine SQ.normal ?_
       refine AW.region ?_
       refine AO.c ?_
       refine AO.oo ?_
       refine AO.c ?_
       refine AO.nil ?_
       exact AW.backE [.k, .k, .f, .f, .k, .f, .k, .f, .k, .k, .k, .f, .k, .k, .F, .F, .F, .F, .F, .F, .F, .F, .F, .F, .F, .F, .F, .F, .F, .F, .F, .F, .F, .F, .F, .F, .F, .F, .F, .F, .f] (j2) (m1 - 1) (k + 1, j2 + 2, e2 + 1) (by omega) (by (try dsimp only); exact ⟨by omega, hal2⟩) (by first | rfl | (simp; done)) (by first | ((try dsimp only); rw [hsn.1, hsn.2]; done) | ((try dsimp only); rw [hsn.1, hsn.2]; rfl))
    ·
     rw [decide_eq_false_iff_not] at h3
     have hk2 : k = (relsX l ((ndA l).getD i default)).length := by omega
     subst hk2
     have hze := firE_zero hy2
     have hed : edX l ((ndA l).getD i default) = ((relsX l ((ndA l).getD i default)).map (relT l (secI l l.length).pcs (secI l l.length).bg ((ndA l).getD i default).obj), 0) := by unfold edX edgF; rw [hze, if_pos rfl]
     have hal : ∀ q, q < i + 1 → (edX l ((ndA l).getD q default)).2 = 0 := fun q hq => by
      by_cases c : q = i
      · rw [c, hed]
      · exact hx2 q (by omega)
     refine AW.ghost (Gh.freezeR 2 (zadd (zadd (0 + 1 + 1 + 1 + 1 + 1) j) 0) i 10 (List.getElem?_set_self hil) rfl (rows2 := rowI l (i + 1)) (by rw [List.set_set]; exact rowI_set hi (by rw [hed, List.take_length])) (by simp) (by rw [List.length_map, List.length_map, List.take_length]; omega) (by simp only [zadd]; omega)) ?_
     refine AW.exit ?_
     refine SQ.exit <| AW.out <| LU.exit <| BQ.exit ?_
     refine BQ.normal ?_
     refine SQ.normal ?_
     refine AW.region ?_
     refine AO.c ?_
     refine AO.oo ?_
     refine AO.c ?_
     refine AO.nil ?_
     exact AW.backE [.k, .k, .f, .f, .k, .f, .k, .f, .k, .k, .k, .F, .F, .F, .F, .F, .F, .F, .F, .F, .F, .F, .F, .F, .F, .F, .F, .F, .F, .F, .F, .F, .F, .F, .F, .F, .F, .f, .f, .f, .f] (j) (m0 - 1) (i + 1, j + (1 + j2)) (by omega) (by (try dsimp only); exact ⟨by omega, hal⟩) (by first | rfl | (simp; done)) ((Hn_repJ (b := j + (1 + j2)) (by first | (simp; done) | (simp; omega))).trans (by (try dsimp only) <;> rfl))
  ·
   rw [decide_eq_false_iff_not] at h1
   have hi : i = (ndA l).length := by omega
   subst hi
   have hdl := dI_len hw l.length (Nat.le_refl _)
   have hz : grE l = 0 := firE_zero (f := fun x => (edX l x).2) hx2
   rw [rowI_all]
   refine AW.exit ?_
   refine SQ.exit <| AW.out <| LU.exit <| BQ.exit ?_
   refine SQ.normal ?_
   refine AW.seq' ?_
   refine AW.region ?_
   refine AO.c ?_
   refine AO.nil ?_
   refine SQ.normal ?_
   refine AW.seq' ?_
   refine AW.seq' ?_
   refine AW.region ?_
   refine AO.c ?_
   refine AO.nil ?_
   refine SQ.normal ?_
   refine AW.block' ?_
   refine AW.loopU3 [.k, .k, .f, .f, .k, .f, .k, .f, .k, .k, .F, .f, .k, .k, .F, .F, .F, .F, .F, .F, .F, .F, .F, .F, .F, .F, .F, .F, .F, .F, .F, .F, .F, .F, .F, .F, .F, .F, .F, .f, .f] (fun (k j e3 : Nat) => [(19, .v (.bool (fst12 (namK l (secI l l.length).pcs (secI l l.length).bg (dI l l.length) (k)) e).isSome)), (20, .v (.int .i64 ((k : Int))))]) (fun k j e3 => Hn n0 (([some (.box 28 [.v (.slice none 0 0), .v (.int .i64 (0)), .v (.int .i64 (0)), .v (.slice none 0 0)]), some (.box 78 (tabA ⟨dropF l l.length, dI l l.length⟩)), some (.row 56 14 0 (((ndA l).map (setE l)).map nodeA)), some (.box 28 [.own (n0 + 2) 0 0 (ndA l).length, .v (.int .i64 (fTo (namK l (secI l l.length).pcs (secI l l.length).bg (dI l l.length) (k)) e)), .v (.int .i64 (fAt (namK l (secI l l.length).pcs (secI l l.length).bg (dI l l.length) (k)) e)), .own (n0 + 4) (e3) 0 ((namK l (secI l l.length).pcs (secI l l.length).bg (dI l l.length) (k)).length)]), some (.row 75 3 (e3) ((namK l (secI l l.length).pcs (secI l l.length).bg (dI l l.length) (k)).map defA))] ++ List.replicate j none) ++ [])) (fun m k j e3 => k ≤ (dI l l.length).length ∧ m = (dI l l.length).length - k) ((dI l l.length).length) (0) (j) (0) ⟨by omega, by omega⟩ (by first | rfl | (simp; done)) (by first | rfl | (simp; done)) ?_
   rintro m2 k j e3 ⟨hz1, hz2⟩
   refine AW.seq' ?_
   refine AW.seq' ?_
   refine AW.region ?_
   iterate 5 refine AO.c ?_
   refine AO.nil ?_
   refine SQ.normal ?_
   refine AW.iteB (GL.ev _) (fun h7 => ?_) (fun h7 => ?_)
   ·
    have h7 : (k : Int) < ((dI l l.length).length : Int) := of_decide_eq_true h7
    have hk2 : k < (dI l l.length).length := by omega
    have hnk := namK_len l (secI l l.length).pcs (secI l l.length).bg (dI l l.length) k
    have hnw := nam_new (P := (secI l l.length).pcs) (B := (secI l l.length).bg) hk2
    refine AW.skip ?_
    refine SQ.normal ?_
    refine AW.seq' ?_
    refine AW.block' ?_
    refine AW.seq' ?_
    apply AW.mid
    case h =>
     refine AW.drawsZ [19] (.one 0 false (.one 1 false (.one 2 false (.one 3 false (.one 4 false (.one 5 false (.one 6 false (.one 7 false (.one 8 false (.one 9 false (.one 10 false (.one 11 false (.one 12 false (.one 13 false (.two 14 18 (.one 15 false (.one 16 false (.pur 17 (.one 18 true (.one 19 true (.one 20 false .nil)))))) (.one 14 true (.one 15 false (.one 16 false (.pur 17 (.one 19 true (.one 20 false .nil))))))))))))))))))))) (by kernel_rfl) rfl (by kernel_rfl) ?_
     iterate 5 refine AZ.c rfl ?_
     refine AZ.oo rfl ?_
     iterate 5 refine AZ.c rfl ?_
     refine AZ.oo rfl ?_
     iterate 2 refine AZ.c rfl ?_
     refine AZ.two ?_ ?_
     · refine AZi.call1 rfl Tryz.func20 rfl rfl (ref_WhereV hk hw ((dI l l.length).getD k default).obj ((dI l l.length).getD k default).sym) ?_
       iterate 2 refine AZ.c rfl ?_
       refine AZ.p rfl ?_
       refine AZ.mkk rfl ?_
       refine AZ.sst rfl rfl ?_
       refine AZ.c rfl ?_
       exact AZ.done ⟨rfl, rfl⟩
     · refine AZi.mkk rfl ?_
       refine AZ.call1 rfl Tryz.func20 rfl rfl (ref_WhereV hk hw ((dI l l.length).getD k default).obj ((dI l l.length).getD k default).sym) ?_
       iterate 2 refine AZ.c rfl ?_
       refine AZ.p rfl ?_
       refine AZ.sst rfl rfl ?_
       refine AZ.c rfl ?_
       exact AZ.done ⟨rfl, rfl⟩
    refine SQ.normal ?_
    refine AW.seq' ?_
    refine AW.region ?_
    iterate 2 refine AO.c ?_
    refine AO.callT 2 [.rd 14 ((ndA l).map nodeY), .agg (plcA (whereF l ⟨dropF l l.length, dI l l.length⟩ ((dI l l.length).getD k default).obj ((dI l l.length).getD k default).sym).1)] Tryz.func21 rfl rfl (by exact ⟨showTell (by simp) ((all_rows l).tell), .inl rfl, trivial⟩) (by simp; omega) (ref_InV hok hmay hGW (whereF l ⟨dropF l l.length, dI l l.length⟩ ((dI l l.length).getD k default).obj ((dI l l.length).getD k default).sym).1 (whereF_i64 hk _ _ _)) ?_
    iterate 5 refine AO.c ?_
    refine AO.nil ?_
    refine SQ.normal ?_
    refine AW.seq' ?_
    refine AW.seq' ?_
    refine AW.region ?_
    iterate 3 refine AO.c ?_
    iterate 2 refine AO.gx ?_
    refine AO.c ?_
    refine AO.nil ?_
    refine SQ.normal ?_
    refine AW.iteB (GL.ev _) (fun h8 => ?_) (fun h8 => ?_)
    ·
     have hst : (namK l (secI l l.length).pcs (secI l l.length).bg (dI l l.length) (k + 1)) = (namK l (secI l l.length).pcs (secI l l.length).bg (dI l l.length) (k)) := by
      rw [namK, if_neg]
      rintro ⟨c1, c2⟩
      simp only [Bool.or_eq_true, decide_eq_true_eq] at h8
      rcases h8 with h8 | h8
      · exact h8 c1
      · omega
     refine AW.exit ?_
     refine SQ.exit <| BQ.exit ?_
     refine SQ.normal ?_
     refine AW.region ?_
     refine AO.c ?_
     refine AO.oo ?_
     refine AO.c ?_
     refine AO.nil ?_
     exact AW.backE [.k, .k, .f, .f, .k, .f, .k, .f, .k, .k, .F, .f, .k, .k, .F, .F, .F, .F, .F, .F, .F, .F, .F, .F, .F, .F, .F, .F, .F, .F, .F, .F, .F, .F, .F, .F, .F, .F, .F, .f, .f] (j) (m2 - 1) (k + 1, j + 1, e3) (by omega) (by (try dsimp only); exact ⟨by omega, by omega⟩) (by first | ((try dsimp only); rw [hst]; done) | ((try dsimp only); rw [hst]; rfl)) (by first | ((try dsimp only); rw [hst]; done) | ((try dsimp only); rw [hst]; rfl))
    ·
     have hc8 : (whereF l ⟨dropF l l.length, dI l l.length⟩ ((dI l l.length).getD k default).obj ((dI l l.length).getD k default).sym).2 = 0 ∧ (nodeP (secI l l.length).pcs (secI l l.length).bg (whereF l ⟨dropF l l.length, dI l l.length⟩ ((dI l l.length).getD k default).obj ((dI l l.length).getD k default).sym).1).1 ≥ 0 := by
      simp only [Bool.or_eq_false_iff, decide_eq_false_iff_not, Decidable.not_not] at h8
      exact ⟨h8.1, by omega⟩
     have hsn : (namK l (secI l l.length).pcs (secI l l.length).bg (dI l l.length) (k + 1)) = (namK l (secI l l.length).pcs (secI l l.length).bg (dI l l.length) (k)) ++ [⟨((dI l l.length).getD k default).name, (nodeP (secI l l.length).pcs (secI l l.length).bg (whereF l ⟨dropF l l.length, dI l l.length⟩ ((dI l l.length).getD k default).obj ((dI l l.length).getD k default).sym).1).1, (nodeP (secI l l.length).pcs (secI l l.length).bg (whereF l ⟨dropF l l.length, dI l l.length⟩ ((dI l l.length).getD k default).obj ((dI l l.length).getD k default).sym).1).2⟩] := by rw [namK, if_pos hc8]
     refine AW.skip ?_
     refine SQ.normal ?_
     refine AW.seq' ?_
     refine AW.drawsZ [12, 14] (.one 0 false (.one 1 false (.one 2 false (.one 3 false (.one 4 false (.one 5 false (.one 6 false (.one 7 false (.one 8 false (.one 9 false (.one 10 false (.one 11 true (.one 12 true (.one 13 false (.one 14 true .nil))))))))))))))) (by kernel_rfl) rfl (by kernel_rfl) ?_
     iterate 5 refine AZ.c rfl ?_
     refine AZ.oo rfl ?_
     iterate 5 refine AZ.c rfl ?_
     refine AZ.rr rfl ?_
     refine AZ.ww rfl rfl ?_
     refine AZ.c rfl ?_
     refine AZ.sst rfl rfl ?_
     refine AZ.done ?_
     refine SQ.normal ?_
     refine AW.seq' ?_
     refine AW.region ?_
     iterate 3 refine AO.c ?_
     refine AO.oo ?_
     iterate 4 refine AO.c ?_
     refine AO.nil ?_
     refine SQ.normal ?_
     refine AW.iteB (GL.ev _) (fun h9 => ?_) (fun h9 => ?_)
     ·
      rw [decide_eq_true_eq, ba_eq] at h9
      have he : (⟨((dI l l.length).getD k default).name, (nodeP (secI l l.length).pcs (secI l l.length).bg (whereF l ⟨dropF l l.length, dI l l.length⟩ ((dI l l.length).getD k default).obj ((dI l l.length).getD k default).sym).1).1, (nodeP (secI l l.length).pcs (secI l l.length).bg (whereF l ⟨dropF l l.length, dI l l.length⟩ ((dI l l.length).getD k default).obj ((dI l l.length).getD k default).sym).1).2⟩ : DefD).name = e := h9
      have hnw2 : ∀ y ∈ (namK l (secI l l.length).pcs (secI l l.length).bg (dI l l.length) (k)), y.name ≠ e := fun y hy c => hnw y hy (c.trans he.symm)
      refine AW.seq' ?_
      refine AW.region ?_
      iterate 2 refine AO.c ?_
      refine AO.sst ?_
      refine AO.nil ?_
      refine SQ.normal ?_
      refine AW.seq' ?_
      refine AW.region ?_
      iterate 2 refine AO.c ?_
      refine AO.sst ?_
      refine AO.nil ?_
      refine SQ.normal ?_
      refine AW.region ?_
      refine AO.c ?_
      refine AO.nil ?_
      refine BQ.normal ?_
      refine SQ.normal ?_
      refine AW.region ?_
      refine AO.c ?_
      refine AO.oo ?_
      refine AO.c ?_
      refine AO.nil ?_
      exact AW.backE [.k, .k, .f, .f, .k, .f, .k, .f, .k, .k, .F, .f, .k, .k, .F, .F, .F, .F, .F, .F, .F, .F, .F, .F, .F, .F, .F, .F, .F, .F, .F, .F, .F, .F, .F, .F, .F, .F, .F, .f, .f] (j) (m2 - 1) (k + 1, j + 1, e3 + 1) (by omega) (by (try dsimp only); exact ⟨by omega, by omega⟩) (by first | ((try dsimp only); rw [hsn, fst_yes hnw2 he]; done) | ((try dsimp only); rw [hsn, fst_yes hnw2 he]; rfl)) (by first | ((try dsimp only); rw [hsn, fTo_yes hnw2 he, fAt_yes hnw2 he, List.length_append, List.map_append]; done) | ((try dsimp only); rw [hsn, fTo_yes hnw2 he, fAt_yes hnw2 he, List.length_append, List.map_append]; rfl))
     ·
      rw [decide_eq_false_iff_not, ba_eq] at h9
      have he : (⟨((dI l l.length).getD k default).name, (nodeP (secI l l.length).pcs (secI l l.length).bg (whereF l ⟨dropF l l.length, dI l l.length⟩ ((dI l l.length).getD k default).obj ((dI l l.length).getD k default).sym).1).1, (nodeP (secI l l.length).pcs (secI l l.length).bg (whereF l ⟨dropF l l.length, dI l l.length⟩ ((dI l l.length).getD k default).obj ((dI l l.length).getD k default).sym).1).2⟩ : DefD).name ≠ e := h9
      refine AW.skip ?_
      refine BQ.normal ?_
      refine SQ.normal ?_
      refine AW.region ?_
      refine AO.c ?_
      refine AO.oo ?_
      refine AO.c ?_
      refine AO.nil ?_
      exact AW.backE [.k, .k, .f, .f, .k, .f, .k, .f, .k, .k, .F, .f, .k, .k, .F, .F, .F, .F, .F, .F, .F, .F, .F, .F, .F, .F, .F, .F, .F, .F, .F, .F, .F, .F, .F, .F, .F, .F, .F, .f, .f] (j) (m2 - 1) (k + 1, j + 1, e3 + 1) (by omega) (by (try dsimp only); exact ⟨by omega, by omega⟩) (by first | ((try dsimp only); rw [hsn, fst_no he]; done) | ((try dsimp only); rw [hsn, fst_no he]; rfl)) (by first | ((try dsimp only); rw [hsn, fTo_no he, fAt_no he, List.length_append, List.map_append]; done) | ((try dsimp only); rw [hsn, fTo_no he, fAt_no he, List.length_append, List.map_append]; rfl))
   ·
    have h7 : ¬ (k : Int) < ((dI l l.length).length : Int) := of_decide_eq_false h7
    have hk2 : k = (dI l l.length).length := by omega
    subst hk2
    have hnk := namK_len l (secI l l.length).pcs (secI l l.length).bg (dI l l.length) (dI l l.length).length
    refine AW.exit ?_
    refine SQ.exit <| AW.out <| LU.exit <| BQ.exit ?_
    refine SQ.normal ?_
    refine AW.seq' ?_
    refine AW.seq' ?_
    refine AW.region ?_
    iterate 2 refine AO.c ?_
    refine AO.nil ?_
    refine SQ.normal ?_
    refine AW.iteB (GL.ev _) (fun h10 => ?_) (fun h10 => ?_)
    ·
     have hg : grF l e = (zGr, 5) := by
      rw [Bool.not_eq_true', Option.isSome_eq_false_iff, Option.isNone_iff_eq_none] at h10
      have h10 : (grN l).find? (fun d => decide (d.name = e)) = none := h10
      unfold grF
      rw [if_neg (fun c => c h0), if_neg (fun c => c hz), h10]
     refine AW.seq' ?_
     refine AW.region ?_
     refine AO.c ?_
     refine AO.sst ?_
     refine AO.c ?_
     refine AO.nil ?_
     refine SQ.normal ?_
     refine AW.ret ?_
     refine SQ.ret ?_
     refine Fin.ret (Gh.tellC 0 [.rd 14 (([] : List NodeD).map nodeA), .v (.int .i64 (0)), .v (.int .i64 (0)), .rd 3 (([] : List DefD).map defA)]) noid2 ?_
     rw [hg]; rfl
    ·
     have hg : grF l e = (⟨(ndA l).map (setE l), fTo (grN l) e, fAt (grN l) e, grN l⟩, 0) := by
      rw [Bool.not_eq_false', Option.isSome_iff_exists] at h10
      obtain ⟨d, h10⟩ := h10
      have h10 : (grN l).find? (fun d => decide (d.name = e)) = some d := h10
      unfold grF fTo fAt fst12
      rw [if_neg (fun c => c h0), if_neg (fun c => c hz), h10]
     refine AW.skip ?_
     refine SQ.normal ?_
     refine AW.seq' ?_
     refine AW.ghost (Gh.freezeC 3 0 (by simp) (by simp; omega)) ?_
     refine AW.ghost (Gh.freezeC 3 3 (by simp) (by simp; omega)) ?_
     refine AW.region ?_
     refine AO.c ?_
     refine AO.sst ?_
     refine AO.c ?_
     refine AO.nil ?_
     refine SQ.normal ?_
     refine AW.ret ?_
     refine Fin.ret (Gh.refl) noid2 ?_
     rw [hg]; rfl
@[reducible] def nmT1 : ByteArray := ⟨#[46, 116, 101, 120, 116]⟩
@[reducible] def nmF1 : ByteArray := ⟨#[102]⟩
@[reducible] def nmG1 : ByteArray := ⟨#[103]⟩
@[reducible] def codeS (l : List RelD) : SecD := ⟨nmT1, 1, 6, 1, 0, 0, 8, [195, 0, 0, 0, 0, 0, 0, 0], l⟩
@[reducible] def rG : RelD := ⟨0, 1, 1, 3⟩
@[reducible] def sG1 : SecD := codeS [rG]
@[reducible] def fS : SymD := ⟨nmF1, 1, 0, 1, 0, 0⟩
@[reducible] def oG : ObjD := ⟨[sG1], [zSy, fS], [], false, []⟩
@[reducible] def eG : EdgeD := ⟨0, 1, 3, 0, 0⟩
@[reducible] def nG : NodeD := ⟨0, 1, 0, nmT1, 1, 6, 1, 0, 8, [195, 0, 0, 0, 0, 0, 0, 0], [eG], true, 0, 0⟩
@[reducible] def gG : GraphD := ⟨[nG], 0, 0, [⟨nmF1, 0, 0⟩]⟩
theorem oG_ok : ∀ o ∈ [oG], o.ok := by
 intro o ho;obtain rfl := List.mem_singleton.1 ho;refine ⟨by rw [maxLen_eq]; decide, fun s h => ?_, by rw [maxLen_eq]; decide, fun s h => ?_, by rw [maxLen_eq]; decide, fun s h => (by cases h), by rw [maxLen_eq]; decide, fun s h => (by cases h)⟩
 · obtain rfl := List.mem_singleton.1 h
   refine ⟨by rw [maxLen_eq]; decide, by decide, by decide, by decide, by decide, by decide, by decide, by rw [maxLen_eq]; decide, ?_, by rw [maxLen_eq]; decide, fun r h => ?_⟩
   · unfold Bytes; decide +kernel
   · obtain rfl := List.mem_singleton.1 h
     exact ⟨by decide, by decide, by decide, by decide⟩
 · simp only [List.mem_cons, List.not_mem_nil, or_false] at h
   rcases h with rfl | rfl <;> exact ⟨by rw [maxLen_eq]; decide, by decide, by decide, by decide, by decide, by decide⟩
theorem oG_1 : grF [oG] nmF1 = (gG, 0) := by kernel_rfl
theorem oG_2 : grF [oG] nmG1 = (zGr, 5) := by kernel_rfl
theorem up_B1 : A0 Tryz.prog 6 [.rd 5 ([oG].map objA), .v (.string nmF1)] (fun ret => ret = .tup [.agg (graphA gG), .v (ifV 53 0)]) := by
 have h := graph_Build [oG] oG_ok (by decide +kernel) nmF1;rw [oG_1] at h;exact h
theorem up_B2 : A0 Tryz.prog 6 [.rd 5 ([oG].map objA), .v (.string nmG1)] (fun ret => ret = .tup [.agg (graphA zGr), .v (ifV 53 5)]) := by
 have h := graph_Build [oG] oG_ok (by decide +kernel) nmG1;rw [oG_2] at h;exact h
theorem grF_err {l : List ObjD} {e : ByteArray} (h : (grF l e).2 ≠ 0) : (grF l e).1 = zGr := by
 unfold grF at h ⊢
 split
 · rfl
 · rename_i h1
   rw [if_neg h1] at h
   split
   · rfl
   · rename_i h2
     rw [if_neg h2] at h
     cases hq : (grN l).find? (fun d => decide (d.name = e)) with
     | none => rfl
     | some d => rw [hq] at h; exact absurd rfl h
theorem grF_ok {l : List ObjD} {e : ByteArray} (h : (grF l e).2 = 0) : resE l = 0 ∧ grE l = 0 ∧ ∃ d ∈ grN l, (grF l e).1 = ⟨grG l, d.obj, d.sym, grN l⟩ := by
 unfold grF at h ⊢;by_cases h1 : resE l ≠ 0
 · rw [if_pos h1] at h; exact absurd h h1
 · rw [if_neg h1] at h ⊢
   by_cases h2 : grE l ≠ 0
   · rw [if_pos h2] at h; exact absurd h h2
   · rw [if_neg h2] at h ⊢
     refine ⟨Decidable.not_not.1 h1, Decidable.not_not.1 h2, ?_⟩
     cases hq : (grN l).find? (fun d => decide (d.name = e)) with
     | none => rw [hq] at h; exact absurd h (by show ¬ (5 : Int) = 0; decide)
     | some d => exact ⟨d, List.mem_of_find?_eq_some hq, rfl⟩
theorem law_code12 (l : List RelD) : A0 Tryz.prog 10 [.rd 4 (l.map relA)] (fun ret => ret = .agg (secA (codeS l))) := by
 refine A0.body 6 Tryz.func10 rfl rfl Tryz.ntmps10 fun base n0 => ?_
 refine n2 ?_;refine AO.ww ?_;refine gr ?_;refine AO.rr ?_;refine AO.eq 3 (av' := .rd 1 (bys [195, 0, 0, 0, 0, 0, 0, 0])) rfl ?_;refine go ?_;refine AW.ret ?_;refine Fin.ret (Gh.refl) noid1 ?_
 first | rfl | (simp [packA]; done)
set_option maxHeartbeats 4000000 in
theorem up12  : A0 Tryz.prog 4 [] (fun ret => ret = .v (.bool true)) := by
 refine A0.body 65 Tryz.func4 rfl rfl Tryz.ntmps4 fun base n0 => ?_
 refine AW.seq' ?_
 refine AW.region ?_
 refine AO.c ?_
 refine AO.nil ?_
 refine SQ.normal ?_
 refine AW.seq' ?_
 refine AW.region ?_
 refine AO.c ?_
 refine AO.rr ?_
 refine AO.eq 8 (av' := .rd 4 (([rG] : List RelD).map relA)) rfl ?_
 refine AO.call1 Tryz.func10 rfl rfl (law_code12 [rG]) ?_
 refine AO.rr ?_
 refine AO.eq 10 (av' := .rd 9 (([sG1] : List SecD).map secA)) rfl ?_
 iterate 2 refine AO.c ?_
 refine AO.rr ?_
 refine AO.eq 13 (av' := .rd 6 (([zSy, fS] : List SymD).map symA)) rfl ?_
 refine AO.c ?_
 refine AO.ww ?_
 refine AO.sst ?_
 refine AO.nil ?_
 refine SQ.normal ?_
 refine AW.seq' ?_
 refine AW.region ?_
 refine AO.c ?_
 refine AO.ghost (Gh.tell 16 (.agg (objA oG))) ?_
 refine AO.rr ?_
 refine AO.eq 17 (av' := .rd 5 (([oG] : List ObjD).map objA)) rfl ?_
 refine AO.call1 Tryz.func6 rfl rfl (up_B1) ?_
 iterate 3 refine AO.c ?_
 refine AO.ww ?_
 refine AO.sst ?_
 refine AO.c ?_
 refine AO.nil ?_
 refine SQ.normal ?_
 refine AW.seq' ?_
 refine AW.region ?_
 refine AO.c ?_
 refine AO.ghost (Gh.tell 22 (.agg (objA oG))) ?_
 refine AO.rr ?_
 refine AO.eq 23 (av' := .rd 5 (([oG] : List ObjD).map objA)) rfl ?_
 refine AO.call1 Tryz.func6 rfl rfl (up_B2) ?_
 iterate 3 refine AO.c ?_
 refine AO.ww ?_
 refine AO.sst ?_
 refine AO.c ?_
 refine AO.nil ?_
 refine SQ.normal ?_
 refine AW.seq' ?_
 refine AW.seq' ?_
 refine AW.region ?_
 iterate 5 refine AO.c ?_
 iterate 2 refine AO.gx ?_
 iterate 2 refine AO.c ?_
 iterate 2 refine AO.gx ?_
 refine AO.gxoo ?_
 refine AO.c ?_
 refine AO.nil ?_
 refine SQ.normal ?_
 refine AW.iteB (GL.ev _) (fun h0 => ?_) (fun h0 => ?_)
 ·
  exfalso
  simp at h0
 ·
  skip
  refine AW.skip ?_
  refine SQ.normal ?_
  refine AW.seq' ?_
  refine AW.region ?_
  iterate 2 refine AO.c ?_
  refine AO.o (by decide) ?_
  refine AO.c ?_
  refine AO.eq 43 (av' := .agg (nodeA nG)) rfl ?_
  refine AO.ww ?_
  refine AO.sst ?_
  refine AO.nil ?_
  refine SQ.normal ?_
  refine AW.seq' ?_
  refine AW.region ?_
  iterate 4 refine AO.c ?_
  refine AO.eq 47 (av' := .v (.bool true)) (by first | rfl | (simp; done)) ?_
  refine AO.c ?_
  refine AO.gk rfl ?_
  refine AO.c ?_
  refine AO.gk rfl ?_
  refine AO.c ?_
  refine AO.gk rfl ?_
  refine AO.o (by decide) ?_
  refine AO.gk rfl ?_
  refine AO.c ?_
  refine AO.eq 52 (av' := .agg (edgeA eG)) rfl ?_
  refine AO.gk rfl ?_
  refine AO.c ?_
  refine AO.gk rfl ?_
  refine AO.c ?_
  refine AO.eq 54 (av' := .v (.bool true)) (by first | rfl | (simp; done)) ?_
  refine AO.pt rfl ?_
  refine AO.c ?_
  refine AO.gk rfl ?_
  refine AO.c ?_
  refine AO.gk rfl ?_
  refine AO.c ?_
  refine AO.eq 58 (av' := .v (.bool true)) (by first | rfl | (simp; done)) ?_
  refine AO.pt rfl ?_
  refine AO.c ?_
  refine AO.gk rfl ?_
  refine AO.c ?_
  refine AO.gk rfl ?_
  refine AO.c ?_
  refine AO.gk rfl ?_
  refine AO.c ?_
  refine AO.eq 63 (av' := .v (.bool true)) (by first | rfl | (simp; done)) ?_
  refine AO.pt rfl ?_
  refine AO.c ?_
  refine AO.nil ?_
  refine SQ.normal ?_
  refine AW.ret ?_
  refine Fin.ret (Gh.refl) noid1 ?_
  first | rfl | (simp [packA]; done)
theorem firE_rng {α : Type} {f : α → Int} (hf : ∀ a, 0 ≤ f a ∧ f a ≤ 8) : ∀ l : List α, 0 ≤ firE f l ∧ firE f l ≤ 8 := by
 intro l
 induction l with
 | nil => exact ⟨Int.le_refl 0, (by decide : (0 : Int) ≤ 8)⟩
 | cons a l ih =>
  rw [firE]
  split
  · exact hf a
  · exact ih
theorem relE_rng (l : List ObjD) (P : List ((Int × Int) × List (Int × Int))) (B : List ((Int × Int) × Int)) (o : Int) (r : RelD) : 0 ≤ relE l P B o r ∧ relE l P B o r ≤ 8 := by
 unfold relE
 split
 · exact whereF_rng _ _ _ _
 · split <;> exact ⟨by decide, by decide⟩
theorem grF_rng (l : List ObjD) (e : ByteArray) : 0 ≤ (grF l e).2 ∧ (grF l e).2 ≤ 8 := by
 unfold grF
 split
 · exact resE_rng l
 · split
   · exact firE_rng (fun x => firE_rng (fun r => relE_rng l _ _ _ r) _) _
   · split
     · exact ⟨(by decide : (0 : Int) ≤ 5), (by decide : (5 : Int) ≤ 8)⟩
     · exact ⟨Int.le_refl 0, (by decide : (0 : Int) ≤ 8)⟩
structure GrB (g : GraphD) : Prop where
 nd : g.nodes.length ≤ 6000000
 nm : g.names.length ≤ 1024
 ed : ∀ x ∈ g.nodes, x.edges.length ≤ 1000000 ∧ x.data.length ≤ 1000000
theorem grF_B {l : List ObjD} (hok : ∀ o ∈ l, o.ok) (hf : fewB l = true) (e : ByteArray) : GrB (grF l e).1 := by
 by_cases h : (grF l e).2 = 0
 · obtain ⟨h1, h2, d, _, h4⟩ := grF_ok h
   have hm := resE_0 h1;have hw := graph_w hok hf hm;rw [h4];refine ⟨?_, grN_len hw.rw_, fun x hx => ?_⟩
   · show (grG l).length ≤ _
     unfold grG; rw [List.length_map]; exact (ndA_len hw).1
   · have hF := node_f hok hf hm h2 hx
     refine ⟨by rw [hF.ed, List.length_map]; have := hF.rl; omega, ?_⟩;rcases hF.ty with h | h
     · rw [(hF.d1 h).1, List.length_take, List.length_drop]; have := hF.dl; omega
     · rw [hF.d8 h]; exact Nat.zero_le _
 · rw [grF_err h]
   exact ⟨Nat.zero_le _, Nat.zero_le _, fun x hx => (by cases hx)⟩
set_option maxHeartbeats 8000000 in
theorem ref_SameNode (x : NodeD) (he : x.edges.length ≤ 1000000) (hd : x.data.length ≤ 1000000) : A0 Tryz.prog 22 [.agg (nodeA x), .agg (nodeA x)] (fun ret => ret = .v (.bool true)) := by
 refine A0.body 122 Tryz.func22 rfl rfl Tryz.ntmps22 fun base n0 => ?_
 refine go ?_;refine AW.iteB (GL.ev _) (fun h0 => ?_) (fun h0 => ?_)
 ·
  exfalso
  simp at h0
 ·
  refine go ?_;refine AW.iteB (GL.ev _) (fun h1 => ?_) (fun h1 => ?_)
  ·
   exfalso
   simp at h1
  ·
   refine go ?_;refine AW.loopU [.f, .f, .k, .k, .f, .k, .F, .F, .F, .F, .F, .F, .F, .F, .F, .F, .F, .F, .F, .F, .f, .f, .f, .f] (fun (i : Nat) => [(5, .v (.int .i64 (i)))]) (fun i => Hn n0 [some (.box 56 (nodeA x)), some (.box 56 (nodeA x))]) (fun m i => i ≤ x.edges.length ∧ m = x.edges.length - i) (x.edges.length) (0) ⟨by omega, by omega⟩ cr cr ?_;rintro m0 i ⟨hx1, hx2⟩
   refine go ?_;refine AW.iteB (GL.ev _) (fun h2 => ?_) (fun h2 => ?_)
   ·
    try simp only [Bool.and_eq_true, Bool.or_eq_true, Bool.not_eq_true', Bool.and_eq_false_iff, Bool.or_eq_false_iff, decide_eq_true_eq, decide_eq_false_iff_not, bys_length] at h2
    refine go ?_;refine AW.drawsZ [] (.one 0 false (.one 1 false (.one 2 false (.one 3 false (.one 4 false (.one 5 false (.one 6 false (.one 7 false (.one 8 false (.one 9 false (.one 10 false .nil))))))))))) (by kernel_rfl) rfl (by kernel_rfl) ?_;refine gz ?_;refine AZ.done ?_;refine SQ.normal ?_;refine AW.iteB (GL.ev _) (fun h3 => ?_) (fun h3 => ?_)
    ·
     exfalso
     simp at h3
    ·
     refine AW.skip <|BQ.normal ?_;refine go ?_;exact AW.backU [.f, .f, .k, .k, .f, .k, .F, .F, .F, .F, .F, .F, .F, .F, .F, .F, .F, .F, .F, .F, .f, .f, .f, .f] (m0 - 1) (i + 1) (by omega) c2 cr cr
   ·
    try simp only [Bool.and_eq_true, Bool.or_eq_true, Bool.not_eq_true', Bool.and_eq_false_iff, Bool.or_eq_false_iff, decide_eq_true_eq, decide_eq_false_iff_not, bys_length] at h2
    refine AW.exit <|SQ.exit <|AW.out <|LU.exit <|BQ.exit ?_;refine go ?_;refine AW.ret ?_;refine Fin.ret (Gh.refl) noid1 ?_
    first | rfl | (simp [packA]; done)
set_option maxHeartbeats 8000000 in
theorem ref_Same12 (g : GraphD) (hg : GrB g) : A0 Tryz.prog 8 [.agg (graphA g), .agg (graphA g)] (fun ret => ret = .v (.bool true)) := by
 have hg1 := hg.nd;have hg2 := hg.nm;refine A0.body 76 Tryz.func8 rfl rfl Tryz.ntmps8 fun base n0 => ?_
 refine go ?_;refine AW.iteB (GL.ev _) (fun h0 => ?_) (fun h0 => ?_)
 ·
  exfalso
  simp at h0
 ·
  refine go ?_;refine AW.loopU [.f, .f, .k, .k, .f, .k, .F, .F, .F, .F, .F, .F, .F, .F, .f, .f, .f, .f, .f, .f] (fun (i : Nat) => [(5, .v (.int .i64 (i)))]) (fun i => Hn n0 [some (.box 28 (graphA g)), some (.box 28 (graphA g))]) (fun m i => i ≤ g.nodes.length ∧ m = g.nodes.length - i) (g.nodes.length) (0) ⟨by omega, by omega⟩ cr cr ?_;rintro m0 i ⟨hx1, hx2⟩
  refine go ?_;refine AW.iteB (GL.ev _) (fun h1 => ?_) (fun h1 => ?_)
  ·
   rw [decide_eq_true_eq] at h1;have hi : i < g.nodes.length := by omega
   refine go ?_;refine AW.drawsZ [] (.one 0 false (.one 1 false (.one 2 false (.one 3 false (.one 4 false (.one 5 false (.one 6 false (.one 7 false (.one 8 false (.one 9 false (.one 10 true (.one 11 false .nil)))))))))))) (by kernel_rfl) rfl (by kernel_rfl) ?_;refine gz ?_
   refine AZ.call1 rfl Tryz.func22 rfl rfl (ref_SameNode (g.nodes.getD i default) (hg.ed _ (getD_in hi)).1 (hg.ed _ (getD_in hi)).2) ?_;refine AZ.c rfl ?_;refine AZ.done ?_;refine go ?_;refine AW.iteB (GL.ev _) (fun h2 => ?_) (fun h2 => ?_)
   ·
    exfalso
    simp at h2
   ·
    refine AW.skip <|BQ.normal ?_;refine go ?_;exact AW.backU [.f, .f, .k, .k, .f, .k, .F, .F, .F, .F, .F, .F, .F, .F, .f, .f, .f, .f, .f, .f] (m0 - 1) (i + 1) (by omega) c2 cr cr
  ·
   refine AW.exit <|SQ.exit <|AW.out <|LU.exit <|BQ.exit ?_;refine go ?_;refine AW.loopU [.f, .f, .k, .k, .f, .f, .f, .k, .F, .F, .F, .F, .F, .F, .F, .F, .f, .f, .f, .f] (fun (i : Nat) => [(7, .v (.int .i64 (i)))]) (fun i => Hn n0 [some (.box 28 (graphA g)), some (.box 28 (graphA g))]) (fun m i => i ≤ g.names.length ∧ m = g.names.length - i) (g.names.length) (0) ⟨by omega, by omega⟩ cr cr ?_
   rintro m1 i ⟨hy1, hy2⟩
   refine go ?_;refine AW.iteB (GL.ev _) (fun h3 => ?_) (fun h3 => ?_)
   ·
    try simp only [Bool.and_eq_true, Bool.or_eq_true, Bool.not_eq_true', Bool.and_eq_false_iff, Bool.or_eq_false_iff, decide_eq_true_eq, decide_eq_false_iff_not, bys_length] at h3
    refine go ?_;refine AW.drawsZ [] (.one 0 false (.one 1 false (.one 2 false (.one 3 false (.one 4 false (.one 5 false (.one 6 false (.one 7 false (.one 8 false (.one 9 false (.one 10 false .nil))))))))))) (by kernel_rfl) rfl (by kernel_rfl) ?_;refine gz ?_;refine AZ.done ?_;refine SQ.normal ?_;refine AW.iteB (GL.ev _) (fun h4 => ?_) (fun h4 => ?_)
    ·
     exfalso
     simp at h4
    ·
     refine AW.skip <|BQ.normal ?_;refine go ?_;exact AW.backU [.f, .f, .k, .k, .f, .f, .f, .k, .F, .F, .F, .F, .F, .F, .F, .F, .f, .f, .f, .f] (m1 - 1) (i + 1) (by omega) c2 cr cr
   ·
    try simp only [Bool.and_eq_true, Bool.or_eq_true, Bool.not_eq_true', Bool.and_eq_false_iff, Bool.or_eq_false_iff, decide_eq_true_eq, decide_eq_false_iff_not, bys_length] at h3
    refine AW.exit <|SQ.exit <|AW.out <|LU.exit <|BQ.exit ?_;refine go ?_;refine AW.ret ?_;refine Fin.ret (Gh.refl) noid1 ?_
    first | rfl | (simp [packA]; done)
set_option maxHeartbeats 8000000 in
theorem graph_Builds (l : List ObjD) (hl : l.length ≤ 9223372036854775807) (hok : ∀ o ∈ l, o.ok) (e : ByteArray) : A0 Tryz.prog 3 [.rd 5 (l.map objA), .v (.string e)] (fun ret => ret = .v (.bool true)) := by
 refine A0.body 41 Tryz.func3 rfl rfl Tryz.ntmps3 fun base n0 => ?_
 refine AW.seq' ?_
 refine AW.region ?_
 refine AO.c ?_
 refine AO.nil ?_
 refine SQ.normal ?_
 refine AW.seq' ?_
 refine AW.region ?_
 refine AO.call1 Tryz.func4 rfl rfl (up12) ?_
 refine AO.c ?_
 refine AO.nil ?_
 refine SQ.normal ?_
 refine AW.seq' ?_
 refine AW.seq' ?_
 refine AW.region ?_
 refine AO.c ?_
 refine AO.call1 Tryz.func5 rfl rfl (law_Few l hl hok) ?_
 refine AO.c ?_
 refine AO.nil ?_
 refine SQ.normal ?_
 refine AW.iteB (GL.ev _) (fun h0 => ?_) (fun h0 => ?_)
 ·
  skip
  refine AW.seq' ?_
  refine AW.region ?_
  iterate 2 refine AO.c ?_
  refine AO.nil ?_
  refine SQ.normal ?_
  refine AW.ret ?_
  refine SQ.ret ?_
  refine Fin.ret (Gh.refl) noid1 ?_
  first | rfl | (simp [packA]; done)
 ·
  have hf := small_tt h0
  refine AW.skip ?_
  refine SQ.normal ?_
  refine AW.seq' ?_
  refine AW.region ?_
  iterate 2 refine AO.c ?_
  refine AO.call1 Tryz.func6 rfl rfl (graph_Build l hok hf e) ?_
  iterate 3 refine AO.c ?_
  refine AO.ww ?_
  refine AO.sst ?_
  refine AO.c ?_
  refine AO.nil ?_
  refine SQ.normal ?_
  refine AW.seq' ?_
  refine AW.region ?_
  iterate 2 refine AO.c ?_
  refine AO.call1 Tryz.func7 rfl rfl (ref_Build12 l hok hf e) ?_
  iterate 3 refine AO.c ?_
  refine AO.ww ?_
  refine AO.sst ?_
  refine AO.c ?_
  refine AO.nil ?_
  refine SQ.normal ?_
  refine AW.seq' ?_
  refine AW.region ?_
  iterate 2 refine AO.c ?_
  refine AO.call1 Tryz.func8 rfl rfl (ref_Same12 _ (grF_B hok hf e)) ?_
  refine AO.c ?_
  refine AO.nil ?_
  refine SQ.normal ?_
  refine AW.seq' ?_
  refine AW.region ?_
  iterate 2 refine AO.c ?_
  refine AO.gx ?_
  iterate 2 refine AO.c ?_
  refine AO.gx ?_
  refine AO.gxcall1 Tryz.func9 rfl rfl (fun hgd => law_Code (grF l e).2 (grF_rng l e)) ?_
  iterate 2 refine AO.gx ?_
  iterate 2 refine AO.c ?_
  refine AO.nil ?_
  refine SQ.normal ?_
  refine AW.ret ?_
  refine Fin.ret (Gh.refl) noid1 ?_
  first | rfl | (simp [packA]; done)
theorem args_GraphBuilds {avs : List AV} (h : TArgs Tryz.prog [22, 9] avs) : A0 Tryz.prog 3 avs (fun ret => ret = .v (.bool true)) := by
 obtain ⟨av1, b1, rfl, k1, h1⟩ := TArgs.inv_one rfl h;obtain ⟨av2, b2, rfl, k2, h2⟩ := TArgs.inv_one rfl h1;obtain rfl := TArgs.inv_nil h2;obtain ⟨l, rfl, hl, hok⟩ := ta_objs k1;obtain ⟨n2, e2, _⟩ := k2.inv_str;cases e2;exact graph_Builds l hl hok n2
end Go.Proofs.YtkbbcenjklaglaaGreat.AL
