/- A part of the proof: rules of an own logic over blocks, and what functions of the program compute, each by its own contract; the conditions stand with each. -/
import Derived.Test.YtkbbcenjklaglaaGreatCd
import Derived.Test.YtkbbcenjklaglaaGreatCi
namespace Go.Proofs.YtkbbcenjklaglaaGreat.AL
open Go Go.RowKit Go.Proofs.YtkbbcenjklaglaaGreat.Base
set_option linter.unusedVariables false
set_option linter.unusedSimpArgs false
set_option maxRecDepth 4000
set_option synthInstance.maxSize 1000
set_option synthInstance.maxHeartbeats 200000
def relsX (l : List ObjD) (x : NodeD) : List RelD := ((l.getD x.obj.toNat default).secs.getD (x.sec - 1).toNat default).rels
def relE (l : List ObjD) (P : List ((Int × Int) × List (Int × Int))) (B : List ((Int × Int) × Int)) (o : Int) (r : RelD) : Int :=
 if (whereF l ⟨dropF l l.length, dI l l.length⟩ o r.sym).2 ≠ 0 then (whereF l ⟨dropF l l.length, dI l l.length⟩ o r.sym).2
 else if (whereF l ⟨dropF l l.length, dI l l.length⟩ o r.sym).1.sec > 0 ∧ (nodeP P B (whereF l ⟨dropF l l.length, dI l l.length⟩ o r.sym).1).1 < 0 then 6 else 0
def relT (l : List ObjD) (P : List ((Int × Int) × List (Int × Int))) (B : List ((Int × Int) × Int)) (o : Int) (r : RelD) : EdgeD :=
 if (whereF l ⟨dropF l l.length, dI l l.length⟩ o r.sym).1.sec > 0 then ⟨r.off, r.typ, r.add, (nodeP P B (whereF l ⟨dropF l l.length, dI l l.length⟩ o r.sym).1).1, (nodeP P B (whereF l ⟨dropF l l.length, dI l l.length⟩ o r.sym).1).2⟩
 else ⟨r.off, r.typ, r.add, -1, (whereF l ⟨dropF l l.length, dI l l.length⟩ o r.sym).1.at_⟩
def firE {α : Type} (f : α → Int) : List α → Int
 | [] => 0
 | a :: l => if f a ≠ 0 then f a else firE f l
theorem firE_zero {α : Type} [Inhabited α] {f : α → Int} : ∀ {l : List α}, (∀ q, q < l.length → f (l.getD q default) = 0) → firE f l = 0 := by
 intro l
 induction l with
 | nil => intro _; rfl
 | cons a l ih =>
  intro h;have h0 : f a = 0 := h 0 (by simp);rw [firE, if_neg (by rw [h0]; decide)];exact ih fun q hq => h (q + 1) (by simpa using hq)
theorem firE_at {α : Type} [Inhabited α] {f : α → Int} : ∀ {l : List α} {k : Nat}, k < l.length → (∀ q, q < k → f (l.getD q default) = 0) → f (l.getD k default) ≠ 0 → firE f l = f (l.getD k default) := by
 intro l
 induction l with
 | nil => intro k hk; exact absurd hk (by simp)
 | cons a l ih =>
  intro k hk h hn
  cases k with
  | zero => rw [firE, if_pos (show f a ≠ 0 from hn)]; rfl
  | succ k =>
   have h0 : f a = 0 := h 0 (by omega);rw [firE, if_neg (by rw [h0]; decide)];exact ih (by simpa using hk) (fun q hq => h (q + 1) (by omega)) hn
def edgF (l : List ObjD) (P : List ((Int × Int) × List (Int × Int))) (B : List ((Int × Int) × Int)) (x : NodeD) : List EdgeD × Int :=
 (if firE (relE l P B x.obj) (relsX l x) = 0 then (relsX l x).map (relT l P B x.obj) else [], firE (relE l P B x.obj) (relsX l x))
def namK (l : List ObjD) (P : List ((Int × Int) × List (Int × Int))) (B : List ((Int × Int) × Int)) (D : List DefD) : Nat → List DefD
 | 0 => []
 | k + 1 => if (whereF l ⟨dropF l l.length, dI l l.length⟩ (D.getD k default).obj (D.getD k default).sym).2 = 0 ∧ (nodeP P B (whereF l ⟨dropF l l.length, dI l l.length⟩ (D.getD k default).obj (D.getD k default).sym).1).1 ≥ 0 then namK l P B D k ++ [⟨(D.getD k default).name, (nodeP P B (whereF l ⟨dropF l l.length, dI l l.length⟩ (D.getD k default).obj (D.getD k default).sym).1).1, (nodeP P B (whereF l ⟨dropF l l.length, dI l l.length⟩ (D.getD k default).obj (D.getD k default).sym).1).2⟩] else namK l P B D k
theorem namK_len (l : List ObjD) (P : List ((Int × Int) × List (Int × Int))) (B : List ((Int × Int) × Int)) (D : List DefD) : ∀ k, (namK l P B D k).length ≤ k := by
 intro k
 induction k with
 | zero => exact Nat.le_refl _
 | succ k ih =>
  rw [namK]
  split
  · rw [List.length_append]; show _ + 1 ≤ _; omega
  · omega
theorem sym_i64 {l : List ObjD} (hk : LOk l) (o s : Int) : I64 ((l.getD o.toNat default).syms.getD s.toNat default).val := by
 have h0 : I64 0 := by decide
 by_cases h1 : o.toNat < l.length
 · have hok := (hk.ok _ (getD_in h1)).1
   by_cases h2 : s.toNat < (l.getD o.toNat default).syms.length
   · exact (hok.2.2.2.1 _ (getD_in h2)).2.2.2.2.1
   · rw [List.getD_eq_getElem?_getD (l := (l.getD o.toNat default).syms), List.getElem?_eq_none (by omega)]; exact h0
 · rw [List.getD_eq_getElem?_getD (l := l), List.getElem?_eq_none (by omega)]
   exact h0
theorem placeF_i64 {l : List ObjD} (hk : LOk l) (t : TabD) (o s : Int) : I64 (placeF l t o s).1.at_ := by
 have h0 : I64 0 := by decide
 unfold placeF
 split
 · exact sym_i64 hk o s
 · split
   · exact h0
   · exact sym_i64 hk o s
theorem whereF_i64 {l : List ObjD} (hk : LOk l) (t : TabD) (o s : Int) : I64 (whereF l t o s).1.at_ := by
 have h0 : I64 0 := by decide
 unfold whereF
 split
 · exact h0
 · split
   · exact placeF_i64 hk t _ _
   · split
     · exact placeF_i64 hk t _ _
     · split <;> exact h0
theorem Gh.dropZ {base : Cx} {l : List AV} {n j : Nat} {A X T S : List (Option AB)} : Gh base ⟨l, Hn n (((A ++ (X ++ T)) ++ List.replicate j none) ++ S)⟩ ⟨l, Hn n ((A ++ X) ++ List.replicate (T.length + j + S.length) none)⟩ := by
 have h := Gh.dropX (base := base) (l := l) (n := n) (A := A) (X := X) (T := T ++ (List.replicate j none ++ S));have e : (T ++ (List.replicate j none ++ S)).length = T.length + j + S.length := by simp; omega
 rw [e] at h;have e2 : A ++ (X ++ (T ++ (List.replicate j none ++ S))) = ((A ++ (X ++ T)) ++ List.replicate j none) ++ S := by simp [List.append_assoc]
 rw [e2] at h;exact h
theorem edge_snoc {f : RelD → EdgeD} {l : List RelD} {k : Nat} {e : EdgeD} (h : k < l.length) (he : f (l.getD k default) = e) : ((l.take (k + 1)).map f).map edgeA = ((l.take k).map f).map edgeA ++ [edgeA e] ∧ ((l.take (k + 1)).map f).length = ((l.take k).map f).length + 1 := by
 rw [map_take_succ _ h, he, List.map_append, List.length_append];exact ⟨rfl, rfl⟩
@[reducible] def z6 (z0 : Option AB) (z1 : Option AB) (P : List ((Int × Int) × List (Int × Int))) (B : List ((Int × Int) × Int)) (U : List ((Int × Int) × Int)) (l : List ObjD) (n : Nat) (ep : Nat) (N0 : List NodeD) := [z0, z1, some (.map ((P).map (mE kP vP))), some (.map ((B).map (mE kP vI))), some (.map ((U).map (mE kP vI))), some (.box 70 [.rd 5 (l.map objA), .rd 1 ((dropF l l.length).map drA), .rd 3 ((dI l l.length).map defA), .own (n + 6) (ep) 0 (N0).length, .omap (n + 2), .omap (n + 3), .omap (n + 4)]), some (.row 56 14 (ep) ((N0).map nodeA))]
set_option maxHeartbeats 8000000 in
theorem graph_edges (n : Nat) (z0 z1 : Option AB) (l : List ObjD) (hk : LOk l) (hw : ResW l) (N0 : List NodeD) (P : List ((Int × Int) × List (Int × Int))) (B U : List ((Int × Int) × Int)) (hm : MapG P B) (ep : Nat) (X : List (Option AB)) {lx : Nat} [le : LEN X lx] (x : NodeD) (ho : 0 ≤ x.obj ∧ x.obj < l.length) (hs : 1 ≤ x.sec ∧ x.sec ≤ (l.getD x.obj.toNat default).secs.length) (hr : (relsX l x).length ≤ 1000000) : AC Tryz.prog 15 (Hn n ((z6 z0 z1 P B U l n ep N0) ++ X)) [.box (n + 5) 0, .agg (nodeA x)] (fun r H' => ∃ d : Nat, r = .tup [.rd 5 ((edgF l P B x).1.map edgeA), .v (ifV 53 (edgF l P B x).2)] ∧ H' = Hn n (((z6 z0 z1 P B U l n ep N0) ++ X) ++ List.replicate d none)) := by
 have hT := tab_w hk hw
 have hl8 := hw.len
 have hsy := (hw.sy x.obj.toNat (by omega)).2
 refine AC.body 81 Tryz.func15 rfl rfl Tryz.ntmps15 fun base => ?_
 refine AW.seq' ?_
 refine AW.region ?_
 refine AO.ww ?_
 iterate 2 refine AO.c ?_
 refine AO.nil ?_
 refine SQ.normal ?_
 refine AW.seq' ?_
 refine AW.region ?_
 refine AO.c ?_
 refine AO.nil ?_
 refine SQ.normal ?_
 refine AW.seq' ?_
 refine AW.seq' ?_
 refine AW.ghost (Gh.adoptM 6 58 5) ?_
 refine AW.drawsZ [] (.one 0 false (.one 1 false (.one 2 false (.one 3 false (.one 4 false (.one 5 false (.one 6 false (.one 7 false (.one 8 false (.one 9 false (.one 10 false (.one 11 false (.one 12 false (.one 13 false (.one 14 false (.one 15 false (.one 16 false .nil))))))))))))))))) (by kernel_rfl) rfl (by kernel_rfl) ?_
 iterate 6 refine AZ.c rfl ?_
 refine AZ.o rfl (by omega) ?_
 iterate 4 refine AZ.c rfl ?_
 refine AZ.o rfl (by omega) ?_
 refine AZ.o rfl (by omega) ?_
 iterate 2 refine AZ.c rfl ?_
 refine AZ.eq 26 (av' := .rd 4 ((relsX l x).map relA)) rfl ?_
 iterate 2 refine AZ.c rfl ?_
 refine AZ.done ?_
 refine SQ.normal ?_
 refine AW.block' ?_
 refine AW.loopU3 [.k, .f, .f, .k, .f, .f, .k, .F, .F, .f, .f, .f, .k, .k, .k, .F, .F, .F, .F, .F, .F, .f, .f, .f, .f] (fun (k j e2 : Nat) => [(6, .own (n + zadd (0 + 1 + 1 + 1 + 1 + 1 + 1 + 1) (zadd lx (0 + 1))) e2 0 (((relsX l x).take (k)).map (relT l P B x.obj)).length), (28, .v (.int .i64 ((k : Int))))]) (fun k j e2 => Hn n (((((z6 z0 z1 P B U l n ep N0)) ++ (X ++ [some (.box 56 (nodeA x)), some (.row 58 5 (e2) (((((relsX l x).take (k)).map (relT l P B x.obj))).map edgeA))])) ++ List.replicate j none) ++ [])) (fun m k j e2 => (k ≤ (relsX l x).length ∧ m = (relsX l x).length - k) ∧ ∀ q, q < k → relE l P B x.obj ((relsX l x).getD q default) = 0) ((relsX l x).length) (0) (0) (0) ⟨by omega, fun q h => by omega⟩ (by first | rfl | (simp; done)) (by simp) ?_
 rintro m0 k j e2 ⟨hx1, hx2⟩
 refine AW.seq' ?_
 refine AW.region ?_
 refine AO.c ?_
 refine AO.nil ?_
 refine SQ.normal ?_
 refine AW.seq' ?_
 refine AW.iteB (GL.ev _) (fun h0 => ?_) (fun h0 => ?_)
 ·
  rw [decide_eq_true_eq] at h0
  have hk2 : k < (relsX l x).length := by omega
  refine AW.skip ?_
  refine SQ.normal ?_
  refine AW.seq' ?_
  refine AW.block' ?_
  refine AW.seq' ?_
  refine AW.region ?_
  refine AO.oo ?_
  refine AO.c ?_
  refine AO.ww ?_
  refine AO.sst ?_
  refine AO.nil ?_
  refine SQ.normal ?_
  refine AW.seq' ?_
  apply AW.mid
  case h =>
   refine AW.drawsZ [17] (.one 0 false (.one 1 false (.one 2 false (.one 3 false (.one 4 false (.one 5 false (.one 6 false (.one 7 false (.one 8 false (.one 9 false (.one 10 false (.one 11 false (.two 12 16 (.one 13 false (.one 14 false (.pur 15 (.one 16 true (.one 17 true (.one 18 false .nil)))))) (.one 12 true (.one 13 false (.one 14 false (.pur 15 (.one 17 true (.one 18 false .nil))))))))))))))))))) (by kernel_rfl) rfl (by kernel_rfl) ?_
   iterate 12 refine AZ.c rfl ?_
   refine AZ.two ?_ ?_
   · refine AZi.call1 rfl Tryz.func31 rfl rfl (names_Where l ⟨dropF l l.length, dI l l.length⟩ x.obj ((relsX l x).getD k default).sym hT) ?_
     iterate 2 refine AZ.c rfl ?_
     refine AZ.p rfl ?_
     refine AZ.mkk rfl ?_
     refine AZ.sst rfl rfl ?_
     refine AZ.c rfl ?_
     exact AZ.done ⟨rfl, rfl⟩
   · refine AZi.mkk rfl ?_
     refine AZ.call1 rfl Tryz.func31 rfl rfl (names_Where l ⟨dropF l l.length, dI l l.length⟩ x.obj ((relsX l x).getD k default).sym hT) ?_
     iterate 2 refine AZ.c rfl ?_
     refine AZ.p rfl ?_
     refine AZ.sst rfl rfl ?_
     refine AZ.c rfl ?_
     exact AZ.done ⟨rfl, rfl⟩
  refine SQ.normal ?_
  refine AW.seq' ?_
  refine AW.seq' ?_
  refine AW.region ?_
  iterate 2 refine AO.c ?_
  refine AO.nil ?_
  refine SQ.normal ?_
  refine AW.iteB (GL.ev _) (fun h1 => ?_) (fun h1 => ?_)
  ·
   rw [decide_eq_true_eq] at h1
   have hre : relE l P B x.obj ((relsX l x).getD k default) = (whereF l ⟨dropF l l.length, dI l l.length⟩ x.obj ((relsX l x).getD k default).sym).2 := by unfold relE; rw [if_pos h1]
   have hf := firE_at hk2 hx2 (by rw [hre]; exact h1)
   have he : edgF l P B x = ([], (whereF l ⟨dropF l l.length, dI l l.length⟩ x.obj ((relsX l x).getD k default).sym).2) := by unfold edgF; rw [hf, hre, if_neg h1]
   refine AW.seq' ?_
   refine AW.region ?_
   iterate 3 refine AO.c ?_
   refine AO.nil ?_
   refine SQ.normal ?_
   refine AW.ret ?_
   refine SQ.ret <| BQ.ret <| SQ.ret <| AW.out <| LU.ret <| BQ.ret <| SQ.ret ?_
   refine FinC.ret (Gh.trans (Gh.nilM (α := EdgeD) 4 5 edgeA) Gh.dropZ) ⟨_, ?_, rfl⟩ (.inr rfl)
   rw [he]; rfl
  ·
   rw [decide_eq_false_iff_not, ne_eq, Decidable.not_not] at h1
   refine AW.skip ?_
   refine SQ.normal ?_
   refine AW.seq' ?_
   refine AW.region ?_
   iterate 9 refine AO.c ?_
   refine AO.ww ?_
   refine AO.sst ?_
   refine AO.nil ?_
   refine SQ.normal ?_
   refine AW.seq' ?_
   refine AW.seq' ?_
   refine AW.region ?_
   iterate 3 refine AO.c ?_
   refine AO.nil ?_
   refine SQ.normal ?_
   refine AW.iteB (GL.ev _) (fun h2 => ?_) (fun h2 => ?_)
   ·
    rw [decide_eq_true_eq] at h2
    refine AW.seq' ?_
    refine AW.region ?_
    iterate 2 refine AO.c ?_
    refine AO.callL (H2 := Hn n (((((z6 z0 z1 P B U l n ep N0)) ++ (X ++ [some (.box 56 (nodeA x)), some (.row 58 5 (e2) (((((relsX l x).take (k)).map (relT l P B x.obj))).map edgeA))])) ++ List.replicate j none) ++ ([some (.box 44 (relA ((relsX l x).getD k default))), some (.box 107 (plcA (whereF l ⟨dropF l l.length, dI l l.length⟩ x.obj ((relsX l x).getD k default).sym).1)), some (.box 58 [.v (.int .i64 (((relsX l x).getD k default).off)), .v (.int .i64 (((relsX l x).getD k default).typ)), .v (.int .i64 (((relsX l x).getD k default).add)), .v (.int .i64 (-1)), .v (.int .i64 ((whereF l ⟨dropF l l.length, dI l l.length⟩ x.obj ((relsX l x).getD k default).sym).1.at_))])] ++ [none, none]))) Tryz.func32 rfl rfl (AC.cong (graph_node n z0 z1 l ((dropF l l.length).map drA) ((dI l l.length).map defA) N0 P B U ep (X ++ [some (.box 56 (nodeA x)), some (.row 58 5 (e2) (((((relsX l x).take (k)).map (relT l P B x.obj))).map edgeA))] ++ List.replicate j none ++ [some (.box 44 (relA ((relsX l x).getD k default))), some (.box 107 (plcA (whereF l ⟨dropF l l.length, dI l l.length⟩ x.obj ((relsX l x).getD k default).sym).1)), some (.box 58 [.v (.int .i64 (((relsX l x).getD k default).off)), .v (.int .i64 (((relsX l x).getD k default).typ)), .v (.int .i64 (((relsX l x).getD k default).add)), .v (.int .i64 (-1)), .v (.int .i64 ((whereF l ⟨dropF l l.length, dI l l.length⟩ x.obj ((relsX l x).getD k default).sym).1.at_))])]) (whereF l ⟨dropF l l.length, dI l l.length⟩ x.obj ((relsX l x).getD k default).sym).1 (whereF_i64 hk _ _ _) hm) (by simp) (fun r H' h => ⟨h.1, h.2.trans (by simp)⟩)) ?_
    iterate 4 refine AO.c ?_
    refine AO.sst ?_
    refine AO.c ?_
    refine AO.sst ?_
    refine AO.nil ?_
    refine SQ.normal ?_
    refine AW.seq' ?_
    refine AW.region ?_
    iterate 3 refine AO.c ?_
    refine AO.nil ?_
    refine SQ.normal ?_
    refine AW.iteB (GL.ev _) (fun h3 => ?_) (fun h3 => ?_)
    ·
     rw [decide_eq_true_eq] at h3
     have hre : relE l P B x.obj ((relsX l x).getD k default) = 6 := by unfold relE; rw [if_neg (fun c => c h1), if_pos ⟨h2, h3⟩]
     have hf := firE_at hk2 hx2 (by rw [hre]; decide)
     have he : edgF l P B x = ([], 6) := by unfold edgF; rw [hf, hre, if_neg (by decide)]
     refine AW.seq' ?_
     refine AW.region ?_
     iterate 3 refine AO.c ?_
     refine AO.nil ?_
     refine SQ.normal ?_
     refine AW.ret ?_
     refine SQ.ret <| BQ.ret <| SQ.ret <| AW.out <| LU.ret <| BQ.ret <| SQ.ret ?_
     refine FinC.ret (Gh.trans (Gh.nilM (α := EdgeD) 4 5 edgeA) Gh.dropZ) ⟨_, ?_, rfl⟩ (.inr rfl)
     rw [he]; rfl
    ·
     rw [decide_eq_false_iff_not] at h3
     have hre : relE l P B x.obj ((relsX l x).getD k default) = 0 := by unfold relE; rw [if_neg (fun c => c h1), if_neg (fun c => h3 c.2)]
     have hal : ∀ q, q < k + 1 → relE l P B x.obj ((relsX l x).getD q default) = 0 := fun q hq => by
      by_cases e : q = k
      · rw [e]; exact hre
      · exact hx2 q (by omega)
     have hsn := edge_snoc (f := relT l P B x.obj) hk2 (show relT l P B x.obj ((relsX l x).getD k default) = ⟨((relsX l x).getD k default).off, ((relsX l x).getD k default).typ, ((relsX l x).getD k default).add, (nodeP P B (whereF l ⟨dropF l l.length, dI l l.length⟩ x.obj ((relsX l x).getD k default).sym).1).1, (nodeP P B (whereF l ⟨dropF l l.length, dI l l.length⟩ x.obj ((relsX l x).getD k default).sym).1).2⟩ by unfold relT; rw [if_pos h2])
     refine AW.skip ?_
     refine SQ.normal ?_
     refine AW.region ?_
     iterate 2 refine AO.c ?_
     refine AO.rr ?_
     refine AO.ww ?_
     refine AO.c ?_
     refine AO.nil ?_
     refine BQ.normal ?_
     refine SQ.normal ?_
     refine AW.region ?_
     refine AO.oo ?_
     refine AO.c ?_
     refine AO.nil ?_
     exact AW.backE [.k, .f, .f, .k, .f, .f, .k, .F, .F, .f, .f, .f, .k, .k, .k, .F, .F, .F, .F, .F, .F, .f, .f, .f, .f] (j) (m0 - 1) (k + 1, j + 5, e2 + 1) (by omega) (by (try dsimp only); exact ⟨by omega, hal⟩) (by first | ((try dsimp only); rw [hsn.2]; done) | ((try dsimp only); rw [hsn.2]; rfl)) (by first | ((try dsimp only); rw [hsn.1]; done) | ((try dsimp only); rw [hsn.1]; rfl))
   ·
    rw [decide_eq_false_iff_not] at h2
    have hre : relE l P B x.obj ((relsX l x).getD k default) = 0 := by unfold relE; rw [if_neg (fun c => c h1), if_neg (fun c => h2 c.1)]
    have hal : ∀ q, q < k + 1 → relE l P B x.obj ((relsX l x).getD q default) = 0 := fun q hq => by
     by_cases e : q = k
     · rw [e]; exact hre
     · exact hx2 q (by omega)
    have hsn := edge_snoc (f := relT l P B x.obj) hk2 (show relT l P B x.obj ((relsX l x).getD k default) = ⟨((relsX l x).getD k default).off, ((relsX l x).getD k default).typ, ((relsX l x).getD k default).add, -1, (whereF l ⟨dropF l l.length, dI l l.length⟩ x.obj ((relsX l x).getD k default).sym).1.at_⟩ by unfold relT; rw [if_neg h2])
    refine AW.skip ?_
    refine SQ.normal ?_
    refine AW.region ?_
    iterate 2 refine AO.c ?_
    refine AO.rr ?_
    refine AO.ww ?_
    refine AO.c ?_
    refine AO.nil ?_
    refine BQ.normal ?_
    refine SQ.normal ?_
    refine AW.region ?_
    refine AO.oo ?_
    refine AO.c ?_
    refine AO.nil ?_
    exact AW.backE [.k, .f, .f, .k, .f, .f, .k, .F, .F, .f, .f, .f, .k, .k, .k, .F, .F, .F, .F, .F, .F, .f, .f, .f, .f] (j) (m0 - 1) (k + 1, j + 3, e2 + 1) (by omega) (by (try dsimp only); exact ⟨by omega, hal⟩) (by first | ((try dsimp only); rw [hsn.2]; done) | ((try dsimp only); rw [hsn.2]; rfl)) (by first | ((try dsimp only); rw [hsn.1]; done) | ((try dsimp only); rw [hsn.1]; rfl))
 ·
  rw [decide_eq_false_iff_not] at h0
  have hk2 : k = (relsX l x).length := by omega
  subst hk2
  have hz := firE_zero hx2
  have he : edgF l P B x = ((relsX l x).map (relT l P B x.obj), 0) := by unfold edgF; rw [hz, if_pos rfl]
  refine AW.exit ?_
  refine SQ.exit <| AW.out <| LU.exit <| BQ.exit ?_
  refine SQ.normal ?_
  refine AW.seq' ?_
  refine AW.ghost (Gh.freezeM 6 edgeA ((relsX l x).map (relT l P B x.obj)) (by first | rfl | (rw [List.take_length])) (by simp) (by simp; omega)) ?_
  refine AW.region ?_
  iterate 3 refine AO.c ?_
  refine AO.nil ?_
  refine SQ.normal ?_
  refine AW.ret ?_
  refine FinC.ret (Gh.trans (Gh.refl) Gh.dropZ) ⟨_, ?_, rfl⟩ (.inr rfl)
  rw [he]; rfl
theorem nam_snoc {N : List DefD} {x : DefD} {M : List DefD} (h : M = N ++ [x]) : M.map defA = N.map defA ++ [defA x] ∧ M.length = N.length + 1 := by
 subst h; simp
@[reducible] def z7 (z0 : Option AB) (z1 : Option AB) (P : List ((Int × Int) × List (Int × Int))) (B : List ((Int × Int) × Int)) (U : List ((Int × Int) × Int)) (l : List ObjD) (n : Nat) (ep : Nat) (N0 : List NodeD) := [z0, z1, some (.map ((P).map (mE kP vP))), some (.map ((B).map (mE kP vI))), some (.map ((U).map (mE kP vI))), some (.box 70 [.rd 5 (l.map objA), .rd 1 ((dropF l l.length).map drA), .rd 3 ((dI l l.length).map defA), .own (n + 6) (ep) 0 (N0).length, .omap (n + 2), .omap (n + 3), .omap (n + 4)]), some (.row 56 14 (ep) ((N0).map nodeA))]
set_option maxHeartbeats 8000000 in
theorem graph_defined (n : Nat) (z0 z1 : Option AB) (l : List ObjD) (hk : LOk l) (hw : ResW l) (N0 : List NodeD) (P : List ((Int × Int) × List (Int × Int))) (B U : List ((Int × Int) × Int)) (hm : MapG P B) (ep : Nat) (X : List (Option AB)) {lx : Nat} [le : LEN X lx] : AC Tryz.prog 16 (Hn n ((z7 z0 z1 P B U l n ep N0) ++ X)) [.box (n + 5) 0] (fun r H' => ∃ d : Nat, r = .rd 3 (((namK l P B (dI l l.length) ((dI l l.length).length))).map defA) ∧ H' = Hn n (((z7 z0 z1 P B U l n ep N0) ++ X) ++ List.replicate d none)) := by
 have hT := tab_w hk hw
 have hl8 := hw.len
 have hdl := dI_len hw l.length (Nat.le_refl _)
 refine AC.body 56 Tryz.func16 rfl rfl Tryz.ntmps16 fun base => ?_
 refine AW.seq' ?_
 refine AW.region ?_
 refine AO.c ?_
 refine AO.nil ?_
 refine SQ.normal ?_
 refine AW.seq' ?_
 refine AW.region ?_
 refine AO.c ?_
 refine AO.nil ?_
 refine SQ.normal ?_
 refine AW.seq' ?_
 refine AW.seq' ?_
 refine AW.ghost (Gh.adoptM 3 75 3) ?_
 refine AW.region ?_
 iterate 7 refine AO.c ?_
 refine AO.nil ?_
 refine SQ.normal ?_
 refine AW.block' ?_
 refine AW.loopU3 [.k, .f, .f, .k, .F, .f, .f, .k, .k, .k, .F, .F, .F, .F, .f, .f, .f, .f, .f, .f, .f] (fun (k j e2 : Nat) => [(3, .own (n + zadd (0 + 1 + 1 + 1 + 1 + 1 + 1 + 1) (zadd lx (0))) e2 0 (namK l P B (dI l l.length) (k)).length), (16, .v (.int .i64 ((k : Int))))]) (fun k j e2 => Hn n (((((z7 z0 z1 P B U l n ep N0)) ++ (X ++ [some (.row 75 3 (e2) (((namK l P B (dI l l.length) (k))).map defA))])) ++ List.replicate j none) ++ [])) (fun m k j e2 => k ≤ (dI l l.length).length ∧ m = (dI l l.length).length - k) ((dI l l.length).length) (0) (0) (0) ⟨by omega, by omega⟩ (by first | rfl | (simp; done)) (by simp [namK]) ?_
 rintro m0 k j e2 ⟨hx1, hx2⟩
 refine AW.seq' ?_
 refine AW.region ?_
 refine AO.c ?_
 refine AO.nil ?_
 refine SQ.normal ?_
 refine AW.seq' ?_
 refine AW.iteB (GL.ev _) (fun h0 => ?_) (fun h0 => ?_)
 ·
  rw [decide_eq_true_eq] at h0
  have hk2 : k < (dI l l.length).length := by omega
  have hnl := namK_len l P B (dI l l.length) k
  refine AW.skip ?_
  refine SQ.normal ?_
  refine AW.seq' ?_
  refine AW.block' ?_
  refine AW.seq' ?_
  refine AW.region ?_
  refine AO.oo ?_
  refine AO.c ?_
  refine AO.ww ?_
  refine AO.sst ?_
  refine AO.nil ?_
  refine SQ.normal ?_
  refine AW.seq' ?_
  apply AW.mid
  case h =>
   refine AW.drawsZ [17] (.one 0 false (.one 1 false (.one 2 false (.one 3 false (.one 4 false (.one 5 false (.one 6 false (.one 7 false (.one 8 false (.one 9 false (.one 10 false (.one 11 false (.two 12 16 (.one 13 false (.one 14 false (.pur 15 (.one 16 true (.one 17 true (.one 18 false .nil)))))) (.one 12 true (.one 13 false (.one 14 false (.pur 15 (.one 17 true (.one 18 false .nil))))))))))))))))))) (by kernel_rfl) rfl (by kernel_rfl) ?_
   iterate 12 refine AZ.c rfl ?_
   refine AZ.two ?_ ?_
   · refine AZi.call1 rfl Tryz.func31 rfl rfl (names_Where l ⟨dropF l l.length, dI l l.length⟩ ((dI l l.length).getD k default).obj ((dI l l.length).getD k default).sym hT) ?_
     iterate 2 refine AZ.c rfl ?_
     refine AZ.p rfl ?_
     refine AZ.mkk rfl ?_
     refine AZ.sst rfl rfl ?_
     refine AZ.c rfl ?_
     exact AZ.done ⟨rfl, rfl⟩
   · refine AZi.mkk rfl ?_
     refine AZ.call1 rfl Tryz.func31 rfl rfl (names_Where l ⟨dropF l l.length, dI l l.length⟩ ((dI l l.length).getD k default).obj ((dI l l.length).getD k default).sym hT) ?_
     iterate 2 refine AZ.c rfl ?_
     refine AZ.p rfl ?_
     refine AZ.sst rfl rfl ?_
     refine AZ.c rfl ?_
     exact AZ.done ⟨rfl, rfl⟩
  refine SQ.normal ?_
  refine AW.seq' ?_
  refine AW.seq' ?_
  refine AW.region ?_
  iterate 2 refine AO.c ?_
  refine AO.nil ?_
  refine SQ.normal ?_
  refine AW.iteB (GL.ev _) (fun h1 => ?_) (fun h1 => ?_)
  ·
   rw [decide_eq_true_eq] at h1
   have hst : (namK l P B (dI l l.length) (k + 1)) = (namK l P B (dI l l.length) (k)) := by rw [namK, if_neg (fun c => h1 c.1)]
   refine AW.exit ?_
   refine SQ.exit <| BQ.exit ?_
   refine SQ.normal ?_
   refine AW.region ?_
   refine AO.oo ?_
   refine AO.c ?_
   refine AO.nil ?_
   exact AW.backE [.k, .f, .f, .k, .F, .f, .f, .k, .k, .k, .F, .F, .F, .F, .f, .f, .f, .f, .f, .f, .f] (j) (m0 - 1) (k + 1, j + 2, e2) (by omega) (by (try dsimp only); exact ⟨by omega, by omega⟩) (by first | ((try dsimp only); rw [hst]; done) | ((try dsimp only); rw [hst]; rfl)) (by first | ((try dsimp only); rw [hst]; done) | ((try dsimp only); rw [hst]; rfl))
  ·
   rw [decide_eq_false_iff_not, ne_eq, Decidable.not_not] at h1
   refine AW.skip ?_
   refine SQ.normal ?_
   refine AW.seq' ?_
   refine AW.region ?_
   iterate 2 refine AO.c ?_
   refine AO.callL (H2 := Hn n (((((z7 z0 z1 P B U l n ep N0)) ++ (X ++ [some (.row 75 3 (e2) (((namK l P B (dI l l.length) (k))).map defA))])) ++ List.replicate j none) ++ ([some (.box 100 (defA ((dI l l.length).getD k default))), some (.box 107 (plcA (whereF l ⟨dropF l l.length, dI l l.length⟩ ((dI l l.length).getD k default).obj ((dI l l.length).getD k default).sym).1))] ++ [none, none]))) Tryz.func32 rfl rfl (AC.cong (graph_node n z0 z1 l ((dropF l l.length).map drA) ((dI l l.length).map defA) N0 P B U ep (X ++ [some (.row 75 3 (e2) (((namK l P B (dI l l.length) (k))).map defA))] ++ List.replicate j none ++ [some (.box 100 (defA ((dI l l.length).getD k default))), some (.box 107 (plcA (whereF l ⟨dropF l l.length, dI l l.length⟩ ((dI l l.length).getD k default).obj ((dI l l.length).getD k default).sym).1))]) (whereF l ⟨dropF l l.length, dI l l.length⟩ ((dI l l.length).getD k default).obj ((dI l l.length).getD k default).sym).1 (whereF_i64 hk _ _ _) hm) (by simp) (fun r H' h => ⟨h.1, h.2.trans (by simp)⟩)) ?_
   iterate 5 refine AO.c ?_
   refine AO.nil ?_
   refine SQ.normal ?_
   refine AW.seq' ?_
   refine AW.region ?_
   iterate 2 refine AO.c ?_
   refine AO.nil ?_
   refine SQ.normal ?_
   refine AW.iteB (GL.ev _) (fun h2 => ?_) (fun h2 => ?_)
   ·
    rw [decide_eq_true_eq] at h2
    have hsn := nam_snoc (show (namK l P B (dI l l.length) (k + 1)) = (namK l P B (dI l l.length) (k)) ++ [⟨((dI l l.length).getD k default).name, (nodeP P B (whereF l ⟨dropF l l.length, dI l l.length⟩ ((dI l l.length).getD k default).obj ((dI l l.length).getD k default).sym).1).1, (nodeP P B (whereF l ⟨dropF l l.length, dI l l.length⟩ ((dI l l.length).getD k default).obj ((dI l l.length).getD k default).sym).1).2⟩] by rw [namK, if_pos ⟨h1, h2⟩])
    refine AW.region ?_
    iterate 6 refine AO.c ?_
    refine AO.rr ?_
    refine AO.ww ?_
    refine AO.c ?_
    refine AO.nil ?_
    refine BQ.normal ?_
    refine SQ.normal ?_
    refine AW.region ?_
    refine AO.oo ?_
    refine AO.c ?_
    refine AO.nil ?_
    exact AW.backE [.k, .f, .f, .k, .F, .f, .f, .k, .k, .k, .F, .F, .F, .F, .f, .f, .f, .f, .f, .f, .f] (j) (m0 - 1) (k + 1, j + 4, e2 + 1) (by omega) (by (try dsimp only); exact ⟨by omega, by omega⟩) (by first | ((try dsimp only); rw [hsn.2]; done) | ((try dsimp only); rw [hsn.2]; rfl)) (by first | ((try dsimp only); rw [hsn.1]; done) | ((try dsimp only); rw [hsn.1]; rfl))
   ·
    rw [decide_eq_false_iff_not] at h2
    have hst : (namK l P B (dI l l.length) (k + 1)) = (namK l P B (dI l l.length) (k)) := by rw [namK, if_neg (fun c => h2 c.2)]
    refine AW.skip ?_
    refine BQ.normal ?_
    refine SQ.normal ?_
    refine AW.region ?_
    refine AO.oo ?_
    refine AO.c ?_
    refine AO.nil ?_
    exact AW.backE [.k, .f, .f, .k, .F, .f, .f, .k, .k, .k, .F, .F, .F, .F, .f, .f, .f, .f, .f, .f, .f] (j) (m0 - 1) (k + 1, j + 4, e2) (by omega) (by (try dsimp only); exact ⟨by omega, by omega⟩) (by first | ((try dsimp only); rw [hst]; done) | ((try dsimp only); rw [hst]; rfl)) (by first | ((try dsimp only); rw [hst]; done) | ((try dsimp only); rw [hst]; rfl))
 ·
  rw [decide_eq_false_iff_not] at h0
  have hk2 : k = (dI l l.length).length := by omega
  subst hk2
  refine AW.exit ?_
  refine SQ.exit <| AW.out <| LU.exit <| BQ.exit ?_
  refine SQ.normal ?_
  refine AW.seq' ?_
  have hnl := namK_len l P B (dI l l.length) (dI l l.length).length
  refine AW.ghost (Gh.freezeM 3 defA (namK l P B (dI l l.length) ((dI l l.length).length)) rfl rfl (by omega)) ?_
  refine AW.region ?_
  iterate 2 refine AO.c ?_
  refine AO.nil ?_
  refine SQ.normal ?_
  refine AW.ret ?_
  refine FinC.ret (Gh.trans (Gh.refl) Gh.dropZ) ⟨_, ?_, rfl⟩ (.inr rfl)
  rfl
theorem flags_nonneg {n : Int} (h : flagsB n = true) : 0 ≤ n := by
 unfold flagsB at h;rw [decide_eq_true_eq] at h;rcases Int.lt_or_le n 0 with hn | hn
 · have : ∀ l : List Int, l.foldl flagStep n = n := by
    intro l
    induction l with
    | nil => rfl
    | cons a l ih => rw [List.foldl_cons, show flagStep n a = n by unfold flagStep; rw [if_neg (by omega)]]; exact ih
   rw [this] at h; omega
 · exact hn
structure Kinds (s : SecD) : Prop where
 fl : 0 ≤ s.flags
 sz : 0 ≤ s.size ∧ s.size ≤ 2147483647
 ent : 0 ≤ s.ent ∧ s.ent ≤ 16
 mrg : hasF s.flags 16 = true → s.size = s.data.length ∧ (hasF s.flags 32 = true → s.ent = 1 ∧ (s.data.length = 0 ∨ s.data.getD (s.data.length - 1) 0 = 0)) ∧ (hasF s.flags 32 = false → (s.ent = 4 ∨ s.ent = 8 ∨ s.ent = 16) ∧ s.size % s.ent = 0)
 nos : hasF s.flags 16 = false → s.ent = 0 ∧ hasF s.flags 32 = false
theorem kind_facts {s : SecD} (h : kindB s = true) : Kinds s := by
 unfold kindB at h
 cases h0 : (!flagsB s.flags || !alignB s.align || (hasF s.flags 1 && hasF s.flags 4)) with
 | true => rw [h0] at h; cases h
 | false =>
  rw [h0] at h;simp only [cond_false] at h;simp only [Bool.or_eq_false_iff, Bool.not_eq_false'] at h0;have hfl := flags_nonneg h0.1.1
  cases h1 : (decide (s.typ = 1) && (decide (s.size ≠ s.data.length) || decide (s.size > 16384))) with
  | true => rw [h1] at h; cases h
  | false =>
   rw [h1] at h;simp only [cond_false] at h
   cases h2 : (decide (s.typ = 8) && (decide ((s.data.length : Int) > 0) || decide (s.size < 0) || decide (s.size > 2147483647) || !hasF s.flags 1 || hasF s.flags 16)) with
   | true => rw [h2] at h; cases h
   | false =>
    rw [h2] at h;simp only [cond_false] at h
    cases h3 : (decide (s.typ ≠ 1) && decide (s.typ ≠ 8)) with
    | true => rw [h3] at h; cases h
    | false =>
     rw [h3] at h;simp only [cond_false] at h;simp only [Bool.and_eq_false_iff, Bool.or_eq_false_iff, decide_eq_false_iff_not, Bool.not_eq_false'] at h1 h2 h3
     cases h4 : hasF s.flags 16 with
     | false =>
      rw [h4] at h;simp only [Bool.not_false, cond_true, Bool.and_eq_true, decide_eq_true_eq, Bool.not_eq_true'] at h;exact ⟨hfl, by omega, by omega, fun h => (by rw [h4] at h; cases h), fun _ => h⟩
     | true =>
      rw [h4] at h h2;simp only [Bool.not_true, cond_false] at h;have ht : s.typ = 1 := by
       rcases h2 with h2 | h2
       · omega
       · exact absurd h2.2 (by simp)
      have hsz : s.size = s.data.length := by omega
      cases h5 : (hasF s.flags 1 || hasF s.flags 4 || decide ((s.rels.length : Int) > 0)) with
      | true => rw [h5] at h; cases h
      | false =>
       rw [h5] at h;simp only [cond_false] at h
       cases h6 : hasF s.flags 32 with
       | true =>
        rw [h6] at h;simp only [cond_true, Bool.and_eq_true, Bool.or_eq_true, decide_eq_true_eq] at h;refine ⟨hfl, by omega, by omega, fun _ => ⟨hsz, fun _ => ⟨h.1.1, ?_⟩, fun hh => (by rw [h6] at hh; cases hh)⟩, fun hh => (by rw [h4] at hh; cases hh)⟩;rcases h.2 with h7 | h7
        · exact .inl (by omega)
        · rw [show ((s.data.length : Int) - 1).toNat = s.data.length - 1 by omega] at h7
          exact .inr h7
       | false =>
        rw [h6] at h;simp only [cond_false, Bool.and_eq_true, Bool.or_eq_true, decide_eq_true_eq] at h;refine ⟨hfl, by omega, by omega, fun _ => ⟨hsz, fun hh => (by rw [h6] at hh; cases hh), fun _ => ⟨by omega, h.2⟩⟩, fun hh => (by rw [h4] at hh; cases hh)⟩
theorem splitZ_R : ∀ (l : List Int) (a i e : Int), splitZ a i l = splitR true e a i l := by
 intro l
 induction l with
 | nil => intro a i e; rfl
 | cons x l ih => intro a i e; rw [splitZ, splitR]; simp only [if_true]; split <;> rw [ih _ _ e]
theorem splitE_R {e : Int} (he : 0 < e) {len : Int} : ∀ (l : List Int) (a i : Int) (k : Nat), a ≤ i → i < a + e → i + l.length = len → len - a ≤ k → splitE e len k a = splitR false e a i l := by
 intro l
 induction l with
 | nil =>
  intro a i k h1 h2 h3 h4;rw [splitR]
  cases k with
  | zero => rfl
  | succ k => rw [splitE, if_neg (by simp at h3; omega)]
 | cons x l ih =>
  intro a i k h1 h2 h3 h4;rw [splitR];simp only [Bool.false_eq_true, if_false];simp only [List.length_cons] at h3;by_cases h : i + 1 - a = e
  · rw [if_pos h]
    obtain ⟨k, rfl⟩ : ∃ k', k = k' + 1 := ⟨k - 1, by omega⟩;rw [splitE, if_pos (by omega), show a + e = i + 1 by omega, ih (i + 1) (i + 1) k (by omega) (by omega) (by omega) (by omega), h]
  · rw [if_neg h]
    exact ih a (i + 1) k (by omega) (by omega) (by omega) h4
theorem split_same {s : SecD} (hk : Kinds s) : splitB s = splitRB s := by
 unfold splitB splitRB
 cases h : hasF s.flags 16 with
 | false => rfl
 | true =>
  simp only [Bool.true_eq_false, if_false];obtain ⟨h1, h2, h3⟩ := hk.mrg h
  cases h5 : hasF s.flags 32 with
  | true => simp only [if_true]; exact splitZ_R _ _ _ _
  | false =>
   simp only [Bool.false_eq_true, if_false];have := h3 h5;rw [if_pos (by omega)];exact splitE_R (by omega) _ _ _ _ (by omega) (by omega) (by omega) (by omega)
def Cont : Int → List (Int × Int) → Prop
 | _, [] => True
 | a, p :: ps => p.1 = a ∧ 0 ≤ p.2 ∧ Cont (a + p.2) ps
theorem splitR_cont {str : Bool} {e : Int} : ∀ (l : List Int) (a i : Int), a ≤ i → Cont a (splitR str e a i l) ∧ ∀ p ∈ splitR str e a i l, a ≤ p.1 ∧ 0 ≤ p.2 ∧ p.1 + p.2 ≤ i + l.length := by
 intro l
 induction l with
 | nil => intro a i _; exact ⟨trivial, fun p h => by cases h⟩
 | cons x l ih =>
  intro a i h;rw [splitR];simp only [List.length_cons];by_cases hq : (if str = true then x = 0 else i + 1 - a = e)
  · rw [if_pos hq]
    obtain ⟨h1, h2⟩ := ih (i + 1) (i + 1) (Int.le_refl _);refine ⟨⟨rfl, by show 0 ≤ i + 1 - a; omega, by show Cont (a + (i + 1 - a)) _; rw [show a + (i + 1 - a) = i + 1 by omega]; exact h1⟩, fun p hp => ?_⟩;rcases List.mem_cons.1 hp with rfl | hp
    · exact ⟨Int.le_refl _, by show 0 ≤ i + 1 - a; omega, by show a + (i + 1 - a) ≤ _; omega⟩
    · have := h2 p hp; omega
  · rw [if_neg hq]
    obtain ⟨h1, h2⟩ := ih a (i + 1) (by omega);exact ⟨h1, fun p hp => by have := h2 p hp; omega⟩
theorem splitR_len {str : Bool} {e : Int} : ∀ (l : List Int) (a i : Int), (splitR str e a i l).length ≤ l.length := by
 intro l
 induction l with
 | nil => intro a i; exact Nat.le_refl _
 | cons x l ih =>
  intro a i;rw [splitR];have h1 := ih (i + 1) (i + 1);have h2 := ih a (i + 1);by_cases hq : (if str = true then x = 0 else i + 1 - a = e)
  · rw [if_pos hq]; simp only [List.length_cons]; omega
  · rw [if_neg hq]; simp only [List.length_cons]; omega
theorem split_cont {s : SecD} (hk : Kinds s) (hd : s.data.length ≤ 1000000) : Cont 0 (splitRB s) ∧ PcOk (splitRB s) := by
 unfold splitRB
 cases h : hasF s.flags 16 with
 | false =>
  simp only [if_true];have := hk.sz;exact ⟨⟨rfl, hk.sz.1, trivial⟩, by simp, fun p hp => by obtain rfl := List.mem_singleton.1 hp; show 0 ≤ (0 : Int) ∧ (0 : Int) ≤ _ ∧ 0 ≤ s.size ∧ s.size ≤ _; omega⟩
 | true =>
  simp only [Bool.true_eq_false, if_false];obtain ⟨h1, h2⟩ := splitR_cont (str := hasF s.flags 32) (e := s.ent) s.data 0 0 (Int.le_refl _);exact ⟨h1, by have := splitR_len (str := hasF s.flags 32) (e := s.ent) s.data 0 0; omega, fun p hp => by have := h2 p hp; omega⟩
def tot (l : List (Int × Int)) : Int := (l.map (·.2)).sum
theorem tot_cons (p : Int × Int) (l : List (Int × Int)) : tot (p :: l) = p.2 + tot l := by simp [tot]
theorem tot_nonneg : ∀ (l : List (Int × Int)) (a : Int), Cont a l → 0 ≤ tot l := by
 intro l
 induction l with
 | nil => intro a _; simp [tot]
 | cons p l ih => intro a h; rw [tot_cons]; have := ih _ h.2.2; have := h.2.1; omega
theorem cont_at : ∀ (l : List (Int × Int)) (a : Int) (i : Nat), Cont a l → i < l.length → (l.getD i default).1 = a + tot (l.take i) ∧ 0 ≤ (l.getD i default).2 ∧ tot (l.take i) + (l.getD i default).2 ≤ tot l := by
 intro l
 induction l with
 | nil => intro a i _ h; simp at h
 | cons p l ih =>
  intro a i hc h;obtain ⟨h1, h2, h3⟩ := hc;have hn := tot_nonneg l _ h3
  cases i with
  | zero => rw [tot_cons]; simp [tot] at hn ⊢; omega
  | succ i =>
   have := ih _ i h3 (by simpa using h);rw [List.take_succ_cons, tot_cons, tot_cons];simp only [List.getD_cons_succ];omega
theorem tot_str {e : Int} : ∀ (l : List Int) (a i : Int), (l ≠ [] → l.getD (l.length - 1) 1 = 0) → tot (splitR true e a i l) = if l = [] then 0 else i + l.length - a := by
 intro l
 induction l with
 | nil => intro a i _; rfl
 | cons x l ih =>
  intro a i h;have h := h (by simp);rw [splitR, if_neg (List.cons_ne_nil x l)];simp only [if_true, List.length_cons]
  cases l with
  | nil =>
   simp at h;rw [if_pos h]; simp [tot, splitR]
  | cons y l =>
   have hl : (y :: l).getD ((y :: l).length - 1) 1 = 0 := by simpa using h
   have h1 := ih (i + 1) (i + 1) fun _ => hl
   have h2 := ih a (i + 1) fun _ => hl
   rw [if_neg (by simp)] at h1 h2;by_cases hx : x = 0
   · rw [if_pos hx, tot_cons, h1]; simp only [List.length_cons] at *; omega
   · rw [if_neg hx, h2]; simp only [List.length_cons] at *; omega
theorem tot_fix {e : Int} (he : 0 < e) : ∀ (l : List Int) (a i : Int), a ≤ i → i < a + e → (i + l.length - a) % e = 0 → tot (splitR false e a i l) = i + l.length - a := by
 intro l
 induction l with
 | nil =>
  intro a i h1 h2 h3;simp at h3;have : i - a = 0 := by
   have := Int.emod_eq_of_lt (a := i - a) (b := e) (by omega) (by omega);rw [this] at h3; exact h3
  simp [splitR, tot]; omega
 | cons x l ih =>
  intro a i h1 h2 h3;rw [splitR];simp only [Bool.false_eq_true, if_false, List.length_cons] at h3 ⊢;by_cases h : i + 1 - a = e
  · rw [if_pos h, tot_cons, ih (i + 1) (i + 1) (by omega) (by omega)]
    · push_cast; omega
    · rw [show i + ((l.length + 1 : Nat) : Int) - a = (i + 1 + l.length - (i + 1)) + e by push_cast; omega, Int.add_emod_right] at h3
      exact h3
  · rw [if_neg h, ih a (i + 1) (by omega) (by omega)]
    · push_cast; omega
    · rw [show i + ((l.length + 1 : Nat) : Int) - a = i + 1 + l.length - a by push_cast; omega] at h3; exact h3
theorem split_tot {s : SecD} (hk : Kinds s) : tot (splitRB s) = s.size := by
 unfold splitRB
 cases h : hasF s.flags 16 with
 | false => simp [tot]
 | true =>
  simp only [Bool.true_eq_false, if_false];obtain ⟨h1, h2, h3⟩ := hk.mrg h
  cases h5 : hasF s.flags 32 with
  | true =>
   obtain ⟨_, h6⟩ := h2 h5;rw [tot_str _ 0 0 (fun hne => ?_)]
   · split
     · rename_i h7; rw [h1, h7]; rfl
     · rw [h1]; omega
   · rcases h6 with h6 | h6
     · exact absurd (List.length_eq_zero_iff.1 h6) hne
     · have hlt : s.data.length - 1 < s.data.length := by have := List.length_pos_iff.2 hne; omega
       rw [List.getD_eq_getElem?_getD, List.getElem?_eq_getElem hlt] at h6 ⊢;exact h6
  | false =>
   have := h3 h5;rw [tot_fix (by omega) _ 0 0 (by omega) (by omega) (by rw [show (0 : Int) + s.data.length - 0 = s.size by omega]; exact this.2)];omega
theorem bif_t {c : Bool} {x : Bool} (h : (bif c then false else x) = true) : c = false ∧ x = true := by cases c <;> simp_all
structure Kinds2 (s : SecD) : Prop where
 ty : s.typ = 1 ∨ s.typ = 8
 p1 : s.typ = 1 → s.size = s.data.length
 p8 : s.typ = 8 → s.data.length = 0 ∧ hasF s.flags 16 = false
 rl : hasF s.flags 16 = true → s.rels.length = 0
theorem kind_more {s : SecD} (h : kindB s = true) : Kinds2 s := by
 unfold kindB at h;obtain ⟨h0, h⟩ := bif_t h;obtain ⟨h1, h⟩ := bif_t h;obtain ⟨h2, h⟩ := bif_t h;obtain ⟨h3, h⟩ := bif_t h;simp only [Bool.and_eq_false_iff, Bool.or_eq_false_iff, decide_eq_false_iff_not, Bool.not_eq_false'] at h1 h2 h3;refine ⟨by omega, fun ht => by omega, fun ht => ?_, fun hf => ?_⟩
 · rcases h2 with h2 | h2
   · omega
   · exact ⟨by omega, h2.2⟩
 · rw [hf] at h
   simp only [Bool.not_true, cond_false] at h;obtain ⟨h4, _⟩ := bif_t h;simp only [Bool.or_eq_false_iff, decide_eq_false_iff_not] at h4;omega
theorem sec_kind {o : ObjD} (h : shapeB o = true) {k : Nat} (hk : k < o.secs.length) : kindB (o.secs.getD k default) = true ∧ relsB o (o.secs.getD k default) = true := by
 have h1 := (shape_parts h).2.2.1 k hk;unfold sectionB at h1;rw [show ((k : Int) + 1 - 1).toNat = k by omega] at h1;obtain ⟨h2, _⟩ := bif_t h1;simp only [Bool.or_eq_false_iff, Bool.not_eq_false'] at h2;exact ⟨h2.1.2, h2.2⟩
theorem may_shape {l : List ObjD} (hm : AllMay l) {i : Nat} (hi : i < l.length) : shapeB (l.getD i default) = true := by
 have := hm.2 _ (getD_in hi);unfold mayP at this;simp only [Bool.and_eq_true] at this;exact this.1
theorem sec_split {s : SecD} (hk : kindB s = true) (hd : s.data.length ≤ 20000) : Cont 0 (splitB s) ∧ PcOk (splitB s) ∧ (splitB s).length ≤ 20001 ∧ (s.typ = 1 → ∀ p ∈ splitB s, 0 ≤ p.1 ∧ 0 ≤ p.2 ∧ p.1 + p.2 ≤ s.data.length) := by
 have K := kind_facts hk;have K2 := kind_more hk;rw [split_same K];obtain ⟨h1, h2⟩ := split_cont K (by omega);refine ⟨h1, h2, ?_, fun ht => ?_⟩
 · unfold splitRB
   split
   · show 1 ≤ _; omega
   · have := splitR_len (str := hasF s.flags 32) (e := s.ent) s.data 0 0; omega
 · unfold splitRB
   split
   · intro p hp
     obtain rfl := List.mem_singleton.1 hp;have := K2.p1 ht;have := K.sz;show 0 ≤ (0 : Int) ∧ 0 ≤ s.size ∧ 0 + s.size ≤ _
     omega
   · intro p hp
     have := (splitR_cont (str := hasF s.flags 32) (e := s.ent) s.data 0 0 (Int.le_refl _)).2 p hp;omega
theorem graph_w {l : List ObjD} (hok : ∀ o ∈ l, o.ok) (hf : fewB l = true) (hm : AllMay l) : GraphW l := by
 have hk := few_lok hok hf;obtain ⟨f1, f2, f3⟩ := few_W hf;refine ⟨may_res hk hm, fun i hi => ((f2 _ (getD_in hi)).len).2.2.1, fun i k hi hk2 => ?_⟩;have hW := (f2 _ (getD_in hi)).sec _ (getD_in hk2);have hkd := (sec_kind (may_shape hm hi) hk2).1;have K := kind_facts hkd;have h := sec_split hkd hW.1
 exact ⟨(hok _ (getD_in hi)).2.1 _ (getD_in hk2), K.fl, by have := K.ent; omega, hW.1, h.2.2.1, h.2.2.2⟩
def NodeOf (l : List ObjD) (x : NodeD) : Prop := ∃ i k, i < l.length ∧ k < (l.getD i default).secs.length ∧ keptB l i k = true ∧ ∃ p ∈ splitB ((l.getD i default).secs.getD k default), x = secNd i ((k : Int) + 1) ((l.getD i default).secs.getD k default) (sG l i k) p
theorem secK_of {l : List ObjD} {i : Nat} (hi : i < l.length) {st : SecSt} (h : ∀ x ∈ st.nodes, NodeOf l x) : ∀ k, k ≤ (l.getD i default).secs.length → ∀ x ∈ (secK l i st k).nodes, NodeOf l x := by
 intro k
 induction k with
 | zero => intro _; exact h
 | succ k ih =>
  intro hk x hx;rw [secK] at hx
  split at hx
  · rename_i hc
    rcases List.mem_append.1 hx with hx | hx
    · exact ih (by omega) x hx
    · obtain ⟨p, hp, rfl⟩ := List.mem_map.1 hx
      exact ⟨i, k, hi, by omega, hc, p, hp, rfl⟩
  · exact ih (by omega) x hx
theorem secI_of {l : List ObjD} : ∀ i, i ≤ l.length → ∀ x ∈ (secI l i).nodes, NodeOf l x := by
 intro i
 induction i with
 | zero => intro _ x hx; cases hx
 | succ i ih => intro hi; exact secK_of (by omega) (ih (by omega)) _ (Nat.le_refl _)
structure MapI (l : List ObjD) (st : SecSt) : Prop where
 pc : ∀ k ps, aget st.pcs k = some ps → PcOk ps
 bg : ∀ k v, aget st.bg k = some v → 0 ≤ v ∧ v ≤ st.nodes.length
theorem mapI_step {l : List ObjD} {st : SecSt} (h : MapI l st) {o k g : Int} {s : SecD} (hs : PcOk (splitB s)) : MapI l (secStep st o k s g) := by
 unfold secStep;refine ⟨fun q ps hq => ?_, fun q v hq => ?_⟩
 · have hq : aget (aput st.pcs (o, k) (splitB s)) q = some ps := hq
   rw [aget_aput] at hq;by_cases e : (o, k) = q
   · rw [if_pos e] at hq; obtain rfl := Option.some.inj hq; exact hs
   · rw [if_neg e] at hq; exact h.pc q ps hq
 · have hq : aget (aput st.bg (o, k) (st.nodes.length : Int)) q = some v := hq
   rw [aget_aput] at hq;show 0 ≤ v ∧ v ≤ ((st.nodes ++ (splitB s).map (secNd o k s g)).length : Int)
   rw [List.length_append];by_cases e : (o, k) = q
   · rw [if_pos e] at hq; obtain rfl := Option.some.inj hq; omega
   · rw [if_neg e] at hq
     have := h.bg q v hq;omega
theorem secI_map {l : List ObjD} (hm : AllMay l) (hd : ∀ i k, i < l.length → k < (l.getD i default).secs.length → ((l.getD i default).secs.getD k default).data.length ≤ 20000) : ∀ i, i ≤ l.length → MapI l (secI l i) := by
 intro i
 induction i with
 | zero => intro _; exact ⟨fun k ps h => (by cases h), fun k v h => (by cases h)⟩
 | succ i ih =>
  intro hi;have key : ∀ k, k ≤ (l.getD i default).secs.length → MapI l (secK l i (secI l i) k) := by
   intro k
   induction k with
   | zero => intro _; exact ih (by omega)
   | succ k ihk =>
    intro hk;rw [secK]
    split
    · exact mapI_step (ihk (by omega)) (sec_split (sec_kind (may_shape hm (by omega)) (by omega)).1 (hd i k (by omega) (by omega))).2.1
    · exact ihk (by omega)
  exact key _ (Nat.le_refl _)
theorem map_g {l : List ObjD} (hm : AllMay l) (hw : GraphW l) : MapG (secI l l.length).pcs (secI l l.length).bg := by
 have h := secI_map hm (fun i k hi hk => (hw.sec i k hi hk).dat) l.length (Nat.le_refl _);have h2 := secI_len hw l.length (Nat.le_refl _);have h3 := hw.rw_.len;exact ⟨h.pc, fun k v hq => by have := h.bg k v hq; omega⟩
def ndA (l : List ObjD) : List NodeD := (secI l l.length).nodes.map (mrkN (uqI l l.length))
def edX (l : List ObjD) (x : NodeD) : List EdgeD × Int := edgF l (secI l l.length).pcs (secI l l.length).bg x
def setE (l : List ObjD) (x : NodeD) : NodeD := { x with edges := (edX l x).1 }
def edT (l : List ObjD) (i : Nat) : List NodeD := ((ndA l).take i).map (setE l) ++ (ndA l).drop i
def grE (l : List ObjD) : Int := firE (fun x => (edX l x).2) (ndA l)
def grN (l : List ObjD) : List DefD := namK l (secI l l.length).pcs (secI l l.length).bg (dI l l.length) (dI l l.length).length
structure GraphD where
 nodes : List NodeD
 to : Int
 at_ : Int
 names : List DefD
 deriving Inhabited
@[reducible] def graphA (g : GraphD) : List AV := [.rd 14 (g.nodes.map nodeA), .v (.int .i64 g.to), .v (.int .i64 g.at_), .rd 3 (g.names.map defA)]
def zGr : GraphD := ⟨[], 0, 0, []⟩
def grF (l : List ObjD) (e : ByteArray) : GraphD × Int :=
 if resE l ≠ 0 then (zGr, resE l)
 else if grE l ≠ 0 then (zGr, grE l)
 else match (grN l).find? (fun d => decide (d.name = e)) with
  | none => (zGr, 5)
  | some d => (⟨(ndA l).map (setE l), d.obj, d.sym, grN l⟩, 0)
theorem edT_len (l : List ObjD) (i : Nat) : (edT l i).length = (ndA l).length := by unfold edT; simp; omega
theorem edT_get {l : List ObjD} {i : Nat} (h : i < (ndA l).length) : (edT l i)[i]? = some ((ndA l).getD i default) := by
 unfold edT;rw [List.getElem?_append_right (by simp; omega), List.length_map, List.length_take, Nat.min_eq_left (by omega), Nat.sub_self, drop_getD h]; rfl
theorem edT_set {l : List ObjD} {i : Nat} (h : i < (ndA l).length) : (edT l i).set i (setE l ((ndA l).getD i default)) = edT l (i + 1) := by
 unfold edT;rw [map_take_succ _ h, List.set_append_right _ _ (by simp; omega), List.length_map, List.length_take, Nat.min_eq_left (by omega), Nat.sub_self, drop_getD h, List.append_assoc]; rfl
theorem edT_at {l : List ObjD} {i : Nat} (h : i < (ndA l).length) : ((edT l i).map nodeA)[i]? = some (nodeA ((ndA l).getD i default)) := by
 rw [List.getElem?_map, edT_get h]; rfl
theorem edT_row {l : List ObjD} {i : Nat} (h : i < (ndA l).length) : ((edT l i).map nodeA).set i (layAt (((edT l i).map nodeA).getD i []) 10 [.rd 5 ((edX l ((ndA l).getD i default)).1.map edgeA)]) = (edT l (i + 1)).map nodeA := by
 rw [← edT_set h, List.map_set, List.getD_eq_getElem?_getD, edT_at h];rfl
theorem edT_all (l : List ObjD) : edT l (ndA l).length = (ndA l).map (setE l) := by unfold edT; simp
theorem ndA_of {l : List ObjD} {x : NodeD} (hx : x ∈ ndA l) : ∃ y, NodeOf l y ∧ x = mrkN (uqI l l.length) y := by
 unfold ndA at hx;obtain ⟨y, hy, rfl⟩ := List.mem_map.1 hx;exact ⟨y, secI_of l.length (Nat.le_refl _) y hy, rfl⟩
theorem ndA_rng {l : List ObjD} (hw : GraphW l) (hr : ∀ i k, i < l.length → k < (l.getD i default).secs.length → ((l.getD i default).secs.getD k default).rels.length ≤ 1000000) {x : NodeD} (hx : x ∈ ndA l) : (0 ≤ x.obj ∧ x.obj < l.length) ∧ (1 ≤ x.sec ∧ x.sec ≤ (l.getD x.obj.toNat default).secs.length) ∧ (relsX l x).length ≤ 1000000 := by
 obtain ⟨y, ⟨i, k, hi, hk, _, p, hp, rfl⟩, rfl⟩ := ndA_of hx;have e1 : (mrkN (uqI l l.length) (secNd (i : Int) ((k : Int) + 1) ((l.getD i default).secs.getD k default) (sG l i k) p)).obj = (i : Int) := rfl;have e2 : (mrkN (uqI l l.length) (secNd (i : Int) ((k : Int) + 1) ((l.getD i default).secs.getD k default) (sG l i k) p)).sec = (k : Int) + 1 := rfl
 refine ⟨by rw [e1]; omega, by rw [e2, e1, Int.toNat_natCast]; omega, ?_⟩;unfold relsX;rw [e1, e2, Int.toNat_natCast, show ((k : Int) + 1 - 1).toNat = k by omega];exact hr i k hi hk
theorem nodes_flags {l : List ObjD} (hw : GraphW l) : ∀ x ∈ (secI l l.length).nodes, 0 ≤ x.flags ∧ x.flags ≤ 9223372036854775807 := by
 intro x hx;obtain ⟨i, k, hi, hk, _, p, hp, rfl⟩ := secI_of l.length (Nat.le_refl _) x hx;have h := hw.sec i k hi hk;exact ⟨h.fl, h.ok.2.2.1.2⟩
theorem grN_len {l : List ObjD} (hw : ResW l) : (grN l).length ≤ 1024 := by
 have h1 := namK_len l (secI l l.length).pcs (secI l l.length).bg (dI l l.length) (dI l l.length).length;have h2 := dI_len hw l.length (Nat.le_refl _);have h3 := hw.len;unfold grN; omega
theorem ndA_len {l : List ObjD} (hw : GraphW l) : (ndA l).length ≤ 6000000 ∧ (secI l l.length).nodes.length = (ndA l).length := by
 have h1 := secI_len hw l.length (Nat.le_refl _);have h2 := hw.rw_.len;unfold ndA;rw [List.length_map];omega
theorem grF_no {l : List ObjD} {e : ByteArray} (h0 : resE l = 0) (h1 : grE l = 0) (h2 : ∀ q, q < (grN l).length → ((grN l).getD q default).name ≠ e) : grF l e = (zGr, 5) := by
 unfold grF;rw [if_neg (fun c => c h0), if_neg (fun c => c h1)];have h : (grN l).find? (fun d => decide (d.name = e)) = none := by
  rw [List.find?_eq_none];intro x hx;obtain ⟨k, hk, rfl⟩ := List.getElem_of_mem hx;have := h2 k hk;rw [List.getD_eq_getElem?_getD, List.getElem?_eq_getElem hk] at this;rw [decide_eq_true_eq];exact this
 rw [h]
theorem grF_yes {l : List ObjD} {e : ByteArray} {k : Nat} (h0 : resE l = 0) (h1 : grE l = 0) (hk : k < (grN l).length) (h2 : ∀ q, q < k → ((grN l).getD q default).name ≠ e) (h3 : ((grN l).getD k default).name = e) : grF l e = (⟨(ndA l).map (setE l), ((grN l).getD k default).obj, ((grN l).getD k default).sym, grN l⟩, 0) := by
 unfold grF;rw [if_neg (fun c => c h0), if_neg (fun c => c h1)];have h : (grN l).find? (fun d => decide (d.name = e)) = some ((grN l).getD k default) := by
  rw [List.find?_eq_some_iff_getElem];refine ⟨decide_eq_true h3, k, hk, ?_, fun j hj => ?_⟩
  · rw [List.getD_eq_getElem?_getD, List.getElem?_eq_getElem hk]; rfl
  · have := h2 j hj
    rw [List.getD_eq_getElem?_getD, List.getElem?_eq_getElem (by omega)] at this;rw [Bool.not_eq_true', decide_eq_false_iff_not];exact this
 rw [h]
theorem edT_zero (l : List ObjD) : edT l 0 = ndA l := by unfold edT; simp
set_option maxHeartbeats 16000000 in
theorem graph_Build (l : List ObjD) (hok : ∀ o ∈ l, o.ok) (hf : fewB l = true) (e : ByteArray) : A0 Tryz.prog 6 [.rd 5 (l.map objA), .v (.string e)] (fun ret => ret = .tup [.agg (graphA (grF l e).1), .v (ifV 53 (grF l e).2)]) := by
 have hk := few_lok hok hf
 have hfw := few_W hf
 have hrl : ∀ i k, i < l.length → k < (l.getD i default).secs.length → ((l.getD i default).secs.getD k default).rels.length ≤ 1000000 := fun i k hi hk2 => by have := ((hfw.2.1 _ (getD_in hi)).sec _ (getD_in hk2)).2; omega
 refine A0.body 90 Tryz.func6 rfl rfl Tryz.ntmps6 fun base n0 => ?_
 refine AW.seq' ?_
 refine AW.region ?_
 refine AO.ww ?_
 refine AO.c ?_
 refine AO.nil ?_
 refine SQ.normal ?_
 refine AW.seq' ?_
 refine AW.region ?_
 refine AO.c ?_
 refine AO.call1 Tryz.func12 rfl rfl (names_ResolveV l hk) ?_
 iterate 3 refine AO.c ?_
 refine AO.ww ?_
 refine AO.sst ?_
 refine AO.c ?_
 refine AO.nil ?_
 refine SQ.normal ?_
 refine AW.seq' ?_
 refine AW.seq' ?_
 refine AW.region ?_
 iterate 2 refine AO.c ?_
 refine AO.nil ?_
 refine SQ.normal ?_
 refine AW.iteB (GL.ev _) (fun h0 => ?_) (fun h0 => ?_)
 ·
  rw [decide_eq_true_eq] at h0
  have hg : grF l e = (zGr, resE l) := by unfold grF; rw [if_pos h0]
  refine AW.seq' ?_
  refine AW.region ?_
  iterate 2 refine AO.c ?_
  refine AO.sst ?_
  refine AO.c ?_
  refine AO.nil ?_
  refine SQ.normal ?_
  refine AW.ret ?_
  refine SQ.ret ?_
  refine Fin.ret (Gh.tellC 0 [.rd 14 (([] : List NodeD).map nodeA), .v (.int .i64 (0)), .v (.int .i64 (0)), .rd 3 (([] : List DefD).map defA)]) noid2 ?_
  rw [hg]; rfl
 ·
  rw [decide_eq_false_iff_not, ne_eq, Decidable.not_not] at h0
  have hmay := resE_0 h0
  have hGW := graph_w hok hf hmay
  have hw := hGW.rw_
  have hMG := map_g hmay hGW
  have hnd := ndA_len hGW
  have hgl := grN_len hw
  rw [resT_0 h0]
  refine AW.skip ?_
  refine SQ.normal ?_
  refine AW.seq' ?_
  refine AW.region ?_
  iterate 2 refine AO.c ?_
  iterate 3 refine AO.ww ?_
  refine AO.c ?_
  refine AO.ww ?_
  refine AO.c ?_
  refine AO.nil ?_
  refine SQ.normal ?_
  refine AW.seq' ?_
  refine AW.ghost (Gh.mapM 2 kP vP) ?_
  refine AW.ghost (Gh.mapM 3 kP vI) ?_
  refine AW.ghost (Gh.mapM 4 kP vI) ?_
  refine AW.ghost (Gh.adoptC 5 3 56 14 rfl) ?_
  refine AW.region ?_
  refine AO.c ?_
  refine AO.callE (α := Nat) (av := fun _ => .tup []) (H2 := fun y => Hn n0 (([some (.box 28 [.v (.slice none 0 0), .v (.int .i64 (0)), .v (.int .i64 (0)), .v (.slice none 0 0)]), some (.box 63 (tabA ⟨dropF l l.length, dI l l.length⟩)), some (.map (((secI l l.length).pcs).map (mE kP vP))), some (.map (((secI l l.length).bg).map (mE kP vI))), some (.map ((([] : List ((Int × Int) × Int))).map (mE kP vI))), some (.box 70 [.rd 5 (l.map objA), .rd 1 ((dropF l l.length).map drA), .rd 3 ((dI l l.length).map defA), .own (n0 + 6) ((secI l l.length).nodes.length) 0 ((secI l l.length).nodes).length, .omap (n0 + 2), .omap (n0 + 3), .omap (n0 + 4)]), some (.row 56 14 ((secI l l.length).nodes.length) (((secI l l.length).nodes).map nodeA))] ++ List.replicate y none) ++ [])) (p := fun _ => True) Tryz.func13 rfl rfl (AC.cong (graph_sections n0 (some (.box 28 [.v (.slice none 0 0), .v (.int .i64 (0)), .v (.int .i64 (0)), .v (.slice none 0 0)])) (some (.box 63 (tabA ⟨dropF l l.length, dI l l.length⟩))) l ((dI l l.length).map defA) hGW 0) (by simp) (fun r H' h => by
   obtain ⟨x, q1, q2⟩ := h
   exact ⟨x, q1, q2.trans (by rfl), trivial⟩)) ?_
  intro x1 _
  refine AO.nil ?_
  refine SQ.normal ?_
  refine AW.seq' ?_
  refine AW.region ?_
  refine AO.c ?_
  refine AO.callE (α := Nat) (av := fun _ => .tup []) (H2 := fun y => Hn n0 (([some (.box 28 [.v (.slice none 0 0), .v (.int .i64 (0)), .v (.int .i64 (0)), .v (.slice none 0 0)]), some (.box 63 (tabA ⟨dropF l l.length, dI l l.length⟩)), some (.map (((secI l l.length).pcs).map (mE kP vP))), some (.map (((secI l l.length).bg).map (mE kP vI))), some (.map (((uqI l l.length)).map (mE kP vI))), some (.box 70 [.rd 5 (l.map objA), .rd 1 ((dropF l l.length).map drA), .rd 3 ((dI l l.length).map defA), .own (n0 + 6) ((ndA l).length) 0 ((ndA l)).length, .omap (n0 + 2), .omap (n0 + 3), .omap (n0 + 4)]), some (.row 56 14 ((ndA l).length) ((edT l (0)).map nodeA))] ++ List.replicate y none) ++ [])) (p := fun _ => True) Tryz.func14 rfl rfl (AC.cong (graph_marks n0 (some (.box 28 [.v (.slice none 0 0), .v (.int .i64 (0)), .v (.int .i64 (0)), .v (.slice none 0 0)])) (some (.box 63 (tabA ⟨dropF l l.length, dI l l.length⟩))) l hk hw (secI l l.length).nodes (secI l l.length).pcs (secI l l.length).bg (secI l l.length).nodes.length (by omega) (nodes_flags hGW) x1) (by rfl) (fun r H' h => by
   obtain ⟨x, q1, q2⟩ := h
   exact ⟨x, q1, q2.trans (by rw [hnd.2, edT_zero]; rfl), trivial⟩)) ?_
  intro x2 _
  refine AO.nil ?_
  refine SQ.normal ?_
  refine AW.seq' ?_
  refine AW.seq' ?_
  refine AW.region ?_
  iterate 6 refine AO.c ?_
  refine AO.nil ?_
  refine SQ.normal ?_
  refine AW.block' ?_
  refine AW.loopU2 [.f, .k, .f, .f, .k, .f, .f, .f, .k, .F, .F, .F, .f, .f, .f, .f, .k, .k, .k, .F, .F, .F, .F, .F, .F, .f, .f] (fun (i j : Nat) => [(39, .v (.int .i64 ((i : Int))))]) (fun i j => Hn n0 (([some (.box 28 [.v (.slice none 0 0), .v (.int .i64 (0)), .v (.int .i64 (0)), .v (.slice none 0 0)]), some (.box 63 (tabA ⟨dropF l l.length, dI l l.length⟩)), some (.map (((secI l l.length).pcs).map (mE kP vP))), some (.map (((secI l l.length).bg).map (mE kP vI))), some (.map (((uqI l l.length)).map (mE kP vI))), some (.box 70 [.rd 5 (l.map objA), .rd 1 ((dropF l l.length).map drA), .rd 3 ((dI l l.length).map defA), .own (n0 + 6) ((ndA l).length) 0 ((ndA l)).length, .omap (n0 + 2), .omap (n0 + 3), .omap (n0 + 4)]), some (.row 56 14 ((ndA l).length) ((edT l (i)).map nodeA))] ++ List.replicate j none) ++ [])) (fun m i j => (i ≤ (ndA l).length ∧ m = (ndA l).length - i) ∧ ∀ q, q < i → (edX l ((ndA l).getD q default)).2 = 0) ((ndA l).length) (0) (x2) ⟨by omega, fun q h => by omega⟩ (by first | rfl | (simp; done)) (by first | rfl | (simp; done)) ?_
  rintro m0 i j ⟨hx1, hx2⟩
  refine AW.seq' ?_
  refine AW.region ?_
  refine AO.c ?_
  refine AO.nil ?_
  refine SQ.normal ?_
  refine AW.seq' ?_
  refine AW.iteB (GL.ev _) (fun h1 => ?_) (fun h1 => ?_)
  ·
   rw [decide_eq_true_eq] at h1
   have hi : i < (ndA l).length := by omega
   have hnr := ndA_rng hGW hrl (getD_in hi)
   have hel := edT_len l i
   refine AW.skip ?_
   refine SQ.normal ?_
   refine AW.seq' ?_
   refine AW.block' ?_
   refine AW.seq' ?_
   refine AW.region ?_
   refine AO.c ?_
   refine AO.oo ?_
   refine AO.ldRN (nodeA ((ndA l).getD i default)) (nodeA ((ndA l).getD i default)) (by first | (rw [Nat.zero_add]; exact edT_at hi) | exact edT_at hi) (by exact (by decide : 0 < 14)) (by exact (by decide : 0 + 14 ≤ 14)) rfl ?_
   refine AO.ww ?_
   refine AO.c ?_
   refine AO.sst ?_
   refine AO.nil ?_
   refine SQ.normal ?_
   refine AW.seq' ?_
   apply AW.midE
   case h =>
    refine AW.drawsZ [7, 13] (.one 5 false (.one 6 false (.pur 0 (.pur 1 (.pur 2 (.pur 4 (.two 3 7 (.one 7 true (.one 8 false (.one 9 false (.one 11 false (.one 12 false (.pur 10 (.one 13 true (.one 14 false .nil)))))))) (.one 3 false (.one 8 false (.one 9 false (.one 11 false (.one 12 false (.pur 10 (.one 13 true (.one 14 false .nil))))))))))))))) (by kernel_rfl) rfl (by kernel_rfl) ?_
    iterate 2 refine AZ.c rfl ?_
    iterate 4 refine AZ.p rfl ?_
    refine AZ.two ?_ ?_
    · refine AZi.c rfl ?_
      refine AZ.callE (α := Nat) (av := fun _ => .tup [.rd 5 ((edX l ((ndA l).getD i default)).1.map edgeA), .v (ifV 53 (edX l ((ndA l).getD i default)).2)]) (H2 := fun y => Hn n0 (([some (.box 28 [.v (.slice none 0 0), .v (.int .i64 (0)), .v (.int .i64 (0)), .v (.slice none 0 0)]), some (.box 63 (tabA ⟨dropF l l.length, dI l l.length⟩)), some (.map (((secI l l.length).pcs).map (mE kP vP))), some (.map (((secI l l.length).bg).map (mE kP vI))), some (.map (((uqI l l.length)).map (mE kP vI))), some (.box 70 [.rd 5 (l.map objA), .rd 1 ((dropF l l.length).map drA), .rd 3 ((dI l l.length).map defA), .own (n0 + 6) ((ndA l).length) 0 ((ndA l)).length, .omap (n0 + 2), .omap (n0 + 3), .omap (n0 + 4)]), some (.row 56 14 ((ndA l).length) ((edT l (i)).map nodeA))] ++ List.replicate j none) ++ ([some (.box 56 (nodeA ((ndA l).getD i default)))] ++ List.replicate y none))) (p := fun _ => True) rfl rfl Tryz.func15 rfl rfl (AC.cong (graph_edges n0 (some (.box 28 [.v (.slice none 0 0), .v (.int .i64 (0)), .v (.int .i64 (0)), .v (.slice none 0 0)])) (some (.box 63 (tabA ⟨dropF l l.length, dI l l.length⟩))) l hk hw (edT l i) (secI l l.length).pcs (secI l l.length).bg (uqI l l.length) hMG (ndA l).length (List.replicate j none ++ [some (.box 56 (nodeA ((ndA l).getD i default)))]) ((ndA l).getD i default) hnr.1 hnr.2.1 hnr.2.2) (by simp [edT_len]) (fun r H' h => by
       obtain ⟨x, q1, q2⟩ := h
       exact ⟨x, q1, q2.trans (by simp [edT_len]), trivial⟩)) ?_
      intro d1 _
      iterate 2 refine AZ.c rfl ?_
      refine AZ.o rfl (by omega) ?_
      refine AZ.c rfl ?_
      refine AZ.p rfl ?_
      refine AZ.stR ((edT l (i + 1)).map nodeA) rfl rfl (by rw [List.length_map, edT_len]; exact ⟨by omega, by decide⟩) ?_ ?_
      · rw [Nat.zero_add, Int.toNat_natCast]; exact edT_row hi
      refine AZ.c rfl ?_
      exact AZ.done ⟨rfl, d1, rfl⟩
    · refine AZi.callE (α := Nat) (av := fun _ => .tup [.rd 5 ((edX l ((ndA l).getD i default)).1.map edgeA), .v (ifV 53 (edX l ((ndA l).getD i default)).2)]) (H2 := fun y => Hn n0 (([some (.box 28 [.v (.slice none 0 0), .v (.int .i64 (0)), .v (.int .i64 (0)), .v (.slice none 0 0)]), some (.box 63 (tabA ⟨dropF l l.length, dI l l.length⟩)), some (.map (((secI l l.length).pcs).map (mE kP vP))), some (.map (((secI l l.length).bg).map (mE kP vI))), some (.map (((uqI l l.length)).map (mE kP vI))), some (.box 70 [.rd 5 (l.map objA), .rd 1 ((dropF l l.length).map drA), .rd 3 ((dI l l.length).map defA), .own (n0 + 6) ((ndA l).length) 0 ((ndA l)).length, .omap (n0 + 2), .omap (n0 + 3), .omap (n0 + 4)]), some (.row 56 14 ((ndA l).length) ((edT l (i)).map nodeA))] ++ List.replicate j none) ++ ([some (.box 56 (nodeA ((ndA l).getD i default)))] ++ List.replicate y none))) (p := fun _ => True) rfl rfl Tryz.func15 rfl rfl (AC.cong (graph_edges n0 (some (.box 28 [.v (.slice none 0 0), .v (.int .i64 (0)), .v (.int .i64 (0)), .v (.slice none 0 0)])) (some (.box 63 (tabA ⟨dropF l l.length, dI l l.length⟩))) l hk hw (edT l i) (secI l l.length).pcs (secI l l.length).bg (uqI l l.length) hMG (ndA l).length (List.replicate j none ++ [some (.box 56 (nodeA ((ndA l).getD i default)))]) ((ndA l).getD i default) hnr.1 hnr.2.1 hnr.2.2) (by simp [edT_len]) (fun r H' h => by
       obtain ⟨x, q1, q2⟩ := h
       exact ⟨x, q1, q2.trans (by simp [edT_len]), trivial⟩)) ?_
      intro d1 _
      iterate 3 refine AZ.c rfl ?_
      refine AZ.o rfl (by omega) ?_
      refine AZ.c rfl ?_
      refine AZ.p rfl ?_
      refine AZ.stR ((edT l (i + 1)).map nodeA) rfl rfl (by rw [List.length_map, edT_len]; exact ⟨by omega, by decide⟩) ?_ ?_
      · rw [Nat.zero_add, Int.toNat_natCast]; exact edT_row hi
      refine AZ.c rfl ?_
      exact AZ.done ⟨rfl, d1, rfl⟩
   intro d1
   refine SQ.normal ?_
   refine AW.seq' ?_
   refine AW.region ?_
   iterate 2 refine AO.c ?_
   refine AO.nil ?_
   refine SQ.normal ?_
   refine AW.iteB (GL.ev _) (fun h2 => ?_) (fun h2 => ?_)
   ·
    rw [decide_eq_true_eq] at h2
    have hfe : grE l = (edX l ((ndA l).getD i default)).2 := firE_at (f := fun x => (edX l x).2) hi hx2 h2
    have hg : grF l e = (zGr, (edX l ((ndA l).getD i default)).2) := by unfold grF; rw [if_neg (fun c => c h0), if_pos (by rw [hfe]; exact h2), hfe]
    refine AW.seq' ?_
    refine AW.region ?_
    iterate 2 refine AO.c ?_
    refine AO.sst ?_
    refine AO.c ?_
    refine AO.nil ?_
    refine SQ.normal ?_
    refine AW.ret ?_
    refine BQ.ret <| SQ.ret <| AW.out <| LU.ret <| BQ.ret <| SQ.ret ?_
    refine Fin.ret (Gh.tellC 0 [.rd 14 (([] : List NodeD).map nodeA), .v (.int .i64 (0)), .v (.int .i64 (0)), .rd 3 (([] : List DefD).map defA)]) noid2 ?_
    rw [hg]; rfl
   ·
    rw [decide_eq_false_iff_not, ne_eq, Decidable.not_not] at h2
    have hal : ∀ q, q < i + 1 → (edX l ((ndA l).getD q default)).2 = 0 := fun q hq => by
     by_cases c : q = i
     · rw [c]; exact h2
     · exact hx2 q (by omega)
    refine AW.skip ?_
    refine BQ.normal ?_
    refine SQ.normal ?_
    refine AW.region ?_
    refine AO.oo ?_
    refine AO.c ?_
    refine AO.nil ?_
    exact AW.backE [.f, .k, .f, .f, .k, .f, .f, .f, .k, .F, .F, .F, .f, .f, .f, .f, .k, .k, .k, .F, .F, .F, .F, .F, .F, .f, .f] (j) (m0 - 1) (i + 1, j + (1 + d1)) (by omega) (by (try dsimp only); exact ⟨by omega, hal⟩) (by first | rfl | (simp; done)) ((Hn_repJ (b := j + (1 + d1)) (by first | (simp; done) | (simp; omega))).trans (by (try dsimp only) <;> rfl))
  ·
   rw [decide_eq_false_iff_not] at h1
   have hi : i = (ndA l).length := by omega
   subst hi
   have hz : grE l = 0 := firE_zero (f := fun x => (edX l x).2) hx2
   rw [edT_all]
   refine AW.exit ?_
   refine SQ.exit <| AW.out <| LU.exit <| BQ.exit ?_
   refine SQ.normal ?_
   refine AW.seq' ?_
   apply AW.midF
   case h =>
    refine AW.draws [5, 8] 9 _ (by kernel_rfl) rfl rfl ?_
    refine AY.c 4 rfl (by kernel_rfl) ?_
    refine AY.p 0 rfl (by kernel_rfl) ?_
    refine AY.p 1 rfl (by kernel_rfl) ?_
    refine AY.p 2 rfl (by kernel_rfl) ?_
    refine AY.triZ 3 5 7 (.two 5 7 (.one 6 false (.one 7 true (.one 8 true .nil))) (.one 5 true (.one 6 false (.one 8 true .nil)))) (.one 3 false (.one 6 false (.one 7 true (.one 8 true .nil)))) (.two 3 5 (.one 5 true (.one 6 false (.one 8 true .nil))) (.one 3 false (.one 6 false (.one 8 true .nil)))) [true, true, true, false, true, false, false, false, false] (by kernel_rfl) (by kernel_rfl) (by kernel_rfl) ?_ ?_ ?_
    · refine AZi.c rfl ?_
      refine AZ.two ?_ ?_
      · refine AZi.callE (α := Nat) (av := fun _ => .rd 3 ((grN l).map defA)) (H2 := fun y => Hn n0 ((([some (.box 28 [.v (.slice none 0 0), .v (.int .i64 (0)), .v (.int .i64 (0)), .v (.slice none 0 0)]), some (.box 63 (tabA ⟨dropF l l.length, dI l l.length⟩)), some (.map (((secI l l.length).pcs).map (mE kP vP))), some (.map (((secI l l.length).bg).map (mE kP vI))), some (.map (((uqI l l.length)).map (mE kP vI))), some (.box 70 [.rd 5 (l.map objA), .rd 1 ((dropF l l.length).map drA), .rd 3 ((dI l l.length).map defA), .own (n0 + 6) ((ndA l).length) 0 ((ndA l)).length, .omap (n0 + 2), .omap (n0 + 3), .omap (n0 + 4)]), some (.row 56 14 ((ndA l).length) (((ndA l).map (setE l)).map nodeA))] ++ List.replicate j none) ++ List.replicate y none) ++ [])) (p := fun _ => True) rfl rfl Tryz.func16 rfl rfl (AC.cong (graph_defined n0 (some (.box 28 [.v (.slice none 0 0), .v (.int .i64 (0)), .v (.int .i64 (0)), .v (.slice none 0 0)])) (some (.box 63 (tabA ⟨dropF l l.length, dI l l.length⟩))) l hk hw ((ndA l).map (setE l)) (secI l l.length).pcs (secI l l.length).bg (uqI l l.length) hMG (ndA l).length (List.replicate j none)) (by simp; done) (fun r H' ⟨x, q1, q2⟩ => ⟨x, q1, q2.trans (by simp; done), trivial⟩)) ?_
        intro d2 _
        refine AZ.c rfl ?_
        refine AZ.mkk rfl ?_
        refine AZ.sst rfl rfl ?_
        refine AZ.ghost (Gh.freezeC (zadd (zadd (zadd (0 + 1 + 1 + 1 + 1 + 1 + 1 + 1) j) d2) 0) 0 (by simp) (by simp; omega)) ?_
        obtain ⟨b2, hb2⟩ : ∃ b2, ([] : List (Option AB)).length = b2 := ⟨_, rfl⟩
        obtain ⟨a2, ha2⟩ : ∃ a2, ([some (.box 63 (tabA ⟨dropF l l.length, dI l l.length⟩)), some (.map (((secI l l.length).pcs).map (mE kP vP))), some (.map (((secI l l.length).bg).map (mE kP vI))), some (.map (((uqI l l.length)).map (mE kP vI))), some (.box 70 [.rd 5 (l.map objA), .rd 1 ((dropF l l.length).map drA), .rd 3 ((dI l l.length).map defA), .own (n0 + 6) ((ndA l).length) 0 ((ndA l)).length, .omap (n0 + 2), .omap (n0 + 3), .omap (n0 + 4)]), none] ++ List.replicate j none ++ List.replicate d2 none : List (Option AB)).length = a2 := ⟨_, rfl⟩
        refine AZ.eq 11 (av' := .box (n0 + zadd (zadd (0 + 1) a2) 0) 0) (by simp [zadd] at ha2 ⊢; omega) ?_
        refine AZ.ghost (Gh.canon (z := some (.box 28 [.v (.slice none 0 0), .v (.int .i64 (0)), .v (.int .i64 (0)), .v (.slice none 0 0)])) (g := some (.box 28 [.rd 14 (((ndA l).map (setE l)).map nodeA), .v (.int .i64 (0)), .v (.int .i64 (0)), .rd 3 ((grN l).map defA)])) ([some (.box 63 (tabA ⟨dropF l l.length, dI l l.length⟩)), some (.map (((secI l l.length).pcs).map (mE kP vP))), some (.map (((secI l l.length).bg).map (mE kP vI))), some (.map (((uqI l l.length)).map (mE kP vI))), some (.box 70 [.rd 5 (l.map objA), .rd 1 ((dropF l l.length).map drA), .rd 3 ((dI l l.length).map defA), .own (n0 + 6) ((ndA l).length) 0 ((ndA l)).length, .omap (n0 + 2), .omap (n0 + 3), .omap (n0 + 4)]), none] ++ List.replicate j none ++ List.replicate d2 none) ([]) (by simp; done) ha2 hb2) ?_
        exact AZ.done ⟨rfl, a2, b2, rfl⟩
      · refine AZi.mkk rfl ?_
        refine AZ.callE (α := Nat) (av := fun _ => .rd 3 ((grN l).map defA)) (H2 := fun y => Hn n0 (((([some (.box 28 [.v (.slice none 0 0), .v (.int .i64 (0)), .v (.int .i64 (0)), .v (.slice none 0 0)]), some (.box 63 (tabA ⟨dropF l l.length, dI l l.length⟩)), some (.map (((secI l l.length).pcs).map (mE kP vP))), some (.map (((secI l l.length).bg).map (mE kP vI))), some (.map (((uqI l l.length)).map (mE kP vI))), some (.box 70 [.rd 5 (l.map objA), .rd 1 ((dropF l l.length).map drA), .rd 3 ((dI l l.length).map defA), .own (n0 + 6) ((ndA l).length) 0 ((ndA l)).length, .omap (n0 + 2), .omap (n0 + 3), .omap (n0 + 4)]), some (.row 56 14 ((ndA l).length) (((ndA l).map (setE l)).map nodeA))] ++ List.replicate j none) ++ [some (.box 28 [.v (.slice none 0 0), .v (.int .i64 (0)), .v (.int .i64 (0)), .v (.slice none 0 0)])]) ++ List.replicate y none) ++ [])) (p := fun _ => True) rfl rfl Tryz.func16 rfl rfl (AC.cong (graph_defined n0 (some (.box 28 [.v (.slice none 0 0), .v (.int .i64 (0)), .v (.int .i64 (0)), .v (.slice none 0 0)])) (some (.box 63 (tabA ⟨dropF l l.length, dI l l.length⟩))) l hk hw ((ndA l).map (setE l)) (secI l l.length).pcs (secI l l.length).bg (uqI l l.length) hMG (ndA l).length (List.replicate j none ++ [some (.box 28 [.v (.slice none 0 0), .v (.int .i64 (0)), .v (.int .i64 (0)), .v (.slice none 0 0)])])) (by simp; done) (fun r H' ⟨x, q1, q2⟩ => ⟨x, q1, q2.trans (by simp; done), trivial⟩)) ?_
        intro d2 _
        refine AZ.c rfl ?_
        refine AZ.sst rfl rfl ?_
        refine AZ.ghost (Gh.freezeC (zadd (zadd (0 + 1 + 1 + 1 + 1 + 1 + 1 + 1) j) 0) 0 (by simp) (by simp; omega)) ?_
        obtain ⟨b2, hb2⟩ : ∃ b2, (List.replicate d2 none : List (Option AB)).length = b2 := ⟨_, rfl⟩
        obtain ⟨a2, ha2⟩ : ∃ a2, ([some (.box 63 (tabA ⟨dropF l l.length, dI l l.length⟩)), some (.map (((secI l l.length).pcs).map (mE kP vP))), some (.map (((secI l l.length).bg).map (mE kP vI))), some (.map (((uqI l l.length)).map (mE kP vI))), some (.box 70 [.rd 5 (l.map objA), .rd 1 ((dropF l l.length).map drA), .rd 3 ((dI l l.length).map defA), .own (n0 + 6) ((ndA l).length) 0 ((ndA l)).length, .omap (n0 + 2), .omap (n0 + 3), .omap (n0 + 4)]), none] ++ List.replicate j none : List (Option AB)).length = a2 := ⟨_, rfl⟩
        refine AZ.eq 11 (av' := .box (n0 + zadd (zadd (0 + 1) a2) 0) 0) (by simp [zadd] at ha2 ⊢; omega) ?_
        refine AZ.ghost (Gh.canon (z := some (.box 28 [.v (.slice none 0 0), .v (.int .i64 (0)), .v (.int .i64 (0)), .v (.slice none 0 0)])) (g := some (.box 28 [.rd 14 (((ndA l).map (setE l)).map nodeA), .v (.int .i64 (0)), .v (.int .i64 (0)), .rd 3 ((grN l).map defA)])) ([some (.box 63 (tabA ⟨dropF l l.length, dI l l.length⟩)), some (.map (((secI l l.length).pcs).map (mE kP vP))), some (.map (((secI l l.length).bg).map (mE kP vI))), some (.map (((uqI l l.length)).map (mE kP vI))), some (.box 70 [.rd 5 (l.map objA), .rd 1 ((dropF l l.length).map drA), .rd 3 ((dI l l.length).map defA), .own (n0 + 6) ((ndA l).length) 0 ((ndA l)).length, .omap (n0 + 2), .omap (n0 + 3), .omap (n0 + 4)]), none] ++ List.replicate j none) (List.replicate d2 none) (by simp; done) ha2 hb2) ?_
        exact AZ.done ⟨rfl, a2, b2, rfl⟩
    · refine AZi.callE (α := Nat) (av := fun _ => .rd 3 ((grN l).map defA)) (H2 := fun y => Hn n0 ((([some (.box 28 [.v (.slice none 0 0), .v (.int .i64 (0)), .v (.int .i64 (0)), .v (.slice none 0 0)]), some (.box 63 (tabA ⟨dropF l l.length, dI l l.length⟩)), some (.map (((secI l l.length).pcs).map (mE kP vP))), some (.map (((secI l l.length).bg).map (mE kP vI))), some (.map (((uqI l l.length)).map (mE kP vI))), some (.box 70 [.rd 5 (l.map objA), .rd 1 ((dropF l l.length).map drA), .rd 3 ((dI l l.length).map defA), .own (n0 + 6) ((ndA l).length) 0 ((ndA l)).length, .omap (n0 + 2), .omap (n0 + 3), .omap (n0 + 4)]), some (.row 56 14 ((ndA l).length) (((ndA l).map (setE l)).map nodeA))] ++ List.replicate j none) ++ List.replicate y none) ++ [])) (p := fun _ => True) rfl rfl Tryz.func16 rfl rfl (AC.cong (graph_defined n0 (some (.box 28 [.v (.slice none 0 0), .v (.int .i64 (0)), .v (.int .i64 (0)), .v (.slice none 0 0)])) (some (.box 63 (tabA ⟨dropF l l.length, dI l l.length⟩))) l hk hw ((ndA l).map (setE l)) (secI l l.length).pcs (secI l l.length).bg (uqI l l.length) hMG (ndA l).length (List.replicate j none)) (by simp; done) (fun r H' ⟨x, q1, q2⟩ => ⟨x, q1, q2.trans (by simp; done), trivial⟩)) ?_
      intro d2 _
      iterate 2 refine AZ.c rfl ?_
      refine AZ.mkk rfl ?_
      refine AZ.sst rfl rfl ?_
      refine AZ.ghost (Gh.freezeC (zadd (zadd (zadd (0 + 1 + 1 + 1 + 1 + 1 + 1 + 1) j) d2) 0) 0 (by simp) (by simp; omega)) ?_
      obtain ⟨b2, hb2⟩ : ∃ b2, ([] : List (Option AB)).length = b2 := ⟨_, rfl⟩
      obtain ⟨a2, ha2⟩ : ∃ a2, ([some (.box 63 (tabA ⟨dropF l l.length, dI l l.length⟩)), some (.map (((secI l l.length).pcs).map (mE kP vP))), some (.map (((secI l l.length).bg).map (mE kP vI))), some (.map (((uqI l l.length)).map (mE kP vI))), some (.box 70 [.rd 5 (l.map objA), .rd 1 ((dropF l l.length).map drA), .rd 3 ((dI l l.length).map defA), .own (n0 + 6) ((ndA l).length) 0 ((ndA l)).length, .omap (n0 + 2), .omap (n0 + 3), .omap (n0 + 4)]), none] ++ List.replicate j none ++ List.replicate d2 none : List (Option AB)).length = a2 := ⟨_, rfl⟩
      refine AZ.eq 11 (av' := .box (n0 + zadd (zadd (0 + 1) a2) 0) 0) (by simp [zadd] at ha2 ⊢; omega) ?_
      refine AZ.ghost (Gh.canon (z := some (.box 28 [.v (.slice none 0 0), .v (.int .i64 (0)), .v (.int .i64 (0)), .v (.slice none 0 0)])) (g := some (.box 28 [.rd 14 (((ndA l).map (setE l)).map nodeA), .v (.int .i64 (0)), .v (.int .i64 (0)), .rd 3 ((grN l).map defA)])) ([some (.box 63 (tabA ⟨dropF l l.length, dI l l.length⟩)), some (.map (((secI l l.length).pcs).map (mE kP vP))), some (.map (((secI l l.length).bg).map (mE kP vI))), some (.map (((uqI l l.length)).map (mE kP vI))), some (.box 70 [.rd 5 (l.map objA), .rd 1 ((dropF l l.length).map drA), .rd 3 ((dI l l.length).map defA), .own (n0 + 6) ((ndA l).length) 0 ((ndA l)).length, .omap (n0 + 2), .omap (n0 + 3), .omap (n0 + 4)]), none] ++ List.replicate j none ++ List.replicate d2 none) ([]) (by simp; done) ha2 hb2) ?_
      exact AZ.done ⟨rfl, a2, b2, rfl⟩
    · refine AZi.mkk rfl ?_
      refine AZ.two ?_ ?_
      · refine AZi.c rfl ?_
        refine AZ.callE (α := Nat) (av := fun _ => .rd 3 ((grN l).map defA)) (H2 := fun y => Hn n0 (((([some (.box 28 [.v (.slice none 0 0), .v (.int .i64 (0)), .v (.int .i64 (0)), .v (.slice none 0 0)]), some (.box 63 (tabA ⟨dropF l l.length, dI l l.length⟩)), some (.map (((secI l l.length).pcs).map (mE kP vP))), some (.map (((secI l l.length).bg).map (mE kP vI))), some (.map (((uqI l l.length)).map (mE kP vI))), some (.box 70 [.rd 5 (l.map objA), .rd 1 ((dropF l l.length).map drA), .rd 3 ((dI l l.length).map defA), .own (n0 + 6) ((ndA l).length) 0 ((ndA l)).length, .omap (n0 + 2), .omap (n0 + 3), .omap (n0 + 4)]), some (.row 56 14 ((ndA l).length) (((ndA l).map (setE l)).map nodeA))] ++ List.replicate j none) ++ [some (.box 28 [.v (.slice none 0 0), .v (.int .i64 (0)), .v (.int .i64 (0)), .v (.slice none 0 0)])]) ++ List.replicate y none) ++ [])) (p := fun _ => True) rfl rfl Tryz.func16 rfl rfl (AC.cong (graph_defined n0 (some (.box 28 [.v (.slice none 0 0), .v (.int .i64 (0)), .v (.int .i64 (0)), .v (.slice none 0 0)])) (some (.box 63 (tabA ⟨dropF l l.length, dI l l.length⟩))) l hk hw ((ndA l).map (setE l)) (secI l l.length).pcs (secI l l.length).bg (uqI l l.length) hMG (ndA l).length (List.replicate j none ++ [some (.box 28 [.v (.slice none 0 0), .v (.int .i64 (0)), .v (.int .i64 (0)), .v (.slice none 0 0)])])) (by simp; done) (fun r H' ⟨x, q1, q2⟩ => ⟨x, q1, q2.trans (by simp; done), trivial⟩)) ?_
        intro d2 _
        refine AZ.c rfl ?_
        refine AZ.sst rfl rfl ?_
        refine AZ.ghost (Gh.freezeC (zadd (zadd (0 + 1 + 1 + 1 + 1 + 1 + 1 + 1) j) 0) 0 (by simp) (by simp; omega)) ?_
        obtain ⟨b2, hb2⟩ : ∃ b2, (List.replicate d2 none : List (Option AB)).length = b2 := ⟨_, rfl⟩
        obtain ⟨a2, ha2⟩ : ∃ a2, ([some (.box 63 (tabA ⟨dropF l l.length, dI l l.length⟩)), some (.map (((secI l l.length).pcs).map (mE kP vP))), some (.map (((secI l l.length).bg).map (mE kP vI))), some (.map (((uqI l l.length)).map (mE kP vI))), some (.box 70 [.rd 5 (l.map objA), .rd 1 ((dropF l l.length).map drA), .rd 3 ((dI l l.length).map defA), .own (n0 + 6) ((ndA l).length) 0 ((ndA l)).length, .omap (n0 + 2), .omap (n0 + 3), .omap (n0 + 4)]), none] ++ List.replicate j none : List (Option AB)).length = a2 := ⟨_, rfl⟩
        refine AZ.eq 11 (av' := .box (n0 + zadd (zadd (0 + 1) a2) 0) 0) (by simp [zadd] at ha2 ⊢; omega) ?_
        refine AZ.ghost (Gh.canon (z := some (.box 28 [.v (.slice none 0 0), .v (.int .i64 (0)), .v (.int .i64 (0)), .v (.slice none 0 0)])) (g := some (.box 28 [.rd 14 (((ndA l).map (setE l)).map nodeA), .v (.int .i64 (0)), .v (.int .i64 (0)), .rd 3 ((grN l).map defA)])) ([some (.box 63 (tabA ⟨dropF l l.length, dI l l.length⟩)), some (.map (((secI l l.length).pcs).map (mE kP vP))), some (.map (((secI l l.length).bg).map (mE kP vI))), some (.map (((uqI l l.length)).map (mE kP vI))), some (.box 70 [.rd 5 (l.map objA), .rd 1 ((dropF l l.length).map drA), .rd 3 ((dI l l.length).map defA), .own (n0 + 6) ((ndA l).length) 0 ((ndA l)).length, .omap (n0 + 2), .omap (n0 + 3), .omap (n0 + 4)]), none] ++ List.replicate j none) (List.replicate d2 none) (by simp; done) ha2 hb2) ?_
        exact AZ.done ⟨rfl, a2, b2, rfl⟩
      · refine AZi.callE (α := Nat) (av := fun _ => .rd 3 ((grN l).map defA)) (H2 := fun y => Hn n0 (((([some (.box 28 [.v (.slice none 0 0), .v (.int .i64 (0)), .v (.int .i64 (0)), .v (.slice none 0 0)]), some (.box 63 (tabA ⟨dropF l l.length, dI l l.length⟩)), some (.map (((secI l l.length).pcs).map (mE kP vP))), some (.map (((secI l l.length).bg).map (mE kP vI))), some (.map (((uqI l l.length)).map (mE kP vI))), some (.box 70 [.rd 5 (l.map objA), .rd 1 ((dropF l l.length).map drA), .rd 3 ((dI l l.length).map defA), .own (n0 + 6) ((ndA l).length) 0 ((ndA l)).length, .omap (n0 + 2), .omap (n0 + 3), .omap (n0 + 4)]), some (.row 56 14 ((ndA l).length) (((ndA l).map (setE l)).map nodeA))] ++ List.replicate j none) ++ [some (.box 28 [.v (.slice none 0 0), .v (.int .i64 (0)), .v (.int .i64 (0)), .v (.slice none 0 0)])]) ++ List.replicate y none) ++ [])) (p := fun _ => True) rfl rfl Tryz.func16 rfl rfl (AC.cong (graph_defined n0 (some (.box 28 [.v (.slice none 0 0), .v (.int .i64 (0)), .v (.int .i64 (0)), .v (.slice none 0 0)])) (some (.box 63 (tabA ⟨dropF l l.length, dI l l.length⟩))) l hk hw ((ndA l).map (setE l)) (secI l l.length).pcs (secI l l.length).bg (uqI l l.length) hMG (ndA l).length (List.replicate j none ++ [some (.box 28 [.v (.slice none 0 0), .v (.int .i64 (0)), .v (.int .i64 (0)), .v (.slice none 0 0)])])) (by simp; done) (fun r H' ⟨x, q1, q2⟩ => ⟨x, q1, q2.trans (by simp; done), trivial⟩)) ?_
        intro d2 _
        iterate 2 refine AZ.c rfl ?_
        refine AZ.sst rfl rfl ?_
        refine AZ.ghost (Gh.freezeC (zadd (zadd (0 + 1 + 1 + 1 + 1 + 1 + 1 + 1) j) 0) 0 (by simp) (by simp; omega)) ?_
        obtain ⟨b2, hb2⟩ : ∃ b2, (List.replicate d2 none : List (Option AB)).length = b2 := ⟨_, rfl⟩
        obtain ⟨a2, ha2⟩ : ∃ a2, ([some (.box 63 (tabA ⟨dropF l l.length, dI l l.length⟩)), some (.map (((secI l l.length).pcs).map (mE kP vP))), some (.map (((secI l l.length).bg).map (mE kP vI))), some (.map (((uqI l l.length)).map (mE kP vI))), some (.box 70 [.rd 5 (l.map objA), .rd 1 ((dropF l l.length).map drA), .rd 3 ((dI l l.length).map defA), .own (n0 + 6) ((ndA l).length) 0 ((ndA l)).length, .omap (n0 + 2), .omap (n0 + 3), .omap (n0 + 4)]), none] ++ List.replicate j none : List (Option AB)).length = a2 := ⟨_, rfl⟩
        refine AZ.eq 11 (av' := .box (n0 + zadd (zadd (0 + 1) a2) 0) 0) (by simp [zadd] at ha2 ⊢; omega) ?_
        refine AZ.ghost (Gh.canon (z := some (.box 28 [.v (.slice none 0 0), .v (.int .i64 (0)), .v (.int .i64 (0)), .v (.slice none 0 0)])) (g := some (.box 28 [.rd 14 (((ndA l).map (setE l)).map nodeA), .v (.int .i64 (0)), .v (.int .i64 (0)), .rd 3 ((grN l).map defA)])) ([some (.box 63 (tabA ⟨dropF l l.length, dI l l.length⟩)), some (.map (((secI l l.length).pcs).map (mE kP vP))), some (.map (((secI l l.length).bg).map (mE kP vI))), some (.map (((uqI l l.length)).map (mE kP vI))), some (.box 70 [.rd 5 (l.map objA), .rd 1 ((dropF l l.length).map drA), .rd 3 ((dI l l.length).map defA), .own (n0 + 6) ((ndA l).length) 0 ((ndA l)).length, .omap (n0 + 2), .omap (n0 + 3), .omap (n0 + 4)]), none] ++ List.replicate j none) (List.replicate d2 none) (by simp; done) ha2 hb2) ?_
        exact AZ.done ⟨rfl, a2, b2, rfl⟩
   intro a2 b2
   refine SQ.normal ?_
   refine AW.seq' ?_
   refine AW.seq' ?_
   refine AW.region ?_
   iterate 4 refine AO.c ?_
   refine AO.nil ?_
   refine SQ.normal ?_
   refine AW.block' ?_
   refine AW.loopU2 [.f, .k, .f, .f, .k, .f, .f, .f, .f, .f, .f, .k, .F, .F, .F, .F, .F, .F, .F, .f, .f, .k, .k, .k, .F, .F, .f] (fun (k j5 : Nat) => [(72, .v (.int .i64 ((k : Int))))]) (fun k j5 => Hn n0 (((([some (.box 28 [.v (.slice none 0 0), .v (.int .i64 (0)), .v (.int .i64 (0)), .v (.slice none 0 0)])] ++ List.replicate a2 none) ++ [some (.box 28 [.rd 14 (((ndA l).map (setE l)).map nodeA), .v (.int .i64 (0)), .v (.int .i64 (0)), .rd 3 ((grN l).map defA)])]) ++ List.replicate j5 none) ++ [])) (fun m k j5 => (k ≤ (grN l).length ∧ m = (grN l).length - k) ∧ ∀ q, q < k → ((grN l).getD q default).name ≠ e) ((grN l).length) (0) (b2) ⟨by omega, fun q h => by omega⟩ (by first | rfl | (simp; done)) (by simp) ?_
   rintro m1 k j5 ⟨hy1, hy2⟩
   refine AW.seq' ?_
   refine AW.region ?_
   refine AO.c ?_
   refine AO.nil ?_
   refine SQ.normal ?_
   refine AW.seq' ?_
   refine AW.iteB (GL.ev _) (fun h3 => ?_) (fun h3 => ?_)
   ·
    rw [decide_eq_true_eq] at h3
    have hkn : k < (grN l).length := by omega
    refine AW.skip ?_
    refine SQ.normal ?_
    refine AW.seq' ?_
    refine AW.block' ?_
    refine AW.seq' ?_
    refine AW.region ?_
    refine AO.oo ?_
    refine AO.c ?_
    refine AO.ww ?_
    refine AO.sst ?_
    refine AO.nil ?_
    refine SQ.normal ?_
    refine AW.seq' ?_
    refine AW.region ?_
    iterate 4 refine AO.c ?_
    refine AO.nil ?_
    refine SQ.normal ?_
    refine AW.iteB (GL.ev _) (fun h4 => ?_) (fun h4 => ?_)
    ·
     rw [decide_eq_true_eq, ba_eq] at h4
     have hg := grF_yes h0 hz hkn hy2 h4
     refine AW.seq' ?_
     apply AW.mid
     case h =>
      refine AW.drawsZ [5, 7] (.one 0 false (.one 1 false (.one 4 false (.pur 2 (.two 3 5 (.one 5 true (.one 6 false (.one 7 true .nil))) (.one 3 false (.one 6 false (.one 7 true .nil)))))))) (by kernel_rfl) rfl (by kernel_rfl) ?_
      iterate 3 refine AZ.c rfl ?_
      refine AZ.p rfl ?_
      refine AZ.two ?_ ?_
      · refine AZi.c rfl ?_
        refine AZ.sst rfl rfl ?_
        refine AZ.c rfl ?_
        refine AZ.sst rfl rfl ?_
        exact AZ.done ⟨rfl, rfl⟩
      · refine AZi.sst rfl rfl ?_
        iterate 2 refine AZ.c rfl ?_
        refine AZ.sst rfl rfl ?_
        exact AZ.done ⟨rfl, rfl⟩
     refine SQ.normal ?_
     refine AW.seq' ?_
     refine AW.region ?_
     refine AO.c ?_
     refine AO.sst ?_
     refine AO.c ?_
     refine AO.nil ?_
     refine SQ.normal ?_
     refine AW.ret ?_
     refine BQ.ret <| SQ.ret <| AW.out <| LU.ret <| BQ.ret <| SQ.ret ?_
     refine Fin.ret (Gh.refl) noid2 ?_
     rw [hg]; rfl
    ·
     rw [decide_eq_false_iff_not, ba_eq] at h4
     have hal2 : ∀ q, q < k + 1 → ((grN l).getD q default).name ≠ e := fun q hq => by
      by_cases c : q = k
      · rw [c]; exact h4
      · exact hy2 q (by omega)
     refine AW.skip ?_
     refine BQ.normal ?_
     refine SQ.normal ?_
     refine AW.region ?_
     refine AO.oo ?_
     refine AO.c ?_
     refine AO.nil ?_
     exact AW.backE [.f, .k, .f, .f, .k, .f, .f, .f, .f, .f, .f, .k, .F, .F, .F, .F, .F, .F, .F, .f, .f, .k, .k, .k, .F, .F, .f] (j5) (m1 - 1) (k + 1, j5 + 1) (by omega) (by (try dsimp only); exact ⟨by omega, hal2⟩) (by first | rfl | (simp; done)) (by first | rfl | (simp; done))
   ·
    rw [decide_eq_false_iff_not] at h3
    have hkn : k = (grN l).length := by omega
    subst hkn
    have hg := grF_no h0 hz hy2
    refine AW.exit ?_
    refine SQ.exit <| AW.out <| LU.exit <| BQ.exit ?_
    refine SQ.normal ?_
    refine AW.seq' ?_
    refine AW.region ?_
    iterate 2 refine AO.c ?_
    refine AO.sst ?_
    refine AO.c ?_
    refine AO.nil ?_
    refine SQ.normal ?_
    refine AW.ret ?_
    refine Fin.ret (Gh.tellC 0 [.rd 14 (([] : List NodeD).map nodeA), .v (.int .i64 (0)), .v (.int .i64 (0)), .rd 3 (([] : List DefD).map defA)]) noid2 ?_
    rw [hg]; rfl
def sX (l : List ObjD) (x : NodeD) : SecD := (l.getD x.obj.toNat default).secs.getD (x.sec - 1).toNat default
theorem sX_nd (l : List ObjD) (i k : Nat) (s : SecD) (g : Int) (p : Int × Int) : sX l (secNd (i : Int) ((k : Int) + 1) s g p) = (l.getD i default).secs.getD k default := by
 unfold sX;show (l.getD ((i : Int)).toNat default).secs.getD ((k : Int) + 1 - 1).toNat default = _
 rw [Int.toNat_natCast, show ((k : Int) + 1 - 1).toNat = k by omega]
theorem piece_in {s : SecD} (hk : kindB s = true) {q : Nat} (hq : q < (splitB s).length) : ((splitB s).getD q default).1 = tot ((splitB s).take q) ∧ 0 ≤ ((splitB s).getD q default).1 ∧ 0 ≤ ((splitB s).getD q default).2 ∧ ((splitB s).getD q default).1 + ((splitB s).getD q default).2 ≤ s.size := by
 have K := kind_facts hk;have e := split_same K;have ht := split_tot K;rw [← e] at ht;have hc : Cont 0 (splitB s) := by
  rw [e];unfold splitRB
  split
  · exact ⟨rfl, K.sz.1, trivial⟩
  · exact (splitR_cont (str := hasF s.flags 32) (e := s.ent) s.data 0 0 (Int.le_refl _)).1
 have h := cont_at (splitB s) 0 q hc hq;have h2 : 0 ≤ tot ((splitB s).take q) := by
  have hc2 : ∀ (l : List (Int × Int)) (a : Int) (q : Nat), Cont a l → 0 ≤ tot (l.take q) := by
   intro l
   induction l with
   | nil => intro a q _; simp [tot]
   | cons p l ih =>
    intro a q hc
    cases q with
    | zero => simp [tot]
    | succ q =>
     rw [List.take_succ_cons, tot_cons];have := ih _ q hc.2.2;have := hc.2.1;omega
  exact hc2 _ 0 q hc
 omega
theorem nd_get {o n g : Int} {s : SecD} {q : Nat} {x : NodeD} (h : ((splitB s).map (secNd o n s g))[q]? = some x) : q < (splitB s).length ∧ x = secNd o n s g ((splitB s).getD q default) := by
 rw [List.getElem?_map] at h
 cases hq : (splitB s)[q]? with
 | none => rw [hq] at h; cases h
 | some p =>
  rw [hq] at h;refine ⟨(List.getElem?_eq_some_iff.1 hq).1, ?_⟩;rw [List.getD_eq_getElem?_getD, hq];exact (Option.some.inj h).symm
def Below (N : List NodeD) (i k : Nat) : Prop := ∀ x ∈ N, x.obj < i ∨ (x.obj = i ∧ x.sec ≤ k)
def grG (l : List ObjD) : List NodeD := (ndA l).map (setE l)
theorem firE_all {α : Type} {f : α → Int} : ∀ {l : List α}, firE f l = 0 → ∀ a ∈ l, f a = 0 := by
 intro l
 induction l with
 | nil => intro _ a ha; cases ha
 | cons b l ih =>
  intro h a ha;rw [firE] at h;by_cases hb : f b ≠ 0
  · rw [if_pos hb] at h; exact absurd h hb
  · rw [if_neg hb] at h
    rcases List.mem_cons.1 ha with rfl | ha
    · exact Decidable.not_not.1 hb
    · exact ih h a ha
structure NodeF (l : List ObjD) (x : NodeD) : Prop where
 ob : 0 ≤ x.obj ∧ x.obj < l.length
 se : 1 ≤ x.sec ∧ x.sec ≤ (l.getD x.obj.toNat default).secs.length
 ok : (sX l x).ok
 fl : x.flags = (sX l x).flags
 nm : x.name = (sX l x).name
 h2 : hasF (sX l x).flags 2 = true
 fr : 0 ≤ (sX l x).flags ∧ (sX l x).flags ≤ 9223372036854775807
 sz : 0 ≤ x.size ∧ 0 ≤ x.pos ∧ x.pos + x.size ≤ (sX l x).size ∧ (sX l x).size ≤ 2147483647
 mg : hasF (sX l x).flags 16 = true → x.uniq = false ∧ x.edges = []
 ty : (sX l x).typ = 1 ∨ (sX l x).typ = 8
 dl : (sX l x).data.length ≤ 20000
 d1 : (sX l x).typ = 1 → x.data = ((sX l x).data.drop x.pos.toNat).take x.size.toNat ∧ x.pos + x.size ≤ (sX l x).data.length
 d8 : (sX l x).typ = 8 → x.data = []
 ed : x.edges = (sX l x).rels.map (relT l (secI l l.length).pcs (secI l l.length).bg x.obj)
 er : ∀ r ∈ (sX l x).rels, relE l (secI l l.length).pcs (secI l l.length).bg x.obj r = 0
 rl : (sX l x).rels.length ≤ 80
theorem node_f {l : List ObjD} (hok : ∀ o ∈ l, o.ok) (hf : fewB l = true) (hm : AllMay l) (he : grE l = 0) {x : NodeD} (hx : x ∈ grG l) : NodeF l x := by
 unfold grG at hx
 obtain ⟨z, hz, rfl⟩ := List.mem_map.1 hx
 have hze : (edX l z).2 = 0 := firE_all he z hz
 obtain ⟨y, ⟨i, k, hi, hk, hkp, p, hp, rfl⟩, rfl⟩ := ndA_of hz
 have hW := (few_W hf).2.1 _ (getD_in hi)
 have hWs := hW.sec _ (getD_in hk)
 have hkd := (sec_kind (may_shape hm hi) hk).1
 have K := kind_facts hkd
 have K2 := kind_more hkd
 have hS := sec_split hkd hWs.1
 have hsok := (hok _ (getD_in hi)).2.1 _ (getD_in hk)
 have hsx : sX l (setE l (mrkN (uqI l l.length) (secNd (i : Int) ((k : Int) + 1) ((l.getD i default).secs.getD k default) (sG l i k) p))) = (l.getD i default).secs.getD k default := sX_nd l i k ((l.getD i default).secs.getD k default) (sG l i k) p
 have hrx : relsX l (mrkN (uqI l l.length) (secNd (i : Int) ((k : Int) + 1) ((l.getD i default).secs.getD k default) (sG l i k) p)) = ((l.getD i default).secs.getD k default).rels := congrArg SecD.rels hsx
 obtain ⟨q, hq, hpq⟩ : ∃ q, q < (splitB ((l.getD i default).secs.getD k default)).length ∧ (splitB ((l.getD i default).secs.getD k default)).getD q default = p := by
  obtain ⟨q, hq, e⟩ := List.getElem_of_mem hp
  exact ⟨q, hq, by rw [List.getD_eq_getElem?_getD, List.getElem?_eq_getElem hq]; exact e⟩
 have hpi := piece_in hkd hq
 rw [hpq] at hpi
 have hedge : (setE l (mrkN (uqI l l.length) (secNd (i : Int) ((k : Int) + 1) ((l.getD i default).secs.getD k default) (sG l i k) p))).edges = ((l.getD i default).secs.getD k default).rels.map (relT l (secI l l.length).pcs (secI l l.length).bg (i : Int)) ∧ ∀ r ∈ ((l.getD i default).secs.getD k default).rels, relE l (secI l l.length).pcs (secI l l.length).bg (i : Int) r = 0 := by
  have h1 : firE (relE l (secI l l.length).pcs (secI l l.length).bg (i : Int)) ((l.getD i default).secs.getD k default).rels = 0 := by
   have : firE (relE l (secI l l.length).pcs (secI l l.length).bg (i : Int)) (relsX l (mrkN (uqI l l.length) (secNd (i : Int) ((k : Int) + 1) ((l.getD i default).secs.getD k default) (sG l i k) p))) = 0 := hze
   rw [hrx] at this; exact this
  refine ⟨?_, firE_all h1⟩
  show (edgF l (secI l l.length).pcs (secI l l.length).bg (mrkN (uqI l l.length) (secNd (i : Int) ((k : Int) + 1) ((l.getD i default).secs.getD k default) (sG l i k) p))).1 = _
  unfold edgF
  rw [hrx]
  show (if firE (relE l (secI l l.length).pcs (secI l l.length).bg (i : Int)) ((l.getD i default).secs.getD k default).rels = 0 then _ else _) = _
  rw [if_pos h1]; rfl
 have hkb : hasF ((l.getD i default).secs.getD k default).flags 2 = true := by
  unfold keptB at hkp
  rw [Bool.and_eq_true] at hkp
  exact hkp.1
 refine ⟨?_, ?_, ?_, ?_, ?_, ?_, ?_, ?_, ?_, ?_, ?_, ?_, ?_, ?_, ?_, ?_⟩
 · show 0 ≤ (i : Int) ∧ (i : Int) < l.length; omega
 · show 1 ≤ (k : Int) + 1 ∧ (k : Int) + 1 ≤ (l.getD ((i : Int)).toNat default).secs.length
   rw [Int.toNat_natCast]; omega
 · rw [hsx]; exact hsok
 · rw [hsx]; rfl
 · rw [hsx]; rfl
 · rw [hsx]; exact hkb
 · rw [hsx]; exact ⟨K.fl, hsok.2.2.1.2⟩
 · rw [hsx]
   show 0 ≤ p.2 ∧ 0 ≤ p.1 ∧ p.1 + p.2 ≤ _ ∧ _
   have := K.sz
   omega
 · rw [hsx]
   intro h16
   refine ⟨?_, ?_⟩
   · show (!hasF ((l.getD i default).secs.getD k default).flags 16 && _) = false
     rw [h16]; rfl
   · rw [hedge.1, List.length_eq_zero_iff.1 (K2.rl h16)]; rfl
 · rw [hsx]; exact K2.ty
 · rw [hsx]; exact hWs.1
 · rw [hsx]
   intro h1
   have := hS.2.2.2 h1 p hp
   refine ⟨?_, this.2.2⟩
   show (if ((l.getD i default).secs.getD k default).typ = 1 then _ else _) = _
   rw [if_pos h1]; rfl
 · rw [hsx]
   intro h8
   show (if ((l.getD i default).secs.getD k default).typ = 1 then _ else _) = _
   rw [if_neg (by omega)]
 · rw [hsx]; exact hedge.1
 · rw [hsx]; exact hedge.2
 · rw [hsx]; exact hWs.2
def gFst : List GrpD → Int → Int → Int
 | [], _, _ => 0
 | g :: gs, n, b => if n ∈ g.mem then b + 1 else gFst gs n (b + 1)
theorem gFst_yes {gs : List GrpD} {k : Nat} {n b : Int} (hk : k < gs.length) (h : n ∈ (gs.getD k default).mem) : gFst (gs.drop k) n b = b + 1 := by
 rw [drop_getD hk, gFst, if_pos h]
theorem gFst_no {gs : List GrpD} {k : Nat} {n b : Int} (hk : k < gs.length) (h : ¬ n ∈ (gs.getD k default).mem) : gFst (gs.drop k) n b = gFst (gs.drop (k + 1)) n (b + 1) := by
 rw [drop_getD hk, gFst, if_neg h]
theorem not_mem_all {m : List Int} {n : Int} (h : ∀ r, r < m.length → m.getD r default ≠ n) : ¬ n ∈ m := by
 intro hn;obtain ⟨r, hr, e⟩ := List.getElem_of_mem hn;refine h r hr ?_;rw [List.getD_eq_getElem?_getD, List.getElem?_eq_getElem hr]; exact e
def uniC (l : List ObjD) (i q : Nat) (o n : Int) : Bool := decide ((whereF l ⟨dropF l l.length, dI l l.length⟩ (i : Int) ((l.getD i default).sig.getD q default)).2 = 0) && decide ((whereF l ⟨dropF l l.length, dI l l.length⟩ (i : Int) ((l.getD i default).sig.getD q default)).1.sec = n) && decide ((whereF l ⟨dropF l l.length, dI l l.length⟩ (i : Int) ((l.getD i default).sig.getD q default)).1.obj = o)
def uniA (l : List ObjD) (o n : Int) : Prop := ∃ i q, i < l.length ∧ q < (l.getD i default).sig.length ∧ uniC l i q o n = true
set_option maxHeartbeats 4000000 in
theorem ref_group (l : List ObjD) (hw : GraphW l) (o : Nat) (ho : o < l.length) (n : Int) : A0 Tryz.prog 39 [.rd 5 (l.map objA), .v (.int .i64 ((o : Int))), .v (.int .i64 (n))] (fun ret => ret = .v (.int .i64 (gFst (l.getD o default).groups n (grpN l o)))) := by
 have hl8 := hw.rw_.len;refine A0.body 56 Tryz.func39 rfl rfl Tryz.ntmps39 fun base n0 => ?_
 refine go ?_;refine AW.loopU [.k, .k, .k, .f, .f, .f, .f, .k, .k, .F, .F, .F, .F, .F, .f, .f, .f, .f, .f, .f, .f] (fun (i : Nat) => [(7, .v (.int .i64 (grpN l i))), (8, .v (.int .i64 ((i : Int))))]) (fun i => Hn n0 []) (fun m i => (i ≤ o + 1 ∧ m = o + 1 - i) ∧ (i = o + 1 → gFst (l.getD o default).groups n (grpN l o) = 0)) (o + 1) (0) ⟨by omega, fun h => by omega⟩ (by rfl) cr ?_
 rintro m0 i ⟨hx1, hx2⟩
 refine go ?_;refine AW.iteB (GL.ev _) (fun h0 => ?_) (fun h0 => ?_)
 ·
  rw [decide_eq_true_eq] at h0;have hi : i < l.length := by omega
  have hgn := grpN_rng hw i (by omega);have hgi := hw.grp i hi;refine go ?_
  refine AW.loopU [.k, .k, .k, .f, .f, .f, .f, .k, .k, .k, .F, .F, .F, .F, .F, .f, .f, .f, .f, .f, .f] (fun (k : Nat) => [(7, .v (.int .i64 (grpN l i + (k : Int)))), (9, .v (.int .i64 ((k : Int))))]) (fun k => Hn n0 []) (fun m k => (k ≤ (l.getD i default).groups.length ∧ m = (l.getD i default).groups.length - k) ∧ (i = o → gFst (l.getD o default).groups n (grpN l o) = gFst ((l.getD o default).groups.drop k) n (grpN l o + k))) ((l.getD i default).groups.length) (0) ⟨by omega, fun h => by simp⟩ (by simp) cr ?_
  rintro m1 k ⟨hy1, hy2⟩
  refine go ?_;refine AW.iteB (GL.ev _) (fun h1 => ?_) (fun h1 => ?_)
  ·
   rw [decide_eq_true_eq] at h1;have hk : k < (l.getD i default).groups.length := by omega
   have hmm := (hw.rw_.g.mem i k hi hk).1;refine go ?_
   refine AW.loopU [.k, .k, .k, .f, .f, .f, .f, .k, .k, .k, .k, .k, .F, .F, .F, .F, .F, .f, .f, .f, .f] (fun (q : Nat) => [(11, .v (.int .i64 ((q : Int))))]) (fun q => Hn n0 []) (fun m q => (q ≤ ((l.getD i default).groups.getD k default).mem.length ∧ m = ((l.getD i default).groups.getD k default).mem.length - q) ∧ (i = o → ∀ r, r < q → ((l.getD i default).groups.getD k default).mem.getD r default ≠ n)) (((l.getD i default).groups.getD k default).mem.length) (0) ⟨by omega, fun h r hr => by omega⟩ cr cr ?_
   rintro m2 q ⟨hz1, hz2⟩
   refine go ?_;refine AW.iteB (GL.ev _) (fun h2 => ?_) (fun h2 => ?_)
   ·
    rw [decide_eq_true_eq] at h2;have hq : q < ((l.getD i default).groups.getD k default).mem.length := by omega
    refine gs ?_;iterate 4 refine AO.c ?_
    iterate 2 refine AO.gx ?_
    refine AO.gxo (fun _ => by omega) ?_;refine go ?_;refine AW.iteB (GL.ev _) (fun h3 => ?_) (fun h3 => ?_)
    ·
     simp only [Bool.and_eq_true, decide_eq_true_eq] at h3;have hio : i = o := by omega
     subst hio;have hres : gFst (l.getD i default).groups n (grpN l i) = grpN l i + (k : Int) + 1 := by rw [hy2 rfl]; exact gFst_yes hk (by rw [← h3.2]; exact getD_in hq)
     refine go ?_;refine AW.ret <|BQ.ret <|SQ.ret <|AW.out <|LU.ret <|BQ.ret <|BQ.ret <|SQ.ret <|AW.out <|LU.ret <|BQ.ret <|BQ.ret <|SQ.ret <|AW.out <|LU.ret <|BQ.ret <|SQ.ret ?_;refine Fin.ret (Gh.refl) noid1 ?_;rw [hres]; rfl
    ·
     have hnq : i = o → ∀ r, r < q + 1 → ((l.getD i default).groups.getD k default).mem.getD r default ≠ n := fun c r hr => by
      by_cases e : r = q
      · subst e; intro c2
        rw [decide_eq_true (show (i : Int) = (o : Int) by omega), decide_eq_true c2] at h3; cases h3
      · exact hz2 c r (by omega)
     refine AW.skip <|BQ.normal ?_;refine go ?_;exact AW.backU [.k, .k, .k, .f, .f, .f, .f, .k, .k, .k, .k, .k, .F, .F, .F, .F, .F, .f, .f, .f, .f] (m2 - 1) (q + 1) (by omega) (by (try dsimp only); exact ⟨by omega, hnq⟩) cr cr
   ·
    rw [decide_eq_false_iff_not] at h2;have hq : q = ((l.getD i default).groups.getD k default).mem.length := by omega
    have hnk : i = o → gFst (l.getD o default).groups n (grpN l o) = gFst ((l.getD o default).groups.drop (k + 1)) n (grpN l o + ((k + 1 : Nat) : Int)) := fun c => by
     have h := hz2 c;subst c;rw [hy2 rfl, gFst_no hk (not_mem_all (by rw [← hq]; exact h))]
     congr 1
     omega
    refine AW.exit <|SQ.exit <|AW.out <|LU.exit <|BQ.exit <|BQ.normal ?_;refine go ?_;exact AW.backU [.k, .k, .k, .f, .f, .f, .f, .k, .k, .k, .F, .F, .F, .F, .F, .f, .f, .f, .f, .f, .f] (m1 - 1) (k + 1) (by omega) (by (try dsimp only); exact ⟨by omega, hnk⟩) (by simp [Int.add_assoc]) cr
  ·
   rw [decide_eq_false_iff_not] at h1;have hk : k = (l.getD i default).groups.length := by omega
   have hnx : i + 1 = o + 1 → gFst (l.getD o default).groups n (grpN l o) = 0 := fun c => by
    have c : i = o := by omega
    subst c;rw [hy2 rfl, hk, List.drop_length]; rfl
   refine AW.exit <|SQ.exit <|AW.out <|LU.exit <|BQ.exit <|BQ.normal ?_;refine go ?_;exact AW.backU [.k, .k, .k, .f, .f, .f, .f, .k, .k, .F, .F, .F, .F, .F, .f, .f, .f, .f, .f, .f, .f] (m0 - 1) (i + 1) (by omega) (by (try dsimp only); exact ⟨by omega, hnx⟩) (by first | (rw [hk]; done) | (rw [hk]; rfl)) cr
 ·
  rw [decide_eq_false_iff_not] at h0;have hi : i = o + 1 := by omega
  have hres := hx2 hi;refine AW.exit <|SQ.exit <|AW.out <|LU.exit <|BQ.exit ?_;refine go ?_;refine AW.ret ?_;refine Fin.ret (Gh.refl) noid1 ?_;rw [hres]; rfl
set_option maxHeartbeats 4000000 in
theorem ref_unique (l : List ObjD) (hk : LOk l) (hw : ResW l) (o k : Nat) (ho : o < l.length) (hs : k < (l.getD o default).secs.length) : A0 Tryz.prog 40 [.rd 5 (l.map objA), .agg (tabA ⟨dropF l l.length, dI l l.length⟩), .v (.int .i64 ((o : Int))), .v (.int .i64 ((k : Int) + 1))] (fun ret => ∃ u : Bool, ret = .v (.bool u) ∧ (u = true ↔ (hasF ((l.getD o default).secs.getD k default).flags 16 = false ∧ ((l.getD o default).hasSig = false ∨ uniA l (o : Int) ((k : Int) + 1))))) := by
 have hl8 := hw.len
 have hsy := (hw.sy o ho).2
 have hso : ((l.getD o default).secs.getD k default).ok := (hk.ok _ (getD_in ho)).1.2.1 _ (getD_in hs)
 have hsg : ∀ o ∈ l, o.sig.length ≤ 1000000 := fun o ho => (hk.ok o ho).2.2
 refine A0.body 76 Tryz.func40 rfl rfl Tryz.ntmps40 fun base n0 => ?_
 refine AW.seq' ?_
 refine AW.region ?_
 refine AO.ww ?_
 refine AO.c ?_
 refine AO.nil ?_
 refine SQ.normal ?_
 refine AW.seq' ?_
 refine AW.region ?_
 iterate 2 refine AO.c ?_
 refine AO.o (by omega) ?_
 iterate 3 refine AO.c ?_
 refine AO.oo ?_
 refine AO.o (by omega) ?_
 refine AO.c ?_
 refine AO.eq 22 (av' := .agg (secA ((l.getD o default).secs.getD k default))) (by rw [show ((k : Int) + 1 - 1).toNat = k by omega]) ?_
 refine AO.call1 Tryz.func19 rfl rfl (ref_Has ((l.getD o default).secs.getD k default) 16 hso (by omega)) ?_
 refine AO.c ?_
 refine AO.nil ?_
 refine SQ.normal ?_
 refine AW.seq' ?_
 refine AW.seq' ?_
 refine AW.region ?_
 refine AO.c ?_
 refine AO.nil ?_
 refine SQ.normal ?_
 refine AW.iteB (GL.ev _) (fun h0 => ?_) (fun h0 => ?_)
 ·
  have hres := h0
  refine AW.seq' ?_
  refine AW.region ?_
  refine AO.c ?_
  refine AO.nil ?_
  refine SQ.normal ?_
  refine AW.ret ?_
  refine SQ.ret ?_
  refine Fin.ret (Gh.refl) noid1 ?_
  exact ⟨false, rfl, fun c => (by cases c), fun c => (by rw [h0] at c; cases c.1)⟩
 ·
  have hres := h0
  refine AW.skip ?_
  refine SQ.normal ?_
  refine AW.seq' ?_
  refine AW.seq' ?_
  refine AW.region ?_
  iterate 2 refine AO.c ?_
  refine AO.o (by omega) ?_
  iterate 3 refine AO.c ?_
  refine AO.nil ?_
  refine SQ.normal ?_
  refine AW.iteB (GL.ev _) (fun h1 => ?_) (fun h1 => ?_)
  ·
   rw [Bool.not_eq_true'] at h1
   refine AW.seq' ?_
   refine AW.region ?_
   refine AO.c ?_
   refine AO.nil ?_
   refine SQ.normal ?_
   refine AW.ret ?_
   refine SQ.ret ?_
   refine Fin.ret (Gh.refl) noid1 ?_
   exact ⟨true, rfl, fun _ => ⟨h0, .inl h1⟩, fun _ => rfl⟩
  ·
   rw [Bool.not_eq_false'] at h1
   refine AW.skip ?_
   refine SQ.normal ?_
   refine AW.seq' ?_
   refine AW.seq' ?_
   refine AW.region ?_
   refine AO.c ?_
   refine AO.nil ?_
   refine SQ.normal ?_
   refine AW.block' ?_
   refine AW.loopU2 [.k, .f, .k, .k, .f, .k, .f, .f, .f, .f, .k, .F, .F, .F, .F, .F, .F, .F, .F, .f] (fun (i j : Nat) => [(10, .v (.int .i64 ((i : Int))))]) (fun i j => Hn n0 (([some (.box 78 (tabA ⟨dropF l l.length, dI l l.length⟩))] ++ List.replicate j none) ++ [])) (fun m i j => (i ≤ l.length ∧ m = l.length - i) ∧ ∀ a q, a < i → q < (l.getD a default).sig.length → uniC l a q (o : Int) ((k : Int) + 1) = false) (l.length) (0) (0) ⟨by omega, fun a q h => by omega⟩ (by first | rfl | (simp; done)) (by first | rfl | (simp; done)) ?_
   rintro m0 i j ⟨hx1, hx2⟩
   refine AW.seq' ?_
   refine AW.seq' ?_
   refine AW.region ?_
   iterate 4 refine AO.c ?_
   refine AO.nil ?_
   refine SQ.normal ?_
   refine AW.iteB (GL.ev _) (fun h2 => ?_) (fun h2 => ?_)
   ·
    rw [decide_eq_true_eq] at h2
    have hi : i < l.length := by omega
    have hsi := hsg _ (getD_in hi)
    refine AW.skip ?_
    refine SQ.normal ?_
    refine AW.seq' ?_
    refine AW.block' ?_
    refine AW.seq' ?_
    refine AW.region ?_
    refine AO.c ?_
    refine AO.nil ?_
    refine SQ.normal ?_
    refine AW.block' ?_
    refine AW.loopU2 [.k, .f, .k, .k, .f, .k, .f, .f, .f, .f, .k, .k, .F, .F, .F, .F, .F, .F, .F, .F] (fun (q j2 : Nat) => [(11, .v (.int .i64 ((q : Int))))]) (fun q j2 => Hn n0 (([some (.box 78 (tabA ⟨dropF l l.length, dI l l.length⟩))] ++ List.replicate j2 none) ++ [])) (fun m q j2 => (q ≤ (l.getD i default).sig.length ∧ m = (l.getD i default).sig.length - q) ∧ ∀ r, r < q → uniC l i r (o : Int) ((k : Int) + 1) = false) ((l.getD i default).sig.length) (0) (j) ⟨by omega, fun r h => by omega⟩ (by first | rfl | (simp; done)) (by first | rfl | (simp; done)) ?_
    rintro m1 q j2 ⟨hy1, hy2⟩
    refine AW.seq' ?_
    refine AW.seq' ?_
    refine AW.region ?_
    iterate 3 refine AO.c ?_
    refine AO.oo ?_
    iterate 4 refine AO.c ?_
    refine AO.nil ?_
    refine SQ.normal ?_
    refine AW.iteB (GL.ev _) (fun h3 => ?_) (fun h3 => ?_)
    ·
     rw [decide_eq_true_eq] at h3
     have hq : q < (l.getD i default).sig.length := by omega
     refine AW.skip ?_
     refine SQ.normal ?_
     refine AW.seq' ?_
     refine AW.block' ?_
     refine AW.seq' ?_
     apply AW.mid
     case h =>
      refine AW.drawsZ [16] (.one 0 false (.one 1 false (.one 2 false (.one 3 false (.one 4 false (.one 5 false (.one 6 false (.one 7 false (.one 8 false (.one 9 false (.one 10 false (.two 11 15 (.one 12 false (.one 13 false (.pur 14 (.one 15 true (.one 16 true (.one 17 false .nil)))))) (.one 11 true (.one 12 false (.one 13 false (.pur 14 (.one 16 true (.one 17 false .nil)))))))))))))))))) (by kernel_rfl) rfl (by kernel_rfl) ?_
      iterate 5 refine AZ.c rfl ?_
      refine AZ.o rfl (by omega) ?_
      iterate 3 refine AZ.c rfl ?_
      refine AZ.o rfl (by omega) ?_
      refine AZ.c rfl ?_
      refine AZ.two ?_ ?_
      · refine AZi.call1 rfl Tryz.func20 rfl rfl (ref_WhereV hk hw (i : Int) ((l.getD i default).sig.getD q default)) ?_
        iterate 2 refine AZ.c rfl ?_
        refine AZ.p rfl ?_
        refine AZ.mkk rfl ?_
        refine AZ.sst rfl rfl ?_
        refine AZ.c rfl ?_
        exact AZ.done ⟨rfl, rfl⟩
      · refine AZi.mkk rfl ?_
        refine AZ.call1 rfl Tryz.func20 rfl rfl (ref_WhereV hk hw (i : Int) ((l.getD i default).sig.getD q default)) ?_
        iterate 2 refine AZ.c rfl ?_
        refine AZ.p rfl ?_
        refine AZ.sst rfl rfl ?_
        refine AZ.c rfl ?_
        exact AZ.done ⟨rfl, rfl⟩
     refine SQ.normal ?_
     refine AW.seq' ?_
     refine AW.region ?_
     iterate 3 refine AO.c ?_
     iterate 4 refine AO.gx ?_
     iterate 2 refine AO.c ?_
     iterate 4 refine AO.gx ?_
     refine AO.c ?_
     refine AO.nil ?_
     refine SQ.normal ?_
     refine AW.iteB (GL.ev _) (fun h4 => ?_) (fun h4 => ?_)
     ·
      have hu : uniA l (o : Int) ((k : Int) + 1) := ⟨i, q, hi, hq, h4⟩
      refine AW.seq' ?_
      refine AW.region ?_
      refine AO.c ?_
      refine AO.nil ?_
      refine SQ.normal ?_
      refine AW.ret ?_
      refine BQ.ret <| SQ.ret <| AW.out <| LU.ret <| BQ.ret <| BQ.ret <| SQ.ret <| AW.out <| LU.ret <| BQ.ret <| SQ.ret ?_
      refine Fin.ret (Gh.refl) noid1 ?_
      exact ⟨true, rfl, fun _ => ⟨h0, .inr hu⟩, fun _ => rfl⟩
     ·
      have hnq : ∀ r, r < q + 1 → uniC l i r (o : Int) ((k : Int) + 1) = false := fun r hr => by
       by_cases e : r = q
       · subst e; exact h4
       · exact hy2 r (by omega)
      refine AW.skip ?_
      refine BQ.normal ?_
      refine SQ.normal ?_
      refine AW.region ?_
      refine AO.c ?_
      refine AO.oo ?_
      refine AO.c ?_
      refine AO.nil ?_
      exact AW.backE [.k, .f, .k, .k, .f, .k, .f, .f, .f, .f, .k, .k, .F, .F, .F, .F, .F, .F, .F, .F] (j2) (m1 - 1) (q + 1, j2 + 1) (by omega) (by (try dsimp only); exact ⟨by omega, hnq⟩) (by first | rfl | (simp; done)) (by first | rfl | (simp; done))
    ·
     rw [decide_eq_false_iff_not] at h3
     have hq : q = (l.getD i default).sig.length := by omega
     subst hq
     have hnx : ∀ a r, a < i + 1 → r < (l.getD a default).sig.length → uniC l a r (o : Int) ((k : Int) + 1) = false := fun a r g1 g2 => by
      by_cases e : a = i
      · subst e; exact hy2 r g2
      · exact hx2 a r (by omega) g2
     refine AW.exit ?_
     refine SQ.exit <| AW.out <| LU.exit <| BQ.exit ?_
     refine BQ.normal ?_
     refine SQ.normal ?_
     refine AW.region ?_
     refine AO.c ?_
     refine AO.oo ?_
     refine AO.c ?_
     refine AO.nil ?_
     exact AW.backU [.k, .f, .k, .k, .f, .k, .f, .f, .f, .f, .k, .F, .F, .F, .F, .F, .F, .F, .F, .f] (m0 - 1) (i + 1, j2) (by omega) (by (try dsimp only); exact ⟨by omega, hnx⟩) (by first | rfl | (simp; done)) (by first | rfl | (simp; done))
   ·
    rw [decide_eq_false_iff_not] at h2
    have hi : i = l.length := by omega
    subst hi
    have hno : ¬ uniA l (o : Int) ((k : Int) + 1) := fun ⟨a, r, g1, g2, g3⟩ => by rw [hx2 a r g1 g2] at g3; cases g3
    refine AW.exit ?_
    refine SQ.exit <| AW.out <| LU.exit <| BQ.exit ?_
    refine SQ.normal ?_
    refine AW.seq' ?_
    refine AW.region ?_
    refine AO.c ?_
    refine AO.nil ?_
    refine SQ.normal ?_
    refine AW.ret ?_
    refine Fin.ret (Gh.refl) noid1 ?_
    exact ⟨false, rfl, fun c => (by cases c), fun c => (by rcases c.2 with c | c; rw [h1] at c; cases c; exact absurd c hno)⟩
theorem inS_get (g n : Int) : ∀ (m : List Int) (es : List (Int × Int)), aget (inS es g m) n = if n ∈ m then some g else aget es n := by
 intro m
 induction m with
 | nil => intro es; simp [inS]
 | cons a m ih =>
  intro es;have e : inS es g (a :: m) = inS (aput es a g) g m := rfl;rw [e, ih, aget_aput];by_cases h1 : n ∈ m
  · rw [if_pos h1, if_pos (List.mem_cons_of_mem _ h1)]
  · rw [if_neg h1]
    by_cases h2 : a = n
    · subst h2; rw [if_pos rfl, if_pos List.mem_cons_self]
    · rw [if_neg h2, if_neg]
      intro c;rcases List.mem_cons.1 c with c | c
      · exact h2 c.symm
      · exact h1 c
def lastG (n : Int) : List GrpD → Int → Option Int → Option Int
 | [], _, acc => acc
 | g :: gs, b, acc => lastG n gs (b + 1) (if n ∈ g.mem then some (b + 1) else acc)
theorem lastG_snoc (n : Int) (x : GrpD) : ∀ (gs : List GrpD) (b : Int) (acc : Option Int), lastG n (gs ++ [x]) b acc = if n ∈ x.mem then some (b + (gs.length : Int) + 1) else lastG n gs b acc := by
 intro gs
 induction gs with
 | nil => intro b acc; simp [lastG]
 | cons g gs ih =>
  intro b acc;rw [List.cons_append, lastG, ih, lastG];by_cases h : n ∈ x.mem
  · rw [if_pos h, if_pos h, List.length_cons]; congr 1; push_cast; omega
  · rw [if_neg h, if_neg h]
theorem inK_get (o : ObjD) (g n : Int) : ∀ j, j ≤ o.groups.length → aget (inK o g j) n = lastG n (o.groups.take j) g none := by
 intro j
 induction j with
 | zero => intro _; simp [inK, lastG, aget]
 | succ j ih =>
  intro hj;rw [inK, inS_get, ih (by omega), List.take_succ_eq_append_getElem (by omega), lastG_snoc, List.length_take, Nat.min_eq_left (by omega), List.getD_eq_getElem?_getD, List.getElem?_eq_getElem (by omega)];rfl
theorem mbF_cons (g : GrpD) (gs : List GrpD) (n : Int) : memberF (g :: gs) n = (g.mem.count n : Int) + memberF gs n := by
 unfold memberF; rw [List.map_cons, List.sum_cons]
theorem lastG_none {n : Int} : ∀ {gs : List GrpD} {b : Int} {acc : Option Int}, memberF gs n ≤ 0 → lastG n gs b acc = acc := by
 intro gs
 induction gs with
 | nil => intro b acc _; rfl
 | cons g gs ih =>
  intro b acc h;rw [mbF_cons] at h;have h2 := memberF_range (l := gs) (n := n);have hn : ¬ n ∈ g.mem := fun c => by
   have := List.count_pos_iff.2 c;omega
  rw [lastG, if_neg hn];exact ih (by omega)
theorem gFst_last {n : Int} : ∀ {gs : List GrpD} {b : Int}, memberF gs n ≤ 1 → gFst gs n b = (lastG n gs b none).getD 0 := by
 intro gs
 induction gs with
 | nil => intro b _; rfl
 | cons g gs ih =>
  intro b h;rw [mbF_cons] at h;have h2 := memberF_range (l := gs) (n := n);rw [gFst, lastG];by_cases hn : n ∈ g.mem
  · have := List.count_pos_iff.2 hn
    rw [if_pos hn, if_pos hn, lastG_none (by omega)]; rfl
  · rw [if_neg hn, if_neg hn]
    exact ih (by omega)
theorem grp_same {l : List ObjD} (hm : AllMay l) {i k : Nat} (hi : i < l.length) (hk : k < (l.getD i default).secs.length) : gFst (l.getD i default).groups ((k : Int) + 1) (grpN l i) = sG l i k := by
 have h1 := (shape_parts (may_shape hm hi)).2.2.1 k hk;unfold sectionB at h1;obtain ⟨_, h2⟩ := bif_t h1;obtain ⟨_, h3⟩ := bif_t h2;have hmf : memberF (l.getD i default).groups ((k : Int) + 1) ≤ 1 := by
  simp only [Bool.or_eq_true, Bool.and_eq_true, decide_eq_true_eq] at h3;omega
 rw [gFst_last hmf];unfold sG;rw [inK_get _ _ _ _ (Nat.le_refl _), List.take_length]
def posU (U : List ((Int × Int) × Int)) (k : Int × Int) : Prop := (aget U k).getD 0 > 0
theorem pos_inc {U : List ((Int × Int) × Int)} {b : Nat} (h : UOk U b) (k k' : Int × Int) : posU (incM U k) k' ↔ posU U k' ∨ k = k' := by
 unfold posU incM;rw [aget_aput];by_cases e : k = k'
 · subst e
   rw [if_pos rfl];have := (h k).1;exact ⟨fun _ => .inr rfl, fun _ => by show (aget U k).getD 0 + 1 > 0; omega⟩
 · rw [if_neg e]
   exact ⟨.inl, fun c => c.resolve_right e⟩
theorem pos_uqA {o : ObjD} {i : Nat} {U : List ((Int × Int) × Int)} {b : Nat} (h : UOk U b) (key : Int × Int) : ∀ k, posU (uqA o i U k) key ↔ posU U key ∨ (o.hasSig = false ∧ ∃ k', k' < k ∧ ((i : Int), (k' : Int) + 1) = key) := by
 intro k
 induction k with
 | zero => exact ⟨.inl, fun c => by rcases c with c | ⟨_, k', c, _⟩; exact c; omega⟩
 | succ k ih =>
  rw [uqA];by_cases hs : o.hasSig = false
  · rw [if_pos hs, pos_inc (uqA_ok h k), ih]
    constructor
    · rintro ((c | ⟨a, k', c, d⟩) | c)
      · exact .inl c
      · exact .inr ⟨a, k', by omega, d⟩
      · exact .inr ⟨hs, k, by omega, c⟩
    · rintro (c | ⟨a, k', c, d⟩)
      · exact .inl (.inl c)
      · by_cases e : k' = k
        · subst e; exact .inr d
        · exact .inl (.inr ⟨a, k', by omega, d⟩)
  · rw [if_neg hs, ih]
    constructor
    · rintro (c | ⟨a, _⟩)
      · exact .inl c
      · exact absurd a hs
    · rintro (c | ⟨a, _⟩)
      · exact .inl c
      · exact absurd a hs
def sigAt (l : List ObjD) (i q : Nat) (key : Int × Int) : Prop := (whereF l ⟨dropF l l.length, dI l l.length⟩ (i : Int) ((l.getD i default).sig.getD q default)).2 = 0 ∧ (whereF l ⟨dropF l l.length, dI l l.length⟩ (i : Int) ((l.getD i default).sig.getD q default)).1.sec > 0 ∧ ((whereF l ⟨dropF l l.length, dI l l.length⟩ (i : Int) ((l.getD i default).sig.getD q default)).1.obj, (whereF l ⟨dropF l l.length, dI l l.length⟩ (i : Int) ((l.getD i default).sig.getD q default)).1.sec) = key
theorem pos_uqB {l : List ObjD} {i : Nat} {U : List ((Int × Int) × Int)} {b : Nat} (h : UOk U b) (key : Int × Int) : ∀ q, posU (uqB l i U q) key ↔ posU U key ∨ ∃ r, r < q ∧ sigAt l i r key := by
 intro q
 induction q with
 | zero => exact ⟨.inl, fun c => by rcases c with c | ⟨r, c, _⟩; exact c; omega⟩
 | succ q ih =>
  rw [uqB]
  split
  · rename_i hc
    rw [pos_inc (uqB_ok h q), ih]
    constructor
    · rintro ((c | ⟨r, c, d⟩) | c)
      · exact .inl c
      · exact .inr ⟨r, by omega, d⟩
      · exact .inr ⟨q, by omega, hc.1, hc.2, c⟩
    · rintro (c | ⟨r, c, d⟩)
      · exact .inl (.inl c)
      · by_cases e : r = q
        · subst e; exact .inr d.2.2
        · exact .inl (.inr ⟨r, by omega, d⟩)
  · rename_i hc
    rw [ih]
    constructor
    · rintro (c | ⟨r, c, d⟩)
      · exact .inl c
      · exact .inr ⟨r, by omega, d⟩
    · rintro (c | ⟨r, c, d⟩)
      · exact .inl c
      · by_cases e : r = q
        · subst e; exact absurd ⟨d.1, d.2.1⟩ hc
        · exact .inr ⟨r, by omega, d⟩
theorem pos_uqI {l : List ObjD} (hw : ResW l) (hs : ∀ o ∈ l, o.sig.length ≤ 1000000) (key : Int × Int) : ∀ a, a ≤ l.length → (posU (uqI l a) key ↔ (∃ i k, i < a ∧ (l.getD i default).hasSig = false ∧ k < (l.getD i default).secs.length ∧ ((i : Int), (k : Int) + 1) = key) ∨ ∃ i q, i < a ∧ q < (l.getD i default).sig.length ∧ sigAt l i q key) := by
 intro a
 induction a with
 | zero =>
  intro _
  constructor
  · intro h; exact absurd h (by show ¬ (0 : Int) > 0; decide)
  · rintro (⟨i, k, h, _⟩ | ⟨i, q, h, _⟩) <;> omega
 | succ a ih =>
  intro ha;have hu := uqI_ok hw hs a (by omega);rw [uqI, pos_uqB (uqA_ok hu _), pos_uqA hu, ih (by omega)]
  constructor
  · rintro (((⟨i, k, h1, h2⟩ | ⟨i, q, h1, h2⟩) | ⟨h1, k, h2, h3⟩) | ⟨r, h1, h2⟩)
    · exact .inl ⟨i, k, by omega, h2⟩
    · exact .inr ⟨i, q, by omega, h2⟩
    · exact .inl ⟨a, k, by omega, h1, h2, h3⟩
    · exact .inr ⟨a, r, by omega, h1, h2⟩
  · rintro (⟨i, k, h1, h2, h3, h4⟩ | ⟨i, q, h1, h2, h3⟩)
    · by_cases e : i = a
      · subst e; exact .inl (.inr ⟨h2, k, h3, h4⟩)
      · exact .inl (.inl (.inl ⟨i, k, by omega, h2, h3, h4⟩))
    · by_cases e : i = a
      · subst e; exact .inr ⟨q, h2, h3⟩
      · exact .inl (.inl (.inr ⟨i, q, by omega, h2, h3⟩))
theorem uni_same {l : List ObjD} (hw : ResW l) (hs : ∀ o ∈ l, o.sig.length ≤ 1000000) {o k : Nat} (ho : o < l.length) (hk : k < (l.getD o default).secs.length) : posU (uqI l l.length) ((o : Int), (k : Int) + 1) ↔ ((l.getD o default).hasSig = false ∨ uniA l (o : Int) ((k : Int) + 1)) := by
 rw [pos_uqI hw hs _ _ (Nat.le_refl _)]
 constructor
 · rintro (⟨i, k', h1, h2, h3, h4⟩ | ⟨i, q, h1, h2, h3, h4, h5⟩)
   · have e : (i : Int) = o := congrArg Prod.fst h4
     have e : i = o := by omega
     subst e; exact .inl h2
   · refine .inr ⟨i, q, h1, h2, ?_⟩
     unfold uniC;rw [decide_eq_true h3, decide_eq_true (congrArg Prod.snd h5), decide_eq_true (congrArg Prod.fst h5)]; rfl
 · rintro (h | ⟨i, q, h1, h2, h3⟩)
   · exact .inl ⟨o, k, ho, h, hk, rfl⟩
   · unfold uniC at h3
     simp only [Bool.and_eq_true, decide_eq_true_eq] at h3;exact .inr ⟨i, q, h1, h2, h3.1.1, by omega, Prod.ext h3.2 h3.1.2⟩
theorem uni_node {l : List ObjD} (hw : ResW l) (hs : ∀ o ∈ l, o.sig.length ≤ 1000000) {o k : Nat} (ho : o < l.length) (hk : k < (l.getD o default).secs.length) {u : Bool} (hu : u = true ↔ (hasF ((l.getD o default).secs.getD k default).flags 16 = false ∧ ((l.getD o default).hasSig = false ∨ uniA l (o : Int) ((k : Int) + 1)))) : u = (!hasF ((l.getD o default).secs.getD k default).flags 16 && decide ((aget (uqI l l.length) ((o : Int), (k : Int) + 1)).getD 0 > 0)) := by
 rw [Bool.eq_iff_iff, hu, ← uni_same hw hs ho hk, Bool.and_eq_true, Bool.not_eq_true', decide_eq_true_eq];rfl
@[reducible] def nodeE (x : NodeD) (c : AV) : List AV := [.v (.int .i64 x.obj), .v (.int .i64 x.sec), .v (.int .i64 x.pos), .v (.string x.name), .v (.int .i64 x.typ), .v (.int .i64 x.flags), .v (.int .i64 x.align), .v (.int .i64 x.ent), .v (.int .i64 x.size), .rd 1 (bys x.data), c, .v (.bool x.uniq), .v (.int .i64 x.group), .v (.int .i64 x.link)]
@[reducible] def nodeZ (x : NodeD) : List AV := nodeE x (.v (.slice none 0 0))
theorem ref_uniqueV {l : List ObjD} (hk : LOk l) (hw : ResW l) {o k : Nat} (ho : o < l.length) (hs : k < (l.getD o default).secs.length) : A0 Tryz.prog 40 [.rd 5 (l.map objA), .agg (tabA ⟨dropF l l.length, dI l l.length⟩), .v (.int .i64 (o : Int)), .v (.int .i64 ((k : Int) + 1))] (fun ret => ret = .v (.bool (!hasF ((l.getD o default).secs.getD k default).flags 16 && decide ((aget (uqI l l.length) ((o : Int), (k : Int) + 1)).getD 0 > 0)))) :=
 A0.mono (ref_unique l hk hw o k ho hs) fun r ⟨u, h1, h2⟩ => by rw [h1, uni_node hw (fun o ho => (hk.ok o ho).2.2) ho hs h2]
theorem nod_map {U : List ((Int × Int) × Int)} {o k g : Int} {s : SecD} {N : List NodeD} {i : Nat} {x : NodeD} (h : i < (splitB s).length) (hx : mrkN U (secNd o k s g ((splitB s).getD i default)) = x) : ((N ++ ((splitB s).take (i + 1)).map (secNd o k s g)).map (mrkN U)).map nodeZ = ((N ++ ((splitB s).take i).map (secNd o k s g)).map (mrkN U)).map nodeZ ++ [nodeZ x] ∧ ((N ++ ((splitB s).take (i + 1)).map (secNd o k s g)).map (mrkN U)).length = ((N ++ ((splitB s).take i).map (secNd o k s g)).map (mrkN U)).length + 1 := by
 rw [node_snoc h, List.map_append (l₂ := [secNd o k s g ((splitB s).getD i default)]), List.map_append (l₂ := List.map (mrkN U) [_]), List.length_append];rw [← hx];exact ⟨rfl, rfl⟩
@[reducible] def z8 (l : List ObjD) := (tabA ⟨dropF l l.length, dI l l.length⟩)
set_option maxHeartbeats 8000000 in
theorem ref_nodes (l : List ObjD) (hk : LOk l) (hm : AllMay l) (hw : GraphW l) : A1 Tryz.prog 18 [.rd 5 (l.map objA), .agg (z8 l)] 56 14 ((ndA l).map nodeZ) := by
 have hl8 := hw.rw_.len
 have hsg : ∀ o ∈ l, o.sig.length ≤ 1000000 := fun o ho => (hk.ok o ho).2.2
 refine A1.body 117 (NIr.h) Tryz.func18 rfl rfl Tryz.ntmps18 fun base n0 => ?_
 refine AW.seq' ?_
 refine AW.region ?_
 refine AO.ww ?_
 refine AO.c ?_
 refine AO.nil ?_
 refine SQ.normal ?_
 refine AW.seq' ?_
 refine AW.region ?_
 refine AO.c ?_
 refine AO.nil ?_
 refine SQ.normal ?_
 refine AW.seq' ?_
 refine AW.seq' ?_
 refine AW.ghost (Gh.adoptM 5 56 14) ?_
 refine AW.region ?_
 refine AO.c ?_
 refine AO.nil ?_
 refine SQ.normal ?_
 refine AW.block' ?_
 refine AW.loopU3 [.k, .f, .f, .k, .f, .k, .k, .F, .F, .F, .F, .F, .F, .F, .F, .F, .F, .F, .F, .F, .f, .f, .f, .f, .f, .f] (fun (i j ep : Nat) => [(5, .own (n0 + 1) ep 0 ((((secI l i).nodes).map (mrkN (uqI l l.length)))).length), (6, .v (.int .i64 ((i : Int))))]) (fun i j ep => Hn n0 (([some (.box 78 (z8 l)), some (.row 56 14 (ep) (((((secI l i).nodes).map (mrkN (uqI l l.length)))).map nodeZ))] ++ List.replicate j none) ++ [])) (fun m i j ep => i ≤ l.length ∧ m = l.length - i) (l.length) (0) (0) (0) ⟨by omega, by omega⟩ (by first | rfl | (simp; done)) (by first | rfl | (simp; done)) ?_
 rintro m0 i j ep ⟨hx1, hx2⟩
 refine AW.seq' ?_
 refine AW.seq' ?_
 refine AW.region ?_
 iterate 4 refine AO.c ?_
 refine AO.nil ?_
 refine SQ.normal ?_
 refine AW.iteB (GL.ev _) (fun h0 => ?_) (fun h0 => ?_)
 ·
  rw [decide_eq_true_eq] at h0
  have hi : i < l.length := by omega
  have hsy := hw.rw_.sy i hi
  have hsl := secI_len hw i (by omega)
  have hdl := dropF_len l l.length
  have hrl := dropR_len l i
  refine AW.skip ?_
  refine SQ.normal ?_
  refine AW.seq' ?_
  refine AW.block' ?_
  refine AW.seq' ?_
  refine AW.region ?_
  refine AO.c ?_
  refine AO.nil ?_
  refine SQ.normal ?_
  refine AW.block' ?_
  refine AW.loopU3 [.k, .f, .f, .k, .f, .k, .k, .k, .F, .F, .F, .F, .F, .F, .F, .F, .F, .F, .F, .F, .F, .f, .f, .f, .f, .f] (fun (k j2 ep2 : Nat) => [(5, .own (n0 + 1) ep2 0 ((((secK l i (secI l i) (k)).nodes).map (mrkN (uqI l l.length)))).length), (7, .v (.int .i64 ((k : Int) + 1)))]) (fun k j2 ep2 => Hn n0 (([some (.box 78 (z8 l)), some (.row 56 14 (ep2) (((((secK l i (secI l i) (k)).nodes).map (mrkN (uqI l l.length)))).map nodeZ))] ++ List.replicate j2 none) ++ [])) (fun m k j2 ep2 => k ≤ (l.getD i default).secs.length ∧ m = (l.getD i default).secs.length - k) ((l.getD i default).secs.length) (0) (j) (ep) ⟨by omega, by omega⟩ (by first | rfl | (simp; done)) (by first | rfl | (simp; done)) ?_
  rintro m1 k j2 ep2 ⟨hy1, hy2⟩
  refine AW.seq' ?_
  refine AW.seq' ?_
  refine AW.region ?_
  iterate 3 refine AO.c ?_
  refine AO.o (by omega) ?_
  iterate 4 refine AO.c ?_
  refine AO.nil ?_
  refine SQ.normal ?_
  refine AW.iteB (GL.ev _) (fun h1 => ?_) (fun h1 => ?_)
  ·
   rw [decide_eq_true_eq] at h1
   have hk2 : k < (l.getD i default).secs.length := by omega
   have hsc := hw.sec i k hi hk2
   have hkd := (sec_kind (may_shape hm hi) hk2).1
   have hdat := hsc.dat
   have hpcs := hsc.pcs
   have hkl := secK_len hw hi (secI l i) k (by omega)
   refine AW.skip ?_
   refine SQ.normal ?_
   refine AW.seq' ?_
   refine AW.block' ?_
   refine AW.seq' ?_
   refine AW.region ?_
   iterate 2 refine AO.c ?_
   refine AO.o (by omega) ?_
   iterate 3 refine AO.c ?_
   refine AO.oo ?_
   refine AO.o (by omega) ?_
   refine AO.c ?_
   refine AO.eq 38 (av' := .agg (secA ((l.getD i default).secs.getD k default))) (by rw [show ((k : Int) + 1 - 1).toNat = k by omega]) ?_
   refine AO.ww ?_
   refine AO.sst ?_
   refine AO.nil ?_
   refine SQ.normal ?_
   refine AW.seq' ?_
   refine AW.region ?_
   refine AO.c ?_
   refine AO.call1 Tryz.func19 rfl rfl (ref_Has ((l.getD i default).secs.getD k default) 2 hsc.ok (by omega)) ?_
   refine AO.c ?_
   refine AO.nil ?_
   refine SQ.normal ?_
   refine AW.seq' ?_
   refine AW.seq' ?_
   refine AW.region ?_
   iterate 3 refine AO.c ?_
   iterate 3 refine AO.gx ?_
   refine AO.gxo (fun _ => by show i < (dropF l l.length).length; omega) ?_
   refine AO.gx ?_
   refine AO.eq 48 (av' := cv (!!hasF ((l.getD i default).secs.getD k default).flags 2) (.rd 1 ((dropR l i).map bA))) (by rw [dropF_get hi]) ?_
   refine AO.gx ?_
   refine AO.gxo (fun _ => by omega) ?_
   refine AO.gxo (fun _ => by omega) ?_
   refine AO.gx ?_
   refine AO.c ?_
   refine AO.nil ?_
   refine SQ.normal ?_
   refine AW.iteB (GL.ev _) (fun h2 => ?_) (fun h2 => ?_)
   ·
    rw [show ((k : Int) + 1 - 1).toNat = k by omega] at h2
    have hst : ((secK l i (secI l i) (k + 1)).nodes) = ((secK l i (secI l i) (k)).nodes) := by
     rw [secK, if_neg]
     unfold keptB
     intro c
     rw [Bool.and_eq_true, Bool.not_eq_true'] at c
     rw [c.1, c.2] at h2; cases h2
    refine AW.exit ?_
    refine SQ.exit <| BQ.exit ?_
    refine SQ.normal ?_
    refine AW.region ?_
    refine AO.c ?_
    refine AO.oo ?_
    refine AO.c ?_
    refine AO.nil ?_
    exact AW.backE [.k, .f, .f, .k, .f, .k, .k, .k, .F, .F, .F, .F, .F, .F, .F, .F, .F, .F, .F, .F, .F, .f, .f, .f, .f, .f] (j2) (m1 - 1) (k + 1, j2 + 1, ep2) (by omega) (by (try dsimp only); exact ⟨by omega, by omega⟩) (by first | ((try dsimp only); rw [hst]; done) | ((try dsimp only); rw [hst]; rfl)) (by first | ((try dsimp only); rw [hst]; done) | ((try dsimp only); rw [hst]; rfl))
   ·
    rw [show ((k : Int) + 1 - 1).toNat = k by omega] at h2
    have hst : ((secK l i (secI l i) (k + 1)).nodes) = ((secK l i (secI l i) (k)).nodes) ++ (splitB ((l.getD i default).secs.getD k default)).map (secNd (i : Int) ((k : Int) + 1) ((l.getD i default).secs.getD k default) (sG l i k)) := by
     rw [secK, if_pos]
     · rfl
     · unfold keptB
       rw [Bool.or_eq_false_iff] at h2
       rw [Bool.not_eq_false'] at h2
       rw [h2.2, h2.1]; rfl
    have hrs := ref_Split ((l.getD i default).secs.getD k default) hsc.ok (by omega)
    rw [← split_same (kind_facts hkd)] at hrs
    have hgr := ref_group l hw i hi ((k : Int) + 1)
    rw [grp_same hm hi hk2] at hgr
    have hun := ref_uniqueV hk hw.rw_ hi hk2
    refine AW.skip ?_
    refine SQ.normal ?_
    refine AW.seq' ?_
    refine AW.region ?_
    refine AO.c ?_
    refine AO.call1 Tryz.func38 rfl rfl (hrs) ?_
    refine AO.c ?_
    refine AO.nil ?_
    refine SQ.normal ?_
    refine AW.seq' ?_
    refine AW.region ?_
    refine AO.c ?_
    refine AO.nil ?_
    refine SQ.normal ?_
    refine AW.block' ?_
    refine AW.loopU3 [.k, .f, .f, .k, .f, .k, .k, .k, .k, .f, .k, .k, .F, .F, .F, .F, .F, .F, .F, .F, .F, .F, .F, .F, .F, .f] (fun (q j3 ep3 : Nat) => [(5, .own (n0 + 1) ep3 0 (((((secK l i (secI l i) (k)).nodes) ++ ((splitB ((l.getD i default).secs.getD k default)).take (q)).map (secNd (i : Int) ((k : Int) + 1) ((l.getD i default).secs.getD k default) (sG l i k))).map (mrkN (uqI l l.length)))).length), (11, .v (.int .i64 ((q : Int))))]) (fun q j3 ep3 => Hn n0 ((([some (.box 78 (z8 l)), some (.row 56 14 (ep3) ((((((secK l i (secI l i) (k)).nodes) ++ ((splitB ((l.getD i default).secs.getD k default)).take (q)).map (secNd (i : Int) ((k : Int) + 1) ((l.getD i default).secs.getD k default) (sG l i k))).map (mrkN (uqI l l.length)))).map nodeZ))] ++ List.replicate j2 none ++ [some (.box 41 (secA ((l.getD i default).secs.getD k default)))]) ++ List.replicate j3 none) ++ [])) (fun m q j3 ep3 => q ≤ (splitB ((l.getD i default).secs.getD k default)).length ∧ m = (splitB ((l.getD i default).secs.getD k default)).length - q) ((splitB ((l.getD i default).secs.getD k default)).length) (0) (0) (ep2) ⟨by omega, by omega⟩ (by simp) (by simp) ?_
    rintro m2 q j3 ep3 ⟨hz1, hz2⟩
    refine AW.seq' ?_
    refine AW.seq' ?_
    refine AW.region ?_
    iterate 4 refine AO.c ?_
    refine AO.nil ?_
    refine SQ.normal ?_
    refine AW.iteB (GL.ev _) (fun h3 => ?_) (fun h3 => ?_)
    ·
     rw [decide_eq_true_eq] at h3
     have hq : q < (splitB ((l.getD i default).secs.getD k default)).length := by omega
     refine AW.skip ?_
     refine SQ.normal ?_
     refine AW.seq' ?_
     refine AW.block' ?_
     refine AW.seq' ?_
     refine AW.region ?_
     iterate 2 refine AO.c ?_
     refine AO.oo ?_
     refine AO.c ?_
     refine AO.ww ?_
     refine AO.sst ?_
     refine AO.nil ?_
     refine SQ.normal ?_
     refine AW.seq' ?_
     refine AW.region ?_
     iterate 19 refine AO.c ?_
     refine AO.ww ?_
     refine AO.sst ?_
     refine AO.nil ?_
     refine SQ.normal ?_
     refine AW.seq' ?_
     refine AW.seq' ?_
     refine AW.region ?_
     iterate 3 refine AO.c ?_
     refine AO.nil ?_
     refine SQ.normal ?_
     refine AW.iteB (GL.ev _) (fun h4 => ?_) (fun h4 => ?_)
     ·
      rw [decide_eq_true_eq] at h4
      have hr := hsc.rng h4 _ (getD_in hq)
      have hns := nod_map (U := (uqI l l.length)) (N := ((secK l i (secI l i) (k)).nodes)) (o := (i : Int)) (k := (k : Int) + 1) (g := sG l i k) hq (x := (⟨(i : Int), (k : Int) + 1, ((splitB ((l.getD i default).secs.getD k default)).getD q default).1, ((l.getD i default).secs.getD k default).name, ((l.getD i default).secs.getD k default).typ, ((l.getD i default).secs.getD k default).flags, ((l.getD i default).secs.getD k default).align, ((l.getD i default).secs.getD k default).ent, ((splitB ((l.getD i default).secs.getD k default)).getD q default).2, (((l.getD i default).secs.getD k default).data.drop ((splitB ((l.getD i default).secs.getD k default)).getD q default).1.toNat).take ((splitB ((l.getD i default).secs.getD k default)).getD q default).2.toNat, [], (!hasF ((l.getD i default).secs.getD k default).flags 16 && decide ((aget (uqI l l.length) ((i : Int), (k : Int) + 1)).getD 0 > 0)), sG l i k, ((l.getD i default).secs.getD k default).link⟩ : NodeD)) (by
       show (⟨(i : Int), (k : Int) + 1, ((splitB ((l.getD i default).secs.getD k default)).getD q default).1, ((l.getD i default).secs.getD k default).name, ((l.getD i default).secs.getD k default).typ, ((l.getD i default).secs.getD k default).flags, ((l.getD i default).secs.getD k default).align, ((l.getD i default).secs.getD k default).ent, ((splitB ((l.getD i default).secs.getD k default)).getD q default).2, if ((l.getD i default).secs.getD k default).typ = 1 then (((l.getD i default).secs.getD k default).data.drop ((splitB ((l.getD i default).secs.getD k default)).getD q default).1.toNat).take ((splitB ((l.getD i default).secs.getD k default)).getD q default).2.toNat else [], [], (!hasF ((l.getD i default).secs.getD k default).flags 16 && decide ((aget (uqI l l.length) ((i : Int), (k : Int) + 1)).getD 0 > 0)), sG l i k, ((l.getD i default).secs.getD k default).link⟩ : NodeD) = _
       rw [if_pos h4])
      refine AW.region ?_
      refine AO.b0 ?_
      intro ad
      iterate 8 refine AO.c ?_
      refine AO.oo ?_
      refine AO.o (by simp only [Option.getD_some]; omega) ?_
      refine AO.eq 98 (av' := .rd 1 (bys ((((l.getD i default).secs.getD k default).data.drop ((splitB ((l.getD i default).secs.getD k default)).getD q default).1.toNat).take ((splitB ((l.getD i default).secs.getD k default)).getD q default).2.toNat))) (by simp only [Option.getD_some]; rw [List.drop_take, show (((splitB ((l.getD i default).secs.getD k default)).getD q default).1 + ((splitB ((l.getD i default).secs.getD k default)).getD q default).2).toNat - ((splitB ((l.getD i default).secs.getD k default)).getD q default).1.toNat = ((splitB ((l.getD i default).secs.getD k default)).getD q default).2.toNat by omega]) ?_
      refine AO.app0 rfl (by rw [bys_length, List.length_take, List.length_drop]; omega) (by rw [bys_length, List.length_take, List.length_drop]; omega) ?_
      refine AO.c ?_
      refine AO.sst ?_
      refine AO.nil ?_
      refine SQ.normal ?_
      refine AW.seq' ?_
      refine AW.region ?_
      iterate 3 refine AO.c ?_
      refine AO.call1 Tryz.func39 rfl rfl (hgr) ?_
      refine AO.c ?_
      refine AO.sst ?_
      refine AO.nil ?_
      refine SQ.normal ?_
      refine AW.seq' ?_
      refine AW.region ?_
      iterate 4 refine AO.c ?_
      refine AO.call1 Tryz.func40 rfl rfl (hun) ?_
      refine AO.c ?_
      refine AO.sst ?_
      refine AO.nil ?_
      refine SQ.normal ?_
      refine AW.region ?_
      iterate 2 refine AO.c ?_
      first | refine AO.ghost (Gh.tell 113 (.agg (nodeZ (⟨(i : Int), (k : Int) + 1, ((splitB ((l.getD i default).secs.getD k default)).getD q default).1, ((l.getD i default).secs.getD k default).name, ((l.getD i default).secs.getD k default).typ, ((l.getD i default).secs.getD k default).flags, ((l.getD i default).secs.getD k default).align, ((l.getD i default).secs.getD k default).ent, ((splitB ((l.getD i default).secs.getD k default)).getD q default).2, (((l.getD i default).secs.getD k default).data.drop ((splitB ((l.getD i default).secs.getD k default)).getD q default).1.toNat).take ((splitB ((l.getD i default).secs.getD k default)).getD q default).2.toNat, [], (!hasF ((l.getD i default).secs.getD k default).flags 16 && decide ((aget (uqI l l.length) ((i : Int), (k : Int) + 1)).getD 0 > 0)), sG l i k, ((l.getD i default).secs.getD k default).link⟩ : NodeD)))) ?_ | refine AO.ghost (Gh.tell 113 (.agg (nodeZ (⟨(i : Int), (k : Int) + 1, ((splitB ((l.getD i default).secs.getD k default)).getD q default).1, ((l.getD i default).secs.getD k default).name, ((l.getD i default).secs.getD k default).typ, ((l.getD i default).secs.getD k default).flags, ((l.getD i default).secs.getD k default).align, ((l.getD i default).secs.getD k default).ent, ((splitB ((l.getD i default).secs.getD k default)).getD q default).2, [], [], (!hasF ((l.getD i default).secs.getD k default).flags 16 && decide ((aget (uqI l l.length) ((i : Int), (k : Int) + 1)).getD 0 > 0)), sG l i k, ((l.getD i default).secs.getD k default).link⟩ : NodeD)))) ?_
      refine AO.rr ?_
      refine AO.ww ?_
      refine AO.c ?_
      refine AO.nil ?_
      refine BQ.normal ?_
      refine SQ.normal ?_
      refine AW.region ?_
      refine AO.c ?_
      refine AO.oo ?_
      refine AO.c ?_
      refine AO.nil ?_
      exact AW.backE [.k, .f, .f, .k, .f, .k, .k, .k, .k, .f, .k, .k, .F, .F, .F, .F, .F, .F, .F, .F, .F, .F, .F, .F, .F, .f] (j3) (m2 - 1) (q + 1, j3 + 2, ep3 + 1) (by omega) (by (try dsimp only); exact ⟨by omega, by omega⟩) (by first | ((try dsimp only); rw [hns.2]; done) | ((try dsimp only); rw [hns.2]; rfl)) (by first | ((try dsimp only); rw [hns.1]; done) | ((try dsimp only); rw [hns.1]; rfl))
     ·
      rw [decide_eq_false_iff_not] at h4
      have hns := nod_map (U := (uqI l l.length)) (N := ((secK l i (secI l i) (k)).nodes)) (o := (i : Int)) (k := (k : Int) + 1) (g := sG l i k) hq (x := (⟨(i : Int), (k : Int) + 1, ((splitB ((l.getD i default).secs.getD k default)).getD q default).1, ((l.getD i default).secs.getD k default).name, ((l.getD i default).secs.getD k default).typ, ((l.getD i default).secs.getD k default).flags, ((l.getD i default).secs.getD k default).align, ((l.getD i default).secs.getD k default).ent, ((splitB ((l.getD i default).secs.getD k default)).getD q default).2, [], [], (!hasF ((l.getD i default).secs.getD k default).flags 16 && decide ((aget (uqI l l.length) ((i : Int), (k : Int) + 1)).getD 0 > 0)), sG l i k, ((l.getD i default).secs.getD k default).link⟩ : NodeD)) (by
       show (⟨(i : Int), (k : Int) + 1, ((splitB ((l.getD i default).secs.getD k default)).getD q default).1, ((l.getD i default).secs.getD k default).name, ((l.getD i default).secs.getD k default).typ, ((l.getD i default).secs.getD k default).flags, ((l.getD i default).secs.getD k default).align, ((l.getD i default).secs.getD k default).ent, ((splitB ((l.getD i default).secs.getD k default)).getD q default).2, if ((l.getD i default).secs.getD k default).typ = 1 then (((l.getD i default).secs.getD k default).data.drop ((splitB ((l.getD i default).secs.getD k default)).getD q default).1.toNat).take ((splitB ((l.getD i default).secs.getD k default)).getD q default).2.toNat else [], [], (!hasF ((l.getD i default).secs.getD k default).flags 16 && decide ((aget (uqI l l.length) ((i : Int), (k : Int) + 1)).getD 0 > 0)), sG l i k, ((l.getD i default).secs.getD k default).link⟩ : NodeD) = _
       rw [if_neg h4])
      refine AW.skip ?_
      refine SQ.normal ?_
      refine AW.seq' ?_
      refine AW.region ?_
      iterate 3 refine AO.c ?_
      refine AO.call1 Tryz.func39 rfl rfl (hgr) ?_
      refine AO.c ?_
      refine AO.sst ?_
      refine AO.nil ?_
      refine SQ.normal ?_
      refine AW.seq' ?_
      refine AW.region ?_
      iterate 4 refine AO.c ?_
      refine AO.call1 Tryz.func40 rfl rfl (hun) ?_
      refine AO.c ?_
      refine AO.sst ?_
      refine AO.nil ?_
      refine SQ.normal ?_
      refine AW.region ?_
      iterate 2 refine AO.c ?_
      first | refine AO.ghost (Gh.tell 113 (.agg (nodeZ (⟨(i : Int), (k : Int) + 1, ((splitB ((l.getD i default).secs.getD k default)).getD q default).1, ((l.getD i default).secs.getD k default).name, ((l.getD i default).secs.getD k default).typ, ((l.getD i default).secs.getD k default).flags, ((l.getD i default).secs.getD k default).align, ((l.getD i default).secs.getD k default).ent, ((splitB ((l.getD i default).secs.getD k default)).getD q default).2, (((l.getD i default).secs.getD k default).data.drop ((splitB ((l.getD i default).secs.getD k default)).getD q default).1.toNat).take ((splitB ((l.getD i default).secs.getD k default)).getD q default).2.toNat, [], (!hasF ((l.getD i default).secs.getD k default).flags 16 && decide ((aget (uqI l l.length) ((i : Int), (k : Int) + 1)).getD 0 > 0)), sG l i k, ((l.getD i default).secs.getD k default).link⟩ : NodeD)))) ?_ | refine AO.ghost (Gh.tell 113 (.agg (nodeZ (⟨(i : Int), (k : Int) + 1, ((splitB ((l.getD i default).secs.getD k default)).getD q default).1, ((l.getD i default).secs.getD k default).name, ((l.getD i default).secs.getD k default).typ, ((l.getD i default).secs.getD k default).flags, ((l.getD i default).secs.getD k default).align, ((l.getD i default).secs.getD k default).ent, ((splitB ((l.getD i default).secs.getD k default)).getD q default).2, [], [], (!hasF ((l.getD i default).secs.getD k default).flags 16 && decide ((aget (uqI l l.length) ((i : Int), (k : Int) + 1)).getD 0 > 0)), sG l i k, ((l.getD i default).secs.getD k default).link⟩ : NodeD)))) ?_
      refine AO.rr ?_
      refine AO.ww ?_
      refine AO.c ?_
      refine AO.nil ?_
      refine BQ.normal ?_
      refine SQ.normal ?_
      refine AW.region ?_
      refine AO.c ?_
      refine AO.oo ?_
      refine AO.c ?_
      refine AO.nil ?_
      exact AW.backE [.k, .f, .f, .k, .f, .k, .k, .k, .k, .f, .k, .k, .F, .F, .F, .F, .F, .F, .F, .F, .F, .F, .F, .F, .F, .f] (j3) (m2 - 1) (q + 1, j3 + 2, ep3 + 1) (by omega) (by (try dsimp only); exact ⟨by omega, by omega⟩) (by first | ((try dsimp only); rw [hns.2]; done) | ((try dsimp only); rw [hns.2]; rfl)) (by first | ((try dsimp only); rw [hns.1]; done) | ((try dsimp only); rw [hns.1]; rfl))
    ·
     rw [decide_eq_false_iff_not] at h3
     have hq : q = (splitB ((l.getD i default).secs.getD k default)).length := by omega
     subst hq
     rw [List.take_length]
     refine AW.exit ?_
     refine SQ.exit <| AW.out <| LU.exit <| BQ.exit ?_
     refine BQ.normal ?_
     refine SQ.normal ?_
     refine AW.region ?_
     refine AO.c ?_
     refine AO.oo ?_
     refine AO.c ?_
     refine AO.nil ?_
     exact AW.backE [.k, .f, .f, .k, .f, .k, .k, .k, .F, .F, .F, .F, .F, .F, .F, .F, .F, .F, .F, .F, .F, .f, .f, .f, .f, .f] (j2) (m1 - 1) (k + 1, j2 + (1 + j3), ep3) (by omega) (by (try dsimp only); exact ⟨by omega, by omega⟩) (by first | ((try dsimp only); rw [hst]; done) | ((try dsimp only); rw [hst]; rfl)) ((Hn_repJ (b := j2 + (1 + j3)) (by first | (simp; done) | (simp; omega))).trans (by (try dsimp only); rw [hst]; try rfl))
  ·
   rw [decide_eq_false_iff_not] at h1
   have hk2 : k = (l.getD i default).secs.length := by omega
   subst hk2
   refine AW.exit ?_
   refine SQ.exit <| AW.out <| LU.exit <| BQ.exit ?_
   refine BQ.normal ?_
   refine SQ.normal ?_
   refine AW.region ?_
   refine AO.c ?_
   refine AO.oo ?_
   refine AO.c ?_
   refine AO.nil ?_
   exact AW.backU [.k, .f, .f, .k, .f, .k, .k, .F, .F, .F, .F, .F, .F, .F, .F, .F, .F, .F, .F, .F, .f, .f, .f, .f, .f, .f] (m0 - 1) (i + 1, j2, ep2) (by omega) (by (try dsimp only); exact ⟨by omega, by omega⟩) (by first | rfl | (simp; done)) (by first | rfl | (simp; done))
 ·
  rw [decide_eq_false_iff_not] at h0
  have hi : i = l.length := by omega
  subst hi
  have hnl := ndA_len hw
  refine AW.exit ?_
  refine SQ.exit <| AW.out <| LU.exit <| BQ.exit ?_
  refine SQ.normal ?_
  refine AW.seq' ?_
  refine AW.region ?_
  iterate 2 refine AO.c ?_
  refine AO.nil ?_
  refine SQ.normal ?_
  refine AW.ret ?_
  refine FinO.ret 4 (Gh.refl) rfl ?_ ?_ (.inr rfl)
  · first | rfl | (simp; done)
  · first | rfl | omega | (simp; done) | (simp; omega)
end Go.Proofs.YtkbbcenjklaglaaGreat.AL
