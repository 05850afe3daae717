/- A part of the proof: rules of an own logic over blocks, and what functions of the program compute, each by its own contract; the conditions stand with each. -/
import Derived.Test.YtkbbcenjklaglaaGreatCe
import Derived.Test.YtkbbcenjklaglaaGreatCf
namespace Go.Proofs.YtkbbcenjklaglaaGreat.AL
open Go Go.RowKit Go.Proofs.YtkbbcenjklaglaaGreat.Base
set_option linter.unusedVariables false
set_option linter.unusedSimpArgs false
set_option maxRecDepth 4000
set_option synthInstance.maxSize 1000
set_option synthInstance.maxHeartbeats 200000
structure PartD where
 h : ShD
 name : ByteArray
 b : List Int
 deriving Inhabited
@[reducible] def partA (p : PartD) : List AV := [.v (.int .i64 p.h.a0), .v (.int .i64 p.h.a1), .v (.int .i64 p.h.a2), .v (.int .i64 p.h.a3), .v (.int .i64 p.h.a4), .v (.int .i64 p.h.a5), .v (.int .i64 p.h.a6), .v (.int .i64 p.h.a7), .v (.int .i64 p.h.a8), .v (.int .i64 p.h.a9), .v (.string p.name), .rd 1 (bys p.b)]
def nRela : ByteArray := { data := #[46, 114, 101, 108, 97] }
def nGroup : ByteArray := { data := #[46, 103, 114, 111, 117, 112] }
def nSig : ByteArray := { data := #[46, 108, 108, 118, 109, 95, 97, 100, 100, 114, 115, 105, 103] }
def nSym : ByteArray := { data := #[46, 115, 121, 109, 116, 97, 98] }
def nStr : ByteArray := { data := #[46, 115, 116, 114, 116, 97, 98] }
def nShs : ByteArray := { data := #[46, 115, 104, 115, 116, 114, 116, 97, 98] }
def zPart : PartD := ⟨⟨0, 0, 0, 0, 0, 0, 0, 0, 0, 0⟩, { data := #[] }, []⟩
def secPart (s : SecD) : PartD := ⟨⟨0, s.typ, s.flags, 0, 0, s.size, s.link, 0, s.align, s.ent⟩, s.name, s.data⟩
def putR (r : RelD) : List Int := if mayRelB r = true then relB r else []
def putN (x : Int) : List Int := if Wide 4 then dig (IntKind.u64.wrap x) (Int.toNat 4) else []
def putE (e : EntD) : List Int := if MayE e then entB e else []
def putH (h : ShD) : List Int := if h.may then h.bytes else []
def relPart (at_ n : Int) (s : SecD) : List PartD := if s.rels.length = 0 then [] else [⟨⟨0, 4, 0, 0, 0, 0, at_, n, 8, 24⟩, nRela, s.rels.flatMap putR⟩]
def relPs (at_ : Int) : Int → List SecD → List PartD
 | _, [] => []
 | n, s :: r => relPart at_ n s ++ relPs at_ (n + 1) r
def grpPart (at_ : Int) (g : GrpD) : PartD := ⟨⟨0, 17, 0, 0, 0, 0, at_, g.sym, 4, 4⟩, nGroup, [1, 0, 0, 0] ++ g.mem.flatMap putN⟩
def sigPart (at_ : Int) (o : ObjD) : List PartD := if o.hasSig = true then [⟨⟨0, 1879002115, 0, 0, 0, 0, at_, 0, 1, 0⟩, nSig, o.sig.flatMap encB⟩] else []
def midF (o : ObjD) (at_ : Int) : List PartD := relPs at_ 1 o.secs ++ o.groups.map (grpPart at_) ++ sigPart at_ o
def idxY (s : SymD) : Int := if s.sec < 0 then 65521 else s.sec
def entY (s : SymD) (nm : Int) : EntD := ⟨nm, s.bind, s.typ, idxY s, s.val, s.size⟩
def namesOf (o : ObjD) : List ByteArray := o.syms.map (·.name)
def entB1 (o : ObjD) (pl : List Int) (i : Nat) : List Int := putE (entY (o.syms.getD i default) (pl.getD i 0))
def entsF (o : ObjD) (pl : List Int) (n : Nat) : List Int := (List.range n).flatMap (entB1 o pl)
def localF (l : List SymD) : Int := (l.countP fun s => decide (s.bind = 0) : Nat)
def symPt (o : ObjD) (at_ : Int) : PartD := ⟨⟨0, 2, 0, 0, 0, 0, at_ + 1, localF o.syms, 8, 24⟩, nSym, entsF o (tabOf (namesOf o)).2.1 o.syms.length⟩
def strPt (o : ObjD) : PartD := ⟨⟨0, 3, 0, 0, 0, 0, 0, 0, 1, 0⟩, nStr, (tabOf (namesOf o)).1⟩
def shsPt : PartD := ⟨⟨0, 3, 0, 0, 0, 0, 0, 0, 1, 0⟩, nShs, []⟩
def atF8 (o : ObjD) : Int := 1 + o.secs.length + (midF o 0).length
def preF (o : ObjD) : List PartD := (zPart :: o.secs.map secPart) ++ midF o (atF8 o) ++ [symPt o (atF8 o)] ++ [strPt o] ++ [shsPt]
def PartD.named (p : PartD) (n : Int) : PartD := ⟨⟨n, p.h.a1, p.h.a2, p.h.a3, p.h.a4, p.h.a5, p.h.a6, p.h.a7, p.h.a8, p.h.a9⟩, p.name, p.b⟩
def PartD.told (p : PartD) (b : List Int) : PartD := ⟨p.h, p.name, b⟩
def pNames (o : ObjD) : List ByteArray := (preF o).map (·.name)
def tblF (o : ObjD) : List PartD := (preF o).set ((preF o).length - 1) (shsPt.told (tabOf (pNames o)).1)
def nmF (pl : List Int) (l : List PartD) : Nat → List PartD
 | 0 => l
 | i + 1 => (nmF pl l i).set i (((nmF pl l i).getD i default).named (pl.getD i 0))
def finF (o : ObjD) : List PartD := nmF (tabOf (pNames o)).2.1 (tblF o) (preF o).length
def headOf (i : Nat) (body : List Int) (p : PartD) : ShD := if i = 0 then p.h else ⟨p.h.a0, p.h.a1, p.h.a2, p.h.a3, 64 + body.length, if p.h.a1 = 8 then p.h.a5 else p.b.length, p.h.a6, p.h.a7, p.h.a8, p.h.a9⟩
def layN (l : List PartD) : Nat → List Int × List Int
 | 0 => ([], [])
 | i + 1 => ((layN l i).1 ++ (l.getD i default).b, (layN l i).2 ++ putH (headOf i (layN l i).1 (l.getD i default)))
def putEh (h : HdD) : List Int := if h.may then h.bytes else []
def bytesF (o : ObjD) : List Int := putEh ⟨64 + (layN (finF o) (finF o).length).1.length, (finF o).length, (finF o).length - 1⟩ ++ (layN (finF o) (finF o).length).1 ++ (layN (finF o) (finF o).length).2
structure LayH (o : ObjD) : Prop where
 ok : o.ok
 sh : shapeB o = true
 gs : o.groups.length ≤ 900000
 sg : o.sig.length ≤ 1000000
structure LaySm (o : ObjD) : Prop where
 secs : o.secs.length ≤ 32
 syms : o.syms.length ≤ 128 ∧ 1 ≤ o.syms.length
 sec : ∀ s ∈ o.secs, s.ok ∧ (s.data.length : Int) ≤ 16384 ∧ (s.rels.length : Int) ≤ 64 ∧ (∀ r ∈ s.rels, mayRelB r = true) ∧ s.name.size ≤ 32
 grp : ∀ g ∈ o.groups, GrpOk o.secs.length o.syms.length g ∧ g.mem.length ≤ 32
 sym : ∀ s ∈ o.syms, s.ok ∧ s.name.size ≤ 32 ∧ -1 ≤ s.sec
 sig : ∀ x ∈ o.sig, I64 x
theorem inc_len : ∀ (l : List Int) (a N : Int), inc a l → (∀ x ∈ l, x ≤ N) → a ≤ N → a + l.length ≤ N := by
 intro l
 induction l with
 | nil => intro a N _ _ h; simpa using h
 | cons y r ih =>
  intro a N h h2 h3;have := ih y N h.2 (fun x hx => h2 x (List.mem_cons_of_mem _ hx)) (h2 y List.mem_cons_self);have := h.1;simp only [List.length_cons, Int.natCast_add];omega
theorem relsG_all {many len : Int} : ∀ (l : List RelD) (prev : Option RelD), relsG many len prev l = true → ∀ r ∈ l, mayRelB r = true := by
 intro l
 induction l with
 | nil => intro _ _ r hr; cases hr
 | cons y q ih =>
  intro prev h r hr;rw [relsG_cons] at h;have h2 : mayRelB y = true ∧ relsG many len (some y) q = true := by
   revert h
   cases mayRelB y <;> cases decide (y.sym ≥ many) <;> cases decide (y.off + widthF y.typ > len) <;> cases prevBad y prev <;> simp
  rcases List.mem_cons.1 hr with rfl | hr
  · exact h2.1
  · exact ih _ h2.2 r hr
theorem LayH.small {o : ObjD} (h : LayH o) : LaySm o := by
 have hs := h.sh;unfold shapeB at hs;simp only [Bool.and_eq_true, Bool.not_eq_true', Bool.or_eq_false_iff, decide_eq_false_iff_not] at hs;obtain ⟨⟨⟨⟨⟨⟨⟨a1, a2⟩, a3⟩, _⟩, hg⟩, hsec⟩, hsym⟩, hsig⟩ := hs;have a1' : o.secs.length ≤ 32 := by omega
 refine ⟨a1', by omega, fun s hsm => ?_, fun g hgm => ?_, fun s hsm => ?_, h.ok.2.2.2.2.2.2.2⟩
 · obtain ⟨i, hi, rfl⟩ := List.getElem_of_mem hsm
   have hok := h.ok.2.1 _ hsm;have := List.all_eq_true.1 hsec i (List.mem_range.2 hi);unfold sectionB at this;rw [show ((i : Int) + 1 - 1).toNat = i by omega] at this;have e : o.secs.getD i default = o.secs[i] := by simp [hi]
   rw [e] at this;have h3 : nameB o.secs[i].name = true ∧ kindB o.secs[i] = true ∧ relsB o o.secs[i] = true := by
    revert this
    cases nameB o.secs[i].name <;> cases kindB o.secs[i] <;> cases relsB o o.secs[i] <;> simp
   obtain ⟨h4, h5, h6⟩ := h3;refine ⟨hok, ?_, ?_, ?_, ?_⟩
   · rw [← kind_eq hok] at h5
     simp only [Bool.and_eq_true, Bool.not_eq_true', Bool.or_eq_false_iff, Bool.not_eq_false'] at h5;have ht := h5.2.1.2;unfold typedP at ht;by_cases q1 : o.secs[i].typ = 1
     · rw [decide_eq_true q1, cond_true] at ht
       simp only [Bool.and_eq_true, decide_eq_true_eq] at ht;omega
     · rw [decide_eq_false q1, cond_false] at ht
       by_cases q8 : o.secs[i].typ = 8
       · rw [decide_eq_true q8, cond_true] at ht
         simp only [Bool.and_eq_true, decide_eq_true_eq] at ht;omega
       · rw [decide_eq_false q8] at ht; cases ht
   · unfold relsB at h6
     simp only [Bool.and_eq_true, decide_eq_true_eq] at h6;exact h6.1
   · unfold relsB at h6
     simp only [Bool.and_eq_true, decide_eq_true_eq] at h6;exact relsG_all _ _ h6.2
   · unfold nameB at h4
     simp only [Bool.and_eq_true, decide_eq_true_eq] at h4;exact h4.1
 · have hgo := grpB_iff.1 (List.all_eq_true.1 hg g hgm)
   refine ⟨hgo, ?_⟩;have := inc_len g.mem 0 o.secs.length hgo.2.2.2.1 hgo.2.2.2.2 (by omega);omega
 · obtain ⟨i, hi, rfl⟩ := List.getElem_of_mem hsm
   have hok := h.ok.2.2.2.1 _ hsm;have := List.all_eq_true.1 hsym i (List.mem_range.2 hi);unfold symbolB at this;rw [show ((i : Int)).toNat = i by omega] at this;have e : o.syms.getD i default = o.syms[i] := by simp [hi]
   rw [e] at this;refine ⟨hok, ?_, ?_⟩
   · by_cases h0 : (i : Int) = 0
     · rw [decide_eq_true h0, cond_true] at this
       simp only [Bool.and_eq_true, decide_eq_true_eq] at this;have h5 := this.1.1.1.1.1;have : o.syms[i].name.size = 0 := by
        have h6 := congrArg List.length h5;rw [ByteArray.toList_eq, ByteArray.toList_eq] at h6;simpa using h6
       omega
     · rw [decide_eq_false h0, cond_false] at this
       have : nameB o.syms[i].name = true := by
        revert this
        cases nameB o.syms[i].name <;> simp
       unfold nameB at this;simp only [Bool.and_eq_true, decide_eq_true_eq] at this;exact this.1
   · by_cases h0 : (i : Int) = 0
     · rw [decide_eq_true h0, cond_true] at this
       simp only [Bool.and_eq_true, decide_eq_true_eq] at this;omega
     · rw [decide_eq_false h0, cond_false] at this
       by_cases hc : o.syms[i].sec < -1
       · exfalso
         rw [decide_eq_true hc] at this
         revert this
         simp
       · omega
theorem map_take_succ {α β : Type} [Inhabited α] (f : α → β) {l : List α} {i : Nat} (h : i < l.length) : (l.take (i + 1)).map f = (l.take i).map f ++ [f (l.getD i default)] := by
 rw [List.take_add_one, List.map_append]; simp [h]
theorem flatMap_take_succ {α β : Type} [Inhabited α] (f : α → List β) {l : List α} {i : Nat} (h : i < l.length) : (l.take (i + 1)).flatMap f = (l.take i).flatMap f ++ f (l.getD i default) := by
 rw [List.take_add_one, List.flatMap_append]; simp [h]
theorem entsF_succ (o : ObjD) (pl : List Int) (i : Nat) : entsF o pl (i + 1) = entsF o pl i ++ entB1 o pl i := by
 unfold entsF; rw [List.range_succ, List.flatMap_append]; simp
theorem putE_len (e : EntD) : (putE e).length ≤ 24 := by
 unfold putE; split
 · rw [entB_len]; omega
 · simp
theorem entsF_len (o : ObjD) (pl : List Int) : ∀ i, (entsF o pl i).length ≤ 24 * i := by
 intro i
 induction i with
 | zero => simp [entsF]
 | succ i ih => rw [entsF_succ, List.length_append]; have := putE_len (entY (o.syms.getD i default) (pl.getD i 0)); unfold entB1; omega
theorem localF_succ {l : List SymD} {i : Nat} (h : i < l.length) : localF (l.take (i + 1)) = localF (l.take i) + (if (l.getD i default).bind = 0 then 1 else 0) := by
 unfold localF;rw [List.take_add_one, List.countP_append];simp only [List.getElem?_eq_getElem h, Option.toList_some, List.getD_eq_getElem?_getD, Option.getD_some, List.countP_cons, List.countP_nil];by_cases hc : l[i].bind = 0 <;> simp [hc]
theorem localF_le (l : List SymD) : 0 ≤ localF l ∧ localF l ≤ l.length := by
 unfold localF;have := List.countP_le_length (p := fun s : SymD => decide (s.bind = 0)) (l := l);omega
theorem names_small {o : ObjD} (h : LayH o) : ∀ s ∈ namesOf o, s.size ≤ 1000000 := by
 intro s hs;obtain ⟨y, hy, rfl⟩ := List.mem_map.1 hs;have := (h.small.sym y hy).2.1; omega
theorem pl_range {l : List ByteArray} {k : Nat} (hk : k < l.length) : 0 ≤ (tabOf l).2.1.getD k 0 ∧ (tabOf l).2.1.getD k 0 < (tabOf l).1.length := by
 obtain ⟨h1, r, h2⟩ := (tab_inv l).at_ k hk;refine ⟨h1, ?_⟩;have := congrArg List.length h2;rw [List.length_drop, List.length_append, List.length_cons] at this;omega
theorem sym_in {o : ObjD} {i : Nat} (hi : i < o.syms.length) : o.syms.getD i default ∈ o.syms := by
 rw [List.getD_eq_getElem?_getD, List.getElem?_eq_getElem hi]; exact List.getElem_mem hi
set_option maxHeartbeats 2000000 in
theorem obj_entries (o : ObjD) (h : LayH o) : A0 Tryz.prog 85 [.agg (objA o)] (fun ret => ret = .tup [.rd 1 (bys (entsF o (tabOf (namesOf o)).2.1 o.syms.length)), .rd 1 (bys (tabOf (namesOf o)).1), .v (.int .i64 (localF o.syms))]) := by
 have hq := h.small;have hso := h.ok;have s1 := hq.secs;have s2 := hq.syms;have s3 := h.gs;have s4 := h.sg;have hns := names_small h;have hnl : (namesOf o).length = o.syms.length := by unfold namesOf; simp
 have hfull : (o.syms.take o.syms.length).map (·.name) = namesOf o := by rw [List.take_of_length_le (Nat.le_refl _)]; rfl
 have hpl := tabOf_pl (namesOf o);have hlf := localF_le o.syms;have htl := tabOf_len hns;refine A0.body 71 Tryz.func85 rfl rfl Tryz.ntmps85 fun base n0 => ?_
 refine n2 ?_;refine AO.ww ?_;iterate 3 refine AO.c ?_
 refine n3 ?_;refine AO.c ?_;refine n4 ?_;iterate 4 refine AO.c ?_
 refine nb ?_;refine AW.ghost (Gh.adoptM 5 9 1) ?_
 refine AW.loopU2 [.f, .k, .f, .f, .f, .k, .F, .f, .f, .k, .k, .k, .F, .F, .F, .F, .F, .F, .f, .f, .f, .f] (fun (i ep : Nat) => [(5, .own (n0 + 1) ep 0 i), (18, .v (.int .i64 (i)))]) (fun i ep => Hn n0 (([some (.box 52 (objA o)), some (.row 9 1 ep (((o.syms.take i).map (·.name)).map sA))] ++ List.replicate i none) ++ [])) (fun m i ep => i ≤ o.syms.length ∧ m = o.syms.length - i) (o.syms.length) (0) (0) ⟨by omega, by omega⟩ (by first | rfl | (simp; done)) (by first | rfl | (simp; done)) ?_
 rintro m0 i ep ⟨hx1, hx2⟩
 refine n2 ?_;refine AO.c ?_;refine n1 <|AW.seq' ?_;refine AW.iteB (GL.ev _) (fun h0 => ?_) (fun h0 => ?_)
 ·
  rw [decide_eq_true_eq] at h0;have hi : i < o.syms.length := by omega
  refine nc ?_;refine AO.oo ?_;refine AO.c ?_;refine AO.ww ?_;refine AO.sst ?_;refine n1 <|AW.region ?_;iterate 3 refine AO.c ?_
  refine AO.rr ?_;refine AO.ww ?_;refine AO.c ?_;refine n7 ?_;refine AO.oo ?_;refine AO.c ?_;refine AO.nil ?_
  exact AW.backE [.f, .k, .f, .f, .f, .k, .F, .f, .f, .k, .k, .k, .F, .F, .F, .F, .F, .F, .f, .f, .f, .f] (i) (m0 - 1) (i + 1, ep + 1) (by omega) (by (try dsimp only); exact ⟨by omega, by omega⟩) (by first | rfl | (simp; done)) (by first | (rw [map_take_succ _ hi, List.map_append]; done) | (rw [map_take_succ _ hi, List.map_append]; rfl))
 ·
  rw [decide_eq_false_iff_not] at h0;refine AW.exit <|SQ.exit <|AW.out <|LU.exit <|BQ.exit <|SQ.normal <|AW.seq' ?_;refine AW.ghost (Gh.freezeM 5 sA (namesOf o) (by rw [show i = o.syms.length by omega, hfull]) (by omega) (by omega)) ?_;refine AW.region ?_;refine AO.c ?_;refine AO.call1 Tryz.func86 rfl rfl (strtab_Make _ (by omega) (by assumption)) ?_;iterate 5 refine AO.c ?_
  refine n3 ?_;refine AO.c ?_;refine n3 ?_;refine AO.c ?_;refine n4 ?_;iterate 4 refine AO.c ?_
  refine nb ?_;refine AW.ghost (Gh.adoptB 10 5) ?_
  refine AW.loopU2 [.F, .k, .k, .k, .k, .F, .F, .f, .f, .f, .f, .f, .f, .k, .k, .k, .F, .F, .F, .F, .f, .f] (fun (k ep2 : Nat) => [(10, .own (n0 + zadd (zadd (0 + 1 + 1) i) 0) ep2 0 (entsF o (tabOf (namesOf o)).2.1 k).length), (11, .v (.int .i64 (localF (o.syms.take k)))), (36, .v (.int .i64 (k)))]) (fun k ep2 => Hn n0 (([some (.box 52 (objA o)), none] ++ List.replicate i none ++ [some (.row 5 1 ep2 (bys (entsF o (tabOf (namesOf o)).2.1 k)))]) ++ List.replicate k none ++ [])) (fun m k ep2 => k ≤ o.syms.length ∧ m = o.syms.length - k) (o.syms.length) (0) (0) ⟨by omega, by omega⟩ (by first | rfl | (simp; done)) (by simp [entsF]) ?_
  rintro m1 k ep2 ⟨hk1, hk2⟩
  refine n2 ?_;refine AO.c ?_;refine n1 <|AW.seq' ?_;refine AW.iteB (GL.ev _) (fun h1 => ?_) (fun h1 => ?_)
  ·
   rw [decide_eq_true_eq] at h1;have hk : k < o.syms.length := by omega
   have hsy := hq.sym _ (sym_in hk);have hpr := pl_range (l := namesOf o) (k := k) (by omega);have hlr := localF_le (o.syms.take k);rw [List.length_take] at hlr;have hls := localF_succ hk;have hel := entsF_len o (tabOf (namesOf o)).2.1 k;have hpe := putE_len (entY (o.syms.getD k default) ((tabOf (namesOf o)).2.1.getD k 0));unfold putE at hpe
   generalize hse : o.syms.getD k default = s at hsy hls hpe;have hok : (entY s ((tabOf (namesOf o)).2.1.getD k 0)).ok := ⟨by unfold I64 entY; dsimp only; omega, hsy.1.2.1, hsy.1.2.2.1, by unfold I64 entY idxY; dsimp only; have := hsy.1.2.2.2.1; unfold I64 at this; split <;> omega, hsy.1.2.2.2.2.1, hsy.1.2.2.2.2.2⟩;refine nc ?_;refine AO.c ?_;refine AO.oo ?_;refine AO.c ?_
   refine AO.eq 40 (av' := .agg (symA s)) (by rw [hse]) ?_;refine AO.ww ?_;refine AO.c ?_;refine AO.sst ?_;refine n3 ?_;iterate 3 refine AO.c ?_
   refine n4 ?_;iterate 2 refine AO.c ?_
   refine n1 ?_;refine AW.iteB (GL.ev _) (fun h2 => ?_) (fun h2 => ?_)
   ·
    rw [decide_eq_true_eq] at h2;have hidx : idxY s = 65521 := if_pos h2;refine AW.region ?_;refine AO.c ?_;refine n4 ?_;refine AO.eq 14 (av' := .v (.int .i64 (idxY s))) (by rw [hidx]) ?_;iterate 3 refine AO.c ?_
    refine n1 ?_;refine AW.iteB (GL.ev _) (fun h3 => ?_) (fun h3 => ?_)
    ·
     rw [decide_eq_true_eq] at h3;have hlc : localF (o.syms.take (k + 1)) = localF (o.syms.take k) + 1 := by rw [hls, if_pos h3]
     refine AW.region ?_;refine AO.c ?_;refine AO.oo ?_;refine AO.c ?_;refine n1 ?_
     refine AW.drawsZ [16] (.one 0 false (.one 1 false (.one 2 false (.one 3 false (.one 4 false (.one 5 false (.one 6 false (.one 7 false (.one 8 false (.one 9 false (.one 10 false (.one 11 false (.one 12 false (.one 13 false (.one 14 false (.one 15 true (.one 16 true (.one 17 false .nil)))))))))))))))))) (by kernel_rfl) rfl (by kernel_rfl) ?_;iterate 3 refine AZ.c rfl ?_
     refine AZ.oo rfl ?_;iterate 11 refine AZ.c rfl ?_
     refine AZ.call1 rfl Tryz.func111 rfl rfl (sym_Put (entY s ((tabOf (namesOf o)).2.1.getD k 0)) hok) ?_;refine AZ.ww rfl rfl ?_;refine AZ.c rfl ?_;refine AZ.done ?_;refine BQ.normal <|SQ.normal <|AW.region ?_;refine AO.oo ?_;refine AO.c ?_;refine AO.nil ?_
     exact AW.backE [.F, .k, .k, .k, .k, .F, .F, .f, .f, .f, .f, .f, .f, .k, .k, .k, .F, .F, .F, .F, .f, .f] (k) (m1 - 1) (k + 1, ep2 + 1) (by omega) (by (try dsimp only); exact ⟨by omega, by omega⟩) (by first | ((try dsimp only); rw [entsF_succ, List.length_append, hlc]; unfold entB1; rw [hse]; done) | ((try dsimp only); rw [entsF_succ, List.length_append, hlc]; unfold entB1; rw [hse]; rfl)) (by first | (rw [entsF_succ]; unfold entB1; rw [hse]; done) | (rw [entsF_succ]; unfold entB1; rw [hse]; rfl))
    ·
     rw [decide_eq_false_iff_not] at h3;have hlc : localF (o.syms.take (k + 1)) = localF (o.syms.take k) := by rw [hls, if_neg h3]; omega
     refine n5 ?_;refine AW.drawsZ [16] (.one 0 false (.one 1 false (.one 2 false (.one 3 false (.one 4 false (.one 5 false (.one 6 false (.one 7 false (.one 8 false (.one 9 false (.one 10 false (.one 11 false (.one 12 false (.one 13 false (.one 14 false (.one 15 true (.one 16 true (.one 17 false .nil)))))))))))))))))) (by kernel_rfl) rfl (by kernel_rfl) ?_;iterate 3 refine AZ.c rfl ?_
     refine AZ.oo rfl ?_;iterate 11 refine AZ.c rfl ?_
     refine AZ.call1 rfl Tryz.func111 rfl rfl (sym_Put (entY s ((tabOf (namesOf o)).2.1.getD k 0)) hok) ?_;refine AZ.ww rfl rfl ?_;refine AZ.c rfl ?_;refine AZ.done ?_;refine BQ.normal <|SQ.normal <|AW.region ?_;refine AO.oo ?_;refine AO.c ?_;refine AO.nil ?_
     exact AW.backE [.F, .k, .k, .k, .k, .F, .F, .f, .f, .f, .f, .f, .f, .k, .k, .k, .F, .F, .F, .F, .f, .f] (k) (m1 - 1) (k + 1, ep2 + 1) (by omega) (by (try dsimp only); exact ⟨by omega, by omega⟩) (by first | ((try dsimp only); rw [entsF_succ, List.length_append, hlc]; unfold entB1; rw [hse]; done) | ((try dsimp only); rw [entsF_succ, List.length_append, hlc]; unfold entB1; rw [hse]; rfl)) (by first | (rw [entsF_succ]; unfold entB1; rw [hse]; done) | (rw [entsF_succ]; unfold entB1; rw [hse]; rfl))
   ·
    rw [decide_eq_false_iff_not] at h2;have hidx : idxY s = s.sec := if_neg h2;refine n5 <|n8 ?_;refine AO.eq 14 (av' := .v (.int .i64 (idxY s))) (by rw [hidx]) ?_;iterate 3 refine AO.c ?_
    refine n1 ?_;refine AW.iteB (GL.ev _) (fun h3 => ?_) (fun h3 => ?_)
    ·
     rw [decide_eq_true_eq] at h3;have hlc : localF (o.syms.take (k + 1)) = localF (o.syms.take k) + 1 := by rw [hls, if_pos h3]
     refine AW.region ?_;refine AO.c ?_;refine AO.oo ?_;refine AO.c ?_;refine n1 ?_
     refine AW.drawsZ [16] (.one 0 false (.one 1 false (.one 2 false (.one 3 false (.one 4 false (.one 5 false (.one 6 false (.one 7 false (.one 8 false (.one 9 false (.one 10 false (.one 11 false (.one 12 false (.one 13 false (.one 14 false (.one 15 true (.one 16 true (.one 17 false .nil)))))))))))))))))) (by kernel_rfl) rfl (by kernel_rfl) ?_;iterate 3 refine AZ.c rfl ?_
     refine AZ.oo rfl ?_;iterate 11 refine AZ.c rfl ?_
     refine AZ.call1 rfl Tryz.func111 rfl rfl (sym_Put (entY s ((tabOf (namesOf o)).2.1.getD k 0)) hok) ?_;refine AZ.ww rfl rfl ?_;refine AZ.c rfl ?_;refine AZ.done ?_;refine BQ.normal <|SQ.normal <|AW.region ?_;refine AO.oo ?_;refine AO.c ?_;refine AO.nil ?_
     exact AW.backE [.F, .k, .k, .k, .k, .F, .F, .f, .f, .f, .f, .f, .f, .k, .k, .k, .F, .F, .F, .F, .f, .f] (k) (m1 - 1) (k + 1, ep2 + 1) (by omega) (by (try dsimp only); exact ⟨by omega, by omega⟩) (by first | ((try dsimp only); rw [entsF_succ, List.length_append, hlc]; unfold entB1; rw [hse]; done) | ((try dsimp only); rw [entsF_succ, List.length_append, hlc]; unfold entB1; rw [hse]; rfl)) (by first | (rw [entsF_succ]; unfold entB1; rw [hse]; done) | (rw [entsF_succ]; unfold entB1; rw [hse]; rfl))
    ·
     rw [decide_eq_false_iff_not] at h3;have hlc : localF (o.syms.take (k + 1)) = localF (o.syms.take k) := by rw [hls, if_neg h3]; omega
     refine n5 ?_;refine AW.drawsZ [16] (.one 0 false (.one 1 false (.one 2 false (.one 3 false (.one 4 false (.one 5 false (.one 6 false (.one 7 false (.one 8 false (.one 9 false (.one 10 false (.one 11 false (.one 12 false (.one 13 false (.one 14 false (.one 15 true (.one 16 true (.one 17 false .nil)))))))))))))))))) (by kernel_rfl) rfl (by kernel_rfl) ?_;iterate 3 refine AZ.c rfl ?_
     refine AZ.oo rfl ?_;iterate 11 refine AZ.c rfl ?_
     refine AZ.call1 rfl Tryz.func111 rfl rfl (sym_Put (entY s ((tabOf (namesOf o)).2.1.getD k 0)) hok) ?_;refine AZ.ww rfl rfl ?_;refine AZ.c rfl ?_;refine AZ.done ?_;refine BQ.normal <|SQ.normal <|AW.region ?_;refine AO.oo ?_;refine AO.c ?_;refine AO.nil ?_
     exact AW.backE [.F, .k, .k, .k, .k, .F, .F, .f, .f, .f, .f, .f, .f, .k, .k, .k, .F, .F, .F, .F, .f, .f] (k) (m1 - 1) (k + 1, ep2 + 1) (by omega) (by (try dsimp only); exact ⟨by omega, by omega⟩) (by first | ((try dsimp only); rw [entsF_succ, List.length_append, hlc]; unfold entB1; rw [hse]; done) | ((try dsimp only); rw [entsF_succ, List.length_append, hlc]; unfold entB1; rw [hse]; rfl)) (by first | (rw [entsF_succ]; unfold entB1; rw [hse]; done) | (rw [entsF_succ]; unfold entB1; rw [hse]; rfl))
  ·
   rw [decide_eq_false_iff_not] at h1;refine AW.exit <|SQ.exit <|AW.out <|LU.exit <|BQ.exit <|SQ.normal <|AW.seq' ?_;refine AW.ghost (Gh.freezeE 10 (li' := entsF o (tabOf (namesOf o)).2.1 o.syms.length) (by rw [show k = o.syms.length by omega]) (by rw [show k = o.syms.length by omega]) (by have := entsF_len o (tabOf (namesOf o)).2.1 o.syms.length; omega)) ?_;refine AW.region ?_
   iterate 6 refine AO.c ?_
   refine na ?_;refine Fin.ret (Gh.refl) noid3 ?_;rw [show k = o.syms.length by omega, List.take_of_length_le (Nat.le_refl _)]; rfl
def putRs (s : SecD) (k : Nat) : List Int := (s.rels.take k).flatMap putR
theorem putR_len (r : RelD) : (putR r).length ≤ 24 := by
 unfold putR; split
 · rw [relB_len]; omega
 · simp
theorem flatMap_len {α : Type} {f : α → List Int} {c : Nat} (hf : ∀ x, (f x).length ≤ c) : ∀ l : List α, (l.flatMap f).length ≤ c * l.length := by
 intro l
 induction l with
 | nil => simp
 | cons a l ih =>
  rw [List.flatMap_cons, List.length_append, List.length_cons, Nat.mul_add, Nat.mul_one];have := hf a; omega
theorem putRs_len (s : SecD) (k : Nat) : (putRs s k).length ≤ 24 * k := by
 unfold putRs;have := flatMap_len putR_len (s.rels.take k);have h2 : (s.rels.take k).length ≤ k := by rw [List.length_take]; omega
 omega
theorem putRs_pos {s : SecD} (h : ∀ r ∈ s.rels, mayRelB r = true) : (putRs s s.rels.length).length = 24 * s.rels.length := by
 unfold putRs;rw [List.take_of_length_le (Nat.le_refl _)]
 revert h
 generalize s.rels = l;intro h
 induction l with
 | nil => rfl
 | cons a l ih =>
  rw [List.flatMap_cons, List.length_append, List.length_cons, ih fun r hr => h r (List.mem_cons_of_mem _ hr)];have : (putR a).length = 24 := by unfold putR; rw [if_pos (h a List.mem_cons_self), relB_len]
  omega
theorem relPs_snoc (at_ : Int) : ∀ (l : List SecD) (n : Int) (s : SecD), relPs at_ n (l ++ [s]) = relPs at_ n l ++ relPart at_ (n + l.length) s := by
 intro l
 induction l with
 | nil => intro n s; simp [relPs]
 | cons a l ih =>
  intro n s;rw [List.cons_append, relPs, ih, relPs, List.append_assoc, show n + 1 + (l.length : Int) = n + ((a :: l).length : Int) by rw [List.length_cons]; omega]
theorem Hn_rep {n a b : Nat} {L : List (Option AB)} (h : a = b) : Hn n ((L ++ List.replicate a none) ++ []) = Hn n ((L ++ List.replicate b none) ++ []) := by rw [h]
theorem relPs_succ {at_ : Int} {l : List SecD} {i : Nat} (h : i < l.length) : relPs at_ 1 (l.take (i + 1)) = relPs at_ 1 (l.take i) ++ relPart at_ (i + 1) (l.getD i default) := by
 have e : l.take (i + 1) = l.take i ++ [l.getD i default] := by rw [List.take_add_one]; simp [h]
 rw [e, relPs_snoc, List.length_take, Nat.min_eq_left (by omega)]
 congr 2; omega
theorem relPs_len (at_ : Int) : ∀ (l : List SecD) (n : Int), (relPs at_ n l).length ≤ l.length := by
 intro l
 induction l with
 | nil => intro n; simp [relPs]
 | cons a l ih =>
  intro n;rw [relPs, List.length_append, List.length_cons];have := ih (n + 1);have : (relPart at_ n a).length ≤ 1 := by unfold relPart; split <;> simp
  omega
theorem putN_len (x : Int) : (putN x).length = 4 := by unfold putN; rw [if_pos (by decide), dig_length]; rfl
def gB (g : GrpD) (k : Nat) : List Int := [1, 0, 0, 0] ++ (g.mem.take k).flatMap putN
theorem gB_succ {g : GrpD} {k : Nat} (h : k < g.mem.length) : gB g (k + 1) = gB g k ++ putN (g.mem.getD k default) := by
 unfold gB; rw [flatMap_take_succ _ h, List.append_assoc]
theorem gB_all (g : GrpD) : gB g g.mem.length = [1, 0, 0, 0] ++ g.mem.flatMap putN := by unfold gB; rw [List.take_of_length_le (Nat.le_refl _)]
theorem grps_len {g : GrpD} (k : Nat) : (gB g k).length ≤ 4 + 4 * k := by
 unfold gB;have := flatMap_len (f := putN) (c := 4) (fun x => by rw [putN_len]; omega) (g.mem.take k);have h2 : (g.mem.take k).length ≤ k := by rw [List.length_take]; omega
 rw [List.length_append];simp only [List.length_cons, List.length_nil];omega
theorem sec_in {o : ObjD} {i : Nat} (hi : i < o.secs.length) : o.secs.getD i default ∈ o.secs := by
 rw [List.getD_eq_getElem?_getD, List.getElem?_eq_getElem hi]; exact List.getElem_mem hi
theorem grp_in {o : ObjD} {i : Nat} (hi : i < o.groups.length) : o.groups.getD i default ∈ o.groups := by
 rw [List.getD_eq_getElem?_getD, List.getElem?_eq_getElem hi]; exact List.getElem_mem hi
instance nirPart {l : List PartD} : NIr (l.map partA) := ⟨fun row hr av ha => by
 obtain ⟨x, _, rfl⟩ := List.mem_map.1 hr
 simp only [List.mem_cons, List.not_mem_nil, or_false] at ha
 rcases ha with rfl | rfl | rfl | rfl | rfl | rfl | rfl | rfl | rfl | rfl | rfl | rfl <;> first | exact .v _ | exact NoId.rd NIr.h⟩
def midA (o : ObjD) (at_ : Int) (k : Nat) : List PartD := relPs at_ 1 o.secs ++ (o.groups.take k).map (grpPart at_)
theorem midA_succ {o : ObjD} {at_ : Int} {k : Nat} (h : k < o.groups.length) : midA o at_ (k + 1) = midA o at_ k ++ [grpPart at_ (o.groups.getD k default)] := by
 unfold midA; rw [map_take_succ _ h, List.append_assoc]
theorem midA_len (o : ObjD) (at_ : Int) (k : Nat) : (midA o at_ k).length ≤ o.secs.length + k := by
 unfold midA;have := relPs_len at_ o.secs 1;rw [List.length_append, List.length_map, List.length_take]; omega
theorem midA_all (o : ObjD) (at_ : Int) : midF o at_ = midA o at_ o.groups.length ++ sigPart at_ o := by
 unfold midA midF; rw [List.take_of_length_le (Nat.le_refl _)]
def sB (o : ObjD) (k : Nat) : List Int := (o.sig.take k).flatMap encB
theorem sB_succ {o : ObjD} {k : Nat} (h : k < o.sig.length) : sB o (k + 1) = sB o k ++ encB (o.sig.getD k default) := by
 unfold sB; rw [flatMap_take_succ _ h]
theorem sB_all (o : ObjD) : sB o o.sig.length = o.sig.flatMap encB := by unfold sB; rw [List.take_of_length_le (Nat.le_refl _)]
theorem sB_len (o : ObjD) (k : Nat) : (sB o k).length ≤ 5 * k := by
 unfold sB;have := flatMap_len (f := encB) (c := 5) encB_len (o.sig.take k);have h2 : (o.sig.take k).length ≤ k := by rw [List.length_take]; omega
 omega
theorem midF_len (o : ObjD) (at_ : Int) : (midF o at_).length ≤ o.secs.length + o.groups.length + 1 := by
 rw [midA_all, List.length_append];have := midA_len o at_ o.groups.length;have : (sigPart at_ o).length ≤ 1 := by unfold sigPart; split <;> simp
 omega
set_option maxHeartbeats 4000000 in
theorem obj_middleR (o : ObjD) (at_ : Int) (h : LayH o) : A1 Tryz.prog 84 [.agg (objA o), .v (.int .i64 (at_))] 145 12 ((midF o at_).map partA) := by
 have hq := h.small;have hso := h.ok;have s1 := hq.secs;have s2 := hq.syms;have s3 := h.gs;have s4 := h.sg;refine A1.body 105 (NIr.h) Tryz.func84 rfl rfl Tryz.ntmps84 fun base n0 => ?_
 refine n2 ?_;refine AO.ww ?_;refine AO.c ?_;refine n3 ?_;refine AO.c ?_;refine n4 ?_;iterate 4 refine AO.c ?_
 refine nb ?_;refine AW.ghost (Gh.adoptM 5 145 12) ?_
 refine AW.loopU3 [.f, .k, .k, .f, .f, .k, .F, .f, .f, .f, .f, .f, .f, .k, .k, .k, .F, .F, .F, .F, .F, .F, .F, .F, .F, .F, .f, .f] (fun (i j ep : Nat) => [(5, .own (n0 + 1) ep 0 (relPs at_ 1 (o.secs.take i)).length), (22, .v (.int .i64 (i)))]) (fun i j ep => Hn n0 (([some (.box 52 (objA o)), some (.row 145 12 (ep) ((relPs at_ 1 (o.secs.take i)).map partA))] ++ List.replicate j none) ++ [])) (fun m i j ep => i ≤ o.secs.length ∧ m = o.secs.length - i) (o.secs.length) (0) (0) (0) ⟨by omega, by omega⟩ (by first | rfl | (simp; done)) (by first | rfl | (simp; done)) ?_
 rintro m0 i j ep ⟨hx1, hx2⟩
 refine n2 ?_;refine AO.c ?_;refine n1 <|AW.seq' ?_;refine AW.iteB (GL.ev _) (fun h0 => ?_) (fun h0 => ?_)
 ·
  rw [decide_eq_true_eq] at h0;have hi : i < o.secs.length := by omega
  have hsec := hq.sec _ (sec_in hi);have hrsu := relPs_succ (at_ := at_) hi;have hrl := relPs_len at_ (o.secs.take i) 1;rw [List.length_take] at hrl;generalize hse : o.secs.getD i default = s at hsec hrsu;refine nc ?_;refine AO.c ?_;refine AO.oo ?_;refine AO.c ?_;refine AO.eq 26 (av' := .agg (secA s)) (by rw [hse]) ?_;refine AO.ww ?_;refine AO.c ?_;refine AO.sst ?_;refine n3 ?_;refine AO.c ?_
  refine n4 ?_;iterate 4 refine AO.c ?_
  refine nb ?_;refine AW.ghost (Gh.adoptB 8 5) ?_
  refine AW.loopU2 [.f, .k, .k, .f, .f, .k, .k, .f, .k, .F, .f, .f, .f, .k, .k, .k, .f, .f, .f, .f, .f, .k, .k, .k, .F, .F, .F, .F, .F, .F, .F, .F, .F, .f, .f] (fun (k ep2 : Nat) => [(8, .own (n0 + zadd (zadd (0 + 1 + 1) j) (0 + 1)) ep2 0 (putRs s k).length), (30, .v (.int .i64 (k)))]) (fun k ep2 => Hn n0 (([some (.box 52 (objA o)), some (.row 145 12 (ep) ((relPs at_ 1 (o.secs.take i)).map partA))] ++ List.replicate j none ++ [some (.box 41 (secA s)), some (.row 5 1 ep2 (bys (putRs s k)))]) ++ List.replicate k none ++ [])) (fun m k ep2 => k ≤ s.rels.length ∧ m = s.rels.length - k) (s.rels.length) (0) (0) ⟨by omega, by omega⟩ (by first | rfl | (simp; done)) (by simp [putRs]) ?_
  rintro m1 k ep2 ⟨hk1, hk2⟩
  refine n2 ?_;refine AO.c ?_;refine n1 <|AW.seq' ?_;refine AW.iteB (GL.ev _) (fun h1 => ?_) (fun h1 => ?_)
  ·
   rw [decide_eq_true_eq] at h1;have hk : k < s.rels.length := by omega
   have hrok := relOk_at hsec.1.2.2.2.2.2.2.2.2.2.2 hk;have hpl := putRs_len s k;have hps : putRs s (k + 1) = putRs s k ++ putR (s.rels.getD k default) := by unfold putRs; rw [flatMap_take_succ _ hk]
   have hrl1 := putR_len (s.rels.getD k default);unfold putR at hrl1;generalize hre : s.rels.getD k default = r at hrok hps hrl1;refine nc ?_;refine AO.oo ?_;refine AO.c ?_;refine AO.eq 33 (av' := .agg (relA r)) (by rw [hre]) ?_;refine AO.ww ?_;refine AO.sst ?_;refine n1 <|AW.region ?_;iterate 2 refine AO.c ?_
   refine AO.call1 Tryz.func108 rfl rfl (rela_Put r hrok) ?_;refine AO.ww ?_;refine AO.c ?_;refine n7 ?_;refine AO.oo ?_;refine AO.c ?_;refine AO.nil ?_
   exact AW.backE [.f, .k, .k, .f, .f, .k, .k, .f, .k, .F, .f, .f, .f, .k, .k, .k, .f, .f, .f, .f, .f, .k, .k, .k, .F, .F, .F, .F, .F, .F, .F, .F, .F, .f, .f] (k) (m1 - 1) (k + 1, ep2 + 1) (by omega) (by (try dsimp only); exact ⟨by omega, by omega⟩) (by first | ((try dsimp only); rw [hps, List.length_append]; done) | ((try dsimp only); rw [hps, List.length_append]; rfl)) (by first | (rw [hps]; done) | (rw [hps]; rfl))
  ·
   rw [decide_eq_false_iff_not] at h1;have hkl : k = s.rels.length := by omega
   have hpp := putRs_pos hsec.2.2.2.1;refine AW.exit <|SQ.exit <|AW.out <|LU.exit <|BQ.exit <|SQ.normal <|n2 ?_;iterate 3 refine AO.c ?_
   refine n1 ?_;refine AW.iteB (GL.ev _) (fun h2 => ?_) (fun h2 => ?_)
   ·
    rw [decide_eq_true_eq, hkl, hpp] at h2;have hrs : relPs at_ 1 (o.secs.take (i + 1)) = relPs at_ 1 (o.secs.take i) ++ [⟨⟨0, 4, 0, 0, 0, 0, at_, i + 1, 8, 24⟩, nRela, s.rels.flatMap putR⟩] := by rw [hrsu]; unfold relPart; rw [if_neg (by omega)]
    have hfl : (s.rels.flatMap putR).length ≤ 2000 := by have := flatMap_len putR_len s.rels; omega
    refine AW.region ?_;iterate 3 refine AO.c ?_
    refine AO.oo ?_;refine AO.c ?_;refine AO.ghost (Gh.freezeE 8 (li' := s.rels.flatMap putR) (by rw [hkl]; unfold putRs; rw [List.take_of_length_le (Nat.le_refl _)]) (by rw [hkl]; unfold putRs; rw [List.take_of_length_le (Nat.le_refl _)]) (by omega)) ?_;iterate 2 refine AO.c ?_
    refine AO.rr ?_;refine AO.ww ?_;refine AO.c ?_;refine n7 ?_;refine AO.oo ?_;refine AO.c ?_;refine AO.nil ?_
    exact AW.backE [.f, .k, .k, .f, .f, .k, .F, .f, .f, .f, .f, .f, .f, .k, .k, .k, .F, .F, .F, .F, .F, .F, .F, .F, .F, .F, .f, .f] (j) (m0 - 1) (i + 1, j + (k + 2), ep + 1) (by omega) (by (try dsimp only); exact ⟨by omega, by omega⟩) (by first | ((try dsimp only); rw [hrs, List.length_append]; done) | ((try dsimp only); rw [hrs, List.length_append]; rfl)) ((Hn_rep (b := j + (k + 2)) (by first | (simp; done) | (simp; omega))).trans (by (try dsimp only); rw [hrs, List.map_append]; rfl))
   ·
    rw [decide_eq_false_iff_not, hkl, hpp] at h2;have hrs : relPs at_ 1 (o.secs.take (i + 1)) = relPs at_ 1 (o.secs.take i) := by rw [hrsu]; unfold relPart; rw [if_pos (by omega), List.append_nil]
    refine n9 ?_;refine AO.oo ?_;refine AO.c ?_;refine AO.nil ?_
    exact AW.backE [.f, .k, .k, .f, .f, .k, .F, .f, .f, .f, .f, .f, .f, .k, .k, .k, .F, .F, .F, .F, .F, .F, .F, .F, .F, .F, .f, .f] (j) (m0 - 1) (i + 1, j + (k + 2), ep) (by omega) (by (try dsimp only); exact ⟨by omega, by omega⟩) (by first | ((try dsimp only); rw [hrs]; done) | ((try dsimp only); rw [hrs]; rfl)) ((Hn_rep (b := j + (k + 2)) (by first | (simp; done) | (simp; omega))).trans (by (try dsimp only); rw [hrs]))
 ·
  rw [decide_eq_false_iff_not] at h0;have hm0 : midA o at_ 0 = relPs at_ 1 (o.secs.take i) := by unfold midA; rw [List.take_of_length_le (show o.secs.length ≤ i by omega)]; simp
  refine AW.exit <|SQ.exit <|AW.out <|LU.exit <|BQ.exit <|SQ.normal <|n8 ?_;iterate 4 refine AO.c ?_
  refine nb ?_
  refine AW.loopU3 [.f, .k, .k, .f, .f, .k, .F, .F, .F, .F, .F, .f, .f, .f, .f, .f, .f, .f, .k, .k, .k, .F, .F, .F, .F, .F, .F, .f] (fun (gi gj gep : Nat) => [(5, .own (n0 + 1) gep 0 (midA o at_ gi).length), (55, .v (.int .i64 (gi)))]) (fun gi gj gep => Hn n0 (([some (.box 52 (objA o)), some (.row 145 12 (gep) ((midA o at_ gi).map partA))] ++ List.replicate gj none) ++ [])) (fun m gi gj gep => gi ≤ o.groups.length ∧ m = o.groups.length - gi) (o.groups.length) (0) (j) (ep) ⟨by omega, by omega⟩ (by (try dsimp only); rw [hm0]; rfl) (by rw [hm0]) ?_
  rintro m2 gi gj gep ⟨hg1, hg2⟩
  refine n2 ?_;refine AO.c ?_;refine n1 <|AW.seq' ?_;refine AW.iteB (GL.ev _) (fun h3 => ?_) (fun h3 => ?_)
  ·
   rw [decide_eq_true_eq] at h3;have hgi : gi < o.groups.length := by omega
   have hgr := hq.grp _ (grp_in hgi);have hms := midA_succ (at_ := at_) hgi;have hml := midA_len o at_ gi;generalize hge : o.groups.getD gi default = g at hgr hms;refine nc ?_;refine AO.oo ?_;refine AO.c ?_;refine AO.eq 58 (av' := .agg (grpA g)) (by rw [hge]) ?_;refine AO.ww ?_;refine AO.sst ?_;refine n3 ?_
   refine AO.callR Tryz.func88 rfl rfl (le_PutR 1 4 (by omega) (by omega)) (by rw [bys_length]) ?_;refine AO.c ?_;refine n4 ?_;iterate 4 refine AO.c ?_
   refine nb ?_
   refine AW.loopU2 [.f, .k, .k, .f, .f, .k, .f, .f, .f, .f, .f, .f, .k, .k, .F, .F, .F, .F, .f, .f, .f, .f, .f, .f, .f, .k, .k, .k, .f, .f, .f, .f, .f, .k, .k, .k, .F, .F, .F, .F, .F, .f] (fun (k ep2 : Nat) => [(13, .own (n0 + zadd (zadd (0 + 1 + 1) gj) (0 + 1)) ep2 0 (gB g k).length), (63, .v (.int .i64 (k)))]) (fun k ep2 => Hn n0 ([some (.box 52 (objA o)), some (.row 145 12 (gep) ((midA o at_ gi).map partA))] ++ List.replicate gj none ++ [some (.box 93 (grpA g)), some (.row 5 1 ep2 (bys (gB g k)))])) (fun m k ep2 => k ≤ g.mem.length ∧ m = g.mem.length - k) (g.mem.length) (0) (0) ⟨by omega, by omega⟩ (by first | rfl | (simp; done)) (by first | rfl | (simp; done)) ?_
   rintro m3 k ep2 ⟨hk1, hk2⟩
   refine n2 ?_;refine AO.c ?_;refine n1 <|AW.seq' ?_;refine AW.iteB (GL.ev _) (fun h4 => ?_) (fun h4 => ?_)
   ·
    rw [decide_eq_true_eq] at h4;have hk : k < g.mem.length := by omega
    have hgl := grps_len (g := g) k;have hps := gB_succ hk;have hn4 := putN_len (g.mem.getD k default);unfold putN at hn4;refine nc ?_;refine AO.oo ?_;iterate 2 refine AO.c ?_
    refine n1 <|AW.region ?_;iterate 2 refine AO.c ?_
    refine AO.pw ?_;refine AO.call1 Tryz.func88 rfl rfl (le_Put (IntKind.u64.wrap (g.mem.getD k default)) 4 (by rw [wu64_mod]; omega) (by omega)) ?_;refine AO.ww ?_;refine AO.c ?_;refine n7 ?_;refine AO.oo ?_;refine AO.c ?_;refine AO.nil ?_
    exact AW.backU [.f, .k, .k, .f, .f, .k, .f, .f, .f, .f, .f, .f, .k, .k, .F, .F, .F, .F, .f, .f, .f, .f, .f, .f, .f, .k, .k, .k, .f, .f, .f, .f, .f, .k, .k, .k, .F, .F, .F, .F, .F, .f] (m3 - 1) (k + 1, ep2 + 1) (by omega) (by (try dsimp only); exact ⟨by omega, by omega⟩) (by first | ((try dsimp only); rw [hps, List.length_append]; done) | ((try dsimp only); rw [hps, List.length_append]; rfl)) (by first | (rw [hps]; done) | (rw [hps]; rfl))
   ·
    rw [decide_eq_false_iff_not] at h4;have hkl : k = g.mem.length := by omega
    have hgl := grps_len (g := g) g.mem.length;rw [gB_all] at hgl;refine AW.exit <|SQ.exit <|AW.out <|LU.exit <|BQ.exit <|SQ.normal <|AW.region ?_;iterate 5 refine AO.c ?_
    refine AO.ghost (Gh.freezeE 13 (li' := [1, 0, 0, 0] ++ g.mem.flatMap putN) (by rw [hkl, gB_all]) (by rw [hkl, gB_all]) (by omega)) ?_;iterate 2 refine AO.c ?_
    refine AO.rr ?_;refine AO.ww ?_;refine AO.c ?_;refine n7 ?_;refine AO.oo ?_;refine AO.c ?_;refine AO.nil ?_
    exact AW.backE [.f, .k, .k, .f, .f, .k, .F, .F, .F, .F, .F, .f, .f, .f, .f, .f, .f, .f, .k, .k, .k, .F, .F, .F, .F, .F, .F, .f] (gj) (m2 - 1) (gi + 1, gj + 2, gep + 1) (by omega) (by (try dsimp only); exact ⟨by omega, by omega⟩) (by first | ((try dsimp only); rw [hms, List.length_append]; done) | ((try dsimp only); rw [hms, List.length_append]; rfl)) (by first | (rw [hms, List.map_append]; done) | (rw [hms, List.map_append]; rfl))
  ·
   rw [decide_eq_false_iff_not] at h3;have hml := midA_len o at_ gi;refine AW.exit <|SQ.exit <|AW.out <|LU.exit <|BQ.exit <|SQ.normal <|n8 ?_;iterate 2 refine AO.c ?_
   refine n1 ?_;refine AW.iteB (GL.ev _) (fun h5 => ?_) (fun h5 => ?_)
   ·
    have hsp : sigPart at_ o = [⟨⟨0, 1879002115, 0, 0, 0, 0, at_, 0, 1, 0⟩, nSig, o.sig.flatMap encB⟩] := by unfold sigPart; rw [if_pos h5]
    refine n2 ?_;refine AO.c ?_;refine n4 ?_;iterate 4 refine AO.c ?_
    refine nb ?_;refine AW.ghost (Gh.adoptB 16 5) ?_
    refine AW.loopU2 [.f, .k, .f, .f, .f, .k, .F, .f, .f, .k, .F, .F, .F, .F, .F, .F, .F, .F, .f, .f, .f, .f, .f, .k, .k, .k, .F, .F] (fun (k ep2 : Nat) => [(16, .own (n0 + zadd (zadd (0 + 1 + 1) gj) 0) ep2 0 (sB o k).length), (88, .v (.int .i64 (k)))]) (fun k ep2 => Hn n0 ([some (.box 52 (objA o)), some (.row 145 12 (gep) ((midA o at_ gi).map partA))] ++ List.replicate gj none ++ [some (.row 5 1 ep2 (bys (sB o k)))])) (fun m k ep2 => k ≤ o.sig.length ∧ m = o.sig.length - k) (o.sig.length) (0) (0) ⟨by omega, by omega⟩ (by first | rfl | (simp; done)) (by simp [sB]) ?_
    rintro m4 k ep2 ⟨hk1, hk2⟩
    refine n2 ?_;refine AO.c ?_;refine n1 <|AW.seq' ?_;refine AW.iteB (GL.ev _) (fun h6 => ?_) (fun h6 => ?_)
    ·
     rw [decide_eq_true_eq] at h6;have hk : k < o.sig.length := by omega
     have hin : o.sig.getD k default ∈ o.sig := by rw [List.getD_eq_getElem?_getD, List.getElem?_eq_getElem hk]; exact List.getElem_mem hk
     have hsl := sB_len o k;have he5 := encB_len (o.sig.getD k default);refine nc ?_;refine AO.oo ?_;iterate 2 refine AO.c ?_
     refine n1 <|AW.region ?_;iterate 2 refine AO.c ?_
     refine AO.call1 Tryz.func110 rfl rfl (uleb_Put (o.sig.getD k default) (hq.sig _ hin)) ?_;refine AO.ww ?_;refine AO.c ?_;refine n7 ?_;refine AO.oo ?_;refine AO.c ?_;refine AO.nil ?_
     exact AW.backU [.f, .k, .f, .f, .f, .k, .F, .f, .f, .k, .F, .F, .F, .F, .F, .F, .F, .F, .f, .f, .f, .f, .f, .k, .k, .k, .F, .F] (m4 - 1) (k + 1, ep2 + 1) (by omega) (by (try dsimp only); exact ⟨by omega, by omega⟩) (by first | ((try dsimp only); rw [sB_succ hk, List.length_append]; done) | ((try dsimp only); rw [sB_succ hk, List.length_append]; rfl)) (by first | (rw [sB_succ hk]; done) | (rw [sB_succ hk]; rfl))
    ·
     rw [decide_eq_false_iff_not] at h6;have hkl : k = o.sig.length := by omega
     have hsl := sB_len o o.sig.length;rw [sB_all] at hsl;refine AW.exit <|SQ.exit <|AW.out <|LU.exit <|BQ.exit <|SQ.normal <|AW.region ?_;iterate 3 refine AO.c ?_
     refine AO.ghost (Gh.freezeE 16 (li' := o.sig.flatMap encB) (by rw [hkl, sB_all]) (by rw [hkl, sB_all]) (by omega)) ?_;iterate 2 refine AO.c ?_
     refine AO.rr ?_;refine AO.ww ?_;refine AO.c ?_;refine n3 ?_;iterate 2 refine AO.c ?_
     refine na ?_;refine FinO.ret 4 (Gh.refl) rfl ?_ ?_ (.inr rfl)
     · first | (rw [midA_all, hsp, show gi = o.groups.length by omega, List.map_append]; done) | (rw [midA_all, hsp, show gi = o.groups.length by omega, List.map_append]; rfl)
     · first | (rw [List.length_map, midA_all, hsp, show gi = o.groups.length by omega, List.length_append]; done) | (rw [List.length_map, midA_all, hsp, show gi = o.groups.length by omega, List.length_append]; rfl)
   ·
    have hsp : sigPart at_ o = [] := by unfold sigPart; rw [if_neg (by rw [h5]; decide)]
    refine n6 ?_;iterate 2 refine AO.c ?_
    refine na ?_;refine FinO.ret 4 (Gh.refl) rfl ?_ ?_ (.inr rfl)
    · rw [midA_all, hsp, show gi = o.groups.length by omega, List.append_nil]
    · rw [List.length_map, midA_all, hsp, show gi = o.groups.length by omega, List.append_nil]
def pA (o : ObjD) (i : Nat) : List PartD := zPart :: (o.secs.take i).map secPart
theorem pA_succ {o : ObjD} {i : Nat} (h : i < o.secs.length) : pA o (i + 1) = pA o i ++ [secPart (o.secs.getD i default)] := by
 unfold pA; rw [map_take_succ _ h, List.cons_append]
theorem pA_len {o : ObjD} {i : Nat} (h : i ≤ o.secs.length) : (pA o i).length = i + 1 := by
 unfold pA; rw [List.length_cons, List.length_map, List.length_take]; omega
theorem pA_all {o : ObjD} {i : Nat} (h : o.secs.length ≤ i) : pA o i = zPart :: o.secs.map secPart := by
 unfold pA; rw [List.take_of_length_le h]
theorem preF_len (o : ObjD) : (preF o).length = o.secs.length + (midF o (atF8 o)).length + 4 := by
 unfold preF;simp only [List.length_append, List.length_cons, List.length_map, List.length_nil];omega
theorem preF_last (o : ObjD) : (preF o).getD ((preF o).length - 1) default = shsPt := by
 unfold preF;rw [List.length_append, List.getD_eq_getElem?_getD, List.getElem?_append_right (by simp)];simp
theorem nmF_len (pl : List Int) (l : List PartD) : ∀ i, (nmF pl l i).length = l.length := by
 intro i
 induction i with
 | zero => rfl
 | succ i ih => rw [nmF, List.length_set, ih]
theorem tblF_len (o : ObjD) : (tblF o).length = (preF o).length := by unfold tblF; rw [List.length_set]
theorem finF_len (o : ObjD) : (finF o).length = (preF o).length := by unfold finF; rw [nmF_len, tblF_len]
theorem part_at {l : List PartD} {i : Nat} (h : i < l.length) : (l.map partA)[i]? = some (partA (l.getD i default)) := by
 rw [List.getElem?_map, List.getElem?_eq_getElem h, List.getD_eq_getElem?_getD, List.getElem?_eq_getElem h]; rfl
theorem part_getD {l : List PartD} {i : Nat} (h : i < l.length) : (l.map partA).getD i [] = partA (l.getD i default) := by
 rw [List.getD_eq_getElem?_getD, part_at h]; rfl
theorem atF8_eq (o : ObjD) : atF8 o = 1 + o.secs.length + (midF o 0).length := rfl
theorem mem_getD {α : Type} [Inhabited α] {l : List α} {i : Nat} (h : i < l.length) : l.getD i default ∈ l := by
 rw [List.getD_eq_getElem?_getD, List.getElem?_eq_getElem h]; exact List.getElem_mem h
theorem pre_names {o : ObjD} (h : LayH o) : ∀ s ∈ pNames o, s.size ≤ 1000000 := by
 intro s hs;obtain ⟨p, hp, rfl⟩ := List.mem_map.1 hs;unfold preF midF at hp;have hq := h.small;have hrel : ∀ (l : List SecD) (n at_ : Int) (p : PartD), p ∈ relPs at_ n l → p.name = nRela := by
  intro l
  induction l with
  | nil => intro n at_ p hp; cases hp
  | cons a l ih =>
   intro n at_ p hp;rw [relPs] at hp;rcases List.mem_append.1 hp with hp | hp
   · unfold relPart at hp
     split at hp
     · cases hp
     · obtain rfl := List.mem_singleton.1 hp; rfl
   · exact ih _ _ _ hp
 simp only [List.mem_append, List.mem_cons, List.mem_map, List.not_mem_nil, or_false] at hp;rcases hp with (((((rfl | ⟨a, ha, rfl⟩) | ((hp | ⟨g, _, rfl⟩) | hp))) | rfl) | rfl) | rfl
 · decide
 · have := (hq.sec a ha).2.2.2.2
   show a.name.size ≤ _; omega
 · rw [hrel _ _ _ _ hp]; decide
 · show nGroup.size ≤ _; decide
 · unfold sigPart at hp
   split at hp
   · obtain rfl := List.mem_singleton.1 hp; show nSig.size ≤ _; decide
   · cases hp
 · show nSym.size ≤ _; decide
 · show nStr.size ≤ _; decide
 · show nShs.size ≤ _; decide
set_option maxHeartbeats 4000000 in
theorem obj_partsR (o : ObjD) (h : LayH o) : A1 Tryz.prog 61 [.agg (objA o)] 145 12 ((finF o).map partA) := by
 have hq := h.small;have hso := h.ok;have s1 := hq.secs;have s2 := hq.syms;have s3 := h.gs;have s4 := h.sg;have hml := midF_len o (atF8 o);have hml0 := midF_len o 0;have hpl := preF_len o;have hns := pre_names h;have hnl : (pNames o).length = (preF o).length := by unfold pNames; rw [List.length_map]
 have hfull : ((preF o).take (preF o).length).map (·.name) = pNames o := by rw [List.take_of_length_le (Nat.le_refl _)]; rfl
 have htp := tabOf_pl (pNames o);have htl := tabOf_len hns;have hel := entsF_len o (tabOf (namesOf o)).2.1 o.syms.length;have hnt := tabOf_len (names_small h);have hnn : (namesOf o).length = o.syms.length := by unfold namesOf; simp
 refine A1.body 123 (NIr.h) Tryz.func61 rfl rfl Tryz.ntmps61 fun base n0 => ?_
 refine n2 ?_;refine AO.ww ?_;refine AO.c ?_;refine n3 ?_;refine AO.c ?_;refine AO.ghost (Gh.tell 15 (.agg [.v (.int .i64 0), .v (.int .i64 0), .v (.int .i64 0), .v (.int .i64 0), .v (.int .i64 0), .v (.int .i64 0), .v (.int .i64 0), .v (.int .i64 0), .v (.int .i64 0), .v (.int .i64 0), .v (.string { data := #[] }), .rd 1 (bys [])])) ?_;refine AO.eq 15 (av' := .agg (partA zPart)) rfl ?_
 refine AO.ww ?_;refine AO.c ?_;refine n4 ?_;iterate 4 refine AO.c ?_
 refine nb ?_
 refine AW.loopU2 [.f, .k, .f, .k, .F, .f, .f, .f, .f, .f, .f, .k, .k, .k, .F, .F, .F, .F, .F, .F, .F, .F, .F, .F, .F, .F, .f, .f, .f, .f, .f, .f] (fun (i ep : Nat) => [(3, .own (n0 + 1) ep 0 (pA o i).length), (20, .v (.int .i64 (i)))]) (fun i ep => Hn n0 (([some (.box 52 (objA o)), some (.row 145 12 (ep) ((pA o i).map partA))] ++ List.replicate i none) ++ [])) (fun m i ep => i ≤ o.secs.length ∧ m = o.secs.length - i) (o.secs.length) (0) (0) ⟨by omega, by omega⟩ (by first | rfl | (simp; done)) (by first | rfl | (simp; done)) ?_
 rintro m0 i ep ⟨hx1, hx2⟩
 refine n2 ?_;refine AO.c ?_;refine n1 <|AW.seq' ?_;refine AW.iteB (GL.ev _) (fun h0 => ?_) (fun h0 => ?_)
 ·
  rw [decide_eq_true_eq] at h0;have hi : i < o.secs.length := by omega
  have hsec := hq.sec _ (sec_in hi);have hps := pA_succ hi;have hpal := pA_len (o := o) (i := i) (by omega);generalize hse : o.secs.getD i default = s at hsec hps;refine nc ?_;refine AO.oo ?_;refine AO.c ?_;refine AO.eq 23 (av' := .agg (secA s)) (by rw [hse]) ?_;refine AO.ww ?_;refine AO.sst ?_;refine n1 <|AW.region ?_;iterate 19 refine AO.c ?_
  refine AO.eq 42 (av' := .agg (partA (secPart s))) rfl ?_;refine AO.rr ?_;refine AO.ww ?_;refine AO.c ?_;refine n7 ?_;refine AO.oo ?_;refine AO.c ?_;refine AO.nil ?_
  exact AW.backE [.f, .k, .f, .k, .F, .f, .f, .f, .f, .f, .f, .k, .k, .k, .F, .F, .F, .F, .F, .F, .F, .F, .F, .F, .F, .F, .f, .f, .f, .f, .f, .f] (i) (m0 - 1) (i + 1, ep + 1) (by omega) (by (try dsimp only); exact ⟨by omega, by omega⟩) (by first | ((try dsimp only); rw [hps, List.length_append]; done) | ((try dsimp only); rw [hps, List.length_append]; rfl)) (by first | (rw [hps, List.map_append]; done) | (rw [hps, List.map_append]; rfl))
 ·
  rw [decide_eq_false_iff_not] at h0;have hpal := pA_len (o := o) (i := i) (by omega);refine AW.exit <|SQ.exit <|AW.out <|LU.exit <|BQ.exit <|SQ.normal <|n2 ?_;iterate 3 refine AO.c ?_
  refine AO.call1 Tryz.func84 rfl rfl ((obj_middleR o 0 h).a0 (by rw [List.length_map]; omega)) ?_;refine AO.c ?_;refine AO.oo ?_;refine AO.eq 51 (av' := .v (.int .i64 (atF8 o))) (by rw [atF8_eq]; congr 2; omega) ?_;refine AO.c ?_;refine n3 ?_;iterate 3 refine AO.c ?_
  refine AO.call1 Tryz.func84 rfl rfl ((obj_middleR o (atF8 o) h).a0 (by rw [List.length_map]; omega)) ?_;refine AO.ww ?_;refine AO.c ?_;refine n3 ?_;refine AO.c ?_;refine AO.call1 Tryz.func85 rfl rfl (obj_entries _ (by assumption)) ?_;iterate 7 refine AO.c ?_
  refine n3 ?_;iterate 2 refine AO.c ?_
  refine AO.o (by rw [atF8_eq]; omega) ?_;iterate 4 refine AO.c ?_
  refine AO.eq 69 (av' := .agg (partA (symPt o (atF8 o)))) rfl ?_;refine AO.rr ?_;refine AO.ww ?_;refine AO.c ?_;refine n3 ?_;iterate 4 refine AO.c ?_
  refine AO.eq 75 (av' := .agg (partA (strPt o))) rfl ?_;refine AO.rr ?_;refine AO.ww ?_;refine AO.c ?_;refine n3 ?_;iterate 3 refine AO.c ?_
  refine AO.ghost (Gh.tell 80 (.agg [.v (.int .i64 0), .v (.int .i64 3), .v (.int .i64 0), .v (.int .i64 0), .v (.int .i64 0), .v (.int .i64 0), .v (.int .i64 0), .v (.int .i64 0), .v (.int .i64 1), .v (.int .i64 0), .v (.string { data := #[46, 115, 104, 115, 116, 114, 116, 97, 98] }), .rd 1 (bys [])])) ?_;refine AO.eq 80 (av' := .agg (partA shsPt)) rfl ?_;refine AO.rr ?_;refine AO.ww ?_
  refine AO.c ?_;refine n3 ?_;refine AO.c ?_;refine n1 <|AW.seq' <|AW.seq' ?_;refine AW.eqH (H' := Hn n0 (([some (.box 52 (objA o)), some (.row 145 12 (ep + 1 + 1 + 1 + 1) ((preF o).map partA))] ++ List.replicate i none) ++ [])) (by rw [pA_all (by omega)]; unfold preF; simp only [List.map_append]; rfl) ?_;refine AW.region ?_
  refine AO.eq 3 (av' := .own (n0 + 1) (ep + 1 + 1 + 1 + 1) 0 (preF o).length) (by congr 1; rw [hpl, pA_len (by omega), List.length_map]; simp only [List.length_cons, List.length_nil]; omega) ?_;iterate 3 refine AO.c ?_
  refine nb ?_;refine AW.ghost (Gh.adoptM 10 9 1) ?_
  refine AW.loopU2 [.f, .f, .f, .k, .f, .f, .f, .f, .f, .f, .k, .F, .F, .F, .F, .F, .F, .F, .F, .F, .k, .k, .k, .F, .F, .F, .F, .f, .f, .f, .f, .f] (fun (k ep2 : Nat) => [(10, .own (n0 + zadd (zadd (0 + 1 + 1) i) 0) ep2 0 k), (85, .v (.int .i64 (k)))]) (fun k ep2 => Hn n0 (([some (.box 52 (objA o)), some (.row 145 12 (ep + 1 + 1 + 1 + 1) ((preF o).map partA))] ++ List.replicate i none ++ [some (.row 9 1 ep2 ((((preF o).take k).map (·.name)).map sA))]) ++ List.replicate k none ++ [])) (fun m k ep2 => k ≤ (preF o).length ∧ m = (preF o).length - k) ((preF o).length) (0) (0) ⟨by omega, by omega⟩ (by first | rfl | (simp; done)) (by simp) ?_
  rintro m1 k ep2 ⟨hk1, hk2⟩
  refine n2 ?_;refine AO.c ?_;refine n1 <|AW.seq' ?_;refine AW.iteB (GL.ev _) (fun h1 => ?_) (fun h1 => ?_)
  ·
   rw [decide_eq_true_eq] at h1;have hk : k < (preF o).length := by omega
   generalize hpe : (preF o).getD k default = p;refine nc ?_;refine AO.oo ?_;refine AO.ldRN (partA p) (partA p) (by rw [show 0 + ((k : Int)).toNat = k by omega, part_at hk, hpe]) (by exact (by decide : 0 < 12)) (by exact (by decide : 0 + 12 ≤ 12)) rfl ?_;refine AO.ww ?_;refine AO.sst ?_;refine n1 <|AW.region ?_;iterate 3 refine AO.c ?_
   refine AO.rr ?_;refine AO.ww ?_;refine AO.c ?_;refine n7 ?_;refine AO.oo ?_;refine AO.c ?_;refine AO.nil ?_
   exact AW.backE [.f, .f, .f, .k, .f, .f, .f, .f, .f, .f, .k, .F, .F, .F, .F, .F, .F, .F, .F, .F, .k, .k, .k, .F, .F, .F, .F, .f, .f, .f, .f, .f] (k) (m1 - 1) (k + 1, ep2 + 1) (by omega) (by (try dsimp only); exact ⟨by omega, by omega⟩) (by first | rfl | (simp; done)) (by first | (rw [map_take_succ _ hk, List.map_append, hpe]; done) | (rw [map_take_succ _ hk, List.map_append, hpe]; rfl))
  ·
   rw [decide_eq_false_iff_not] at h1;refine AW.exit <|SQ.exit <|AW.out <|LU.exit <|BQ.exit <|SQ.normal <|AW.seq' ?_;refine AW.ghost (Gh.freezeM 10 sA (pNames o) (by rw [show k = (preF o).length by omega, hfull]) (by omega) (by omega)) ?_;refine AW.region ?_;refine AO.c ?_;refine AO.call1 Tryz.func86 rfl rfl (strtab_Make _ (by omega) (by assumption)) ?_;iterate 5 refine AO.c ?_
   refine n3 ?_;iterate 3 refine AO.c ?_
   refine AO.oo ?_;refine AO.c ?_;refine AO.oo ?_;refine AO.c ?_;refine AO.stR ((tblF o).map partA) (by simp; omega) ?_ ?_
   · rw [show 0 + (((preF o).length : Int) - 1).toNat = (preF o).length - 1 by omega, part_getD (by omega), preF_last]; unfold tblF; rw [List.map_set]; rfl
   refine n4 ?_;iterate 3 refine AO.c ?_
   refine nb ?_
   refine AW.loopU [.f, .f, .f, .k, .F, .f, .k, .F, .F, .F, .F, .F, .F, .F, .F, .F, .F, .F, .f, .f, .f, .f, .f, .f, .k, .k, .F, .f, .f, .f, .f, .f] (fun (q : Nat) => [(109, .v (.int .i64 (q)))]) (fun q => Hn n0 ([some (.box 52 (objA o)), some (.row 145 12 (ep + 1 + 1 + 1 + 1) ((nmF (tabOf (pNames o)).2.1 (tblF o) q).map partA))] ++ List.replicate i none ++ [none] ++ List.replicate k none ++ [])) (fun m q => q ≤ (preF o).length ∧ m = (preF o).length - q) ((preF o).length) (0) ⟨by omega, by omega⟩ (by first | rfl | (simp; done)) (by first | rfl | (simp; done)) ?_
   rintro m2 q ⟨hq1, hq2⟩
   refine n2 ?_;refine AO.c ?_;refine n1 <|AW.seq' ?_;refine AW.iteB (GL.ev _) (fun h2 => ?_) (fun h2 => ?_)
   ·
    rw [decide_eq_true_eq] at h2;have hqq : q < (preF o).length := by omega
    refine nc ?_;iterate 2 refine AO.c ?_
    refine n1 <|AW.region ?_;iterate 4 refine AO.c ?_
    refine AO.oo ?_;refine AO.c ?_;refine AO.oo ?_;iterate 2 refine AO.c ?_
    refine AO.stR ((nmF (tabOf (pNames o)).2.1 (tblF o) (q + 1)).map partA) (by rw [List.length_map, nmF_len, tblF_len]; omega) ?_ ?_
    · rw [show 0 + ((q : Int)).toNat = q by omega, part_getD (by rw [nmF_len, tblF_len]; omega), nmF, List.map_set]; rfl
    refine n7 ?_;refine AO.oo ?_;refine AO.c ?_;refine AO.nil ?_;exact AW.backU [.f, .f, .f, .k, .F, .f, .k, .F, .F, .F, .F, .F, .F, .F, .F, .F, .F, .F, .f, .f, .f, .f, .f, .f, .k, .k, .F, .f, .f, .f, .f, .f] (m2 - 1) (q + 1) (by omega) (by (try dsimp only); exact ⟨by omega, by omega⟩) (by first | rfl | (simp; done)) (by first | rfl | (simp; done))
   ·
    rw [decide_eq_false_iff_not] at h2;refine AW.exit <|SQ.exit <|AW.out <|LU.exit <|BQ.exit <|SQ.normal <|n2 ?_;iterate 2 refine AO.c ?_
    refine na ?_;refine FinO.ret 2 (Gh.refl) rfl ?_ ?_ (.inr rfl)
    · rw [show q = (preF o).length by omega]; rfl
    · rw [List.length_map, finF_len]
theorem tab_lenC (c : Nat) : ∀ (l : List ByteArray) (st : TabS), (∀ s ∈ l, s.size ≤ c) → (l.foldl tabStep st).1.length ≤ st.1.length + (c + 1) * l.length := by
 intro l
 induction l with
 | nil => intro st _; simp
 | cons a l ih =>
  intro st h;rw [List.foldl_cons, List.length_cons, Nat.mul_add, Nat.mul_one];have h1 := ih (tabStep st a) (fun s hs => h s (List.mem_cons_of_mem _ hs));have h2 : (tabStep st a).1.length ≤ st.1.length + (c + 1) := by
   unfold tabStep
   split
   · show st.1.length ≤ _; omega
   · split
     · show st.1.length ≤ _; omega
     · show (st.1 ++ strB a ++ [0]).length ≤ _
       rw [List.length_append, List.length_append, strB_len];have := h a List.mem_cons_self;simp only [List.length_cons, List.length_nil]; omega
  omega
theorem pre_names32 {o : ObjD} (h : LayH o) : ∀ s ∈ pNames o, s.size ≤ 32 := by
 intro s hs;obtain ⟨p, hp, rfl⟩ := List.mem_map.1 hs;unfold preF midF at hp;have hq := h.small;have hrel : ∀ (l : List SecD) (n at_ : Int) (p : PartD), p ∈ relPs at_ n l → p.name = nRela := by
  intro l
  induction l with
  | nil => intro n at_ p hp; cases hp
  | cons a l ih =>
   intro n at_ p hp;rw [relPs] at hp;rcases List.mem_append.1 hp with hp | hp
   · unfold relPart at hp
     split at hp
     · cases hp
     · obtain rfl := List.mem_singleton.1 hp; rfl
   · exact ih _ _ _ hp
 simp only [List.mem_append, List.mem_cons, List.mem_map, List.not_mem_nil, or_false] at hp;rcases hp with (((((rfl | ⟨a, ha, rfl⟩) | ((hp | ⟨g, _, rfl⟩) | hp))) | rfl) | rfl) | rfl
 · decide
 · exact (hq.sec a ha).2.2.2.2
 · rw [hrel _ _ _ _ hp]; decide
 · show nGroup.size ≤ _; decide
 · unfold sigPart at hp
   split at hp
   · obtain rfl := List.mem_singleton.1 hp; show nSig.size ≤ _; decide
   · cases hp
 · show nSym.size ≤ _; decide
 · show nStr.size ≤ _; decide
 · show nShs.size ≤ _; decide
theorem names32 {o : ObjD} (h : LayH o) : ∀ s ∈ namesOf o, s.size ≤ 32 := by
 intro s hs;obtain ⟨y, hy, rfl⟩ := List.mem_map.1 hs;exact (h.small.sym y hy).2.1
def PartOk (p : PartD) : Prop := p.h.ok ∧ p.b.length ≤ 40000000
theorem ok10 {a0 a1 a2 a3 a4 a5 a6 a7 a8 a9 : Int} (h0 : I64 a0) (h1 : I64 a1) (h2 : I64 a2) (h3 : I64 a3) (h4 : I64 a4) (h5 : I64 a5) (h6 : I64 a6) (h7 : I64 a7) (h8 : I64 a8) (h9 : I64 a9) : (ShD.mk a0 a1 a2 a3 a4 a5 a6 a7 a8 a9).ok := by
 intro x hx;simp only [ShD.list, List.mem_cons, List.not_mem_nil, or_false] at hx;rcases hx with rfl | rfl | rfl | rfl | rfl | rfl | rfl | rfl | rfl | rfl <;> assumption
theorem ok_all {h : ShD} (hh : h.ok) : I64 h.a0 ∧ I64 h.a1 ∧ I64 h.a2 ∧ I64 h.a3 ∧ I64 h.a4 ∧ I64 h.a5 ∧ I64 h.a6 ∧ I64 h.a7 ∧ I64 h.a8 ∧ I64 h.a9 := by
 refine ⟨hh _ ?_, hh _ ?_, hh _ ?_, hh _ ?_, hh _ ?_, hh _ ?_, hh _ ?_, hh _ ?_, hh _ ?_, hh _ ?_⟩ <;> simp [ShD.list]
theorem at_range {o : ObjD} (h : LayH o) : 0 ≤ atF8 o ∧ atF8 o ≤ 1000000 := by
 have hq := h.small;have s1 := hq.secs;have s3 := h.gs;have := midF_len o 0;rw [atF8_eq]; omega
theorem pre_ok {o : ObjD} (h : LayH o) : ∀ p ∈ preF o, PartOk p := by
 intro p hp;have hq := h.small;have s1 := hq.secs;have s2 := hq.syms;have s3 := h.gs;have s4 := h.sg;have har := at_range h;have hai : I64 (atF8 o) := by unfold I64; omega
 have c : ∀ x : Int, -1 ≤ x → x ≤ 2000000000 → I64 x := fun x h1 h2 => by unfold I64; omega
 have hrel : ∀ (l : List SecD) (n : Int) (p : PartD), (∀ s ∈ l, (s.rels.length : Int) ≤ 64) → 0 ≤ n → n + l.length ≤ 1000 → p ∈ relPs (atF8 o) n l → PartOk p := by
  intro l
  induction l with
  | nil => intro n p _ _ _ hp; cases hp
  | cons a l ih =>
   intro n p hl h0 h1 hp;rw [List.length_cons] at h1;rw [relPs] at hp;rcases List.mem_append.1 hp with hp | hp
   · unfold relPart at hp
     split at hp
     · cases hp
     · obtain rfl := List.mem_singleton.1 hp
       refine ⟨ok10 (by decide) (by decide) (by decide) (by decide) (by decide) (by decide) hai (c _ (by omega) (by omega)) (by decide) (by decide), ?_⟩;have := flatMap_len putR_len a.rels;have := hl a List.mem_cons_self;show (a.rels.flatMap putR).length ≤ _
       omega
   · exact ih _ _ (fun s hs => hl s (List.mem_cons_of_mem _ hs)) (by omega) (by omega) hp
 unfold preF midF at hp;simp only [List.mem_append, List.mem_cons, List.mem_map, List.not_mem_nil, or_false] at hp;rcases hp with (((((rfl | ⟨a, ha, rfl⟩) | ((hp | ⟨g, hg, rfl⟩) | hp))) | rfl) | rfl) | rfl
 · exact ⟨ok10 (by decide) (by decide) (by decide) (by decide) (by decide) (by decide) (by decide) (by decide) (by decide) (by decide), by decide⟩
 · have ha2 := hq.sec a ha
   obtain ⟨q1, q2, q3, q4, q5, q6, q7, q8, q9, q10, q11⟩ := ha2.1;exact ⟨ok10 (by decide) q2 q3 (by decide) (by decide) q7 q6 (by decide) q4 q5, by show a.data.length ≤ _; omega⟩
 · exact hrel _ _ _ (fun s hs => (hq.sec s hs).2.2.1) (by decide) (by omega) hp
 · have hg2 := hq.grp g hg
   have := hg2.1.1;have := hg2.1.2.1;refine ⟨ok10 (by decide) (by decide) (by decide) (by decide) (by decide) (by decide) hai (c _ (by omega) (by omega)) (by decide) (by decide), ?_⟩;have h4 := grps_len (g := g) g.mem.length;rw [gB_all] at h4;show ([1, 0, 0, 0] ++ g.mem.flatMap putN).length ≤ _
   omega
 · unfold sigPart at hp
   split at hp
   · obtain rfl := List.mem_singleton.1 hp
     refine ⟨ok10 (by decide) (by decide) (by decide) (by decide) (by decide) (by decide) hai (by decide) (by decide) (by decide), ?_⟩;have h4 := sB_len o o.sig.length;rw [sB_all] at h4;show (o.sig.flatMap encB).length ≤ _
     omega
   · cases hp
 · have hl := localF_le o.syms
   refine ⟨ok10 (by decide) (by decide) (by decide) (by decide) (by decide) (by decide) (c _ (by omega) (by omega)) (c _ (by omega) (by omega)) (by decide) (by decide), ?_⟩;have := entsF_len o (tabOf (namesOf o)).2.1 o.syms.length;show (entsF o _ _).length ≤ _
   omega
 · refine ⟨ok10 (by decide) (by decide) (by decide) (by decide) (by decide) (by decide) (by decide) (by decide) (by decide) (by decide), ?_⟩
   have := tab_lenC 32 (namesOf o) ([0], [], []) (names32 h);have hn : (namesOf o).length = o.syms.length := by unfold namesOf; simp
   show (tabOf (namesOf o)).1.length ≤ _
   unfold tabOf;simp only [List.length_cons, List.length_nil] at this;omega
 · exact ⟨ok10 (by decide) (by decide) (by decide) (by decide) (by decide) (by decide) (by decide) (by decide) (by decide) (by decide), by decide⟩
theorem nmF_get (pl : List Int) (l : List PartD) : ∀ (n i : Nat), i < l.length → n ≤ l.length → (nmF pl l n).getD i default = if i < n then (l.getD i default).named (pl.getD i 0) else l.getD i default := by
 intro n
 induction n with
 | zero => intro i _ _; simp [nmF]
 | succ n ih =>
  intro i hi hn;rw [nmF];by_cases h : i = n
  · subst h
    rw [if_pos (by omega), List.getD_eq_getElem?_getD, List.getElem?_set_self (by rw [nmF_len]; exact hi), Option.getD_some, ih i hi (by omega), if_neg (by omega)]
  · rw [List.getD_eq_getElem?_getD, List.getElem?_set_ne (Ne.symm h), ← List.getD_eq_getElem?_getD, ih i hi (by omega)]
    by_cases h2 : i < n
    · rw [if_pos h2, if_pos (by omega)]
    · rw [if_neg h2, if_neg (by omega)]
theorem finF_get {o : ObjD} {i : Nat} (h : i < (preF o).length) : (finF o).getD i default = ((tblF o).getD i default).named ((tabOf (pNames o)).2.1.getD i 0) := by
 unfold finF;rw [nmF_get _ _ _ _ (by rw [tblF_len]; exact h) (by rw [tblF_len]; omega), if_pos h]
theorem tblF_get {o : ObjD} {i : Nat} (h : i < (preF o).length) : (tblF o).getD i default = if i = (preF o).length - 1 then shsPt.told (tabOf (pNames o)).1 else (preF o).getD i default := by
 unfold tblF;by_cases hi : i = (preF o).length - 1
 · rw [if_pos hi, hi, List.getD_eq_getElem?_getD, List.getElem?_set_self (by omega)]; rfl
 · rw [if_neg hi, List.getD_eq_getElem?_getD, List.getElem?_set_ne (Ne.symm hi), ← List.getD_eq_getElem?_getD]
theorem pre_small {o : ObjD} (h : LayH o) : (preF o).length ≤ 1000000 ∧ 4 ≤ (preF o).length := by
 have hq := h.small;have s1 := hq.secs;have s3 := h.gs;have := midF_len o (atF8 o);rw [preF_len]; omega
theorem fin_ok {o : ObjD} (h : LayH o) {i : Nat} (hi : i < (preF o).length) : PartOk ((finF o).getD i default) := by
 have hn32 := pre_names32 h;have ht := tab_lenC 32 (pNames o) ([0], [], []) hn32;have hnl : (pNames o).length = (preF o).length := by unfold pNames; rw [List.length_map]
 have hps := pre_small h;have hpr := pl_range (l := pNames o) (k := i) (by omega);have hto : (tabOf (pNames o)).1.length ≤ 1 + 33 * (pNames o).length := by
  unfold tabOf; simpa using ht
 have hb : PartOk ((tblF o).getD i default) := by
  rw [tblF_get hi]
  split
  · exact ⟨ok10 (by decide) (by decide) (by decide) (by decide) (by decide) (by decide) (by decide) (by decide) (by decide) (by decide), by show (tabOf (pNames o)).1.length ≤ _; omega⟩
  · exact pre_ok h _ (mem_getD hi)
 rw [finF_get hi];obtain ⟨k0, k1, k2, k3, k4, k5, k6, k7, k8, k9⟩ := ok_all hb.1;exact ⟨ok10 (by unfold I64; omega) k1 k2 k3 k4 k5 k6 k7 k8 k9, hb.2⟩
theorem putH_len (h : ShD) : (putH h).length ≤ 64 := by
 unfold putH; split
 · rw [bytes_len]; omega
 · simp
theorem layN_len {o : ObjD} (h : LayH o) : ∀ i, i ≤ (preF o).length → (layN (finF o) i).1.length ≤ 40000000 * i ∧ (layN (finF o) i).2.length ≤ 64 * i := by
 intro i
 induction i with
 | zero => intro _; exact ⟨by simp [layN], by simp [layN]⟩
 | succ i ih =>
  intro hi;obtain ⟨h1, h2⟩ := ih (by omega);have h3 := (fin_ok h (i := i) (by omega)).2;have h4 := putH_len (headOf i (layN (finF o) i).1 ((finF o).getD i default));rw [layN]
  constructor
  · show ((layN (finF o) i).1 ++ _).length ≤ _
    rw [List.length_append]; omega
  · show ((layN (finF o) i).2 ++ _).length ≤ _
    rw [List.length_append]; omega
theorem headOf_a {i : Nat} {body : List Int} {p : PartD} (h : ¬ i = 0) (h8 : p.h.a1 ≠ 8) : headOf i body p = ⟨p.h.a0, p.h.a1, p.h.a2, p.h.a3, 64 + body.length, p.b.length, p.h.a6, p.h.a7, p.h.a8, p.h.a9⟩ := by
 unfold headOf; rw [if_neg h, if_neg h8]
theorem headOf_b {i : Nat} {body : List Int} {p : PartD} (h : ¬ i = 0) (h8 : p.h.a1 = 8) : headOf i body p = ⟨p.h.a0, p.h.a1, p.h.a2, p.h.a3, 64 + body.length, p.h.a5, p.h.a6, p.h.a7, p.h.a8, p.h.a9⟩ := by
 unfold headOf; rw [if_neg h, if_pos h8]
theorem headOf_c {i : Nat} {body : List Int} {p : PartD} (h : i = 0) : headOf i body p = p.h := by
 unfold headOf; rw [if_pos h]
theorem headOf_ok {i : Nat} {body : List Int} {p : PartD} (hp : PartOk p) (hb : body.length ≤ 100000000000000) : (headOf i body p).ok := by
 obtain ⟨k0, k1, k2, k3, k4, k5, k6, k7, k8, k9⟩ := ok_all hp.1;unfold headOf
 split
 · exact hp.1
 · refine ok10 k0 k1 k2 k3 (by unfold I64; omega) ?_ k6 k7 k8 k9
   have := hp.2
   split
   · exact k5
   · unfold I64; omega
def mayP (o : ObjD) : Bool := shapeB o && decide ((bytesF o).length ≤ 16384)
set_option maxHeartbeats 4000000 in
theorem obj_layR (o : ObjD) (h : LayH o) : A1 Tryz.prog 43 [.agg (objA o)] 5 1 (bys (bytesF o)) := by
 have hq := h.small;have hso := h.ok;have s1 := hq.secs;have s2 := hq.syms;have s3 := h.gs;have s4 := h.sg;have hps := pre_small h;have hfl := finF_len o;refine A1.body 59 (NIr.h) Tryz.func43 rfl rfl Tryz.ntmps43 fun base n0 => ?_
 refine n2 ?_;refine AO.ww ?_;refine AO.c ?_;refine n3 ?_;refine AO.c ?_;refine AO.call1 Tryz.func61 rfl rfl ((obj_partsR o h).a0 (by rw [List.length_map]; omega)) ?_;refine AO.c ?_;refine n3 ?_;iterate 2 refine AO.c ?_
 refine n4 ?_;iterate 3 refine AO.c ?_
 refine nb ?_;refine AW.ghost (Gh.adoptB 4 5) ?_;refine AW.ghost (Gh.adoptB 5 5) ?_
 refine AW.loopU3 [.f, .f, .f, .k, .k, .k, .f, .f, .f, .f, .f, .k, .k, .k, .F, .F, .F, .F, .F, .f, .f, .f, .f, .f] (fun (i e4 e5 : Nat) => [(4, .own (n0 + 1) e4 0 (layN (finF o) i).1.length), (5, .own (n0 + 2) e5 0 (layN (finF o) i).2.length), (13, .v (.int .i64 (i)))]) (fun i e4 e5 => Hn n0 (([some (.box 52 (objA o)), some (.row 5 1 (e4) (bys ((layN (finF o) i).1))), some (.row 5 1 (e5) (bys ((layN (finF o) i).2)))] ++ List.replicate i none) ++ [])) (fun m i e4 e5 => i ≤ (finF o).length ∧ m = (finF o).length - i) ((finF o).length) (0) (0) (0) ⟨by omega, by omega⟩ (by first | rfl | (simp; done)) (by first | rfl | (simp; done)) ?_
 rintro m0 i e4 e5 ⟨hx1, hx2⟩
 refine n2 ?_;refine AO.c ?_;refine n1 <|AW.seq' ?_;refine AW.iteB (GL.ev _) (fun h0 => ?_) (fun h0 => ?_)
 ·
  rw [decide_eq_true_eq] at h0;have hi : i < (preF o).length := by omega
  have hpo := fin_ok h hi;have hll := layN_len h i (by omega);have hst : layN (finF o) (i + 1) = ((layN (finF o) i).1 ++ ((finF o).getD i default).b, (layN (finF o) i).2 ++ putH (headOf i (layN (finF o) i).1 ((finF o).getD i default))) := rfl;have hph := putH_len (headOf i (layN (finF o) i).1 ((finF o).getD i default));unfold putH at hph;generalize hpe : (finF o).getD i default = p at hpo hst hph
  have hok := headOf_ok (i := i) (body := (layN (finF o) i).1) hpo (by omega);have hpb := hpo.2;refine nc ?_;refine AO.c ?_;refine AO.oo ?_;refine AO.c ?_;refine AO.eq 17 (av' := .agg (partA p)) (by rw [hpe]) ?_;refine AO.ww ?_;refine AO.c ?_;refine AO.sst ?_;refine n4 ?_;iterate 2 refine AO.c ?_
  refine n1 ?_;refine AW.iteB (GL.ev _) (fun h1 => ?_) (fun h1 => ?_)
  ·
   rw [decide_eq_true_eq] at h1;refine n2 ?_;iterate 2 refine AO.c ?_
   refine AO.oo ?_;iterate 2 refine AO.c ?_
   refine AO.sst ?_;refine n3 ?_;iterate 4 refine AO.c ?_
   refine n1 ?_;refine AW.iteB (GL.ev _) (fun h2 => ?_) (fun h2 => ?_)
   ·
    rw [decide_eq_true_eq] at h2;refine AW.region ?_;iterate 5 refine AO.c ?_
    refine AO.sst ?_;refine n3 ?_;iterate 3 refine AO.c ?_
    refine AO.ww ?_;refine AO.c ?_;refine n1 <|AW.region ?_
    skip;iterate 3 refine AO.c ?_
    refine AO.eq 40 (av' := .agg (shA (headOf i (layN (finF o) i).1 p))) (by first | (rw [headOf_a (show ¬ i = 0 by omega) h2]) | (rw [headOf_b (show ¬ i = 0 by omega) h2]) | (rw [headOf_c (show i = 0 by omega)])) ?_;refine AO.call1 Tryz.func62 rfl rfl (shdr_Put (headOf i (layN (finF o) i).1 p) hok) ?_;refine AO.ww ?_;refine AO.c ?_;refine n7 ?_;refine AO.oo ?_;refine AO.c ?_;refine AO.nil ?_
    exact AW.backE [.f, .f, .f, .k, .k, .k, .f, .f, .f, .f, .f, .k, .k, .k, .F, .F, .F, .F, .F, .f, .f, .f, .f, .f] (i) (m0 - 1) (i + 1, e4 + 1, e5 + 1) (by omega) (by (try dsimp only); exact ⟨by omega, by omega⟩) (by first | ((try dsimp only); rw [hst, List.length_append, List.length_append]; done) | ((try dsimp only); rw [hst, List.length_append, List.length_append]; rfl)) (by first | (rw [hst]; done) | (rw [hst]; rfl))
   ·
    rw [decide_eq_false_iff_not, Decidable.not_not] at h2;refine n6 ?_;iterate 3 refine AO.c ?_
    refine AO.ww ?_;refine AO.c ?_;refine n1 <|AW.region ?_
    skip;iterate 3 refine AO.c ?_
    refine AO.eq 40 (av' := .agg (shA (headOf i (layN (finF o) i).1 p))) (by first | (rw [headOf_a (show ¬ i = 0 by omega) h2]) | (rw [headOf_b (show ¬ i = 0 by omega) h2]) | (rw [headOf_c (show i = 0 by omega)])) ?_;refine AO.call1 Tryz.func62 rfl rfl (shdr_Put (headOf i (layN (finF o) i).1 p) hok) ?_;refine AO.ww ?_;refine AO.c ?_;refine n7 ?_;refine AO.oo ?_;refine AO.c ?_;refine AO.nil ?_
    exact AW.backE [.f, .f, .f, .k, .k, .k, .f, .f, .f, .f, .f, .k, .k, .k, .F, .F, .F, .F, .F, .f, .f, .f, .f, .f] (i) (m0 - 1) (i + 1, e4 + 1, e5 + 1) (by omega) (by (try dsimp only); exact ⟨by omega, by omega⟩) (by first | ((try dsimp only); rw [hst, List.length_append, List.length_append]; done) | ((try dsimp only); rw [hst, List.length_append, List.length_append]; rfl)) (by first | (rw [hst]; done) | (rw [hst]; rfl))
  ·
   rw [decide_eq_false_iff_not] at h1;refine n6 ?_;iterate 3 refine AO.c ?_
   refine AO.ww ?_;refine AO.c ?_;refine n1 <|AW.region ?_
   skip;iterate 3 refine AO.c ?_
   refine AO.eq 40 (av' := .agg (shA (headOf i (layN (finF o) i).1 p))) (by first | (rw [headOf_a (show ¬ i = 0 by omega) h2]) | (rw [headOf_b (show ¬ i = 0 by omega) h2]) | (rw [headOf_c (show i = 0 by omega)])) ?_;refine AO.call1 Tryz.func62 rfl rfl (shdr_Put (headOf i (layN (finF o) i).1 p) hok) ?_;refine AO.ww ?_;refine AO.c ?_;refine n7 ?_;refine AO.oo ?_;refine AO.c ?_;refine AO.nil ?_
   exact AW.backE [.f, .f, .f, .k, .k, .k, .f, .f, .f, .f, .f, .k, .k, .k, .F, .F, .F, .F, .F, .f, .f, .f, .f, .f] (i) (m0 - 1) (i + 1, e4 + 1, e5 + 1) (by omega) (by (try dsimp only); exact ⟨by omega, by omega⟩) (by first | ((try dsimp only); rw [hst, List.length_append, List.length_append]; done) | ((try dsimp only); rw [hst, List.length_append, List.length_append]; rfl)) (by first | (rw [hst]; done) | (rw [hst]; rfl))
 ·
  rw [decide_eq_false_iff_not] at h0;have hif : i = (finF o).length := by omega
  have hll := layN_len h (finF o).length (by omega);have hll2 := layN_len h i (by omega);have heh := hdI_len ⟨64 + (layN (finF o) i).1.length, (finF o).length, ((finF o).length : Int) - 1⟩;refine AW.exit <|SQ.exit <|AW.out <|LU.exit <|BQ.exit <|SQ.normal <|n2 ?_;iterate 2 refine AO.c ?_
  refine AO.oo ?_;iterate 4 refine AO.c ?_
  refine AO.oo ?_;refine AO.c ?_;refine AO.callR Tryz.func63 rfl rfl (ehdr_Put ⟨64 + (layN (finF o) i).1.length, (finF o).length, ((finF o).length : Int) - 1⟩) (by rw [bys_length]) ?_;refine AO.c ?_;refine n3 ?_;refine AO.ghost (Gh.freezeE 4 (li' := (layN (finF o) (finF o).length).1) (by rw [hif]) (by rw [hif]) (by omega)) ?_
  refine AO.ghost (Gh.freezeE 5 (li' := (layN (finF o) (finF o).length).2) (by rw [hif]) (by rw [hif]) (by omega)) ?_;iterate 2 refine AO.c ?_
  refine AO.ww ?_;refine AO.c ?_;refine AO.ww ?_;refine AO.c ?_;refine na ?_;refine FinO.ret 2 (Gh.refl) rfl ?_ ?_ (.inr rfl)
  · rw [hif]; rfl
  · rw [bys_length]; unfold bytesF putEh; rw [hif]; simp only [List.length_append]
theorem bytesF_len {o : ObjD} (h : LayH o) : (bytesF o).length ≤ 9223372036854775807 := by
 have hps := pre_small h;have hfl := finF_len o;have hll := layN_len h (finF o).length (by omega);have he : (putEh ⟨64 + (layN (finF o) (finF o).length).1.length, (finF o).length, (finF o).length - 1⟩).length ≤ 64 := by
  unfold putEh; exact hdI_len _
 unfold bytesF;simp only [List.length_append];omega
theorem obj_May (o : ObjD) (ho : o.ok) (hg : o.groups.length ≤ 900000) (hsg : o.sig.length ≤ 1000000) : A0 Tryz.prog 24 [.agg (objA o)] (fun ret => ret = .v (.bool (mayP o))) := by
 have hsh := obj_shape o ho;rw [shape_eq ho] at hsh;refine A0.body 11 Tryz.func24 rfl rfl Tryz.ntmps24 fun base n0 => ?_
 refine go ?_;refine AO.call1 Tryz.func42 rfl rfl (hsh) ?_;refine go ?_;refine AO.gxcall1 Tryz.func43 rfl rfl (fun hgd => (obj_layR o ⟨ho, hgd, hg, hsg⟩).a0 (by rw [bys_length]; exact bytesF_len ⟨ho, hgd, hg, hsg⟩)) ?_;refine go ?_;refine AW.ret ?_;refine Fin.ret (Gh.refl) noid1 ?_
 unfold mayP; rw [show decide ((bytesF o).length ≤ 16384) = decide (((bytesF o).length : Int) ≤ 16384) by rw [Bool.eq_iff_iff]; simp; omega]; rfl
theorem enc_one : ∀ (k : Nat) (x : Int), 0 ≤ x → x < 128 ^ (k + 1) → enc (k + 1) x = enc (k + 2) x := by
 intro k
 induction k with
 | zero => intro x h0 h1; show (if x < 128 then [x] else _) = (if x < 128 then [x] else _); rw [if_pos (by omega), if_pos (by omega)]
 | succ k ih =>
  intro x h0 h1;show (if x < 128 then [x] else (x % 128 + 128) :: enc (k + 1) (x / 128)) = (if x < 128 then [x] else (x % 128 + 128) :: enc (k + 2) (x / 128))
  rw [ih (x / 128) (by omega) (by rw [Int.pow_succ] at h1; omega)]
theorem encB_step {n : Int} (h : 128 ≤ n ∧ n ≤ 2147483647) : encB n = (n % 128 + 128) :: encB (n / 128) := by
 unfold encB;rw [if_pos (by omega), if_pos (by omega), ← enc_one 3 (n / 128) (by omega) (by omega)];show (if n < 128 then [n] else _) = _
 rw [if_neg (by omega)]
theorem encB_lit {n : Int} (h : 0 ≤ n ∧ n < 128) : encB n = [n] := by
 unfold encB;rw [if_pos (by omega)];show (if n < 128 then [n] else _) = _
 rw [if_pos (by omega)]
theorem ref_UlebS (n : Int) (hn : I64 n) (ih : ∀ x : Int, 0 ≤ x → x < n → A0 Tryz.prog 100 [.v (.int .i64 (x))] (fun ret => ret = .rd 1 (bys (encB x)))) : A0 Tryz.prog 100 [.v (.int .i64 (n))] (fun ret => ret = .rd 1 (bys (encB n))) := by
 unfold I64 at hn;refine A0.body 23 Tryz.func100 rfl rfl Tryz.ntmps100 fun base n0 => ?_
 refine go ?_;refine AW.iteB (GL.ev _) (fun h0 => ?_) (fun h0 => ?_)
 ·
  simp only [Bool.or_eq_true, decide_eq_true_eq] at h0;have hno : encB n = [] := by unfold encB; rw [if_neg (by omega)]
  refine go ?_;refine AW.ret <|SQ.ret ?_;refine Fin.ret (Gh.nilB 2) noid1 ?_;rw [hno]; rfl
 ·
  simp only [Bool.or_eq_false_iff, decide_eq_false_iff_not] at h0;refine go ?_;refine AW.iteB (GL.ev _) (fun h1 => ?_) (fun h1 => ?_)
  ·
   rw [decide_eq_true_eq] at h1;have hfin : [n] = encB n := (encB_lit (by omega)).symm;refine go ?_;refine AW.ret <|SQ.ret ?_;refine Fin.ret (Gh.freezeE 2 hfin (by rw [← hfin]; first | (simp; done) | (simp; omega)) (by rw [← hfin]; first | (simp; done) | (simp; omega))) noid1 ?_;rfl
  ·
   rw [decide_eq_false_iff_not] at h1;have hl5 := encB_len (n / 128);have hfin : [128 + n % 128] ++ encB (n / 128) = encB n := by rw [Int.add_comm]; exact (encB_step (by omega)).symm
   refine go ?_;refine AO.call1 Tryz.func100 rfl rfl (ih (n / 128) (by omega) (by omega)) ?_;refine go ?_;refine AW.ret ?_;refine Fin.ret (Gh.freezeE 2 hfin (by rw [← hfin]; first | (simp; done) | (simp; omega)) (by rw [← hfin]; first | (simp; done) | (simp; omega))) noid1 ?_;rfl
theorem ref_Uleb (n : Int) (hn : I64 n) : A0 Tryz.prog 100 [.v (.int .i64 n)] (fun ret => ret = .rd 1 (bys (encB n))) := by
 suffices h : ∀ (k : Nat) (x : Int), x.toNat < k → I64 x → A0 Tryz.prog 100 [.v (.int .i64 x)] (fun ret => ret = .rd 1 (bys (encB x))) from h (n.toNat + 1) n (by omega) hn
 intro k
 induction k with
 | zero => intro x h; omega
 | succ k ih => exact fun x h hx => ref_UlebS x hx fun y h0 h1 => ih y (by omega) (by unfold I64 at *; omega)
set_option maxHeartbeats 2000000 in
theorem ref_relParts (o : ObjD) (at_ : Int) (h : LayH o) : A1 Tryz.prog 69 [.agg (objA o), .v (.int .i64 (at_))] 156 12 ((relPs at_ 1 o.secs).map partA) := by
 have hq := h.small;have hso := h.ok;have s1 := hq.secs;have s2 := hq.syms;have s3 := h.gs;have s4 := h.sg;refine A1.body 49 (NIr.h) Tryz.func69 rfl rfl Tryz.ntmps69 fun base n0 => ?_
 refine n2 ?_;refine AO.ww ?_;refine AO.c ?_;refine n3 ?_;refine AO.c ?_;refine n4 ?_;refine AO.c ?_;refine nb ?_;refine AW.ghost (Gh.adoptM 5 156 12) ?_
 refine AW.loopU2 [.f, .k, .k, .f, .f, .k, .k, .F, .F, .F, .F, .F, .f, .f] (fun (i ep : Nat) => [(5, .own (n0 + 1) ep 0 (relPs at_ 1 (o.secs.take i)).length), (6, .v (.int .i64 ((i : Int) + 1)))]) (fun i ep => Hn n0 (([some (.box 52 (objA o)), some (.row 156 12 (ep) ((relPs at_ 1 (o.secs.take i)).map partA))] ++ List.replicate i none) ++ [])) (fun m i ep => i ≤ o.secs.length ∧ m = o.secs.length - i) (o.secs.length) (0) (0) ⟨by omega, by omega⟩ (by first | rfl | (simp; done)) (by first | rfl | (simp; done)) ?_
 rintro m0 i ep ⟨hx1, hx2⟩
 refine n8 ?_;iterate 5 refine AO.c ?_
 refine n1 ?_;refine AW.iteB (GL.ev _) (fun h0 => ?_) (fun h0 => ?_)
 ·
  rw [decide_eq_true_eq] at h0;have hi : i < o.secs.length := by omega
  have hsec := hq.sec _ (sec_in hi);have hrsu := relPs_succ (at_ := at_) hi;have hrl := relPs_len at_ (o.secs.take i) 1;rw [List.length_take] at hrl;generalize hse : o.secs.getD i default = s at hsec hrsu;refine nc ?_;refine AO.c ?_;refine n3 ?_;iterate 3 refine AO.c ?_
  iterate 2 refine AO.oo ?_
  iterate 2 refine AO.c ?_
  refine AO.eq 23 (av' := .rd 4 (s.rels.map relA)) (by rw [show (((i : Int) + 1 - 1)).toNat = i by omega, hse]) ?_;refine AO.c ?_;refine n4 ?_;refine AO.c ?_;refine nb ?_;refine AW.ghost (Gh.adoptB 7 5) ?_
  refine AW.loopU2 [.f, .k, .k, .f, .f, .k, .k, .k, .k, .k, .F, .F, .F, .F, .f, .f, .f, .f, .f, .f, .f] (fun (k ep2 : Nat) => [(7, .own (n0 + zadd (zadd (0 + 1 + 1) i) 0) ep2 0 (putRs s k).length), (9, .v (.int .i64 (k)))]) (fun k ep2 => Hn n0 ([some (.box 52 (objA o)), some (.row 156 12 (ep) ((relPs at_ 1 (o.secs.take i)).map partA))] ++ List.replicate i none ++ [some (.row 5 1 ep2 (bys (putRs s k)))])) (fun m k ep2 => k ≤ s.rels.length ∧ m = s.rels.length - k) (s.rels.length) (0) (0) ⟨by omega, by omega⟩ (by first | rfl | (simp; done)) (by simp [putRs]) ?_
  rintro m1 k ep2 ⟨hk1, hk2⟩
  refine n8 ?_;iterate 4 refine AO.c ?_
  refine n1 ?_;refine AW.iteB (GL.ev _) (fun h1 => ?_) (fun h1 => ?_)
  ·
   rw [decide_eq_true_eq] at h1;have hk : k < s.rels.length := by omega
   have hrok := relOk_at hsec.1.2.2.2.2.2.2.2.2.2.2 hk;have hpl := putRs_len s k;have hps : putRs s (k + 1) = putRs s k ++ putR (s.rels.getD k default) := by unfold putRs; rw [flatMap_take_succ _ hk]
   have hrl1 := putR_len (s.rels.getD k default);unfold putR at hrl1;generalize hre : s.rels.getD k default = r at hrok hps hrl1;refine n5 <|AW.seq' <|AW.block' <|AW.region ?_;iterate 3 refine AO.c ?_
   refine AO.oo ?_;refine AO.c ?_;refine AO.eq 34 (av' := .agg (relA r)) (by rw [hre]) ?_;refine AO.call1 Tryz.func98 rfl rfl (ref_RelBytes r hrok) ?_;refine AO.ww ?_;refine AO.c ?_;refine n7 ?_;refine AO.c ?_;refine AO.oo ?_;refine AO.c ?_;refine AO.nil ?_
   exact AW.backU [.f, .k, .k, .f, .f, .k, .k, .k, .k, .k, .F, .F, .F, .F, .f, .f, .f, .f, .f, .f, .f] (m1 - 1) (k + 1, ep2 + 1) (by omega) (by (try dsimp only); exact ⟨by omega, by omega⟩) (by first | ((try dsimp only); rw [hps, List.length_append]; done) | ((try dsimp only); rw [hps, List.length_append]; rfl)) (by first | (rw [hps]; done) | (rw [hps]; rfl))
  ·
   rw [decide_eq_false_iff_not] at h1;have hkl : k = s.rels.length := by omega
   refine AW.exit <|SQ.exit <|AW.out <|LU.exit <|BQ.exit <|SQ.normal <|n2 ?_;iterate 3 refine AO.c ?_
   refine n1 ?_;refine AW.iteB (GL.ev _) (fun h2 => ?_) (fun h2 => ?_)
   ·
    rw [decide_eq_true_eq] at h2;have hrs : relPs at_ 1 (o.secs.take (i + 1)) = relPs at_ 1 (o.secs.take i) ++ [⟨⟨0, 4, 0, 0, 0, 0, at_, i + 1, 8, 24⟩, nRela, s.rels.flatMap putR⟩] := by rw [hrsu]; unfold relPart; rw [if_neg (by omega)]
    have hfl : (s.rels.flatMap putR).length ≤ 2000 := by have := flatMap_len putR_len s.rels; omega
    refine AW.region ?_;iterate 4 refine AO.c ?_
    refine AO.ghost (Gh.freezeE 7 (li' := s.rels.flatMap putR) (by rw [hkl]; unfold putRs; rw [List.take_of_length_le (Nat.le_refl _)]) (by rw [hkl]; unfold putRs; rw [List.take_of_length_le (Nat.le_refl _)]) (by omega)) ?_;iterate 2 refine AO.c ?_
    refine AO.rr ?_;refine AO.ww ?_;refine AO.c ?_;refine n7 ?_;refine AO.c ?_;refine AO.oo ?_;refine AO.c ?_;refine AO.nil ?_
    exact AW.backE [.f, .k, .k, .f, .f, .k, .k, .F, .F, .F, .F, .F, .f, .f] (i) (m0 - 1) (i + 1, ep + 1) (by omega) (by (try dsimp only); exact ⟨by omega, by omega⟩) (by first | ((try dsimp only); rw [hrs, List.length_append]; done) | ((try dsimp only); rw [hrs, List.length_append]; rfl)) (by first | (rw [hrs, List.map_append]; done) | (rw [hrs, List.map_append]; rfl))
   ·
    rw [decide_eq_false_iff_not] at h2;have hrs : relPs at_ 1 (o.secs.take (i + 1)) = relPs at_ 1 (o.secs.take i) := by rw [hrsu]; unfold relPart; rw [if_pos (by omega), List.append_nil]
    refine n9 ?_;refine AO.c ?_;refine AO.oo ?_;refine AO.c ?_;refine AO.nil ?_;exact AW.backE [.f, .k, .k, .f, .f, .k, .k, .F, .F, .F, .F, .F, .f, .f] (i) (m0 - 1) (i + 1, ep) (by omega) (by (try dsimp only); exact ⟨by omega, by omega⟩) (by first | ((try dsimp only); rw [hrs]; done) | ((try dsimp only); rw [hrs]; rfl)) (by first | (rw [hrs]; done) | (rw [hrs]; rfl))
 ·
  rw [decide_eq_false_iff_not] at h0;have hall : o.secs.take i = o.secs := List.take_of_length_le (by omega);refine AW.exit <|SQ.exit <|AW.out <|LU.exit <|BQ.exit <|SQ.normal <|n2 ?_;iterate 2 refine AO.c ?_
  refine na ?_;refine FinO.ret 4 (Gh.refl) rfl ?_ ?_ (.inr rfl)
  · rw [hall]
  · rw [List.length_map, hall]
set_option maxHeartbeats 2000000 in
theorem ref_groupParts (o : ObjD) (at_ : Int) (h : LayH o) : A1 Tryz.prog 70 [.agg (objA o), .v (.int .i64 (at_))] 156 12 ((o.groups.map (grpPart at_) ++ sigPart at_ o).map partA) := by
 have hq := h.small;have hso := h.ok;have s1 := hq.secs;have s2 := hq.syms;have s3 := h.gs;have s4 := h.sg;refine A1.body 81 (NIr.h) Tryz.func70 rfl rfl Tryz.ntmps70 fun base n0 => ?_
 refine n2 ?_;refine AO.ww ?_;refine AO.c ?_;refine n3 ?_;refine AO.c ?_;refine n4 ?_;refine AO.c ?_;refine nb ?_;refine AW.ghost (Gh.adoptM 5 156 12) ?_
 refine AW.loopU2 [.f, .k, .k, .f, .f, .k, .k, .F, .F, .F, .F, .F, .F, .F, .F, .F, .f, .f] (fun (gi gep : Nat) => [(5, .own (n0 + 1) gep 0 gi), (6, .v (.int .i64 (gi)))]) (fun gi gep => Hn n0 (([some (.box 52 (objA o)), some (.row 156 12 (gep) (((o.groups.take gi).map (grpPart at_)).map partA))] ++ List.replicate gi none) ++ [])) (fun m gi gep => gi ≤ o.groups.length ∧ m = o.groups.length - gi) (o.groups.length) (0) (0) ⟨by omega, by omega⟩ (by first | rfl | (simp; done)) (by first | rfl | (simp; done)) ?_
 rintro m0 gi gep ⟨hg1, hg2⟩
 refine n8 ?_;iterate 5 refine AO.c ?_
 refine n1 ?_;refine AW.iteB (GL.ev _) (fun h0 => ?_) (fun h0 => ?_)
 ·
  rw [decide_eq_true_eq] at h0;have hgi : gi < o.groups.length := by omega
  have hgr := hq.grp _ (grp_in hgi);have hms := map_take_succ (grpPart at_) hgi;generalize hge : o.groups.getD gi default = g at hgr hms;refine nc ?_;refine AO.ww ?_;refine AO.c ?_;refine n4 ?_;refine AO.c ?_;refine nb ?_
  refine AW.loopU2 [.f, .k, .k, .f, .f, .k, .k, .k, .k, .F, .F, .F, .F, .F, .F, .F, .F, .F] (fun (k ep2 : Nat) => [(7, .own (n0 + zadd (zadd (0 + 1 + 1) gi) 0) ep2 0 (gB g k).length), (8, .v (.int .i64 (k)))]) (fun k ep2 => Hn n0 ([some (.box 52 (objA o)), some (.row 156 12 (gep) (((o.groups.take gi).map (grpPart at_)).map partA))] ++ List.replicate gi none ++ [some (.row 5 1 ep2 (bys (gB g k)))])) (fun m k ep2 => k ≤ g.mem.length ∧ m = g.mem.length - k) (g.mem.length) (0) (0) ⟨by omega, by omega⟩ (by first | rfl | (simp; done)) (by first | rfl | (simp; done)) ?_
  rintro m1 k ep2 ⟨hk1, hk2⟩
  refine n8 ?_;iterate 4 refine AO.c ?_
  refine AO.oo ?_;iterate 2 refine AO.c ?_
  refine AO.eq 25 (av' := .rd 1 (g.mem.map iA)) (by rw [hge]) ?_;iterate 2 refine AO.c ?_
  refine n1 ?_;refine AW.iteB (GL.ev _) (fun h1 => ?_) (fun h1 => ?_)
  ·
   rw [decide_eq_true_eq] at h1;have hk : k < g.mem.length := by omega
   have hgl := grps_len (g := g) k;have hps := gB_succ hk;have hn4 := putN_len (g.mem.getD k default);unfold putN at hn4;refine n5 <|AW.seq' <|AW.block' <|AW.region ?_;iterate 4 refine AO.c ?_
   refine AO.oo ?_;iterate 2 refine AO.c ?_
   refine AO.eq 36 (av' := .rd 1 (g.mem.map iA)) (by rw [hge]) ?_;refine AO.c ?_;refine AO.oo ?_;refine AO.c ?_;refine AO.eq 39 (av' := .v (.int .i64 (g.mem.getD k default))) rfl ?_;refine AO.pw ?_;refine AO.call1 Tryz.func99 rfl rfl (ref_Put (IntKind.u64.wrap (g.mem.getD k default)) 4 (by rw [wu64_mod]; omega) (by omega)) ?_;refine AO.ww ?_;refine AO.c ?_;refine n7 ?_;refine AO.c ?_
   refine AO.oo ?_;refine AO.c ?_;refine AO.nil ?_;exact AW.backU [.f, .k, .k, .f, .f, .k, .k, .k, .k, .F, .F, .F, .F, .F, .F, .F, .F, .F] (m1 - 1) (k + 1, ep2 + 1) (by omega) (by (try dsimp only); exact ⟨by omega, by omega⟩) (by first | ((try dsimp only); rw [hps, List.length_append]; done) | ((try dsimp only); rw [hps, List.length_append]; rfl)) (by first | (rw [hps]; done) | (rw [hps]; rfl))
  ·
   rw [decide_eq_false_iff_not] at h1;have hkl : k = g.mem.length := by omega
   have hgl := grps_len (g := g) g.mem.length;rw [gB_all] at hgl;refine AW.exit <|SQ.exit <|AW.out <|LU.exit <|BQ.exit <|SQ.normal <|AW.region ?_;iterate 5 refine AO.c ?_
   refine AO.oo ?_;iterate 2 refine AO.c ?_
   refine AO.eq 50 (av' := .v (.int .i64 g.sym)) (by rw [hge]) ?_;refine AO.c ?_;refine AO.ghost (Gh.freezeE 7 (li' := [1, 0, 0, 0] ++ g.mem.flatMap putN) (by rw [hkl, gB_all]) (by rw [hkl, gB_all]) (by omega)) ?_;iterate 2 refine AO.c ?_
   refine AO.rr ?_;refine AO.ww ?_;refine AO.c ?_;refine n7 ?_;refine AO.c ?_;refine AO.oo ?_;refine AO.c ?_;refine AO.nil ?_
   exact AW.backE [.f, .k, .k, .f, .f, .k, .k, .F, .F, .F, .F, .F, .F, .F, .F, .F, .f, .f] (gi) (m0 - 1) (gi + 1, gep + 1) (by omega) (by (try dsimp only); exact ⟨by omega, by omega⟩) (by first | rfl | (simp; done)) (by first | (rw [hms, List.map_append]; done) | (rw [hms, List.map_append]; rfl))
 ·
  rw [decide_eq_false_iff_not] at h0;have hall : o.groups.take gi = o.groups := List.take_of_length_le (by omega);refine AW.exit <|SQ.exit <|AW.out <|LU.exit <|BQ.exit <|SQ.normal <|n8 ?_;iterate 2 refine AO.c ?_
  refine n1 ?_;refine AW.iteB (GL.ev _) (fun h2 => ?_) (fun h2 => ?_)
  ·
   have hsp : sigPart at_ o = [⟨⟨0, 1879002115, 0, 0, 0, 0, at_, 0, 1, 0⟩, nSig, o.sig.flatMap encB⟩] := by unfold sigPart; rw [if_pos h2]
   refine n2 ?_;refine AO.c ?_;refine n4 ?_;refine AO.c ?_;refine nb ?_;refine AW.ghost (Gh.adoptB 9 5) ?_
   refine AW.loopU2 [.f, .k, .k, .f, .f, .k, .f, .f, .f, .k, .k, .F, .F, .F, .F, .F, .F, .F, .F, .f, .f, .f, .f, .f, .f] (fun (k ep2 : Nat) => [(9, .own (n0 + zadd (zadd (0 + 1 + 1) gi) 0) ep2 0 (sB o k).length), (10, .v (.int .i64 (k)))]) (fun k ep2 => Hn n0 ([some (.box 52 (objA o)), some (.row 156 12 (gep) (((o.groups.take gi).map (grpPart at_)).map partA))] ++ List.replicate gi none ++ [some (.row 5 1 ep2 (bys (sB o k)))])) (fun m k ep2 => k ≤ o.sig.length ∧ m = o.sig.length - k) (o.sig.length) (0) (0) ⟨by omega, by omega⟩ (by first | rfl | (simp; done)) (by simp [sB]) ?_
   rintro m2 k ep2 ⟨hk1, hk2⟩
   refine n8 ?_;iterate 5 refine AO.c ?_
   refine n1 ?_;refine AW.iteB (GL.ev _) (fun h3 => ?_) (fun h3 => ?_)
   ·
    rw [decide_eq_true_eq] at h3;have hk : k < o.sig.length := by omega
    have hin : o.sig.getD k default ∈ o.sig := mem_getD hk;have hsl := sB_len o k;have he5 := encB_len (o.sig.getD k default);refine n5 <|AW.seq' <|AW.block' <|AW.region ?_;iterate 4 refine AO.c ?_
    refine AO.oo ?_;refine AO.c ?_;refine AO.eq 70 (av' := .v (.int .i64 (o.sig.getD k default))) rfl ?_;refine AO.call1 Tryz.func100 rfl rfl (ref_Uleb (o.sig.getD k default) (hq.sig _ hin)) ?_;refine AO.ww ?_;refine AO.c ?_;refine n7 ?_;refine AO.c ?_;refine AO.oo ?_;refine AO.c ?_;refine AO.nil ?_
    exact AW.backU [.f, .k, .k, .f, .f, .k, .f, .f, .f, .k, .k, .F, .F, .F, .F, .F, .F, .F, .F, .f, .f, .f, .f, .f, .f] (m2 - 1) (k + 1, ep2 + 1) (by omega) (by (try dsimp only); exact ⟨by omega, by omega⟩) (by first | ((try dsimp only); rw [sB_succ hk, List.length_append]; done) | ((try dsimp only); rw [sB_succ hk, List.length_append]; rfl)) (by first | (rw [sB_succ hk]; done) | (rw [sB_succ hk]; rfl))
   ·
    rw [decide_eq_false_iff_not] at h3;have hkl : k = o.sig.length := by omega
    have hsl := sB_len o o.sig.length;rw [sB_all] at hsl;refine AW.exit <|SQ.exit <|AW.out <|LU.exit <|BQ.exit <|SQ.normal <|AW.region ?_;iterate 3 refine AO.c ?_
    refine AO.ghost (Gh.freezeE 9 (li' := o.sig.flatMap encB) (by rw [hkl, sB_all]) (by rw [hkl, sB_all]) (by omega)) ?_;iterate 2 refine AO.c ?_
    refine AO.rr ?_;refine AO.ww ?_;refine AO.c ?_;refine n3 ?_;iterate 2 refine AO.c ?_
    refine na ?_;refine FinO.ret 4 (Gh.refl) rfl ?_ ?_ (.inr rfl)
    · rw [hsp, hall, List.map_append]; rfl
    · rw [List.length_map, hsp, List.length_append, List.length_map]; simp; omega
  ·
   have hsp : sigPart at_ o = [] := by unfold sigPart; rw [if_neg (by rw [h2]; decide)]
   refine n6 ?_;iterate 2 refine AO.c ?_
   refine na ?_;refine FinO.ret 4 (Gh.refl) rfl ?_ ?_ (.inr rfl)
   · rw [hsp, hall, List.append_nil]
   · rw [List.length_map, hsp, List.append_nil, List.length_map]; omega
set_option maxHeartbeats 2000000 in
theorem ref_symParts (o : ObjD) (at_ : Int) (h : LayH o) (ha : 0 ≤ at_ ∧ at_ ≤ 1000000) : A1 Tryz.prog 71 [.agg (objA o), .v (.int .i64 (at_))] 156 12 ([symPt o at_, strPt o].map partA) := by
 have hq := h.small;have hso := h.ok;have s1 := hq.secs;have s2 := hq.syms;have s3 := h.gs;have s4 := h.sg;have hns := names_small h;have hnl : (namesOf o).length = o.syms.length := by unfold namesOf; simp
 have hfull : (o.syms.take o.syms.length).map (·.name) = namesOf o := by rw [List.take_of_length_le (Nat.le_refl _)]; rfl
 have hpl := tabOf_pl (namesOf o);have hlf := localF_le o.syms;have htl := tabOf_len hns;refine A1.body 89 (NIr.h) Tryz.func71 rfl rfl Tryz.ntmps71 fun base n0 => ?_
 refine n2 ?_;refine AO.ww ?_;refine AO.c ?_;refine n3 ?_;refine AO.c ?_;refine n4 ?_;refine AO.c ?_;refine nb ?_;refine AW.ghost (Gh.adoptM 5 9 1) ?_
 refine AW.loopU2 [.f, .k, .k, .f, .f, .k, .k, .F, .F, .F, .F, .F, .F, .F, .F, .F, .F, .f, .f] (fun (i ep : Nat) => [(5, .own (n0 + 1) ep 0 i), (6, .v (.int .i64 (i)))]) (fun i ep => Hn n0 [some (.box 52 (objA o)), some (.row 9 1 ep (((o.syms.take i).map (·.name)).map sA))]) (fun m i ep => i ≤ o.syms.length ∧ m = o.syms.length - i) (o.syms.length) (0) (0) ⟨by omega, by omega⟩ (by first | rfl | (simp; done)) (by first | rfl | (simp; done)) ?_
 rintro m0 i ep ⟨hx1, hx2⟩
 refine n8 ?_;iterate 5 refine AO.c ?_
 refine n1 ?_;refine AW.iteB (GL.ev _) (fun h0 => ?_) (fun h0 => ?_)
 ·
  rw [decide_eq_true_eq] at h0;have hi : i < o.syms.length := by omega
  refine n5 <|AW.seq' <|AW.block' <|AW.region ?_;iterate 4 refine AO.c ?_
  refine AO.oo ?_;iterate 2 refine AO.c ?_
  refine AO.eq 29 (av' := .v (.string (o.syms.getD i default).name)) rfl ?_;refine AO.rr ?_;refine AO.ww ?_;refine AO.c ?_;refine n7 ?_;refine AO.c ?_;refine AO.oo ?_;refine AO.c ?_;refine AO.nil ?_
  exact AW.backU [.f, .k, .k, .f, .f, .k, .k, .F, .F, .F, .F, .F, .F, .F, .F, .F, .F, .f, .f] (m0 - 1) (i + 1, ep + 1) (by omega) (by (try dsimp only); exact ⟨by omega, by omega⟩) (by first | rfl | (simp; done)) (by first | (rw [map_take_succ _ hi, List.map_append]; done) | (rw [map_take_succ _ hi, List.map_append]; rfl))
 ·
  rw [decide_eq_false_iff_not] at h0;refine AW.exit <|SQ.exit <|AW.out <|LU.exit <|BQ.exit <|SQ.normal <|AW.seq' ?_;refine AW.ghost (Gh.freezeM 5 sA (namesOf o) (by rw [show i = o.syms.length by omega, hfull]) (by omega) (by omega)) ?_;refine AW.region ?_;refine AO.c ?_;refine AO.call1 Tryz.func72 rfl rfl (ref_Make _ (by omega) (by assumption)) ?_;iterate 5 refine AO.c ?_
  refine n3 ?_;refine AO.c ?_;refine n3 ?_;refine AO.c ?_;refine n4 ?_;refine AO.c ?_;refine nb ?_;refine AW.ghost (Gh.adoptB 9 5) ?_
  refine AW.loopU2 [.f, .k, .k, .f, .f, .f, .f, .k, .k, .k, .k, .k, .F, .F, .F, .F, .F, .F, .F, .F, .F, .f, .f, .f, .f, .f] (fun (k ep2 : Nat) => [(9, .own (n0 + 2) ep2 0 (entsF o (tabOf (namesOf o)).2.1 k).length), (10, .v (.int .i64 (localF (o.syms.take k)))), (11, .v (.int .i64 (k)))]) (fun k ep2 => Hn n0 (([some (.box 52 (objA o)), none, some (.row 5 1 ep2 (bys (entsF o (tabOf (namesOf o)).2.1 k)))] ++ List.replicate (2 * k) none) ++ [])) (fun m k ep2 => k ≤ o.syms.length ∧ m = o.syms.length - k) (o.syms.length) (0) (0) ⟨by omega, by omega⟩ (by first | rfl | (simp; done)) (by first | rfl | (simp; done)) ?_
  rintro m1 k ep2 ⟨hk1, hk2⟩
  refine n8 ?_;iterate 5 refine AO.c ?_
  refine n1 ?_;refine AW.iteB (GL.ev _) (fun h1 => ?_) (fun h1 => ?_)
  ·
   rw [decide_eq_true_eq] at h1;have hk : k < o.syms.length := by omega
   have hsy := hq.sym _ (sym_in hk);have hpr := pl_range (l := namesOf o) (k := k) (by omega);have hlr := localF_le (o.syms.take k);rw [List.length_take] at hlr;have hls := localF_succ hk;have hel := entsF_len o (tabOf (namesOf o)).2.1 k;have hpe := putE_len (entY (o.syms.getD k default) ((tabOf (namesOf o)).2.1.getD k 0));unfold putE at hpe
   generalize hse : o.syms.getD k default = s at hsy hls hpe;have hok : (entY s ((tabOf (namesOf o)).2.1.getD k 0)).ok := ⟨by unfold I64 entY; dsimp only; omega, hsy.1.2.1, hsy.1.2.2.1, by unfold I64 entY idxY; dsimp only; have := hsy.1.2.2.2.1; unfold I64 at this; split <;> omega, hsy.1.2.2.2.2.1, hsy.1.2.2.2.2.2⟩;refine nc ?_;iterate 3 refine AO.c ?_
   refine AO.oo ?_;refine AO.c ?_;refine AO.eq 48 (av' := .agg (symA s)) (by rw [hse]) ?_;refine AO.ww ?_;refine AO.sst ?_;refine n1 <|AW.seq' ?_
   refine AW.drawsZ [16] (.one 0 false (.one 1 false (.one 2 false (.one 3 false (.one 4 false (.one 5 false (.one 6 false (.one 7 false (.one 8 false (.one 9 false (.one 10 false (.one 11 false (.one 12 false (.one 13 false (.one 14 false (.one 15 true (.one 16 true .nil))))))))))))))))) (by kernel_rfl) rfl (by kernel_rfl) ?_;iterate 2 refine AZ.c rfl ?_
   refine AZ.oo rfl ?_;iterate 12 refine AZ.c rfl ?_
   refine AZ.mkk rfl ?_;refine AZ.sst rfl rfl ?_;refine AZ.done ?_;refine SQ.normal <|n8 ?_;iterate 3 refine AO.c ?_
   refine n1 ?_;refine AW.iteB (GL.ev _) (fun h2 => ?_) (fun h2 => ?_)
   ·
    rw [decide_eq_true_eq] at h2;have hent : entY s ((tabOf (namesOf o)).2.1.getD k 0) = ⟨(tabOf (namesOf o)).2.1.getD k 0, s.bind, s.typ, 65521, s.val, s.size⟩ := by unfold entY idxY; rw [if_pos (by omega)]
    refine AW.region ?_;refine AO.c ?_;refine AO.sst ?_;refine n4 ?_;iterate 3 refine AO.c ?_
    refine n1 ?_;refine AW.iteB (GL.ev _) (fun h3 => ?_) (fun h3 => ?_)
    ·
     rw [decide_eq_true_eq] at h3;have hlc : localF (o.syms.take (k + 1)) = localF (o.syms.take k) + 1 := by rw [hls, if_pos h3]
     refine AW.region ?_;refine AO.c ?_;refine AO.oo ?_;refine AO.c ?_;refine n1 ?_;refine AW.eqH (H' := Hn n0 (([some (.box 52 (objA o)), none, some (.row 5 1 ep2 (bys (entsF o (tabOf (namesOf o)).2.1 k)))] ++ List.replicate (2 * k) none) ++ [some (.box 47 (symA s)), some (.box 185 (entA (entY s ((tabOf (namesOf o)).2.1.getD k 0))))])) (by rw [hent]; rfl) ?_;refine AW.region ?_
     iterate 2 refine AO.c ?_
     refine AO.call1 Tryz.func101 rfl rfl (ref_EntryBytes (entY s ((tabOf (namesOf o)).2.1.getD k 0)) hok) ?_;refine AO.ww ?_;refine AO.c ?_;refine n7 ?_;refine AO.c ?_;refine AO.oo ?_;refine AO.c ?_;refine AO.nil ?_
     exact AW.backE [.f, .k, .k, .f, .f, .f, .f, .k, .k, .k, .k, .k, .F, .F, .F, .F, .F, .F, .F, .F, .F, .f, .f, .f, .f, .f] (2 * k) (m1 - 1) (k + 1, ep2 + 1) (by omega) (by (try dsimp only); exact ⟨by omega, by omega⟩) (by first | ((try dsimp only); rw [entsF_succ, List.length_append, hlc]; unfold entB1; rw [hse]; done) | ((try dsimp only); rw [entsF_succ, List.length_append, hlc]; unfold entB1; rw [hse]; rfl)) ((Hn_rep (b := 2 * (k + 1)) (by first | (simp; done) | (simp; omega))).trans (by (try dsimp only); rw [entsF_succ]; unfold entB1; rw [hse]; rfl))
    ·
     rw [decide_eq_false_iff_not] at h3;have hlc : localF (o.syms.take (k + 1)) = localF (o.syms.take k) := by rw [hls, if_neg h3]; omega
     refine n5 ?_;refine AW.eqH (H' := Hn n0 (([some (.box 52 (objA o)), none, some (.row 5 1 ep2 (bys (entsF o (tabOf (namesOf o)).2.1 k)))] ++ List.replicate (2 * k) none) ++ [some (.box 47 (symA s)), some (.box 185 (entA (entY s ((tabOf (namesOf o)).2.1.getD k 0))))])) (by rw [hent]; rfl) ?_;refine AW.region ?_;iterate 2 refine AO.c ?_
     refine AO.call1 Tryz.func101 rfl rfl (ref_EntryBytes (entY s ((tabOf (namesOf o)).2.1.getD k 0)) hok) ?_;refine AO.ww ?_;refine AO.c ?_;refine n7 ?_;refine AO.c ?_;refine AO.oo ?_;refine AO.c ?_;refine AO.nil ?_
     exact AW.backE [.f, .k, .k, .f, .f, .f, .f, .k, .k, .k, .k, .k, .F, .F, .F, .F, .F, .F, .F, .F, .F, .f, .f, .f, .f, .f] (2 * k) (m1 - 1) (k + 1, ep2 + 1) (by omega) (by (try dsimp only); exact ⟨by omega, by omega⟩) (by first | ((try dsimp only); rw [entsF_succ, List.length_append, hlc]; unfold entB1; rw [hse]; done) | ((try dsimp only); rw [entsF_succ, List.length_append, hlc]; unfold entB1; rw [hse]; rfl)) ((Hn_rep (b := 2 * (k + 1)) (by first | (simp; done) | (simp; omega))).trans (by (try dsimp only); rw [entsF_succ]; unfold entB1; rw [hse]; rfl))
   ·
    rw [decide_eq_false_iff_not] at h2;have hent : entY s ((tabOf (namesOf o)).2.1.getD k 0) = ⟨(tabOf (namesOf o)).2.1.getD k 0, s.bind, s.typ, s.sec, s.val, s.size⟩ := by unfold entY idxY; rw [if_neg (by omega)]
    refine n5 <|n8 ?_;iterate 3 refine AO.c ?_
    refine n1 ?_;refine AW.iteB (GL.ev _) (fun h3 => ?_) (fun h3 => ?_)
    ·
     rw [decide_eq_true_eq] at h3;have hlc : localF (o.syms.take (k + 1)) = localF (o.syms.take k) + 1 := by rw [hls, if_pos h3]
     refine AW.region ?_;refine AO.c ?_;refine AO.oo ?_;refine AO.c ?_;refine n1 ?_;refine AW.eqH (H' := Hn n0 (([some (.box 52 (objA o)), none, some (.row 5 1 ep2 (bys (entsF o (tabOf (namesOf o)).2.1 k)))] ++ List.replicate (2 * k) none) ++ [some (.box 47 (symA s)), some (.box 185 (entA (entY s ((tabOf (namesOf o)).2.1.getD k 0))))])) (by rw [hent]; rfl) ?_;refine AW.region ?_
     iterate 2 refine AO.c ?_
     refine AO.call1 Tryz.func101 rfl rfl (ref_EntryBytes (entY s ((tabOf (namesOf o)).2.1.getD k 0)) hok) ?_;refine AO.ww ?_;refine AO.c ?_;refine n7 ?_;refine AO.c ?_;refine AO.oo ?_;refine AO.c ?_;refine AO.nil ?_
     exact AW.backE [.f, .k, .k, .f, .f, .f, .f, .k, .k, .k, .k, .k, .F, .F, .F, .F, .F, .F, .F, .F, .F, .f, .f, .f, .f, .f] (2 * k) (m1 - 1) (k + 1, ep2 + 1) (by omega) (by (try dsimp only); exact ⟨by omega, by omega⟩) (by first | ((try dsimp only); rw [entsF_succ, List.length_append, hlc]; unfold entB1; rw [hse]; done) | ((try dsimp only); rw [entsF_succ, List.length_append, hlc]; unfold entB1; rw [hse]; rfl)) ((Hn_rep (b := 2 * (k + 1)) (by first | (simp; done) | (simp; omega))).trans (by (try dsimp only); rw [entsF_succ]; unfold entB1; rw [hse]; rfl))
    ·
     rw [decide_eq_false_iff_not] at h3;have hlc : localF (o.syms.take (k + 1)) = localF (o.syms.take k) := by rw [hls, if_neg h3]; omega
     refine n5 ?_;refine AW.eqH (H' := Hn n0 (([some (.box 52 (objA o)), none, some (.row 5 1 ep2 (bys (entsF o (tabOf (namesOf o)).2.1 k)))] ++ List.replicate (2 * k) none) ++ [some (.box 47 (symA s)), some (.box 185 (entA (entY s ((tabOf (namesOf o)).2.1.getD k 0))))])) (by rw [hent]; rfl) ?_;refine AW.region ?_;iterate 2 refine AO.c ?_
     refine AO.call1 Tryz.func101 rfl rfl (ref_EntryBytes (entY s ((tabOf (namesOf o)).2.1.getD k 0)) hok) ?_;refine AO.ww ?_;refine AO.c ?_;refine n7 ?_;refine AO.c ?_;refine AO.oo ?_;refine AO.c ?_;refine AO.nil ?_
     exact AW.backE [.f, .k, .k, .f, .f, .f, .f, .k, .k, .k, .k, .k, .F, .F, .F, .F, .F, .F, .F, .F, .F, .f, .f, .f, .f, .f] (2 * k) (m1 - 1) (k + 1, ep2 + 1) (by omega) (by (try dsimp only); exact ⟨by omega, by omega⟩) (by first | ((try dsimp only); rw [entsF_succ, List.length_append, hlc]; unfold entB1; rw [hse]; done) | ((try dsimp only); rw [entsF_succ, List.length_append, hlc]; unfold entB1; rw [hse]; rfl)) ((Hn_rep (b := 2 * (k + 1)) (by first | (simp; done) | (simp; omega))).trans (by (try dsimp only); rw [entsF_succ]; unfold entB1; rw [hse]; rfl))
  ·
   rw [decide_eq_false_iff_not] at h1;refine AW.exit <|SQ.exit <|AW.out <|LU.exit <|BQ.exit <|SQ.normal <|n2 ?_;refine AO.c ?_;refine AO.o (by omega) ?_;iterate 2 refine AO.c ?_
   refine AO.ghost (Gh.freezeE 9 (li' := entsF o (tabOf (namesOf o)).2.1 o.syms.length) (by rw [show k = o.syms.length by omega]) (by rw [show k = o.syms.length by omega]) (by have := entsF_len o (tabOf (namesOf o)).2.1 o.syms.length; omega)) ?_;iterate 2 refine AO.c ?_
   refine AO.eq 82 (av' := .agg (partA (symPt o at_))) (by unfold symPt; rw [show k = o.syms.length by omega, List.take_of_length_le (Nat.le_refl _)]; rfl) ?_;refine AO.ww ?_;refine AO.sst ?_;refine n3 ?_;iterate 3 refine AO.c ?_
   refine AO.eq 85 (av' := .agg (partA (strPt o))) rfl ?_;refine AO.ww ?_;refine AO.sst ?_;refine n3 ?_;iterate 2 refine AO.c ?_
   refine AO.ww ?_;refine AO.c ?_;refine na ?_;refine FinO.ret 4 (Gh.refl) rfl ?_ ?_ (.inr rfl)
   · rfl
   · rfl
def PartD.toldN (p : PartD) (b : List Int) : PartD := ⟨p.h, { data := #[] }, b⟩
def ref4 (o : ObjD) : List PartD := (zPart :: o.secs.map secPart) ++ midF o (atF8 o) ++ [symPt o (atF8 o)] ++ [strPt o]
def refL (o : ObjD) : List PartD := ref4 o ++ [shsPt.toldN (tabOf (pNames o)).1]
theorem sigPart_len (at_ : Int) (o : ObjD) : (sigPart at_ o).length ≤ 1 := by unfold sigPart; split <;> simp
theorem preF_eq4 (o : ObjD) : preF o = ref4 o ++ [shsPt] := rfl
theorem ref4_len (o : ObjD) : (ref4 o).length = o.secs.length + (midF o (atF8 o)).length + 3 := by
 have := preF_len o;rw [preF_eq4, List.length_append, List.length_singleton] at this; omega
theorem pNames_eq4 (o : ObjD) : pNames o = (ref4 o).map (·.name) ++ [nShs] := by
 unfold pNames; rw [preF_eq4, List.map_append]; rfl
theorem refL_len (o : ObjD) : (refL o).length = (preF o).length := by
 unfold refL; rw [preF_eq4]; simp
theorem refL_get {o : ObjD} {i : Nat} (h : i < (preF o).length) : ((finF o).getD i default).b = ((refL o).getD i default).b ∧ ∀ body, headOf i body ((finF o).getD i default) = headOf i body (((refL o).getD i default).named ((tabOf (pNames o)).2.1.getD i 0)) := by
 rw [finF_get h, tblF_get h];have hl := ref4_len o;have hp := preF_len o;by_cases hi : i = (preF o).length - 1
 · rw [if_pos hi]
   have e : (refL o).getD i default = shsPt.toldN (tabOf (pNames o)).1 := by
    unfold refL;rw [List.getD_eq_getElem?_getD, List.getElem?_append_right (by omega), show i - (ref4 o).length = 0 by omega]; rfl
   rw [e];exact ⟨rfl, fun body => rfl⟩
 · rw [if_neg hi]
   have e : (refL o).getD i default = (preF o).getD i default := by
    unfold refL;rw [preF_eq4, List.getD_eq_getElem?_getD, List.getD_eq_getElem?_getD, List.getElem?_append_left (by omega), List.getElem?_append_left (by omega)]
   rw [e];exact ⟨rfl, fun body => rfl⟩
theorem ref_BeginR (h : HdD) (hh : h.ok) : A1 Tryz.prog 74 [.v (.int .i64 (h.at_)), .v (.int .i64 (h.many)), .v (.int .i64 (h.names))] 5 1 (bys (if h.may then h.bytes else [])) := by
 have hh0 := hh.1;refine A1.body 38 (NIr.h) Tryz.func74 rfl rfl Tryz.ntmps74 fun base n0 => ?_
 refine go ?_;refine AO.call1 Tryz.func104 rfl rfl (ref_fits _ (by assumption)) ?_;refine go ?_;refine AW.iteB (GL.ev _) (fun h0 => ?_) (fun h0 => ?_)
 ·
  simp only [Bool.or_eq_true, Bool.not_eq_true', decide_eq_true_eq] at h0;have hno : ¬ h.may := by
   intro hm;unfold HdD.may MayHd at hm;rcases h0 with (((h0 | h0) | h0) | h0) | h0
   · unfold fitsB at h0; simp at h0; omega
   all_goals omega
  refine go ?_;refine AW.ret <|SQ.ret ?_;refine FinO.ret 6 (Gh.adoptB 6 5) rfl ?_ ?_ (.inr rfl)
  · rw [if_neg hno]
  · rw [if_neg hno]; rfl
 ·
  simp only [Bool.or_eq_false_iff, Bool.not_eq_false', decide_eq_false_iff_not] at h0;have hm : h.may := by
   have h1 := h0.1.1.1.1;unfold fitsB at h1;simp only [Bool.and_eq_true, decide_eq_true_eq] at h1;unfold HdD.may MayHd;omega
  have hnu := nums_hd hm;have h64 := numL_64 hh;have hnl : (numsF (numL h)).length = 48 := by
   have h1 := congrArg List.length hnu;rw [List.length_append, hdB_len] at h1;have h2 : identL.length = 16 := rfl;omega
  refine n6 ?_;refine AO.ww ?_;refine gr ?_;refine AO.rr ?_;refine AO.eq 35 (av' := .rd 1 ((numL h).map iA)) rfl ?_;refine AO.call1 Tryz.func103 rfl rfl (ref_Nums _ (by simp) h64) ?_;refine go ?_;refine AW.ret ?_;refine FinO.ret 6 (Gh.refl) rfl ?_ ?_ (.inr rfl)
  · rw [if_pos hm, ← hnu]; rfl
  · rw [if_pos hm, bys_length, hdB_len, hnl]
set_option maxHeartbeats 4000000 in
theorem ref_BytesR (o : ObjD) (h : LayH o) : A1 Tryz.prog 52 [.agg (objA o)] 5 1 (bys (bytesF o)) := by
 have hq := h.small;have hso := h.ok;have s1 := hq.secs;have s2 := hq.syms;have s3 := h.gs;have s4 := h.sg;have hml := midF_len o (atF8 o);have hml0 := midF_len o 0;have hpl := preF_len o;have h4l := ref4_len o;have hrl := refL_len o;have hps := pre_small h;have hfl := finF_len o;have hns := pre_names h;have hnl : (pNames o).length = (preF o).length := by unfold pNames; rw [List.length_map]
 have hfull : ((ref4 o).take (ref4 o).length).map (·.name) ++ [nShs] = pNames o := by rw [List.take_of_length_le (Nat.le_refl _), pNames_eq4]
 have htp := tabOf_pl (pNames o);have htl := tabOf_len hns;have hel := entsF_len o (tabOf (namesOf o)).2.1 o.syms.length;have hnt := tabOf_len (names_small h);have hnn : (namesOf o).length = o.syms.length := by unfold namesOf; simp
 have hrp := relPs_len 0 o.secs 1;have hsp0 := sigPart_len 0 o;have hsp1 := sigPart_len (atF8 o) o;have hrp2 := relPs_len (atF8 o) o.secs 1;refine A1.body 165 (NIr.h) Tryz.func52 rfl rfl Tryz.ntmps52 fun base n0 => ?_
 refine n2 ?_;refine AO.ww ?_;refine AO.c ?_;refine n3 ?_;refine AO.c ?_;refine AO.ghost (Gh.tell 16 (.agg [.v (.int .i64 0), .v (.int .i64 0), .v (.int .i64 0), .v (.int .i64 0), .v (.int .i64 0), .v (.int .i64 0), .v (.int .i64 0), .v (.int .i64 0), .v (.int .i64 0), .v (.int .i64 0), .v (.string { data := #[] }), .rd 1 (bys [])])) ?_;refine AO.eq 16 (av' := .agg (partA zPart)) rfl ?_
 refine AO.ww ?_;refine AO.c ?_;refine n4 ?_;refine AO.c ?_;refine nb ?_
 refine AW.loopU2 [.f, .k, .f, .k, .k, .F, .F, .F, .F, .F, .F, .F, .F, .F, .F, .F, .F, .F, .F, .F, .F, .F, .F, .F, .F] (fun (i ep : Nat) => [(3, .own (n0 + 1) ep 0 (pA o i).length), (4, .v (.int .i64 (i)))]) (fun i ep => Hn n0 (([some (.box 52 (objA o)), some (.row 156 12 (ep) ((pA o i).map partA))] ++ List.replicate i none) ++ [])) (fun m i ep => i ≤ o.secs.length ∧ m = o.secs.length - i) (o.secs.length) (0) (0) ⟨by omega, by omega⟩ (by first | rfl | (simp; done)) (by first | rfl | (simp; done)) ?_
 rintro m0 i ep ⟨hx1, hx2⟩
 refine n8 ?_;iterate 5 refine AO.c ?_
 refine n1 ?_;refine AW.iteB (GL.ev _) (fun h0 => ?_) (fun h0 => ?_)
 ·
  rw [decide_eq_true_eq] at h0;have hi : i < o.secs.length := by omega
  have hsec := hq.sec _ (sec_in hi);have hps1 := pA_succ hi;have hpal := pA_len (o := o) (i := i) (by omega);generalize hse : o.secs.getD i default = s at hsec hps1;refine nc ?_;iterate 3 refine AO.c ?_
  refine AO.oo ?_;refine AO.c ?_;refine AO.eq 29 (av' := .agg (secA s)) (by rw [hse]) ?_;refine AO.ww ?_;refine AO.sst ?_;refine n1 <|AW.region ?_;iterate 19 refine AO.c ?_
  refine AO.eq 48 (av' := .agg (partA (secPart s))) rfl ?_;refine AO.rr ?_;refine AO.ww ?_;refine AO.c ?_;refine n7 ?_;refine AO.c ?_;refine AO.oo ?_;refine AO.c ?_;refine AO.nil ?_
  exact AW.backE [.f, .k, .f, .k, .k, .F, .F, .F, .F, .F, .F, .F, .F, .F, .F, .F, .F, .F, .F, .F, .F, .F, .F, .F, .F] (i) (m0 - 1) (i + 1, ep + 1) (by omega) (by (try dsimp only); exact ⟨by omega, by omega⟩) (by first | ((try dsimp only); rw [hps1, List.length_append]; done) | ((try dsimp only); rw [hps1, List.length_append]; rfl)) (by first | (rw [hps1, List.map_append]; done) | (rw [hps1, List.map_append]; rfl))
 ·
  rw [decide_eq_false_iff_not] at h0;have hpal := pA_len (o := o) (i := i) (by omega);refine AW.exit <|SQ.exit <|AW.out <|LU.exit <|BQ.exit <|SQ.normal <|AW.seq' ?_;refine AW.drawsZ [] (.one 0 false (.one 1 false (.one 2 false (.one 6 false (.one 3 true (.one 4 false (.one 5 false (.one 7 true (.one 8 false (.one 9 false (.one 10 false .nil))))))))))) (by kernel_rfl) rfl (by kernel_rfl) ?_
  iterate 4 refine AZ.c rfl ?_
  refine AZ.call1 rfl Tryz.func69 rfl rfl ((ref_relParts o 0 h).a0 (by rw [List.length_map]; omega)) ?_;refine AZ.c rfl ?_;refine AZ.oo rfl ?_;refine AZ.call1 rfl Tryz.func70 rfl rfl ((ref_groupParts o 0 h).a0 (by rw [List.length_map, List.length_append, List.length_map]; have := sigPart_len 0 o; omega)) ?_;refine AZ.c rfl ?_;refine AZ.oo rfl ?_
  refine AZ.eq 60 (av' := .v (.int .i64 (atF8 o))) (by rw [atF8_eq, pA_len (by omega)]; unfold midF; simp only [List.length_append, List.length_map]; congr 2; omega) ?_;refine AZ.c rfl ?_;refine AZ.done ?_;refine SQ.normal <|n2 ?_
  skip;iterate 3 refine AO.c ?_
  refine AO.call1 Tryz.func69 rfl rfl ((ref_relParts o (atF8 o) h).a0 (by rw [List.length_map]; omega)) ?_;refine AO.ww ?_;refine AO.c ?_;refine n3 ?_;iterate 3 refine AO.c ?_
  refine AO.call1 Tryz.func70 rfl rfl ((ref_groupParts o (atF8 o) h).a0 (by rw [List.length_map, List.length_append, List.length_map]; have := sigPart_len (atF8 o) o; omega)) ?_;refine AO.ww ?_;refine AO.c ?_;refine n3 ?_;iterate 3 refine AO.c ?_
  refine AO.call1 Tryz.func71 rfl rfl ((ref_symParts o (atF8 o) h (at_range h)).a0 (by simp)) ?_;refine AO.ww ?_;refine AO.c ?_;refine n1 <|AW.seq' ?_;refine AW.eqH (H' := Hn n0 (([some (.box 52 (objA o)), some (.row 156 12 (ep + 1 + 1 + 1) ((ref4 o).map partA))] ++ List.replicate i none) ++ [])) (by rw [pA_all (by omega)]; unfold ref4 midF; simp only [List.map_append, List.append_assoc]; rfl) ?_
  refine AW.region ?_;refine AO.eq 3 (av' := .own (n0 + 1) (ep + 1 + 1 + 1) 0 (ref4 o).length) (by congr 1; rw [h4l, pA_len (by omega)]; unfold midF; simp only [List.length_append, List.length_map, List.length_cons, List.length_nil]; omega) ?_;refine AO.c ?_;refine n4 ?_;refine AO.c ?_;refine nb ?_;refine AW.ghost (Gh.adoptM 7 9 1) ?_
  refine AW.loopU2 [.f, .f, .f, .k, .f, .f, .f, .k, .k, .F, .F, .F, .F, .F, .F, .F, .F, .F, .F, .F, .F, .F, .F, .F, .F, .F, .F, .F, .f, .f, .f, .f] (fun (k ep2 : Nat) => [(7, .own (n0 + zadd (zadd (0 + 1 + 1) i) 0) ep2 0 k), (8, .v (.int .i64 (k)))]) (fun k ep2 => Hn n0 ([some (.box 52 (objA o)), some (.row 156 12 (ep + 1 + 1 + 1) ((ref4 o).map partA))] ++ List.replicate i none ++ [some (.row 9 1 ep2 ((((ref4 o).take k).map (·.name)).map sA))])) (fun m k ep2 => k ≤ (ref4 o).length ∧ m = (ref4 o).length - k) ((ref4 o).length) (0) (0) ⟨by omega, by omega⟩ (by first | rfl | (simp; done)) (by simp) ?_
  rintro m1 k ep2 ⟨hk1, hk2⟩
  refine n8 ?_;iterate 4 refine AO.c ?_
  refine n1 ?_;refine AW.iteB (GL.ev _) (fun h1 => ?_) (fun h1 => ?_)
  ·
   rw [decide_eq_true_eq] at h1;have hk : k < (ref4 o).length := by omega
   refine n5 <|AW.seq' <|AW.block' <|AW.region ?_;iterate 3 refine AO.c ?_
   refine AO.oo ?_;refine AO.c ?_;refine AO.ldR1 (partA ((ref4 o).getD k default)) (.v (.string ((ref4 o).getD k default).name)) (by rw [show 0 + ((k : Int)).toNat = k by omega, part_at hk]) rfl ?_;refine AO.rr ?_;refine AO.ww ?_;refine AO.c ?_;refine n7 ?_;refine AO.c ?_;refine AO.oo ?_;refine AO.c ?_;refine AO.nil ?_
   exact AW.backU [.f, .f, .f, .k, .f, .f, .f, .k, .k, .F, .F, .F, .F, .F, .F, .F, .F, .F, .F, .F, .F, .F, .F, .F, .F, .F, .F, .F, .f, .f, .f, .f] (m1 - 1) (k + 1, ep2 + 1) (by omega) (by (try dsimp only); exact ⟨by omega, by omega⟩) (by first | rfl | (simp; done)) (by first | (rw [map_take_succ _ hk, List.map_append]; done) | (rw [map_take_succ _ hk, List.map_append]; rfl))
  ·
   rw [decide_eq_false_iff_not] at h1;refine AW.exit <|SQ.exit <|AW.out <|LU.exit <|BQ.exit <|SQ.normal <|n2 ?_;refine AO.c ?_;refine AO.rr ?_;refine AO.ww ?_;refine AO.c ?_;refine n1 <|AW.seq' ?_
   refine AW.ghost (Gh.freezeM 7 sA (pNames o) (by rw [← hfull, show k = (ref4 o).length by omega, List.map_append]; rfl) (by first | omega | (simp only [List.length_map, List.length_cons, List.length_nil, List.length_append]; omega) | (simp; omega)) (by omega)) ?_;refine AW.region ?_;refine AO.c ?_;refine AO.call1 Tryz.func72 rfl rfl (ref_Make _ (by omega) (by assumption)) ?_
   iterate 5 refine AO.c ?_
   refine n3 ?_;iterate 4 refine AO.c ?_
   refine AO.eq 101 (av' := .agg (partA (shsPt.toldN (tabOf (pNames o)).1))) rfl ?_;refine AO.rr ?_;refine AO.ww ?_;refine AO.c ?_;refine n1 <|AW.seq' ?_;refine AW.ghost (Gh.freezeM 3 partA (refL o) (by unfold refL; rw [List.map_append]; rfl) (by first | omega | (simp only [List.length_map, List.length_cons, List.length_nil, List.length_append]; omega) | (simp; omega)) (by omega)) ?_
   refine AW.region ?_;refine AO.c ?_;refine n3 ?_;refine AO.c ?_;refine n4 ?_;refine AO.c ?_;refine nb ?_;refine AW.ghost (Gh.adoptB 11 5) ?_;refine AW.ghost (Gh.adoptB 12 5) ?_
   refine AW.loopU3 [.f, .f, .f, .k, .f, .f, .f, .f, .f, .f, .k, .k, .k, .k, .F, .F, .F, .F, .F, .F, .F, .F, .F, .F, .F, .F, .F, .F, .F, .F, .F, .F, .f, .f, .f, .f, .f, .f, .f] (fun (k e4 e5 : Nat) => [(11, .own (n0 + zadd (zadd (0 + 1 + 1) i) (0 + 1)) e4 0 (layN (finF o) k).1.length), (12, .own (n0 + zadd (zadd (0 + 1 + 1) i) (0 + 1 + 1)) e5 0 (layN (finF o) k).2.length), (13, .v (.int .i64 (k)))]) (fun k e4 e5 => Hn n0 (([some (.box 52 (objA o)), none] ++ List.replicate i none ++ [none, some (.row 5 1 e4 (bys (layN (finF o) k).1)), some (.row 5 1 e5 (bys (layN (finF o) k).2))]) ++ List.replicate k none ++ [])) (fun m k e4 e5 => k ≤ (finF o).length ∧ m = (finF o).length - k) ((finF o).length) (0) (0) (0) ⟨by omega, by omega⟩ (by first | rfl | (simp; done)) (by simp [layN]) ?_
   rintro m2 k e4 e5 ⟨hx3, hx4⟩
   refine n8 ?_;iterate 4 refine AO.c ?_
   refine n1 ?_;refine AW.iteB (GL.ev _) (fun h2 => ?_) (fun h2 => ?_)
   ·
    rw [decide_eq_true_eq] at h2;have hkk : k < (preF o).length := by omega
    have hpo := fin_ok h hkk;have hll := layN_len h k (by omega);have hrg := refL_get hkk;have hst : layN (finF o) (k + 1) = ((layN (finF o) k).1 ++ ((finF o).getD k default).b, (layN (finF o) k).2 ++ putH (headOf k (layN (finF o) k).1 ((finF o).getD k default))) := rfl;have hok := headOf_ok (i := k) (body := (layN (finF o) k).1) hpo (by omega);have hpb := hpo.2;rw [hrg.1, hrg.2] at hst
    rw [hrg.2] at hok;rw [hrg.1] at hpb;generalize hqe : (refL o).getD k default = q at hst hok hpb;have hph := putH_len (headOf k (layN (finF o) k).1 (q.named ((tabOf (pNames o)).2.1.getD k 0)));unfold putH at hph;refine nc ?_;iterate 2 refine AO.c ?_
    refine AO.oo ?_;iterate 2 refine AO.c ?_
    refine AO.eq 114 (av' := .agg (shA q.h)) (by rw [hqe]) ?_;refine AO.ww ?_;refine AO.sst ?_;refine n3 ?_;iterate 2 refine AO.c ?_
    refine AO.oo ?_;iterate 2 refine AO.c ?_
    refine AO.sst ?_;refine n4 ?_;iterate 2 refine AO.c ?_
    refine n1 ?_;refine AW.iteB (GL.ev _) (fun h3 => ?_) (fun h3 => ?_)
    ·
     rw [decide_eq_true_eq] at h3;refine AW.region ?_;iterate 2 refine AO.c ?_
     refine AO.oo ?_;refine AO.c ?_;refine AO.sst ?_;refine n4 ?_;iterate 3 refine AO.c ?_
     iterate 3 refine AO.gx ?_
     refine AO.c ?_;refine n1 ?_;refine AW.iteB (GL.ev _) (fun h4 => ?_) (fun h4 => ?_)
     ·
      simp only [Bool.and_eq_true, decide_eq_true_eq] at h4;refine AW.region ?_;iterate 2 refine AO.c ?_
      refine AO.oo ?_;iterate 2 refine AO.c ?_
      refine AO.eq 137 (av' := .rd 1 (bys q.b)) (by rw [hqe]) ?_;iterate 2 refine AO.c ?_
      refine AO.sst ?_;refine n3 ?_;iterate 3 refine AO.c ?_
      refine AO.oo ?_;iterate 2 refine AO.c ?_
      refine AO.eq 145 (av' := .rd 1 (bys q.b)) (by rw [hqe]) ?_;refine AO.ww ?_;refine AO.c ?_;refine n1 <|AW.region ?_;iterate 2 refine AO.c ?_
      refine AO.eq 148 (av' := .agg (shA (headOf k (layN (finF o) k).1 (q.named ((tabOf (pNames o)).2.1.getD k 0))))) (by first | (exfalso; omega) | (rw [headOf_a (p := q.named ((tabOf (pNames o)).2.1.getD k 0)) (show ¬ k = 0 by omega) (show q.h.a1 ≠ 8 by omega)]; rfl) | (rw [headOf_b (p := q.named ((tabOf (pNames o)).2.1.getD k 0)) (show ¬ k = 0 by omega) (show q.h.a1 = 8 by omega)]; rfl) | (rw [headOf_c (show k = 0 by omega)]; rfl)) ?_
      refine AO.call1 Tryz.func73 rfl rfl (ref_HeadBytes (headOf k (layN (finF o) k).1 (q.named ((tabOf (pNames o)).2.1.getD k 0))) hok) ?_;refine AO.ww ?_;refine AO.c ?_;refine n7 ?_;refine AO.c ?_;refine AO.oo ?_;refine AO.c ?_;refine AO.nil ?_
      exact AW.backE [.f, .f, .f, .k, .f, .f, .f, .f, .f, .f, .k, .k, .k, .k, .F, .F, .F, .F, .F, .F, .F, .F, .F, .F, .F, .F, .F, .F, .F, .F, .F, .F, .f, .f, .f, .f, .f, .f, .f] (k) (m2 - 1) (k + 1, e4 + 1, e5 + 1) (by omega) (by (try dsimp only); exact ⟨by omega, by omega⟩) (by first | ((try dsimp only); rw [hst, List.length_append, List.length_append]; done) | ((try dsimp only); rw [hst, List.length_append, List.length_append]; rfl)) (by first | (rw [hst]; done) | (rw [hst]; rfl))
     ·
      simp only [Bool.and_eq_false_iff, decide_eq_false_iff_not] at h4;refine n6 ?_;iterate 3 refine AO.c ?_
      refine AO.oo ?_;iterate 2 refine AO.c ?_
      refine AO.eq 145 (av' := .rd 1 (bys q.b)) (by rw [hqe]) ?_;refine AO.ww ?_;refine AO.c ?_;refine n1 <|AW.region ?_;iterate 2 refine AO.c ?_
      refine AO.eq 148 (av' := .agg (shA (headOf k (layN (finF o) k).1 (q.named ((tabOf (pNames o)).2.1.getD k 0))))) (by first | (exfalso; omega) | (rw [headOf_a (p := q.named ((tabOf (pNames o)).2.1.getD k 0)) (show ¬ k = 0 by omega) (show q.h.a1 ≠ 8 by omega)]; rfl) | (rw [headOf_b (p := q.named ((tabOf (pNames o)).2.1.getD k 0)) (show ¬ k = 0 by omega) (show q.h.a1 = 8 by omega)]; rfl) | (rw [headOf_c (show k = 0 by omega)]; rfl)) ?_
      refine AO.call1 Tryz.func73 rfl rfl (ref_HeadBytes (headOf k (layN (finF o) k).1 (q.named ((tabOf (pNames o)).2.1.getD k 0))) hok) ?_;refine AO.ww ?_;refine AO.c ?_;refine n7 ?_;refine AO.c ?_;refine AO.oo ?_;refine AO.c ?_;refine AO.nil ?_
      exact AW.backE [.f, .f, .f, .k, .f, .f, .f, .f, .f, .f, .k, .k, .k, .k, .F, .F, .F, .F, .F, .F, .F, .F, .F, .F, .F, .F, .F, .F, .F, .F, .F, .F, .f, .f, .f, .f, .f, .f, .f] (k) (m2 - 1) (k + 1, e4 + 1, e5 + 1) (by omega) (by (try dsimp only); exact ⟨by omega, by omega⟩) (by first | ((try dsimp only); rw [hst, List.length_append, List.length_append]; done) | ((try dsimp only); rw [hst, List.length_append, List.length_append]; rfl)) (by first | (rw [hst]; done) | (rw [hst]; rfl))
    ·
     rw [decide_eq_false_iff_not] at h3;refine n5 <|n8 ?_;iterate 3 refine AO.c ?_
     iterate 3 refine AO.gx ?_
     refine AO.c ?_;refine n1 ?_;refine AW.iteB (GL.ev _) (fun h4 => ?_) (fun h4 => ?_)
     ·
      simp only [Bool.and_eq_true, decide_eq_true_eq] at h4;refine AW.region ?_;iterate 2 refine AO.c ?_
      refine AO.oo ?_;iterate 2 refine AO.c ?_
      refine AO.eq 137 (av' := .rd 1 (bys q.b)) (by rw [hqe]) ?_;iterate 2 refine AO.c ?_
      refine AO.sst ?_;refine n3 ?_;iterate 3 refine AO.c ?_
      refine AO.oo ?_;iterate 2 refine AO.c ?_
      refine AO.eq 145 (av' := .rd 1 (bys q.b)) (by rw [hqe]) ?_;refine AO.ww ?_;refine AO.c ?_;refine n1 <|AW.region ?_;iterate 2 refine AO.c ?_
      refine AO.eq 148 (av' := .agg (shA (headOf k (layN (finF o) k).1 (q.named ((tabOf (pNames o)).2.1.getD k 0))))) (by first | (exfalso; omega) | (rw [headOf_a (p := q.named ((tabOf (pNames o)).2.1.getD k 0)) (show ¬ k = 0 by omega) (show q.h.a1 ≠ 8 by omega)]; rfl) | (rw [headOf_b (p := q.named ((tabOf (pNames o)).2.1.getD k 0)) (show ¬ k = 0 by omega) (show q.h.a1 = 8 by omega)]; rfl) | (rw [headOf_c (show k = 0 by omega)]; rfl)) ?_
      refine AO.call1 Tryz.func73 rfl rfl (ref_HeadBytes (headOf k (layN (finF o) k).1 (q.named ((tabOf (pNames o)).2.1.getD k 0))) hok) ?_;refine AO.ww ?_;refine AO.c ?_;refine n7 ?_;refine AO.c ?_;refine AO.oo ?_;refine AO.c ?_;refine AO.nil ?_
      exact AW.backE [.f, .f, .f, .k, .f, .f, .f, .f, .f, .f, .k, .k, .k, .k, .F, .F, .F, .F, .F, .F, .F, .F, .F, .F, .F, .F, .F, .F, .F, .F, .F, .F, .f, .f, .f, .f, .f, .f, .f] (k) (m2 - 1) (k + 1, e4 + 1, e5 + 1) (by omega) (by (try dsimp only); exact ⟨by omega, by omega⟩) (by first | ((try dsimp only); rw [hst, List.length_append, List.length_append]; done) | ((try dsimp only); rw [hst, List.length_append, List.length_append]; rfl)) (by first | (rw [hst]; done) | (rw [hst]; rfl))
     ·
      simp only [Bool.and_eq_false_iff, decide_eq_false_iff_not] at h4;refine n6 ?_;iterate 3 refine AO.c ?_
      refine AO.oo ?_;iterate 2 refine AO.c ?_
      refine AO.eq 145 (av' := .rd 1 (bys q.b)) (by rw [hqe]) ?_;refine AO.ww ?_;refine AO.c ?_;refine n1 <|AW.region ?_;iterate 2 refine AO.c ?_
      refine AO.eq 148 (av' := .agg (shA (headOf k (layN (finF o) k).1 (q.named ((tabOf (pNames o)).2.1.getD k 0))))) (by first | (exfalso; omega) | (rw [headOf_a (p := q.named ((tabOf (pNames o)).2.1.getD k 0)) (show ¬ k = 0 by omega) (show q.h.a1 ≠ 8 by omega)]; rfl) | (rw [headOf_b (p := q.named ((tabOf (pNames o)).2.1.getD k 0)) (show ¬ k = 0 by omega) (show q.h.a1 = 8 by omega)]; rfl) | (rw [headOf_c (show k = 0 by omega)]; rfl)) ?_
      refine AO.call1 Tryz.func73 rfl rfl (ref_HeadBytes (headOf k (layN (finF o) k).1 (q.named ((tabOf (pNames o)).2.1.getD k 0))) hok) ?_;refine AO.ww ?_;refine AO.c ?_;refine n7 ?_;refine AO.c ?_;refine AO.oo ?_;refine AO.c ?_;refine AO.nil ?_
      exact AW.backE [.f, .f, .f, .k, .f, .f, .f, .f, .f, .f, .k, .k, .k, .k, .F, .F, .F, .F, .F, .F, .F, .F, .F, .F, .F, .F, .F, .F, .F, .F, .F, .F, .f, .f, .f, .f, .f, .f, .f] (k) (m2 - 1) (k + 1, e4 + 1, e5 + 1) (by omega) (by (try dsimp only); exact ⟨by omega, by omega⟩) (by first | ((try dsimp only); rw [hst, List.length_append, List.length_append]; done) | ((try dsimp only); rw [hst, List.length_append, List.length_append]; rfl)) (by first | (rw [hst]; done) | (rw [hst]; rfl))
   ·
    rw [decide_eq_false_iff_not] at h2;have hif : k = (finF o).length := by omega
    have hll := layN_len h (finF o).length (by omega);have hll2 := layN_len h k (by omega);have heh := hdI_len ⟨64 + (layN (finF o) (finF o).length).1.length, (finF o).length, ((finF o).length : Int) - 1⟩;have hhd : (HdD.mk (64 + (layN (finF o) (finF o).length).1.length) (finF o).length ((finF o).length - 1)).ok := by unfold HdD.ok I64; dsimp only; omega
    refine AW.exit <|SQ.exit <|AW.out <|LU.exit <|BQ.exit <|SQ.normal <|AW.seq' ?_
    skip;refine AW.region ?_;refine AO.ghost (Gh.freezeE 11 (li' := (layN (finF o) (finF o).length).1) (by rw [hif]) (by rw [hif]) (by omega)) ?_;refine AO.ghost (Gh.freezeE 12 (li' := (layN (finF o) (finF o).length).2) (by rw [hif]) (by rw [hif]) (by omega)) ?_;iterate 2 refine AO.c ?_
    refine AO.oo ?_;iterate 2 refine AO.c ?_
    refine AO.eq 155 (av' := .v (.int .i64 (finF o).length)) (by rw [hrl, hfl]) ?_;iterate 2 refine AO.c ?_
    refine AO.eq 157 (av' := .v (.int .i64 (finF o).length)) (by rw [hrl, hfl]) ?_;refine AO.oo ?_;refine AO.callR Tryz.func74 rfl rfl (ref_BeginR ⟨64 + (layN (finF o) (finF o).length).1.length, (finF o).length, ((finF o).length : Int) - 1⟩ hhd) (by rw [bys_length]) ?_;refine AO.c ?_;refine n3 ?_;iterate 2 refine AO.c ?_
    refine AO.ww ?_;refine AO.c ?_;refine AO.ww ?_;refine AO.c ?_;refine na ?_;refine FinO.ret 2 (Gh.refl) rfl ?_ ?_ (.inr rfl)
    · rfl
    · rw [bys_length]; unfold bytesF putEh; simp only [List.length_append]
theorem ref_May8 (o : ObjD) (ho : o.ok) (hg : o.groups.length ≤ 900000) (hsg : o.sig.length ≤ 1000000) (hgs : GSmall o.groups) : A0 Tryz.prog 33 [.agg (objA o)] (fun ret => ret = .v (.bool (mayP o))) := by
 refine A0.body 12 Tryz.func33 rfl rfl Tryz.ntmps33 fun base n0 => ?_
 refine go ?_;refine AO.call1 Tryz.func51 rfl rfl (ref_Shape o ho hgs) ?_;refine go ?_;refine AW.iteB (GL.ev _) (fun h0 => ?_) (fun h0 => ?_)
 ·
  rw [Bool.not_eq_true'] at h0;refine go ?_;refine AW.ret <|SQ.ret ?_;refine Fin.ret (Gh.refl) noid1 ?_;unfold mayP; rw [h0]; rfl
 ·
  rw [Bool.not_eq_false'] at h0;have hL : LayH o := ⟨ho, h0, hg, hsg⟩;refine go ?_;refine AO.call1 Tryz.func52 rfl rfl ((ref_BytesR o hL).a0 (by rw [bys_length]; exact bytesF_len hL)) ?_;refine go ?_;refine AW.ret ?_;refine Fin.ret (Gh.refl) noid1 ?_;unfold mayP; rw [h0, show decide ((bytesF o).length ≤ 16384) = decide (((bytesF o).length : Int) ≤ 16384) by rw [Bool.eq_iff_iff]; simp; omega]; rfl
end Go.Proofs.YtkbbcenjklaglaaGreat.AL
