/- A part of the proof: rules of an own logic over blocks, and what functions of the program compute, each by its own contract; the conditions stand with each. -/
import Derived.Test.YtiomdnmicagdcaaGreatCg
import Derived.Test.YtiomdnmicagdcaaGreatCh
namespace Go.Proofs.YtiomdnmicagdcaaGreat.AL
open Go Go.RowKit Go.Proofs.YtiomdnmicagdcaaGreat.Base
set_option linter.unusedVariables false
set_option linter.unusedSimpArgs false
set_option maxRecDepth 4000
set_option synthInstance.maxSize 1000
set_option synthInstance.maxHeartbeats 200000
def stepD (l : List ObjD) (i k : Nat) (L : List DefD) : List DefD :=
 if defB ((l.getD i default).syms.getD k default) (dropR l i) = true then addF l L ⟨((l.getD i default).syms.getD k default).name, (i : Int), (k : Int)⟩ else L
def dKf (l : List ObjD) (i : Nat) (L : List DefD) : Nat → List DefD
 | 0 => L
 | k + 1 => stepD l i k (dKf l i L k)
/-- The definitions of the first objects. -/
def dI (l : List ObjD) : Nat → List DefD
 | 0 => []
 | i + 1 => dKf l i (dI l i) (l.getD i default).syms.length
def dupAt (l : List ObjD) (i k : Nat) : Bool := defB ((l.getD i default).syms.getD k default) (dropR l i) && addB l (dKf l i (dI l i) k) ⟨((l.getD i default).syms.getD k default).name, (i : Int), (k : Int)⟩
def undAt (l : List ObjD) (i k : Nat) : Bool := decide (((l.getD i default).syms.getD k default).bind = 1) && !defB ((l.getD i default).syms.getD k default) (dropR l i) && !findB (dI l l.length) ((l.getD i default).syms.getD k default).name
def AllMay (l : List ObjD) : Prop := l.length ≤ 8 ∧ ∀ o ∈ l, mayP o = true
def dupE (l : List ObjD) : Prop := ∃ i k, i < l.length ∧ k < (l.getD i default).syms.length ∧ dupAt l i k = true
def undE (l : List ObjD) : Prop := ∃ i k, i < l.length ∧ k < (l.getD i default).syms.length ∧ undAt l i k = true
structure LOk (l : List ObjD) : Prop where
 len : l.length ≤ 1000000
 ok : ∀ o ∈ l, o.ok ∧ o.groups.length ≤ 900000 ∧ o.sig.length ≤ 1000000
 gs : ∀ o ∈ l, GSmall o.groups
structure ResW (l : List ObjD) : Prop where
 g : GrpW l
 len : l.length ≤ 8
 sy : ∀ i, i < l.length → (l.getD i default).syms.length ≤ 128 ∧ (l.getD i default).secs.length ≤ 32
 sym : ∀ i k, i < l.length → k < (l.getD i default).syms.length → (0 ≤ ((l.getD i default).syms.getD k default).bind ∧ ((l.getD i default).syms.getD k default).bind ≤ 2) ∧ ((l.getD i default).syms.getD k default).sec ≤ (l.getD i default).secs.length ∧ -1 ≤ ((l.getD i default).syms.getD k default).sec
theorem bif_ff {c y : Bool} (h : (bif c then false else y) = true) : c = false ∧ y = true := by cases c; exact ⟨rfl, h⟩; cases h
theorem symbol_facts {o : ObjD} {k : Nat} (h : symbolB o (k : Int) = true) : (0 ≤ (o.syms.getD k default).bind ∧ (o.syms.getD k default).bind ≤ 2) ∧ (o.syms.getD k default).sec ≤ o.secs.length ∧ -1 ≤ (o.syms.getD k default).sec := by
 unfold symbolB at h
 rw [Int.toNat_natCast] at h
 cases hc : decide ((k : Int) = 0)
 · rw [hc] at h
   obtain ⟨h1, h2⟩ := bif_ff h
   obtain ⟨h3, _⟩ := bif_ff h2
   simp only [Bool.or_eq_false_iff, decide_eq_false_iff_not] at h1 h3
   omega
 · rw [hc] at h
   simp only [cond_true, Bool.and_eq_true, decide_eq_true_eq] at h
   omega
theorem shape_parts {o : ObjD} (h : shapeB o = true) : (o.secs.length ≤ 32 ∧ 1 ≤ o.syms.length ∧ o.syms.length ≤ 128) ∧ (∀ g ∈ o.groups, grpB o g = true) ∧ (∀ k, k < o.secs.length → sectionB o ((k : Int) + 1) = true) ∧ ∀ k, k < o.syms.length → symbolB o (k : Int) = true := by
 unfold shapeB at h
 simp only [Bool.and_eq_true, Bool.not_eq_true', Bool.or_eq_false_iff, decide_eq_false_iff_not, List.all_eq_true, List.mem_range] at h
 obtain ⟨⟨⟨⟨h1, h2⟩, h3⟩, h4⟩, _⟩ := h
 exact ⟨by omega, h2, h3, h4⟩
theorem inc_lenN : ∀ (l : List Int) (a N : Int), inc a l → (∀ x ∈ l, x ≤ N) → a ≤ N → (l.length : Int) ≤ N - a := by
 intro l
 induction l with
 | nil => intro a N _ _ h; simp; omega
 | cons x l ih =>
  intro a N h hN _
  have h1 : a < x := h.1
  have h2 := hN x (by simp)
  have h3 := ih x N h.2 (fun y hy => hN y (by simp [hy])) h2
  rw [List.length_cons]; omega
theorem grp_mem {g : GrpD} {N : Nat} {Y : Int} (h : GrpOk N Y g) (hN : N ≤ 32) : g.mem.length ≤ 1000000 ∧ ∀ q, q < g.mem.length → 1 ≤ g.mem.getD q default ∧ g.mem.getD q default ≤ N := by
 obtain ⟨_, _, _, h1, h2⟩ := h
 have h3 := inc_lenN g.mem 0 N h1 h2 (by omega)
 refine ⟨by omega, fun q hq => ?_⟩
 have hm : g.mem.getD q default ∈ g.mem := getD_in hq
 have h4 := inc_gt g.mem 0 h1 _ hm
 have h5 := h2 _ hm
 omega
theorem may_res {l : List ObjD} (hk : LOk l) (hm : AllMay l) : ResW l := by
 have hin : ∀ i, i < l.length → l.getD i default ∈ l := fun i hi => getD_in hi
 have hsh : ∀ i, i < l.length → shapeB (l.getD i default) = true := fun i hi => by
  have := hm.2 _ (hin i hi)
  unfold mayP at this
  simp only [Bool.and_eq_true] at this
  exact this.1
 have hgrp : ∀ i k, i < l.length → k < (l.getD i default).groups.length → grpB (l.getD i default) ((l.getD i default).groups.getD k default) = true := fun i k hi hk2 => (shape_parts (hsh i hi)).2.1 _ (getD_in hk2)
 refine ⟨⟨hk.len, fun i hi => ?_, fun i k hi hk2 => ?_, fun i k hi hk2 => ?_⟩, hm.1, fun i hi => ?_, fun i k hi hk2 => symbol_facts ((shape_parts (hsh i hi)).2.2.2 k hk2)⟩
 · have h1 := (shape_parts (hsh i hi)).1
   exact ⟨(hk.ok _ (hin i hi)).2.1, by omega, by omega⟩
 · have h1 := hgrp i k hi hk2
   unfold grpB at h1
   simp only [Bool.and_eq_true, decide_eq_true_eq] at h1
   omega
 · have h1 := hgrp i k hi hk2
   have h2 := (grpB_iff.1 h1)
   have h3 := (shape_parts (hsh i hi)).1
   exact grp_mem h2 h3.1
 · have h1 := (shape_parts (hsh i hi)).1
   omega
theorem dropF_get {l : List ObjD} {n i : Nat} (h : i < n) : (dropF l n).getD i default = dropR l i := by
 unfold dropF; simp [List.getD_eq_getElem?_getD, h]
theorem dropR_len (l : List ObjD) (i : Nat) : (dropR l i).length = (l.getD i default).secs.length := dropK_len l i _
theorem insD_mem {L : List DefD} {i : Nat} {d x : DefD} : x ∈ insD L i d ↔ x = d ∨ x ∈ L := by
 unfold insD
 rw [List.mem_append, List.mem_append, List.mem_singleton]
 constructor
 · rintro ((h | h) | h)
   · exact .inr (List.mem_of_mem_take h)
   · exact .inl h
   · exact .inr (List.mem_of_mem_drop h)
 · rintro (h | h)
   · exact .inl (.inr h)
   · rw [← List.take_append_drop i L, List.mem_append] at h
     rcases h with h | h
     · exact .inl (.inl h)
     · exact .inr h
theorem addF_mem {l : List ObjD} {L : List DefD} {d x : DefD} (h : x ∈ addF l L d) : x = d ∨ x ∈ L := by
 unfold addF at h
 split at h
 · split at h
   · rcases List.mem_or_eq_of_mem_set h with h | h
     · exact .inr h
     · exact .inl h
   · exact .inr h
 · exact insD_mem.1 h
theorem addF_len {l : List ObjD} {L : List DefD} {d : DefD} : (addF l L d).length ≤ L.length + 1 := by
 unfold addF
 split
 · split
   · rw [List.length_set]; omega
   · omega
 · rw [insD_len (low_le L d.name)]; exact Nat.le_refl _
theorem dKf_len (l : List ObjD) (i : Nat) (L : List DefD) : ∀ k, (dKf l i L k).length ≤ L.length + k := by
 intro k
 induction k with
 | zero => exact Nat.le_refl _
 | succ k ih =>
  rw [dKf, stepD]
  split
  · have := addF_len (l := l) (L := dKf l i L k) (d := ⟨((l.getD i default).syms.getD k default).name, (i : Int), (k : Int)⟩)
    omega
  · omega
theorem dI_len {l : List ObjD} (hw : ResW l) : ∀ i, i ≤ l.length → (dI l i).length ≤ 128 * i := by
 intro i
 induction i with
 | zero => intro _; exact Nat.le_refl _
 | succ i ih =>
  intro hi
  have h1 := dKf_len l i (dI l i) (l.getD i default).syms.length
  have h2 := (hw.sy i (by omega)).1
  have h3 := ih (by omega)
  rw [dI]; omega
theorem dKf_in {l : List ObjD} {i : Nat} (hi : i < l.length) {L : List DefD} (hL : ∀ d ∈ L, DefIn l d) : ∀ k, k ≤ (l.getD i default).syms.length → ∀ d ∈ dKf l i L k, DefIn l d := by
 intro k
 induction k with
 | zero => intro _ d hd; exact hL d hd
 | succ k ih =>
  intro hk d hd
  rw [dKf, stepD] at hd
  split at hd
  · rcases addF_mem hd with rfl | hd
    · refine ⟨by show (0 : Int) ≤ i; omega, by show (i : Int) < l.length; omega, by show (0 : Int) ≤ k; omega, ?_⟩
      show (k : Int) < ((l.getD ((i : Int)).toNat default).syms.length : Int)
      rw [Int.toNat_natCast]; omega
    · exact ih (by omega) d hd
  · exact ih (by omega) d hd
theorem dI_in {l : List ObjD} : ∀ i, i ≤ l.length → ∀ d ∈ dI l i, DefIn l d := by
 intro i
 induction i with
 | zero => intro _ d hd; cases hd
 | succ i ih => intro hi; exact dKf_in (by omega) (ih (by omega)) _ (Nat.le_refl _)
/-- Rising names, by place. -/
def RL (a b : DefD) : Prop := sLt a.name b.name = true
theorem srt_pw {L : List DefD} : Srt L ↔ L.Pairwise RL := by
 rw [List.pairwise_iff_getElem]
 constructor
 · intro h i j hi hj hij
   have := h i j hij hj
   rw [List.getD_eq_getElem?_getD, List.getD_eq_getElem?_getD, List.getElem?_eq_getElem hi, List.getElem?_eq_getElem hj] at this
   exact this
 · intro h i j hij hj
   have := h i j (by omega) hj hij
   rw [List.getD_eq_getElem?_getD, List.getD_eq_getElem?_getD, List.getElem?_eq_getElem (show i < L.length by omega), List.getElem?_eq_getElem hj]
   exact this
theorem low_spec {L : List DefD} (hs : Srt L) (nm : ByteArray) : (∀ k, k < lowF L nm → sLt (L.getD k default).name nm = true) ∧ ∀ k, lowF L nm ≤ k → k < L.length → sLt (L.getD k default).name nm = false := by
 have key : ∀ n, n ≤ L.length → ∃ i, i ≤ n ∧ (∀ k, k < i → sLt (L.getD k default).name nm = true) ∧ ∀ k, i ≤ k → k < n → sLt (L.getD k default).name nm = false := by
  intro n
  induction n with
  | zero => intro _; exact ⟨0, Nat.le_refl _, fun k h => by omega, fun k h1 h2 => by omega⟩
  | succ n ih =>
   intro hn
   obtain ⟨i, h1, h2, h3⟩ := ih (by omega)
   cases hp : sLt (L.getD n default).name nm with
   | true =>
    refine ⟨n + 1, Nat.le_refl _, fun k hk => ?_, fun k h4 h5 => by omega⟩
    by_cases e : k = n
    · rw [e]; exact hp
    · exact sLt_trans (hs k n (by omega) (by omega)) hp
   | false =>
    refine ⟨i, by omega, h2, fun k h4 h5 => ?_⟩
    by_cases e : k = n
    · rw [e]; exact hp
    · exact h3 k h4 (by omega)
 obtain ⟨i, h1, h2, h3⟩ := key L.length (Nat.le_refl _)
 rw [low_eq h1 h2 h3]
 exact ⟨h2, h3⟩
theorem cmp_zero {a b : ByteArray} (h : cmpS a b = 0) : a = b := by
 unfold cmpS at h
 cases h1 : sLt a b with
 | true => rw [h1] at h; simp at h
 | false =>
  cases h2 : sLt b a with
  | true => rw [h1, h2] at h; simp at h
  | false => exact ba_eq.1 (sLt_tri h1 h2)
theorem find_yes {L : List DefD} {nm : ByteArray} (h : findB L nm = true) : lowF L nm < L.length ∧ (L.getD (lowF L nm) default).name = nm := by
 unfold findB at h
 simp only [Bool.and_eq_true, decide_eq_true_eq] at h
 exact ⟨h.1, cmp_zero h.2⟩
theorem find_no {L : List DefD} {nm : ByteArray} (hs : Srt L) (h : findB L nm = false) : ∀ k, lowF L nm ≤ k → k < L.length → sLt nm (L.getD k default).name = true := by
 intro k hk hkl
 have h1 := (low_spec hs nm).2
 have h0 : sLt nm (L.getD (lowF L nm) default).name = true := by
  cases hc : sLt nm (L.getD (lowF L nm) default).name with
  | true => rfl
  | false =>
   exfalso
   have h2 := h1 (lowF L nm) (Nat.le_refl _) (by omega)
   have : findB L nm = true := by
    unfold findB
    rw [decide_eq_true (show lowF L nm < L.length by omega)]
    unfold cmpS
    rw [h2, hc]; rfl
   rw [this] at h; cases h
 by_cases e : k = lowF L nm
 · rw [e]; exact h0
 · exact sLt_trans h0 (hs (lowF L nm) k (by omega) hkl)
theorem srt_ins {L : List DefD} {d : DefD} (hs : Srt L) (h : findB L d.name = false) : Srt (insD L (lowF L d.name) d) := by
 have hp := srt_pw.1 hs
 have hlo := low_le L d.name
 have h1 := (low_spec hs d.name).1
 have h2 := find_no hs h
 rw [srt_pw]
 unfold insD
 have ht : ∀ a ∈ L.take (lowF L d.name), RL a d := fun a ha => by
  obtain ⟨k, hk, rfl⟩ := List.getElem_of_mem ha
  rw [List.length_take] at hk
  have := h1 k (by omega)
  rw [List.getD_eq_getElem?_getD, List.getElem?_eq_getElem (show k < L.length by omega)] at this
  rw [List.getElem_take]
  exact this
 have hd : ∀ b ∈ L.drop (lowF L d.name), RL d b := fun b hb => by
  obtain ⟨k, hk, rfl⟩ := List.getElem_of_mem hb
  rw [List.length_drop] at hk
  have := h2 (lowF L d.name + k) (by omega) (by omega)
  rw [List.getD_eq_getElem?_getD, List.getElem?_eq_getElem (show lowF L d.name + k < L.length by omega)] at this
  rw [List.getElem_drop]
  exact this
 have hp2 := hp
 rw [← List.take_append_drop (lowF L d.name) L, List.pairwise_append] at hp2
 rw [List.pairwise_append, List.pairwise_append]
 refine ⟨⟨hp2.1, List.pairwise_singleton _ _, fun a ha b hb => ?_⟩, hp2.2.1, fun a ha b hb => ?_⟩
 · obtain rfl := List.mem_singleton.1 hb
   exact ht a ha
 · rcases List.mem_append.1 ha with ha | ha
   · exact hp2.2.2 a ha b hb
   · obtain rfl := List.mem_singleton.1 ha
     exact hd b hb
theorem srt_set {L : List DefD} {d : DefD} (hs : Srt L) (h : findB L d.name = true) : Srt (L.set (lowF L d.name) d) := by
 obtain ⟨hl, hn⟩ := find_yes h
 have key : ∀ k, k < L.length → ((L.set (lowF L d.name) d).getD k default).name = (L.getD k default).name := fun k hk => by
  by_cases e : lowF L d.name = k
  · rw [← e, List.getD_eq_getElem?_getD, List.getElem?_set_self hl]
    exact hn.symm
  · rw [List.getD_eq_getElem?_getD, List.getElem?_set_ne e, ← List.getD_eq_getElem?_getD]
 intro i j hij hj
 rw [List.length_set] at hj
 rw [key i (by omega), key j hj]
 exact hs i j hij hj
theorem addF_srt {l : List ObjD} {L : List DefD} {d : DefD} (hs : Srt L) : Srt (addF l L d) := by
 unfold addF
 split
 · rename_i h
   split
   · exact srt_set hs h
   · exact hs
 · rename_i h
   exact srt_ins hs (by simpa using h)
theorem dKf_srt {l : List ObjD} {i : Nat} {L : List DefD} (hs : Srt L) : ∀ k, Srt (dKf l i L k) := by
 intro k
 induction k with
 | zero => exact hs
 | succ k ih =>
  rw [dKf, stepD]
  split
  · exact addF_srt ih
  · exact ih
theorem dI_srt (l : List ObjD) : ∀ i, Srt (dI l i) := by
 intro i
 induction i with
 | zero => intro i j _ h; exact absurd h (by simp [dI])
 | succ i ih => exact dKf_srt ih _
theorem objs_IndexFunc (l : List ObjD) (f : FuncId) (cs : List AV) (q : ObjD → Bool) (fn : Func) (hl : l.length ≤ 9223372036854775807) (hgc : ∀ n, ∀ av ∈ cs, Gen n av) (hf : Tryz.prog.funcs[f]? = some fn) (hname : (fn.name == "runtime.NumGoroutine") = false) (hb : fn.body.isSome = true) (h : ∀ x ∈ l, A0 Tryz.prog f (.agg (objA x) :: cs) (fun r => r = .v (.bool (q x)))) : A0 Tryz.prog 67 [.rd 5 (l.map objA), .fn f cs] (fun ret => ret = .v (.int .i64 (idxF q l))) := by
 refine A0.body 19 Tryz.func67 rfl rfl Tryz.ntmps67 fun base n0 => ?_
 refine AW.seq' ?_
 refine AW.region ?_
 refine AO.c ?_
 refine AO.nil ?_
 refine SQ.normal ?_
 refine AW.seq' ?_
 refine AW.seq' ?_
 refine AW.region ?_
 iterate 3 refine AO.c ?_
 refine AO.nil ?_
 refine SQ.normal ?_
 refine AW.block' ?_
 refine AW.loopU [.k, .k, .f, .f, .f, .f, .f, .k, .k, .F, .f, .f] (fun (i : Nat) => [(8, .v (.int .i64 (i)))]) (fun i => Hn n0 []) (fun m i => i ≤ l.length ∧ m = l.length - i ∧ ∀ j, j < i → q (l.getD j default) = false) (l.length) (0) ⟨by omega, rfl, fun j h => by omega⟩ (by first | rfl | (simp; done)) (by first | rfl | (simp; done)) ?_
 rintro m0 i ⟨hx1, hx2, hx3⟩
 refine AW.seq' ?_
 refine AW.region ?_
 refine AO.c ?_
 refine AO.nil ?_
 refine SQ.normal ?_
 refine AW.seq' ?_
 refine AW.iteB (GL.ev _) (fun h0 => ?_) (fun h0 => ?_)
 ·
  rw [decide_eq_true_eq] at h0
  have hi : i < l.length := by omega
  refine AW.skip ?_
  refine SQ.normal ?_
  refine AW.seq' ?_
  refine AW.block' ?_
  refine AW.seq' ?_
  refine AW.region ?_
  iterate 2 refine AO.c ?_
  refine AO.nil ?_
  refine SQ.normal ?_
  refine AW.seq' ?_
  refine AW.region ?_
  iterate 3 refine AO.c ?_
  refine AO.oo ?_
  refine AO.c ?_
  refine AO.callF (args' := .agg (objA (l.getD i default)) :: cs) hgc hf hname hb (h _ (getD_in hi)) rfl ?_
  refine AO.nil ?_
  refine SQ.normal ?_
  refine AW.iteB (GL.ev _) (fun h1 => ?_) (fun h1 => ?_)
  ·
   skip
   refine AW.seq' ?_
   refine AW.region ?_
   iterate 2 refine AO.c ?_
   refine AO.nil ?_
   refine SQ.normal ?_
   refine AW.ret ?_
   refine BQ.ret <| SQ.ret <| AW.out <| LU.ret <| BQ.ret <| SQ.ret ?_
   refine Fin.ret (Gh.refl) noid1 ?_
   rw [idxF_at hi hx3 h1]; rfl
  ·
   skip
   refine AW.skip ?_
   refine BQ.normal ?_
   refine SQ.normal ?_
   refine AW.region ?_
   refine AO.oo ?_
   refine AO.c ?_
   refine AO.nil ?_
   exact AW.backU [.k, .k, .f, .f, .f, .f, .f, .k, .k, .F, .f, .f] (m0 - 1) (i + 1) (by omega) (by (try dsimp only); exact ⟨by omega, by omega, fun j hj => (Nat.lt_or_eq_of_le (Nat.le_of_lt_succ hj)).elim (hx3 j) (fun h => by rw [h]; exact h1)⟩) (by first | rfl | (simp; done)) (by first | rfl | (simp; done))
 ·
  rw [decide_eq_false_iff_not] at h0
  refine AW.exit ?_
  refine SQ.exit <| AW.out <| LU.exit <| BQ.exit ?_
  refine SQ.normal ?_
  refine AW.seq' ?_
  refine AW.region ?_
  refine AO.c ?_
  refine AO.nil ?_
  refine SQ.normal ?_
  refine AW.ret ?_
  refine Fin.ret (Gh.refl) noid1 ?_
  rw [idxF_none (fun j hj => hx3 j (by omega))]; rfl
theorem objs_ContainsFunc (l : List ObjD) (f : FuncId) (cs : List AV) (q : ObjD → Bool) (fn : Func) (hl : l.length ≤ 9223372036854775807) (hgc : ∀ n, ∀ av ∈ cs, Gen n av) (hf : Tryz.prog.funcs[f]? = some fn) (hname : (fn.name == "runtime.NumGoroutine") = false) (hb : fn.body.isSome = true) (h : ∀ x ∈ l, A0 Tryz.prog f (.agg (objA x) :: cs) (fun r => r = .v (.bool (q x)))) : A0 Tryz.prog 27 [.rd 5 (l.map objA), .fn f cs] (fun ret => ret = .v (.bool (l.any q))) := by
 haveI hga : ∀ n, GA n cs := fun n => ⟨hgc n⟩
 have hidx := objs_IndexFunc l f cs q fn hl hgc hf hname hb h
 refine A0.body 9 Tryz.func27 rfl rfl Tryz.ntmps27 fun base n0 => ?_
 refine AW.seq' ?_
 refine AW.region ?_
 refine AO.c ?_
 refine AO.nil ?_
 refine SQ.normal ?_
 refine AW.seq' ?_
 refine AW.region ?_
 iterate 2 refine AO.c ?_
 refine AO.call1 Tryz.func67 rfl rfl (hidx) ?_
 iterate 2 refine AO.c ?_
 refine AO.nil ?_
 refine SQ.normal ?_
 refine AW.ret ?_
 refine Fin.ret (Gh.refl) noid1 ?_
 rw [← idxF_ge]; rfl
theorem names_odd (o : ObjD) (ho : o.ok) (hg : o.groups.length ≤ 900000) (hsg : o.sig.length ≤ 1000000) : A0 Tryz.prog 25 [.agg (objA o)] (fun ret => ret = .v (.bool (!mayP o))) := by
 refine A0.body 6 Tryz.func25 rfl rfl Tryz.ntmps25 fun base n0 => ?_
 refine AW.seq' ?_
 refine AW.region ?_
 refine AO.ww ?_
 refine AO.c ?_
 refine AO.nil ?_
 refine SQ.normal ?_
 refine AW.seq' ?_
 refine AW.region ?_
 refine AO.c ?_
 refine AO.call1 Tryz.func26 rfl rfl (obj_May o ho hg hsg) ?_
 iterate 2 refine AO.c ?_
 refine AO.nil ?_
 refine SQ.normal ?_
 refine AW.ret ?_
 refine Fin.ret (Gh.refl) noid1 ?_
 first | rfl | (simp [packA]; done)
set_option maxHeartbeats 8000000 in
theorem names_Resolve (l : List ObjD) (hk : LOk l) : A0 Tryz.prog 8 [.rd 5 (l.map objA)] (fun ret => (¬ AllMay l ∧ ret = .tup [.agg (tabA ⟨[], []⟩), .v (ifV 67 1)]) ∨ (AllMay l ∧ dupE l ∧ ret = .tup [.agg (tabA ⟨[], []⟩), .v (ifV 67 3)]) ∨ (AllMay l ∧ ¬ dupE l ∧ undE l ∧ ret = .tup [.agg (tabA ⟨[], []⟩), .v (ifV 67 4)]) ∨ (AllMay l ∧ ¬ dupE l ∧ ¬ undE l ∧ ret = .tup [.agg (tabA ⟨dropF l l.length, dI l l.length⟩), .v (ifV 67 0)])) := by
 have hcf : A0 Tryz.prog 27 [.rd 5 (l.map objA), .v (.func (.func 25) #[] #[])] (fun r => r = .v (.bool (l.any fun o => !mayP o))) := A0.fn0 (pre := [.rd 5 (l.map objA)]) (objs_ContainsFunc l 25 [] (fun o => !mayP o) _ (Nat.le_trans hk.len (by decide)) (fun _ _ h => by cases h) Tryz.func25 rfl rfl fun o ho => names_odd o (hk.ok o ho).1 (hk.ok o ho).2.1 (hk.ok o ho).2.2)
 have hlen := hk.len
 refine A0.body 107 Tryz.func8 rfl rfl Tryz.ntmps8 fun base n0 => ?_
 refine AW.seq' ?_
 refine AW.region ?_
 refine AO.ww ?_
 refine AO.c ?_
 refine AO.nil ?_
 refine SQ.normal ?_
 refine AW.seq' ?_
 refine AW.region ?_
 refine AO.c ?_
 refine AO.nil ?_
 refine SQ.normal ?_
 refine AW.seq' ?_
 refine AW.seq' ?_
 refine AW.region ?_
 iterate 4 refine AO.c ?_
 iterate 2 refine AO.gx ?_
 refine AO.gxcall1 Tryz.func27 rfl rfl (fun hgd => hcf) ?_
 refine AO.c ?_
 refine AO.nil ?_
 refine SQ.normal ?_
 refine AW.iteB (GL.ev _) (fun h0 => ?_) (fun h0 => ?_)
 ·
  have hno : ¬ AllMay l := fun h => by
   simp only [Bool.or_eq_true, decide_eq_true_eq, List.any_eq_true] at h0
   rcases h0 with h0 | ⟨o, ho, h0⟩
   · have := h.1; omega
   · rw [h.2 o ho] at h0; cases h0
  refine AW.seq' ?_
  refine AW.region ?_
  iterate 2 refine AO.c ?_
  refine AO.sst ?_
  refine AO.c ?_
  refine AO.nil ?_
  refine SQ.normal ?_
  refine AW.ret ?_
  refine SQ.ret ?_
  refine Fin.ret (Gh.tellC 0 [.rd 1 (([] : List (List Bool)).map drA), .rd 3 (([] : List DefD).map defA)]) noid2 ?_
  exact .inl ⟨hno, rfl⟩
 ·
  have hmay : AllMay l := by
   simp only [Bool.or_eq_false_iff, decide_eq_false_iff_not, List.any_eq_false] at h0
   exact ⟨by omega, fun o ho => by have := h0.2 o ho; simpa using this⟩
  have hw := may_res hk hmay
  have hl8 := hw.len
  have hfl0 := dI_len hw l.length (Nat.le_refl _)
  have hfl : (dI l l.length).length ≤ 1000000 := by omega
  refine AW.skip ?_
  refine SQ.normal ?_
  refine AW.seq' ?_
  refine AW.region ?_
  refine AO.c ?_
  refine AO.call1 Tryz.func28 rfl rfl (names_drop l hw.g) ?_
  refine AO.c ?_
  refine AO.ww ?_
  refine AO.sst ?_
  refine AO.nil ?_
  refine SQ.normal ?_
  refine AW.seq' ?_
  refine AW.seq' ?_
  refine AW.ghost (Gh.adoptC 1 1 41 3 rfl) ?_
  refine AW.region ?_
  iterate 3 refine AO.c ?_
  refine AO.nil ?_
  refine SQ.normal ?_
  refine AW.block' ?_
  refine AW.loopU3 [.k, .f, .k, .f, .f, .k, .F, .F, .f, .f, .f, .f, .f, .f, .f, .k, .k, .k, .F, .F, .F, .F, .F, .F, .F, .F, .F, .f, .f, .f] (fun (i j ep : Nat) => [(31, .v (.int .i64 (i)))]) (fun i j ep => Hn n0 (([some (.box 28 [.v (.slice none 0 0), .v (.slice none 0 0)]), some (.box 28 [.rd 1 ((dropF l l.length).map drA), .own (n0 + 2) (ep) 0 (dI l i).length]), some (.row 41 3 (ep) ((dI l i).map defA))] ++ List.replicate j none) ++ [])) (fun m i j ep => (i ≤ l.length ∧ m = l.length - i) ∧ ∀ a k, a < i → k < (l.getD a default).syms.length → dupAt l a k = false) (l.length) (0) (0) (0) ⟨by omega, fun a k h => by omega⟩ (by first | rfl | (simp; done)) (by simp [dI]) ?_
  rintro m0 i j ep ⟨hx1, hx2⟩
  refine AW.seq' ?_
  refine AW.region ?_
  refine AO.c ?_
  refine AO.nil ?_
  refine SQ.normal ?_
  refine AW.seq' ?_
  refine AW.iteB (GL.ev _) (fun h1 => ?_) (fun h1 => ?_)
  ·
   rw [decide_eq_true_eq] at h1
   have hi : i < l.length := by omega
   have hrl := dropR_len l i
   have hsy := hw.sy i hi
   have hil := dI_len hw i (by omega)
   refine AW.skip ?_
   refine SQ.normal ?_
   refine AW.seq' ?_
   refine AW.block' ?_
   refine AW.seq' ?_
   refine AW.region ?_
   refine AO.c ?_
   refine AO.oo ?_
   refine AO.c ?_
   refine AO.ww ?_
   refine AO.c ?_
   refine AO.sst ?_
   refine AO.nil ?_
   refine SQ.normal ?_
   refine AW.seq' ?_
   refine AW.region ?_
   iterate 4 refine AO.c ?_
   refine AO.nil ?_
   refine SQ.normal ?_
   refine AW.block' ?_
   refine AW.loopU3 [.k, .f, .k, .f, .f, .k, .k, .F, .F, .f, .f, .f, .f, .f, .f, .k, .k, .k, .f, .f, .f, .f, .f, .k, .k, .k, .F, .F, .F, .F, .F, .F, .F, .F, .f, .f, .f] (fun (k j2 e2 : Nat) => [(39, .v (.int .i64 (k)))]) (fun k j2 e2 => Hn n0 ((([some (.box 28 [.v (.slice none 0 0), .v (.slice none 0 0)]), some (.box 28 [.rd 1 ((dropF l l.length).map drA), .own (n0 + 2) (e2) 0 ((dKf l i (dI l i) k)).length]), some (.row 41 3 (e2) (((dKf l i (dI l i) k)).map defA))] ++ List.replicate j none ++ [some (.box 61 (objA (l.getD i default)))]) ++ List.replicate j2 none) ++ [])) (fun m k j2 e2 => (k ≤ (l.getD i default).syms.length ∧ m = (l.getD i default).syms.length - k) ∧ ∀ q, q < k → dupAt l i q = false) ((l.getD i default).syms.length) (0) (0) (ep) ⟨by omega, fun q h => by omega⟩ (by first | rfl | (simp; done)) (by simp [dKf]) ?_
   rintro m1 k j2 e2 ⟨hy1, hy2⟩
   refine AW.seq' ?_
   refine AW.region ?_
   refine AO.c ?_
   refine AO.nil ?_
   refine SQ.normal ?_
   refine AW.seq' ?_
   refine AW.iteB (GL.ev _) (fun h2 => ?_) (fun h2 => ?_)
   ·
    rw [decide_eq_true_eq] at h2
    have hk2 : k < (l.getD i default).syms.length := by omega
    have hdl := dKf_len l i (dI l i) k
    refine AW.skip ?_
    refine SQ.normal ?_
    refine AW.seq' ?_
    refine AW.block' ?_
    refine AW.seq' ?_
    refine AW.region ?_
    refine AO.c ?_
    refine AO.oo ?_
    refine AO.c ?_
    refine AO.ww ?_
    refine AO.c ?_
    refine AO.sst ?_
    refine AO.nil ?_
    refine SQ.normal ?_
    refine AW.seq' ?_
    cases hdb : defB ((l.getD i default).syms.getD k default) (dropR l i)
    ·
     have hst : dKf l i (dI l i) (k + 1) = (dKf l i (dI l i) k) := by rw [dKf, stepD, hdb]; rfl
     have hnd : dupAt l i k = false := by unfold dupAt; rw [hdb]; rfl
     refine AW.drawsZ [] (.one 0 false (.one 1 false (.one 2 false (.one 3 false (.one 4 false (.one 5 false (.one 6 true (.one 7 false (.one 8 false (.one 9 false (.one 10 false (.one 11 false (.one 12 false (.one 13 false (.one 14 true (.one 15 false .nil)))))))))))))))) (by kernel_rfl) rfl (by kernel_rfl) ?_
     iterate 4 refine AZ.c rfl ?_
     refine AZ.o rfl (by rw [dropF_len]; omega) ?_
     refine AZ.c rfl ?_
     refine AZ.eq 49 (av' := .rd 1 ((dropR l i).map bA)) (by rw [dropF_get hi]) ?_
     refine AZ.call1 rfl Tryz.func29 rfl rfl (names_defines ((l.getD i default).syms.getD k default) (dropR l i) ⟨by rw [hrl]; exact (hw.sym i k hi hk2).2.1, (hw.sym i k hi hk2).2.2, by rw [hrl]; omega⟩) ?_
     refine AZ.c rfl ?_
     refine AZ.eq 51 (av' := .v (.bool false)) (by rw [hdb]) ?_
     refine AZ.sk rfl rfl ?_
     refine AZ.sk rfl rfl ?_
     refine AZ.sk rfl rfl ?_
     refine AZ.sk rfl rfl ?_
     refine AZ.sk rfl rfl ?_
     refine AZ.sk rfl rfl ?_
     refine AZ.sk rfl rfl ?_
     refine AZ.pf rfl rfl ?_
     refine AZ.done ?_
     refine SQ.normal ?_
     refine AW.iteB (GL.ev _) (fun h3 => ?_) (fun h3 => ?_)
     ·
      cases h3
     ·
      skip
      refine AW.skip ?_
      refine BQ.normal ?_
      refine SQ.normal ?_
      refine AW.region ?_
      refine AO.oo ?_
      refine AO.c ?_
      refine AO.nil ?_
      have hal : ∀ q, q < k + 1 → dupAt l i q = false := fun q hq => by
       by_cases e : q = k
       · rw [e]; exact hnd
       · exact hy2 q (by omega)
      exact AW.backE [.k, .f, .k, .f, .f, .k, .k, .F, .F, .f, .f, .f, .f, .f, .f, .k, .k, .k, .f, .f, .f, .f, .f, .k, .k, .k, .F, .F, .F, .F, .F, .F, .F, .F, .f, .f, .f] (j2) (m1 - 1) (k + 1, j2 + 1, e2) (by omega) (by (try dsimp only); exact ⟨by omega, hal⟩) (by first | rfl | (simp; done)) (by first | ((try dsimp only); rw [hst]; done) | ((try dsimp only); rw [hst]; rfl))
    ·
     have hst : dKf l i (dI l i) (k + 1) = addF l (dKf l i (dI l i) k) (⟨((l.getD i default).syms.getD k default).name, (i : Int), (k : Int)⟩ : DefD) := by rw [dKf, stepD, hdb]; rfl
     have hdin : DefIn l (⟨((l.getD i default).syms.getD k default).name, (i : Int), (k : Int)⟩ : DefD) := ⟨by show (0 : Int) ≤ i; omega, by show (i : Int) < l.length; omega, by show (0 : Int) ≤ k; omega, by show (k : Int) < ((l.getD ((i : Int)).toNat default).syms.length : Int); rw [Int.toNat_natCast]; omega⟩
     have hda : dupAt l i k = addB l (dKf l i (dI l i) k) (⟨((l.getD i default).syms.getD k default).name, (i : Int), (k : Int)⟩ : DefD) := by unfold dupAt; rw [hdb]; rfl
     refine AW.drawsZ [14] (.one 0 false (.one 1 false (.one 2 false (.one 3 false (.one 4 false (.one 5 false (.one 6 true (.one 7 false (.one 8 false (.one 9 false (.one 10 false (.one 11 false (.one 12 false (.one 13 false (.one 14 true (.one 15 false .nil)))))))))))))))) (by kernel_rfl) rfl (by kernel_rfl) ?_
     iterate 4 refine AZ.c rfl ?_
     refine AZ.o rfl (by rw [dropF_len]; omega) ?_
     refine AZ.c rfl ?_
     refine AZ.eq 49 (av' := .rd 1 ((dropR l i).map bA)) (by rw [dropF_get hi]) ?_
     refine AZ.call1 rfl Tryz.func29 rfl rfl (names_defines ((l.getD i default).syms.getD k default) (dropR l i) ⟨by rw [hrl]; exact (hw.sym i k hi hk2).2.1, (hw.sym i k hi hk2).2.2, by rw [hrl]; omega⟩) ?_
     refine AZ.c rfl ?_
     refine AZ.eq 51 (av' := .v (.bool true)) (by rw [hdb]) ?_
     refine AZ.gkc rfl rfl ?_
     refine AZ.gkc rfl rfl ?_
     refine AZ.gkc rfl rfl ?_
     refine AZ.gkc rfl rfl ?_
     refine AZ.gkc rfl rfl ?_
     refine AZ.gkc rfl rfl ?_
     refine AZ.gkL (av := .v (.bool (addB l (dKf l i (dI l i) k) (⟨((l.getD i default).syms.getD k default).name, (i : Int), (k : Int)⟩ : DefD)))) (H2 := Hn n0 (((([some (.box 28 [.v (.slice none 0 0), .v (.slice none 0 0)]), some (.box 28 [.rd 1 ((dropF l l.length).map drA), .own (n0 + 2) (addE (dKf l i (dI l i) k) (⟨((l.getD i default).syms.getD k default).name, (i : Int), (k : Int)⟩ : DefD) e2) 0 (addF l (dKf l i (dI l i) k) (⟨((l.getD i default).syms.getD k default).name, (i : Int), (k : Int)⟩ : DefD)).length]), some (.row 41 3 (addE (dKf l i (dI l i) k) (⟨((l.getD i default).syms.getD k default).name, (i : Int), (k : Int)⟩ : DefD) e2) ((addF l (dKf l i (dI l i) k) (⟨((l.getD i default).syms.getD k default).name, (i : Int), (k : Int)⟩ : DefD)).map defA))] ++ List.replicate j none ++ [some (.box 61 (objA (l.getD i default)))]) ++ List.replicate j2 none) ++ [some (.box 83 (symA ((l.getD i default).syms.getD k default)))]) ++ [none, none])) rfl rfl Tryz.func30 rfl rfl rfl (AC.cong (names_add n0 (some (.box 28 [.v (.slice none 0 0), .v (.slice none 0 0)])) ((dropF l l.length).map drA) l (dKf l i (dI l i) k) e2 (⟨((l.getD i default).syms.getD k default).name, (i : Int), (k : Int)⟩ : DefD) (List.replicate j none ++ [some (.box 61 (objA (l.getD i default)))] ++ List.replicate j2 none ++ [some (.box 83 (symA ((l.getD i default).syms.getD k default)))]) (dKf_srt (dI_srt l i) k) (by omega) hlen (fun q hq => dKf_in hi (dI_in i (by omega)) k (by omega) _ (getD_in hq)) hdin) (by simp) (fun r H' h => ⟨h.1, h.2.trans (by simp)⟩)) ?_
     refine AZ.pt rfl rfl ?_
     refine AZ.done ?_
     refine SQ.normal ?_
     refine AW.iteB (GL.ev _) (fun h3 => ?_) (fun h3 => ?_)
     ·
      have hdup : dupE l := ⟨i, k, hi, hk2, by rw [hda]; exact h3⟩
      refine AW.seq' ?_
      refine AW.region ?_
      iterate 2 refine AO.c ?_
      refine AO.sst ?_
      refine AO.c ?_
      refine AO.nil ?_
      refine SQ.normal ?_
      refine AW.ret ?_
      refine BQ.ret <| SQ.ret <| AW.out <| LU.ret <| BQ.ret <| BQ.ret <| SQ.ret <| AW.out <| LU.ret <| BQ.ret <| SQ.ret ?_
      refine Fin.ret (Gh.tellC 0 [.rd 1 (([] : List (List Bool)).map drA), .rd 3 (([] : List DefD).map defA)]) noid2 ?_
      exact .inr (.inl ⟨hmay, hdup, rfl⟩)
     ·
      have hnd : dupAt l i k = false := by rw [hda]; exact h3
      refine AW.skip ?_
      refine BQ.normal ?_
      refine SQ.normal ?_
      refine AW.region ?_
      refine AO.oo ?_
      refine AO.c ?_
      refine AO.nil ?_
      have hal : ∀ q, q < k + 1 → dupAt l i q = false := fun q hq => by
       by_cases e : q = k
       · rw [e]; exact hnd
       · exact hy2 q (by omega)
      exact AW.backE [.k, .f, .k, .f, .f, .k, .k, .F, .F, .f, .f, .f, .f, .f, .f, .k, .k, .k, .f, .f, .f, .f, .f, .k, .k, .k, .F, .F, .F, .F, .F, .F, .F, .F, .f, .f, .f] (j2) (m1 - 1) (k + 1, j2 + 3, addE (dKf l i (dI l i) k) (⟨((l.getD i default).syms.getD k default).name, (i : Int), (k : Int)⟩ : DefD) e2) (by omega) (by (try dsimp only); exact ⟨by omega, hal⟩) (by first | rfl | (simp; done)) (by first | ((try dsimp only); rw [hst]; done) | ((try dsimp only); rw [hst]; rfl))
   ·
    rw [decide_eq_false_iff_not] at h2
    have hk2 : k = (l.getD i default).syms.length := by omega
    subst hk2
    have hnx : ∀ a k, a < i + 1 → k < (l.getD a default).syms.length → dupAt l a k = false := fun a k g1 g2 => by
     by_cases e : a = i
     · subst e; exact hy2 k g2
     · exact hx2 a k (by omega) g2
    refine AW.exit ?_
    refine SQ.exit <| AW.out <| LU.exit <| BQ.exit ?_
    refine BQ.normal ?_
    refine SQ.normal ?_
    refine AW.region ?_
    refine AO.oo ?_
    refine AO.c ?_
    refine AO.nil ?_
    exact AW.backE [.k, .f, .k, .f, .f, .k, .F, .F, .f, .f, .f, .f, .f, .f, .f, .k, .k, .k, .F, .F, .F, .F, .F, .F, .F, .F, .F, .f, .f, .f] (j) (m0 - 1) (i + 1, j + (1 + j2), e2) (by omega) (by (try dsimp only); exact ⟨by omega, hnx⟩) (by first | rfl | (simp; done)) ((Hn_repJ (b := j + (1 + j2)) (by first | (simp; done) | (simp; omega))).trans (by (try dsimp only) <;> rfl))
  ·
   rw [decide_eq_false_iff_not] at h1
   have hi : i = l.length := by omega
   subst hi
   have hndup : ¬ dupE l := fun ⟨a, k, h1, h2, h3⟩ => by rw [hx2 a k h1 h2] at h3; cases h3
   refine AW.exit ?_
   refine SQ.exit <| AW.out <| LU.exit <| BQ.exit ?_
   refine SQ.normal ?_
   refine AW.seq' ?_
   refine AW.seq' ?_
   refine AW.ghost (Gh.freezeC 1 1 (by rw [List.length_map]) (by rw [List.length_map]; omega)) ?_
   refine AW.region ?_
   iterate 3 refine AO.c ?_
   refine AO.nil ?_
   refine SQ.normal ?_
   refine AW.block' ?_
   refine AW.loopU2 [.f, .f, .k, .f, .f, .k, .F, .F, .F, .F, .F, .F, .F, .f, .f, .k, .k, .k, .F, .F, .F, .F, .F] (fun (i j3 : Nat) => [(66, .v (.int .i64 (i)))]) (fun i j3 => Hn n0 (([some (.box 28 [.v (.slice none 0 0), .v (.slice none 0 0)]), some (.box 28 (tabA ⟨dropF l l.length, dI l l.length⟩)), none] ++ List.replicate j3 none) ++ [])) (fun m i j3 => (i ≤ l.length ∧ m = l.length - i) ∧ ∀ a k, a < i → k < (l.getD a default).syms.length → undAt l a k = false) (l.length) (0) (j) ⟨by omega, fun a k h => by omega⟩ (by first | rfl | (simp; done)) (by first | rfl | (simp; done)) ?_
   rintro m2 i j3 ⟨hz1, hz2⟩
   refine AW.seq' ?_
   refine AW.region ?_
   refine AO.c ?_
   refine AO.nil ?_
   refine SQ.normal ?_
   refine AW.seq' ?_
   refine AW.iteB (GL.ev _) (fun h4 => ?_) (fun h4 => ?_)
   ·
    rw [decide_eq_true_eq] at h4
    have hi : i < l.length := by omega
    have hrl := dropR_len l i
    have hsy := hw.sy i hi
    refine AW.skip ?_
    refine SQ.normal ?_
    refine AW.seq' ?_
    refine AW.block' ?_
    refine AW.seq' ?_
    refine AW.region ?_
    refine AO.c ?_
    refine AO.oo ?_
    refine AO.c ?_
    refine AO.ww ?_
    refine AO.c ?_
    refine AO.sst ?_
    refine AO.nil ?_
    refine SQ.normal ?_
    refine AW.seq' ?_
    refine AW.region ?_
    iterate 4 refine AO.c ?_
    refine AO.nil ?_
    refine SQ.normal ?_
    refine AW.block' ?_
    refine AW.loopU2 [.f, .f, .k, .f, .f, .k, .f, .f, .f, .f, .k, .F, .F, .F, .F, .F, .F, .f, .f, .f, .f, .f, .k, .k, .k, .f, .f, .f, .f, .f, .k, .k, .k, .F, .F, .F, .F] (fun (k j4 : Nat) => [(74, .v (.int .i64 (k)))]) (fun k j4 => Hn n0 ((([some (.box 28 [.v (.slice none 0 0), .v (.slice none 0 0)]), some (.box 28 (tabA ⟨dropF l l.length, dI l l.length⟩)), none] ++ List.replicate j3 none ++ [some (.box 61 (objA (l.getD i default)))]) ++ List.replicate j4 none) ++ [])) (fun m k j4 => (k ≤ (l.getD i default).syms.length ∧ m = (l.getD i default).syms.length - k) ∧ ∀ q, q < k → undAt l i q = false) ((l.getD i default).syms.length) (0) (0) ⟨by omega, fun q h => by omega⟩ (by first | rfl | (simp; done)) (by first | rfl | (simp; done)) ?_
    rintro m3 k j4 ⟨hw1, hw2⟩
    refine AW.seq' ?_
    refine AW.region ?_
    refine AO.c ?_
    refine AO.nil ?_
    refine SQ.normal ?_
    refine AW.seq' ?_
    refine AW.iteB (GL.ev _) (fun h5 => ?_) (fun h5 => ?_)
    ·
     rw [decide_eq_true_eq] at h5
     have hk2 : k < (l.getD i default).syms.length := by omega
     refine AW.skip ?_
     refine SQ.normal ?_
     refine AW.seq' ?_
     refine AW.block' ?_
     refine AW.seq' ?_
     refine AW.region ?_
     refine AO.oo ?_
     refine AO.c ?_
     refine AO.ww ?_
     refine AO.sst ?_
     refine AO.nil ?_
     refine SQ.normal ?_
     refine AW.seq' ?_
     refine AW.region ?_
     iterate 3 refine AO.c ?_
     refine AO.call1 Tryz.func12 rfl rfl (names_Find ⟨dropF l l.length, dI l l.length⟩ ((l.getD i default).syms.getD k default).name hfl (dI_srt l _)) ?_
     iterate 3 refine AO.c ?_
     refine AO.ww ?_
     refine AO.sst ?_
     refine AO.c ?_
     refine AO.nil ?_
     refine SQ.normal ?_
     refine AW.seq' ?_
     refine AW.drawsZ [] (.one 0 false (.one 1 false (.one 2 false (.one 3 false (.one 4 false (.one 5 false (.one 6 false (.one 7 false (.one 8 false (.one 9 false (.one 10 true (.one 11 false (.one 12 false (.one 13 false (.one 14 false (.one 15 false (.one 16 false .nil))))))))))))))))) (by kernel_rfl) rfl (by kernel_rfl) ?_
     iterate 4 refine AZ.c rfl ?_
     iterate 4 refine AZ.gx rfl ?_
     refine AZ.gxo rfl (by rw [dropF_len]; omega) ?_
     refine AZ.gx rfl ?_
     refine AZ.eq 94 (av' := cv (decide (((l.getD i default).syms.getD k default).bind = 1)) (.rd 1 ((dropR l i).map bA))) (by rw [dropF_get hi]) ?_
     refine AZ.gxcall1 rfl Tryz.func29 rfl rfl (fun hgd => names_defines ((l.getD i default).syms.getD k default) (dropR l i) ⟨by rw [hrl]; exact (hw.sym i k hi hk2).2.1, (hw.sym i k hi hk2).2.2, by rw [hrl]; omega⟩) ?_
     refine AZ.gx rfl ?_
     iterate 2 refine AZ.c rfl ?_
     iterate 2 refine AZ.gx rfl ?_
     refine AZ.c rfl ?_
     refine AZ.done ?_
     refine SQ.normal ?_
     refine AW.iteB (GL.ev _) (fun h6 => ?_) (fun h6 => ?_)
     ·
      have hund : undE l := ⟨i, k, hi, hk2, h6⟩
      refine AW.seq' ?_
      refine AW.region ?_
      iterate 2 refine AO.c ?_
      refine AO.sst ?_
      refine AO.c ?_
      refine AO.nil ?_
      refine SQ.normal ?_
      refine AW.ret ?_
      refine BQ.ret <| SQ.ret <| AW.out <| LU.ret <| BQ.ret <| BQ.ret <| SQ.ret <| AW.out <| LU.ret <| BQ.ret <| SQ.ret ?_
      refine Fin.ret (Gh.tellC 0 [.rd 1 (([] : List (List Bool)).map drA), .rd 3 (([] : List DefD).map defA)]) noid2 ?_
      exact .inr (.inr (.inl ⟨hmay, hndup, hund, rfl⟩))
     ·
      have hun : undAt l i k = false := h6
      refine AW.skip ?_
      refine BQ.normal ?_
      refine SQ.normal ?_
      refine AW.region ?_
      refine AO.oo ?_
      refine AO.c ?_
      refine AO.nil ?_
      have hal : ∀ q, q < k + 1 → undAt l i q = false := fun q hq => by
       by_cases e : q = k
       · rw [e]; exact hun
       · exact hw2 q (by omega)
      exact AW.backE [.f, .f, .k, .f, .f, .k, .f, .f, .f, .f, .k, .F, .F, .F, .F, .F, .F, .f, .f, .f, .f, .f, .k, .k, .k, .f, .f, .f, .f, .f, .k, .k, .k, .F, .F, .F, .F] (j4) (m3 - 1) (k + 1, j4 + 2) (by omega) (by (try dsimp only); exact ⟨by omega, hal⟩) (by first | rfl | (simp; done)) (by first | rfl | (simp; done))
    ·
     rw [decide_eq_false_iff_not] at h5
     have hk2 : k = (l.getD i default).syms.length := by omega
     subst hk2
     have hnx : ∀ a k, a < i + 1 → k < (l.getD a default).syms.length → undAt l a k = false := fun a k g1 g2 => by
      by_cases e : a = i
      · subst e; exact hw2 k g2
      · exact hz2 a k (by omega) g2
     refine AW.exit ?_
     refine SQ.exit <| AW.out <| LU.exit <| BQ.exit ?_
     refine BQ.normal ?_
     refine SQ.normal ?_
     refine AW.region ?_
     refine AO.oo ?_
     refine AO.c ?_
     refine AO.nil ?_
     exact AW.backE [.f, .f, .k, .f, .f, .k, .F, .F, .F, .F, .F, .F, .F, .f, .f, .k, .k, .k, .F, .F, .F, .F, .F] (j3) (m2 - 1) (i + 1, j3 + (1 + j4)) (by omega) (by (try dsimp only); exact ⟨by omega, hnx⟩) (by first | rfl | (simp; done)) ((Hn_repJ (b := j3 + (1 + j4)) (by first | (simp; done) | (simp; omega))).trans (by (try dsimp only) <;> rfl))
   ·
    rw [decide_eq_false_iff_not] at h4
    have hi : i = l.length := by omega
    subst hi
    have hnund : ¬ undE l := fun ⟨a, k, h1, h2, h3⟩ => by rw [hz2 a k h1 h2] at h3; cases h3
    refine AW.exit ?_
    refine SQ.exit <| AW.out <| LU.exit <| BQ.exit ?_
    refine SQ.normal ?_
    refine AW.seq' ?_
    refine AW.region ?_
    refine AO.c ?_
    refine AO.sst ?_
    refine AO.c ?_
    refine AO.nil ?_
    refine SQ.normal ?_
    refine AW.ret ?_
    refine Fin.ret (Gh.refl) noid2 ?_
    exact .inr (.inr (.inr ⟨hmay, hndup, hnund, rfl⟩))
end Go.Proofs.YtiomdnmicagdcaaGreat.AL
namespace Go.Proofs.YtiomdnmicagdcaaGreat.AL
open Go Go.RowKit Go.Proofs.YtiomdnmicagdcaaGreat.Base
set_option linter.unusedVariables false
set_option linter.unusedSimpArgs false
set_option maxRecDepth 4000
set_option synthInstance.maxSize 1000
set_option synthInstance.maxHeartbeats 200000
theorem ahB_iff {l : List ObjD} {i k : Nat} : ahB l i k = true ↔ gNk l i k ∈ gBef l i k := by
 unfold ahB cntB
 rw [decide_eq_true_eq, List.countP_pos_iff]
 simp
theorem gBef_mem {l : List ObjD} {a q i k : Nat} (hi : i < l.length) (hq : q < (l.getD a default).groups.length) (h : a < i ∨ (a = i ∧ q < k)) : gNk l a q ∈ gBef l i k := by
 unfold gBef
 have hg : gNk l a q ∈ gNmL (l.getD a default) := by
  unfold gNmL gNk
  rw [List.mem_map]
  exact ⟨_, getD_in hq, rfl⟩
 rcases h with h | ⟨rfl, h⟩
 · refine List.mem_append_left _ (List.mem_flatMap.2 ⟨l.getD a default, ?_, hg⟩)
   rw [List.mem_take_iff_getElem]
   refine ⟨a, by omega, ?_⟩
   rw [List.getD_eq_getElem?_getD, List.getElem?_eq_getElem (by omega)]; rfl
 · refine List.mem_append_right _ ?_
   have h1 := gN_get (l := l) (i := a) hq
   have h2 : gNk l a q ∈ (gNmL (l.getD a default)).take (q + 1) := by rw [h1]; simp
   rw [List.mem_take_iff_getElem] at h2 ⊢
   obtain ⟨j, hj, h2⟩ := h2
   exact ⟨j, by omega, h2⟩
def dRk (l : List ObjD) (i : Nat) : Nat → List Bool
 | 0 => List.replicate (l.getD i default).secs.length false
 | k + 1 => if ahB l i k = true then memSet true (dRk l i k) ((l.getD i default).groups.getD k default).mem else dRk l i k
/-- The document's sections that are dropped. -/
def dRf (l : List ObjD) (i : Nat) : List Bool := dRk l i (l.getD i default).groups.length
theorem dRk_len (l : List ObjD) (i : Nat) : ∀ k, (dRk l i k).length = (l.getD i default).secs.length := by
 intro k
 induction k with
 | zero => simp [dRk]
 | succ k ih => rw [dRk]; split; rw [memSet_len, ih]; exact ih
theorem dRk_yes {l : List ObjD} {i k : Nat} (h : ahB l i k = true) : dRk l i (k + 1) = memSet true (dRk l i k) ((l.getD i default).groups.getD k default).mem := by rw [dRk, if_pos h]
theorem dRk_no {l : List ObjD} {i k : Nat} (h : ahB l i k = false) : dRk l i (k + 1) = dRk l i k := by rw [dRk, if_neg (by rw [h]; decide)]
set_option maxHeartbeats 4000000 in
theorem ref_ahead (l : List ObjD) (hw : GrpW l) (i k : Nat) (hi : i < l.length) (hk : k < (l.getD i default).groups.length) : A0 Tryz.prog 70 [.rd 5 (l.map objA), .v (.int .i64 ((i : Int))), .v (.int .i64 ((k : Int)))] (fun ret => ret = .v (.bool (ahB l i k))) := by
 have hmy := hw.many
 have hgi := hw.grps i hi
 have hsi := hw.sym i k hi hk
 refine A0.body 69 Tryz.func70 rfl rfl Tryz.ntmps70 fun base n0 => ?_
 refine AW.seq' ?_
 refine AW.region ?_
 refine AO.c ?_
 refine AO.nil ?_
 refine SQ.normal ?_
 refine AW.seq' ?_
 refine AW.drawsZ [] (.one 0 false (.one 1 false (.one 2 false (.one 3 false (.one 4 false (.one 5 false (.one 6 false (.one 7 false (.one 8 false (.one 9 false (.one 10 false (.one 11 false (.one 12 false (.one 13 false (.one 14 false (.one 15 false (.one 16 false (.one 17 false .nil)))))))))))))))))) (by kernel_rfl) rfl (by kernel_rfl) ?_
 iterate 2 refine AZ.c rfl ?_
 refine AZ.oo rfl ?_
 iterate 4 refine AZ.c rfl ?_
 refine AZ.oo rfl ?_
 iterate 3 refine AZ.c rfl ?_
 refine AZ.oo rfl ?_
 iterate 2 refine AZ.c rfl ?_
 refine AZ.oo rfl ?_
 iterate 3 refine AZ.c rfl ?_
 refine AZ.done ?_
 refine SQ.normal ?_
 refine AW.seq' ?_
 refine AW.seq' ?_
 refine AW.region ?_
 refine AO.c ?_
 refine AO.nil ?_
 refine SQ.normal ?_
 refine AW.block' ?_
 refine AW.loopU [.k, .k, .k, .f, .f, .f, .f, .k, .k, .F, .F, .F, .F, .F, .F, .F, .f, .f, .f, .f] (fun (a : Nat) => [(8, .v (.int .i64 ((a : Int))))]) (fun a => Hn n0 []) (fun m a => (a ≤ i + 1 ∧ m = i + 1 - a) ∧ ((a ≤ i ∧ gNk l i k ∉ gBef l a 0) ∨ (a = i + 1 ∧ gNk l i k ∉ gBef l i k))) (i + 1) (0) ⟨by omega, .inl ⟨by omega, by simp [gBef]⟩⟩ (by first | rfl | (simp; done)) (by first | rfl | (simp; done)) ?_
 rintro m0 a ⟨hx1, hx2⟩
 refine AW.seq' ?_
 refine AW.seq' ?_
 refine AW.region ?_
 iterate 3 refine AO.c ?_
 refine AO.nil ?_
 refine SQ.normal ?_
 refine AW.iteB (GL.ev _) (fun h0 => ?_) (fun h0 => ?_)
 ·
  rw [decide_eq_true_eq] at h0
  have hai : a ≤ i := by omega
  have hga : gNk l i k ∉ gBef l a 0 := by
   rcases hx2 with ⟨_, c⟩ | ⟨c, _⟩
   · exact c
   · omega
  have hgr := hw.grps a (by omega)
  refine AW.skip ?_
  refine SQ.normal ?_
  refine AW.seq' ?_
  refine AW.block' ?_
  refine AW.seq' ?_
  refine AW.region ?_
  refine AO.c ?_
  refine AO.nil ?_
  refine SQ.normal ?_
  refine AW.block' ?_
  refine AW.loopU [.k, .k, .k, .f, .f, .f, .f, .k, .k, .k, .F, .F, .F, .F, .F, .F, .F, .f, .f, .f] (fun (q : Nat) => [(9, .v (.int .i64 ((q : Int))))]) (fun q => Hn n0 []) (fun m q => (q ≤ (l.getD a default).groups.length ∧ m = (l.getD a default).groups.length - q) ∧ gNk l i k ∉ gBef l a q ∧ (a = i → q ≤ k)) ((l.getD a default).groups.length) (0) ⟨by omega, hga, fun _ => by omega⟩ (by first | rfl | (simp; done)) (by first | rfl | (simp; done)) ?_
  rintro m1 q ⟨hy1, hy2, hy3⟩
  refine AW.seq' ?_
  refine AW.seq' ?_
  refine AW.region ?_
  iterate 3 refine AO.c ?_
  refine AO.oo ?_
  iterate 4 refine AO.c ?_
  refine AO.nil ?_
  refine SQ.normal ?_
  refine AW.iteB (GL.ev _) (fun h1 => ?_) (fun h1 => ?_)
  ·
   rw [decide_eq_true_eq] at h1
   have hq : q < (l.getD a default).groups.length := by omega
   have hsy := hw.sym a q (by omega) hq
   refine AW.skip ?_
   refine SQ.normal ?_
   refine AW.seq' ?_
   refine AW.block' ?_
   refine AW.seq' ?_
   refine AW.seq' ?_
   refine AW.region ?_
   iterate 4 refine AO.c ?_
   iterate 3 refine AO.gx ?_
   refine AO.c ?_
   refine AO.nil ?_
   refine SQ.normal ?_
   refine AW.iteB (GL.ev _) (fun h2 => ?_) (fun h2 => ?_)
   ·
    simp only [Bool.and_eq_true, decide_eq_true_eq] at h2
    have e : a = i := by omega
    have hbr : gNk l i k ∉ gBef l i k := by
     have e2 : q = k := by have := hy3 e; omega
     rw [e, e2] at hy2
     exact hy2
    refine AW.exit ?_
    refine SQ.exit <| BQ.exit' rfl <| SQ.exit <| AW.out <| LU.exit <| BQ.exit ?_
    refine BQ.normal ?_
    refine SQ.normal ?_
    refine AW.region ?_
    refine AO.c ?_
    refine AO.oo ?_
    refine AO.c ?_
    refine AO.nil ?_
    exact AW.backU [.k, .k, .k, .f, .f, .f, .f, .k, .k, .F, .F, .F, .F, .F, .F, .F, .f, .f, .f, .f] (m0 - 1) (a + 1) (by omega) (by (try dsimp only); exact ⟨by omega, .inr ⟨by omega, hbr⟩⟩) (by first | rfl | (simp; done)) (by first | rfl | (simp; done))
   ·
    simp only [Bool.and_eq_false_iff, decide_eq_false_iff_not] at h2
    have hbef : a < i ∨ (a = i ∧ q < k) := by omega
    refine AW.skip ?_
    refine SQ.normal ?_
    refine AW.seq' ?_
    refine AW.drawsZ [] (.one 0 false (.one 1 false (.one 2 false (.one 3 false (.one 4 false (.one 5 false (.one 6 false (.one 7 false (.one 8 false (.one 9 false (.one 10 false (.one 11 false (.one 12 false (.one 13 false (.one 14 false (.one 15 false (.one 16 false (.one 17 false (.one 18 false .nil))))))))))))))))))) (by kernel_rfl) rfl (by kernel_rfl) ?_
    iterate 2 refine AZ.c rfl ?_
    refine AZ.oo rfl ?_
    iterate 4 refine AZ.c rfl ?_
    refine AZ.oo rfl ?_
    iterate 3 refine AZ.c rfl ?_
    refine AZ.oo rfl ?_
    iterate 2 refine AZ.c rfl ?_
    refine AZ.oo rfl ?_
    iterate 4 refine AZ.c rfl ?_
    refine AZ.done ?_
    refine SQ.normal ?_
    refine AW.iteB (GL.ev _) (fun h3 => ?_) (fun h3 => ?_)
    ·
     rw [decide_eq_true_eq, ba_eq] at h3
     have hah : ahB l i k = true := ahB_iff.2 (by
      have := gBef_mem (k := k) hi hq hbef
      rw [show gNk l a q = gNk l i k from h3] at this
      exact this)
     refine AW.seq' ?_
     refine AW.region ?_
     refine AO.c ?_
     refine AO.nil ?_
     refine SQ.normal ?_
     refine AW.ret ?_
     refine BQ.ret <| SQ.ret <| AW.out <| LU.ret <| BQ.ret <| BQ.ret <| SQ.ret <| AW.out <| LU.ret <| BQ.ret <| SQ.ret ?_
     refine Fin.ret (Gh.refl) noid1 ?_
     rw [hah]; rfl
    ·
     rw [decide_eq_false_iff_not, ba_eq] at h3
     have hal : gNk l i k ∉ gBef l a (q + 1) := by
      rw [gBef_succ hq, List.mem_append, List.mem_singleton]
      rintro (c | c)
      · exact hy2 c
      · exact h3 c.symm
     refine AW.skip ?_
     refine BQ.normal ?_
     refine SQ.normal ?_
     refine AW.region ?_
     refine AO.c ?_
     refine AO.oo ?_
     refine AO.c ?_
     refine AO.nil ?_
     exact AW.backU [.k, .k, .k, .f, .f, .f, .f, .k, .k, .k, .F, .F, .F, .F, .F, .F, .F, .f, .f, .f] (m1 - 1) (q + 1) (by omega) (by (try dsimp only); exact ⟨by omega, hal, fun e => by omega⟩) (by first | rfl | (simp; done)) (by first | rfl | (simp; done))
  ·
   rw [decide_eq_false_iff_not] at h1
   have hq : q = (l.getD a default).groups.length := by omega
   subst hq
   have hlt : a < i := by
    rcases Nat.lt_or_ge a i with c | c
    · exact c
    · have e : a = i := by omega
      have := hy3 e
      subst e; omega
   have hnx : (a + 1 ≤ i ∧ gNk l i k ∉ gBef l (a + 1) 0) ∨ (a + 1 = i + 1 ∧ gNk l i k ∉ gBef l i k) := .inl ⟨by omega, by rw [gBef_next (by omega)]; exact hy2⟩
   refine AW.exit ?_
   refine SQ.exit <| AW.out <| LU.exit <| BQ.exit ?_
   refine BQ.normal ?_
   refine SQ.normal ?_
   refine AW.region ?_
   refine AO.c ?_
   refine AO.oo ?_
   refine AO.c ?_
   refine AO.nil ?_
   exact AW.backU [.k, .k, .k, .f, .f, .f, .f, .k, .k, .F, .F, .F, .F, .F, .F, .F, .f, .f, .f, .f] (m0 - 1) (a + 1) (by omega) (by (try dsimp only); exact ⟨by omega, hnx⟩) (by first | rfl | (simp; done)) (by first | rfl | (simp; done))
 ·
  rw [decide_eq_false_iff_not] at h0
  have hno : gNk l i k ∉ gBef l i k := by
   rcases hx2 with ⟨c, _⟩ | ⟨_, c⟩
   · omega
   · exact c
  have hah : ahB l i k = false := by
   cases hc : ahB l i k with
   | false => rfl
   | true => exact absurd (ahB_iff.1 hc) hno
  refine AW.exit ?_
  refine SQ.exit <| AW.out <| LU.exit <| BQ.exit ?_
  refine SQ.normal ?_
  refine AW.seq' ?_
  refine AW.region ?_
  refine AO.c ?_
  refine AO.nil ?_
  refine SQ.normal ?_
  refine AW.ret ?_
  refine Fin.ret (Gh.refl) noid1 ?_
  rw [hah]; rfl
set_option maxHeartbeats 4000000 in
theorem ref_Dropped (l : List ObjD) (hw : GrpW l) (i : Nat) (hi : i < l.length) : A0 Tryz.prog 32 [.rd 5 (l.map objA), .v (.int .i64 ((i : Int)))] (fun ret => ret = .rd 1 ((dRf l i).map bA)) := by
 have hmy := hw.many
 have hgr := hw.grps i hi
 refine A0.body 53 Tryz.func32 rfl rfl Tryz.ntmps32 fun base n0 => ?_
 refine AW.seq' ?_
 refine AW.region ?_
 refine AO.c ?_
 refine AO.nil ?_
 refine SQ.normal ?_
 refine AW.seq' ?_
 refine AW.region ?_
 iterate 2 refine AO.c ?_
 refine AO.oo ?_
 iterate 3 refine AO.c ?_
 refine AO.ww ?_
 refine AO.c ?_
 refine AO.nil ?_
 refine SQ.normal ?_
 refine AW.seq' ?_
 refine AW.seq' ?_
 refine AW.region ?_
 refine AO.c ?_
 refine AO.nil ?_
 refine SQ.normal ?_
 refine AW.block' ?_
 refine AW.loopU [.k, .k, .f, .f, .f, .k, .k, .F, .F, .F, .F, .F, .f, .f, .f, .f, .f, .f] (fun (k : Nat) => [(6, .v (.int .i64 ((k : Int))))]) (fun k => Hn n0 [some (.row 4 1 0 ((dRk l i k).map bA))]) (fun m k => k ≤ (l.getD i default).groups.length ∧ m = (l.getD i default).groups.length - k) ((l.getD i default).groups.length) (0) ⟨by omega, by omega⟩ (by first | rfl | (simp; done)) (by simp [dRk]) ?_
 rintro m0 k ⟨hx1, hx2⟩
 refine AW.seq' ?_
 refine AW.seq' ?_
 refine AW.region ?_
 iterate 3 refine AO.c ?_
 refine AO.oo ?_
 iterate 4 refine AO.c ?_
 refine AO.nil ?_
 refine SQ.normal ?_
 refine AW.iteB (GL.ev _) (fun h0 => ?_) (fun h0 => ?_)
 ·
  rw [decide_eq_true_eq] at h0
  have hk : k < (l.getD i default).groups.length := by omega
  have hmm := hw.mem i k hi hk
  have hdk := dRk_len l i k
  refine AW.skip ?_
  refine SQ.normal ?_
  refine AW.seq' ?_
  refine AW.block' ?_
  refine AW.seq' ?_
  refine AW.region ?_
  iterate 3 refine AO.c ?_
  refine AO.call1 Tryz.func70 rfl rfl (ref_ahead l hw i k hi hk) ?_
  refine AO.nil ?_
  refine SQ.normal ?_
  refine AW.iteB (GL.ev _) (fun h1 => ?_) (fun h1 => ?_)
  ·
   skip
   refine AW.seq' ?_
   refine AW.region ?_
   iterate 2 refine AO.c ?_
   refine AO.oo ?_
   iterate 3 refine AO.c ?_
   refine AO.oo ?_
   iterate 3 refine AO.c ?_
   refine AO.nil ?_
   refine SQ.normal ?_
   refine AW.seq' ?_
   refine AW.region ?_
   refine AO.c ?_
   refine AO.nil ?_
   refine SQ.normal ?_
   refine AW.block' ?_
   refine AW.loopU [.k, .k, .f, .f, .f, .k, .k, .k, .k, .F, .F, .F, .F, .F, .f, .f, .f, .f] (fun (q : Nat) => [(8, .v (.int .i64 ((q : Int))))]) (fun q => Hn n0 [some (.row 4 1 0 ((memSet true (dRk l i k) (((l.getD i default).groups.getD k default).mem.take q)).map bA))]) (fun m q => q ≤ ((l.getD i default).groups.getD k default).mem.length ∧ m = ((l.getD i default).groups.getD k default).mem.length - q) (((l.getD i default).groups.getD k default).mem.length) (0) ⟨by omega, by omega⟩ (by first | rfl | (simp; done)) (by simp [memSet]) ?_
   rintro m1 q ⟨hy1, hy2⟩
   refine AW.seq' ?_
   refine AW.seq' ?_
   refine AW.region ?_
   iterate 4 refine AO.c ?_
   refine AO.nil ?_
   refine SQ.normal ?_
   refine AW.iteB (GL.ev _) (fun h2 => ?_) (fun h2 => ?_)
   ·
    rw [decide_eq_true_eq] at h2
    have hq : q < ((l.getD i default).groups.getD k default).mem.length := by omega
    have hn := hmm.2 q hq
    have hml := memSet_len true (((l.getD i default).groups.getD k default).mem.take q) (dRk l i k)
    refine AW.skip ?_
    refine SQ.normal ?_
    refine AW.seq' ?_
    refine AW.block' ?_
    refine AW.region ?_
    iterate 3 refine AO.c ?_
    refine AO.oo ?_
    refine AO.c ?_
    refine AO.oo ?_
    refine AO.o (by omega) ?_
    refine AO.sst ?_
    refine AO.nil ?_
    refine BQ.normal ?_
    refine SQ.normal ?_
    refine AW.region ?_
    refine AO.c ?_
    refine AO.oo ?_
    refine AO.c ?_
    refine AO.nil ?_
    exact AW.backU [.k, .k, .f, .f, .f, .k, .k, .k, .k, .F, .F, .F, .F, .F, .f, .f, .f, .f] (m1 - 1) (q + 1) (by omega) (by (try dsimp only); exact ⟨by omega, by omega⟩) (by first | rfl | (simp; done)) (by (try dsimp only); rw [memSet_snoc _ _ hq, Nat.zero_add])
   ·
    rw [decide_eq_false_iff_not] at h2
    have hq : q = ((l.getD i default).groups.getD k default).mem.length := by omega
    subst hq
    rw [List.take_length]
    refine AW.exit ?_
    refine SQ.exit <| AW.out <| LU.exit <| BQ.exit ?_
    refine BQ.normal ?_
    refine SQ.normal ?_
    refine AW.region ?_
    refine AO.c ?_
    refine AO.oo ?_
    refine AO.c ?_
    refine AO.nil ?_
    exact AW.backU [.k, .k, .f, .f, .f, .k, .k, .F, .F, .F, .F, .F, .f, .f, .f, .f, .f, .f] (m0 - 1) (k + 1) (by omega) (by (try dsimp only); exact ⟨by omega, by omega⟩) (by first | rfl | (simp; done)) (by (try dsimp only); rw [dRk_yes h1])
  ·
   skip
   refine AW.skip ?_
   refine BQ.normal ?_
   refine SQ.normal ?_
   refine AW.region ?_
   refine AO.c ?_
   refine AO.oo ?_
   refine AO.c ?_
   refine AO.nil ?_
   exact AW.backU [.k, .k, .f, .f, .f, .k, .k, .F, .F, .F, .F, .F, .f, .f, .f, .f, .f, .f] (m0 - 1) (k + 1) (by omega) (by (try dsimp only); exact ⟨by omega, by omega⟩) (by first | rfl | (simp; done)) (by (try dsimp only); rw [dRk_no h1])
 ·
  rw [decide_eq_false_iff_not] at h0
  have hk : k = (l.getD i default).groups.length := by omega
  subst hk
  refine AW.exit ?_
  refine SQ.exit <| AW.out <| LU.exit <| BQ.exit ?_
  refine SQ.normal ?_
  refine AW.seq' ?_
  have hdl := dRk_len l i (l.getD i default).groups.length
  refine AW.ghost (Gh.freezeM 5 bA (dRf l i) rfl (by show (dRk l i _).length = _; omega) (by show (dRk l i _).length ≤ _; omega)) ?_
  refine AW.region ?_
  iterate 2 refine AO.c ?_
  refine AO.nil ?_
  refine SQ.normal ?_
  refine AW.ret ?_
  refine Fin.ret (Gh.refl) noid1 ?_
  first | rfl | (simp [packA]; done)
theorem ref_definesN (s : SymD) (dr : List Bool) (h : s.sec ≤ dr.length ∧ -1 ≤ s.sec ∧ dr.length ≤ 1000000) : A0 Tryz.prog 71 [.agg (symA s), .rd 1 (dr.map bA)] (fun ret => ret = .v (.bool (defB s dr))) := by
 refine A0.body 25 Tryz.func71 rfl rfl Tryz.ntmps71 fun base n0 => ?_
 refine AW.seq' ?_
 refine AW.region ?_
 refine AO.ww ?_
 refine AO.c ?_
 refine AO.nil ?_
 refine SQ.normal ?_
 refine AW.seq' ?_
 refine AW.seq' ?_
 refine AW.region ?_
 iterate 4 refine AO.c ?_
 iterate 3 refine AO.gx ?_
 refine AO.c ?_
 refine AO.nil ?_
 refine SQ.normal ?_
 refine AW.iteB (GL.ev _) (fun h0 => ?_) (fun h0 => ?_)
 ·
  try simp only [Bool.and_eq_true, Bool.or_eq_true, Bool.not_eq_true', Bool.and_eq_false_iff, Bool.or_eq_false_iff, decide_eq_true_eq, decide_eq_false_iff_not, bys_length] at h0
  refine AW.seq' ?_
  refine AW.region ?_
  refine AO.c ?_
  refine AO.nil ?_
  refine SQ.normal ?_
  refine AW.ret ?_
  refine SQ.ret ?_
  refine Fin.ret (Gh.refl) noid1 ?_
  show AV.v _ = AV.v _
  congr 2
  unfold defB
  rcases h0 with h0 | h0
  · simp [h0]
  · simp [h0]
 ·
  try simp only [Bool.and_eq_true, Bool.or_eq_true, Bool.not_eq_true', Bool.and_eq_false_iff, Bool.or_eq_false_iff, decide_eq_true_eq, decide_eq_false_iff_not, bys_length] at h0
  refine AW.skip ?_
  refine SQ.normal ?_
  refine AW.seq' ?_
  refine AW.region ?_
  iterate 4 refine AO.c ?_
  iterate 3 refine AO.gx ?_
  refine AO.gxo (fun _ => by omega) ?_
  refine AO.gxo (fun c => by simp at c; omega) ?_
  iterate 2 refine AO.gx ?_
  iterate 2 refine AO.c ?_
  refine AO.nil ?_
  refine SQ.normal ?_
  refine AW.ret ?_
  refine Fin.ret (Gh.refl) noid1 ?_
  show AV.v _ = AV.v _
  congr 2
  unfold defB
  by_cases c : s.sec = -1
  · simp [c, h0.1]
  · have c1 : ¬ s.sec < 0 := by omega
    have c2 : s.sec > 0 := by omega
    simp [c, c1, c2, h0.1]
end Go.Proofs.YtiomdnmicagdcaaGreat.AL
namespace Go.Proofs.YtiomdnmicagdcaaGreat.AL
open Go Go.RowKit Go.Proofs.YtiomdnmicagdcaaGreat.Base
set_option linter.unusedVariables false
set_option linter.unusedSimpArgs false
set_option maxRecDepth 4000
set_option synthInstance.maxSize 1000
set_option synthInstance.maxHeartbeats 200000
def isFst (l : List ObjD) (nm : ByteArray) (bd : Int) (i k : Nat) : Bool := defB ((l.getD i default).syms.getD k default) (dropR l i) && decide (((l.getD i default).syms.getD k default).name = nm) && decide (((l.getD i default).syms.getD k default).bind = bd)
def fK (l : List ObjD) (nm : ByteArray) (bd : Int) (i : Nat) (st : DefD × Int) : Nat → DefD × Int
 | 0 => st
 | k + 1 => if isFst l nm bd i k = true then (if (fK l nm bd i st k).2 = 0 then ⟨nm, (i : Int), (k : Int)⟩ else (fK l nm bd i st k).1, (fK l nm bd i st k).2 + 1) else fK l nm bd i st k
/-- The first symbol that defines a name with that Bind, and how many there are. -/
def fI (l : List ObjD) (nm : ByteArray) (bd : Int) : Nat → DefD × Int
 | 0 => (zDef, 0)
 | i + 1 => fK l nm bd i (fI l nm bd i) (l.getD i default).syms.length
def findR (l : List ObjD) (nm : ByteArray) : DefD × Bool :=
 if (fI l nm 1 l.length).2 > 0 then ((fI l nm 1 l.length).1, true) else ((fI l nm 2 l.length).1, decide ((fI l nm 2 l.length).2 > 0))
theorem fK_yes {l : List ObjD} {nm : ByteArray} {bd : Int} {i k : Nat} {st : DefD × Int} (h : isFst l nm bd i k = true) : fK l nm bd i st (k + 1) = (if (fK l nm bd i st k).2 = 0 then ⟨nm, (i : Int), (k : Int)⟩ else (fK l nm bd i st k).1, (fK l nm bd i st k).2 + 1) := by rw [fK, if_pos h]
theorem fK_no {l : List ObjD} {nm : ByteArray} {bd : Int} {i k : Nat} {st : DefD × Int} (h : isFst l nm bd i k = false) : fK l nm bd i st (k + 1) = fK l nm bd i st k := by rw [fK, if_neg (by rw [h]; decide)]
theorem fK_rng (l : List ObjD) (nm : ByteArray) (bd : Int) (i : Nat) (st : DefD × Int) (h : 0 ≤ st.2) : ∀ k : Nat, 0 ≤ (fK l nm bd i st k).2 ∧ (fK l nm bd i st k).2 ≤ st.2 + k := by
 intro k
 induction k with
 | zero => exact ⟨h, by show st.2 ≤ _; omega⟩
 | succ k ih =>
  rw [fK]
  split
  · show 0 ≤ (fK l nm bd i st k).2 + 1 ∧ (fK l nm bd i st k).2 + 1 ≤ _
    omega
  · omega
theorem fI_rng {l : List ObjD} (hw : ResW l) (nm : ByteArray) (bd : Int) : ∀ i : Nat, i ≤ l.length → 0 ≤ (fI l nm bd i).2 ∧ (fI l nm bd i).2 ≤ 128 * i := by
 intro i
 induction i with
 | zero => intro _; exact ⟨Int.le_refl _, by show (0 : Int) ≤ _; omega⟩
 | succ i ih =>
  intro hi
  have h1 := ih (by omega)
  have h2 := fK_rng l nm bd i (fI l nm bd i) h1.1 (l.getD i default).syms.length
  have h3 := (hw.sy i (by omega)).1
  rw [fI]; omega
/-- Definitions with one more, by rising names, if there is none of its name. -/
def putF (L : List DefD) (d : DefD) : List DefD := if ∃ x ∈ L, x.name = d.name then L else L.filter (fun x => sLt x.name d.name) ++ [d] ++ L.filter (fun x => sLt d.name x.name)
theorem filter_snoc {p : DefD → Bool} {L : List DefD} {i : Nat} (h : i < L.length) : (L.take (i + 1)).filter p = (L.take i).filter p ++ (if p (L.getD i default) = true then [L.getD i default] else []) := by
 rw [List.take_succ_eq_append_getElem h, List.filter_append, List.getD_eq_getElem?_getD, List.getElem?_eq_getElem h]
 congr 1
 simp only [List.filter_cons, List.filter_nil, Option.getD_some]
set_option maxHeartbeats 8000000 in
theorem ref_First (l : List ObjD) (hw : ResW l) (L : List DefD) (nm : ByteArray) (bd : Int) : A0 Tryz.prog 33 [.rd 5 (l.map objA), .agg (tabA ⟨dropF l l.length, L⟩), .v (.string nm), .v (.int .i64 (bd))] (fun ret => ret = .tup [.agg (defA (fI l nm bd l.length).1), .v (.int .i64 ((fI l nm bd l.length).2))]) := by
 have hl8 := hw.len
 refine A0.body 72 Tryz.func33 rfl rfl Tryz.ntmps33 fun base n0 => ?_
 refine AW.seq' ?_
 refine AW.region ?_
 iterate 2 refine AO.ww ?_
 refine AO.c ?_
 refine AO.nil ?_
 refine SQ.normal ?_
 refine AW.seq' ?_
 refine AW.region ?_
 refine AO.c ?_
 refine AO.ww ?_
 refine AO.sst ?_
 refine AO.nil ?_
 refine SQ.normal ?_
 refine AW.seq' ?_
 refine AW.region ?_
 refine AO.c ?_
 refine AO.nil ?_
 refine SQ.normal ?_
 refine AW.seq' ?_
 refine AW.seq' ?_
 refine AW.region ?_
 refine AO.c ?_
 refine AO.nil ?_
 refine SQ.normal ?_
 refine AW.block' ?_
 refine AW.loopU2 [.k, .f, .k, .k, .f, .k, .f, .f, .k, .f, .k, .k, .k, .F, .F, .F, .F, .F, .F, .F, .f, .f, .f] (fun (i j : Nat) => [(11, .v (.int .i64 ((fI l nm bd i).2))), (12, .v (.int .i64 ((i : Int))))]) (fun i j => Hn n0 (([some (.box 35 (tabA ⟨dropF l l.length, L⟩)), some (.box 44 (defA zDef)), some (.box 44 (defA (fI l nm bd i).1))] ++ List.replicate j none) ++ [])) (fun m i j => i ≤ l.length ∧ m = l.length - i) (l.length) (0) (0) ⟨by omega, by omega⟩ (by first | rfl | (simp; done)) (by first | rfl | (simp; done)) ?_
 rintro m0 i j ⟨hx1, hx2⟩
 refine AW.seq' ?_
 refine AW.seq' ?_
 refine AW.region ?_
 iterate 4 refine AO.c ?_
 refine AO.nil ?_
 refine SQ.normal ?_
 refine AW.iteB (GL.ev _) (fun h0 => ?_) (fun h0 => ?_)
 ·
  rw [decide_eq_true_eq] at h0
  have hi : i < l.length := by omega
  have hrl := dropR_len l i
  have hsy := hw.sy i hi
  have hfr := fI_rng hw nm bd i (by omega)
  refine AW.skip ?_
  refine SQ.normal ?_
  refine AW.seq' ?_
  refine AW.block' ?_
  refine AW.seq' ?_
  refine AW.region ?_
  refine AO.c ?_
  refine AO.nil ?_
  refine SQ.normal ?_
  refine AW.block' ?_
  refine AW.loopU2 [.k, .f, .k, .k, .f, .k, .f, .f, .k, .f, .k, .k, .k, .k, .F, .F, .F, .F, .F, .F, .F, .f, .f] (fun (k j2 : Nat) => [(11, .v (.int .i64 ((fK l nm bd i (fI l nm bd i) k).2))), (13, .v (.int .i64 ((k : Int))))]) (fun k j2 => Hn n0 ((([some (.box 35 (tabA ⟨dropF l l.length, L⟩)), some (.box 44 (defA zDef)), some (.box 44 (defA (fK l nm bd i (fI l nm bd i) k).1))] ++ List.replicate j none) ++ List.replicate j2 none) ++ [])) (fun m k j2 => k ≤ (l.getD i default).syms.length ∧ m = (l.getD i default).syms.length - k) ((l.getD i default).syms.length) (0) (0) ⟨by omega, by omega⟩ (by first | rfl | (simp; done)) (by simp [fK]) ?_
  rintro m1 k j2 ⟨hy1, hy2⟩
  refine AW.seq' ?_
  refine AW.seq' ?_
  refine AW.region ?_
  iterate 3 refine AO.c ?_
  refine AO.oo ?_
  iterate 4 refine AO.c ?_
  refine AO.nil ?_
  refine SQ.normal ?_
  refine AW.iteB (GL.ev _) (fun h1 => ?_) (fun h1 => ?_)
  ·
   rw [decide_eq_true_eq] at h1
   have hk : k < (l.getD i default).syms.length := by omega
   have hkr := fK_rng l nm bd i (fI l nm bd i) hfr.1 k
   refine AW.skip ?_
   refine SQ.normal ?_
   refine AW.seq' ?_
   refine AW.block' ?_
   refine AW.seq' ?_
   refine AW.region ?_
   iterate 2 refine AO.c ?_
   refine AO.oo ?_
   iterate 3 refine AO.c ?_
   refine AO.oo ?_
   refine AO.c ?_
   refine AO.ww ?_
   refine AO.sst ?_
   refine AO.nil ?_
   refine SQ.normal ?_
   refine AW.seq' ?_
   refine AW.drawsZ [] (.one 0 false (.one 1 false (.one 2 false (.one 3 false (.one 4 false (.one 5 false (.one 6 true (.one 7 false .nil)))))))) (by kernel_rfl) rfl (by kernel_rfl) ?_
   iterate 4 refine AZ.c rfl ?_
   refine AZ.o rfl (by rw [dropF_len]; omega) ?_
   refine AZ.c rfl ?_
   refine AZ.eq 46 (av' := .rd 1 ((dropR l i).map bA)) (by rw [dropF_get hi]) ?_
   refine AZ.call1 rfl Tryz.func71 rfl rfl (ref_definesN ((l.getD i default).syms.getD k default) (dropR l i) ⟨by rw [hrl]; exact (hw.sym i k hi hk).2.1, (hw.sym i k hi hk).2.2, by rw [hrl]; omega⟩) ?_
   refine AZ.c rfl ?_
   refine AZ.done ?_
   refine SQ.normal ?_
   refine AW.seq' ?_
   refine AW.seq' ?_
   refine AW.region ?_
   iterate 3 refine AO.c ?_
   iterate 4 refine AO.gx ?_
   iterate 2 refine AO.c ?_
   iterate 4 refine AO.gx ?_
   refine AO.c ?_
   refine AO.nil ?_
   refine SQ.normal ?_
   refine AW.iteB (GL.ev _) (fun h2 => ?_) (fun h2 => ?_)
   ·
    have hf : isFst l nm bd i k = false := by
     unfold isFst
     simp only [Bool.or_eq_true, Bool.not_eq_true', decide_eq_true_eq, ne_eq, ba_eq] at h2
     rcases h2 with (h2 | h2) | h2
     · rw [h2]; rfl
     · rw [decide_eq_false h2, Bool.and_false]; rfl
     · rw [decide_eq_false h2, Bool.and_false]
    refine AW.exit ?_
    refine SQ.exit <| BQ.exit ?_
    refine SQ.normal ?_
    refine AW.region ?_
    refine AO.c ?_
    refine AO.oo ?_
    refine AO.c ?_
    refine AO.nil ?_
    exact AW.backE [.k, .f, .k, .k, .f, .k, .f, .f, .k, .f, .k, .k, .k, .k, .F, .F, .F, .F, .F, .F, .F, .f, .f] (j2) (m1 - 1) (k + 1, j2 + 1) (by omega) (by (try dsimp only); exact ⟨by omega, by omega⟩) (by first | ((try dsimp only); rw [fK_no hf]; done) | ((try dsimp only); rw [fK_no hf]; rfl)) (by first | ((try dsimp only); rw [fK_no hf]; done) | ((try dsimp only); rw [fK_no hf]; rfl))
   ·
    have hf : isFst l nm bd i k = true := by
     unfold isFst
     simp only [Bool.or_eq_false_iff, Bool.not_eq_false', decide_eq_false_iff_not, ne_eq, Decidable.not_not, ba_eq] at h2
     rw [h2.1.1, decide_eq_true h2.1.2, decide_eq_true h2.2]; rfl
    refine AW.skip ?_
    refine SQ.normal ?_
    refine AW.seq' ?_
    refine AW.seq' ?_
    refine AW.region ?_
    iterate 2 refine AO.c ?_
    refine AO.nil ?_
    refine SQ.normal ?_
    refine AW.iteB (GL.ev _) (fun h3 => ?_) (fun h3 => ?_)
    ·
     rw [decide_eq_true_eq] at h3
     refine AW.region ?_
     iterate 4 refine AO.c ?_
     refine AO.sst ?_
     refine AO.nil ?_
     refine SQ.normal ?_
     refine AW.region ?_
     refine AO.c ?_
     refine AO.oo ?_
     refine AO.c ?_
     refine AO.nil ?_
     refine BQ.normal ?_
     refine SQ.normal ?_
     refine AW.region ?_
     refine AO.c ?_
     refine AO.oo ?_
     refine AO.c ?_
     refine AO.nil ?_
     exact AW.backE [.k, .f, .k, .k, .f, .k, .f, .f, .k, .f, .k, .k, .k, .k, .F, .F, .F, .F, .F, .F, .F, .f, .f] (j2) (m1 - 1) (k + 1, j2 + 1) (by omega) (by (try dsimp only); exact ⟨by omega, by omega⟩) (by first | ((try dsimp only); rw [fK_yes hf]; done) | ((try dsimp only); rw [fK_yes hf]; rfl)) (by first | ((try dsimp only); rw [fK_yes hf, if_pos h3]; done) | ((try dsimp only); rw [fK_yes hf, if_pos h3]; rfl))
    ·
     rw [decide_eq_false_iff_not] at h3
     refine AW.skip ?_
     refine SQ.normal ?_
     refine AW.region ?_
     refine AO.c ?_
     refine AO.oo ?_
     refine AO.c ?_
     refine AO.nil ?_
     refine BQ.normal ?_
     refine SQ.normal ?_
     refine AW.region ?_
     refine AO.c ?_
     refine AO.oo ?_
     refine AO.c ?_
     refine AO.nil ?_
     exact AW.backE [.k, .f, .k, .k, .f, .k, .f, .f, .k, .f, .k, .k, .k, .k, .F, .F, .F, .F, .F, .F, .F, .f, .f] (j2) (m1 - 1) (k + 1, j2 + 1) (by omega) (by (try dsimp only); exact ⟨by omega, by omega⟩) (by first | ((try dsimp only); rw [fK_yes hf]; done) | ((try dsimp only); rw [fK_yes hf]; rfl)) (by first | ((try dsimp only); rw [fK_yes hf, if_neg h3]; done) | ((try dsimp only); rw [fK_yes hf, if_neg h3]; rfl))
  ·
   rw [decide_eq_false_iff_not] at h1
   have hk : k = (l.getD i default).syms.length := by omega
   subst hk
   refine AW.exit ?_
   refine SQ.exit <| AW.out <| LU.exit <| BQ.exit ?_
   refine BQ.normal ?_
   refine SQ.normal ?_
   refine AW.region ?_
   refine AO.c ?_
   refine AO.oo ?_
   refine AO.c ?_
   refine AO.nil ?_
   exact AW.backE [.k, .f, .k, .k, .f, .k, .f, .f, .k, .f, .k, .k, .k, .F, .F, .F, .F, .F, .F, .F, .f, .f, .f] (j) (m0 - 1) (i + 1, j + j2) (by omega) (by (try dsimp only); exact ⟨by omega, by omega⟩) (by first | rfl | (simp; done)) ((Hn_repJ (b := j + j2) (by first | (simp; done) | (simp; omega))).trans (by (try dsimp only) <;> rfl))
 ·
  rw [decide_eq_false_iff_not] at h0
  have hi : i = l.length := by omega
  subst hi
  refine AW.exit ?_
  refine SQ.exit <| AW.out <| LU.exit <| BQ.exit ?_
  refine SQ.normal ?_
  refine AW.seq' ?_
  refine AW.region ?_
  iterate 2 refine AO.c ?_
  refine AO.sst ?_
  refine AO.c ?_
  refine AO.nil ?_
  refine SQ.normal ?_
  refine AW.ret ?_
  refine Fin.ret (Gh.refl) noid2 ?_
  first | rfl | (simp [packA]; done)
set_option maxHeartbeats 4000000 in
theorem ref_FindN (l : List ObjD) (hw : ResW l) (L : List DefD) (nm : ByteArray) : A0 Tryz.prog 13 [.rd 5 (l.map objA), .agg (tabA ⟨dropF l l.length, L⟩), .v (.string nm)] (fun ret => ret = .tup [.agg (defA (findR l nm).1), .v (.bool (findR l nm).2)]) := by
 refine A0.body 30 Tryz.func13 rfl rfl Tryz.ntmps13 fun base n0 => ?_
 refine AW.seq' ?_
 refine AW.region ?_
 iterate 2 refine AO.ww ?_
 refine AO.c ?_
 refine AO.nil ?_
 refine SQ.normal ?_
 refine AW.seq' ?_
 refine AW.region ?_
 iterate 3 refine AO.c ?_
 refine AO.call1 Tryz.func33 rfl rfl (ref_First l hw L nm 1) ?_
 iterate 3 refine AO.c ?_
 refine AO.ww ?_
 refine AO.sst ?_
 refine AO.c ?_
 refine AO.nil ?_
 refine SQ.normal ?_
 refine AW.seq' ?_
 refine AW.seq' ?_
 refine AW.region ?_
 iterate 2 refine AO.c ?_
 refine AO.nil ?_
 refine SQ.normal ?_
 refine AW.iteB (GL.ev _) (fun h0 => ?_) (fun h0 => ?_)
 ·
  rw [decide_eq_true_eq] at h0
  have e : findR l nm = ((fI l nm 1 l.length).1, true) := by unfold findR; rw [if_pos h0]
  refine AW.seq' ?_
  refine AW.region ?_
  refine AO.c ?_
  refine AO.sst ?_
  refine AO.c ?_
  refine AO.nil ?_
  refine SQ.normal ?_
  refine AW.ret ?_
  refine SQ.ret ?_
  refine Fin.ret (Gh.refl) noid2 ?_
  rw [e]; rfl
 ·
  rw [decide_eq_false_iff_not] at h0
  have e : findR l nm = ((fI l nm 2 l.length).1, decide ((fI l nm 2 l.length).2 > 0)) := by unfold findR; rw [if_neg h0]
  refine AW.skip ?_
  refine SQ.normal ?_
  refine AW.seq' ?_
  refine AW.region ?_
  iterate 3 refine AO.c ?_
  refine AO.call1 Tryz.func33 rfl rfl (ref_First l hw L nm 2) ?_
  iterate 3 refine AO.c ?_
  refine AO.sst ?_
  refine AO.c ?_
  refine AO.nil ?_
  refine SQ.normal ?_
  refine AW.seq' ?_
  refine AW.region ?_
  iterate 3 refine AO.c ?_
  refine AO.sst ?_
  refine AO.c ?_
  refine AO.nil ?_
  refine SQ.normal ?_
  refine AW.ret ?_
  refine Fin.ret (Gh.refl) noid2 ?_
  rw [e]; rfl
set_option maxHeartbeats 4000000 in
theorem ref_put (L : List DefD) (d : DefD) (hL : L.length ≤ 1000000) : A0 Tryz.prog 34 [.rd 3 (L.map defA), .agg (defA d)] (fun ret => ret = .rd 3 ((putF L d).map defA)) := by
 refine A0.body 64 Tryz.func34 rfl rfl Tryz.ntmps34 fun base n0 => ?_
 refine AW.seq' ?_
 refine AW.region ?_
 refine AO.ww ?_
 refine AO.c ?_
 refine AO.nil ?_
 refine SQ.normal ?_
 refine AW.seq' ?_
 refine AW.region ?_
 refine AO.c ?_
 refine AO.nil ?_
 refine SQ.normal ?_
 refine AW.seq' ?_
 refine AW.seq' ?_
 refine AW.ghost (Gh.adoptM 5 44 3) ?_
 refine AW.region ?_
 refine AO.c ?_
 refine AO.nil ?_
 refine SQ.normal ?_
 refine AW.block' ?_
 refine AW.loopU2 [.k, .f, .f, .k, .f, .k, .k, .F, .F, .F, .F, .F, .F, .F, .f] (fun (i ep : Nat) => [(5, .own (n0 + 1) ep 0 ((L.take i).filter (fun x : DefD => sLt x.name d.name)).length), (6, .v (.int .i64 ((i : Int))))]) (fun i ep => Hn n0 [some (.box 44 (defA d)), some (.row 44 3 (ep) (((L.take i).filter (fun x : DefD => sLt x.name d.name)).map defA))]) (fun m i ep => (i ≤ L.length ∧ m = L.length - i) ∧ ∀ q, q < i → (L.getD q default).name ≠ d.name) (L.length) (0) (0) ⟨by omega, fun q h => by omega⟩ (by first | rfl | (simp; done)) (by first | rfl | (simp; done)) ?_
 rintro m0 i ep ⟨hx1, hx2⟩
 refine AW.seq' ?_
 refine AW.seq' ?_
 refine AW.region ?_
 iterate 4 refine AO.c ?_
 refine AO.nil ?_
 refine SQ.normal ?_
 refine AW.iteB (GL.ev _) (fun h0 => ?_) (fun h0 => ?_)
 ·
  rw [decide_eq_true_eq] at h0
  have hi : i < L.length := by omega
  have hfl := List.length_filter_le (fun x : DefD => sLt x.name d.name) (L.take i)
  rw [List.length_take] at hfl
  refine AW.skip ?_
  refine SQ.normal ?_
  refine AW.seq' ?_
  refine AW.block' ?_
  refine AW.seq' ?_
  refine AW.seq' ?_
  refine AW.drawsZ [] (.one 0 false (.one 1 false (.one 2 false (.one 3 false (.one 4 false (.one 5 false (.one 6 false (.one 7 false .nil)))))))) (by kernel_rfl) rfl (by kernel_rfl) ?_
  iterate 2 refine AZ.c rfl ?_
  refine AZ.oo rfl ?_
  iterate 5 refine AZ.c rfl ?_
  refine AZ.done ?_
  refine SQ.normal ?_
  refine AW.iteB (GL.ev _) (fun h1 => ?_) (fun h1 => ?_)
  ·
   rw [decide_eq_true_eq, ba_eq] at h1
   have hput : putF L d = L := by unfold putF; rw [if_pos ⟨L.getD i default, getD_in hi, h1⟩]
   refine AW.seq' ?_
   refine AW.region ?_
   iterate 2 refine AO.c ?_
   refine AO.nil ?_
   refine SQ.normal ?_
   refine AW.ret ?_
   refine SQ.ret <| BQ.ret <| SQ.ret <| AW.out <| LU.ret <| BQ.ret <| SQ.ret ?_
   refine Fin.ret (Gh.refl) noid1 ?_
   rw [hput]; rfl
  ·
   rw [decide_eq_false_iff_not, ba_eq] at h1
   have hal : ∀ q, q < i + 1 → (L.getD q default).name ≠ d.name := fun q hq => by
    by_cases e : q = i
    · rw [e]; exact h1
    · exact hx2 q (by omega)
   refine AW.skip ?_
   refine SQ.normal ?_
   refine AW.seq' ?_
   refine AW.drawsZ [] (.one 0 false (.one 1 false (.one 2 false (.one 3 false (.one 4 false (.one 5 false (.one 6 false (.one 7 false .nil)))))))) (by kernel_rfl) rfl (by kernel_rfl) ?_
   iterate 2 refine AZ.c rfl ?_
   refine AZ.oo rfl ?_
   iterate 5 refine AZ.c rfl ?_
   refine AZ.done ?_
   refine SQ.normal ?_
   refine AW.iteB (GL.ev _) (fun h2 => ?_) (fun h2 => ?_)
   ·
    skip
    refine AW.region ?_
    iterate 3 refine AO.c ?_
    refine AO.oo ?_
    refine AO.c ?_
    refine AO.rr ?_
    refine AO.ww ?_
    refine AO.c ?_
    refine AO.nil ?_
    refine BQ.normal ?_
    refine SQ.normal ?_
    refine AW.region ?_
    refine AO.c ?_
    refine AO.oo ?_
    refine AO.c ?_
    refine AO.nil ?_
    exact AW.backU [.k, .f, .f, .k, .f, .k, .k, .F, .F, .F, .F, .F, .F, .F, .f] (m0 - 1) (i + 1, ep + 1) (by omega) (by (try dsimp only); exact ⟨by omega, hal⟩) (by (try dsimp only); rw [filter_snoc hi, if_pos h2]; simp) (by first | ((try dsimp only); rw [filter_snoc hi, if_pos h2, List.map_append]; done) | ((try dsimp only); rw [filter_snoc hi, if_pos h2, List.map_append]; rfl))
   ·
    skip
    refine AW.skip ?_
    refine BQ.normal ?_
    refine SQ.normal ?_
    refine AW.region ?_
    refine AO.c ?_
    refine AO.oo ?_
    refine AO.c ?_
    refine AO.nil ?_
    exact AW.backU [.k, .f, .f, .k, .f, .k, .k, .F, .F, .F, .F, .F, .F, .F, .f] (m0 - 1) (i + 1, ep) (by omega) (by (try dsimp only); exact ⟨by omega, hal⟩) (by first | ((try dsimp only); rw [filter_snoc hi, if_neg (by rw [h2]; decide), List.append_nil]; done) | ((try dsimp only); rw [filter_snoc hi, if_neg (by rw [h2]; decide), List.append_nil]; rfl)) (by (try dsimp only); rw [filter_snoc hi, if_neg (by rw [h2]; decide), List.append_nil])
 ·
  rw [decide_eq_false_iff_not] at h0
  have hi : i = L.length := by omega
  subst hi
  rw [List.take_length]
  have hne : ¬ ∃ x ∈ L, x.name = d.name := by
   rintro ⟨x, hx, he⟩
   obtain ⟨q, hq, rfl⟩ := List.getElem_of_mem hx
   have := hx2 q hq
   rw [List.getD_eq_getElem?_getD, List.getElem?_eq_getElem hq] at this
   exact this he
  have hput : putF L d = L.filter (fun x : DefD => sLt x.name d.name) ++ [d] ++ L.filter (fun x : DefD => sLt d.name x.name) := by unfold putF; rw [if_neg hne]
  have hfl := List.length_filter_le (fun x : DefD => sLt x.name d.name) L
  refine AW.exit ?_
  refine SQ.exit <| AW.out <| LU.exit <| BQ.exit ?_
  refine SQ.normal ?_
  refine AW.seq' ?_
  refine AW.region ?_
  iterate 2 refine AO.c ?_
  refine AO.rr ?_
  refine AO.ww ?_
  refine AO.c ?_
  refine AO.nil ?_
  refine SQ.normal ?_
  refine AW.seq' ?_
  refine AW.seq' ?_
  refine AW.region ?_
  refine AO.c ?_
  refine AO.nil ?_
  refine SQ.normal ?_
  refine AW.block' ?_
  refine AW.loopU2 [.k, .f, .f, .k, .f, .k, .f, .k, .F, .F, .F, .F, .F, .F, .F] (fun (i e2 : Nat) => [(5, .own (n0 + 1) e2 0 (L.filter (fun x : DefD => sLt x.name d.name) ++ [d] ++ (L.take i).filter (fun x : DefD => sLt d.name x.name)).length), (7, .v (.int .i64 ((i : Int))))]) (fun i e2 => Hn n0 [some (.box 44 (defA d)), some (.row 44 3 (e2) ((L.filter (fun x : DefD => sLt x.name d.name) ++ [d] ++ (L.take i).filter (fun x : DefD => sLt d.name x.name)).map defA))]) (fun m i e2 => (i ≤ L.length ∧ m = L.length - i)) (L.length) (0) (ep + 1) ⟨by omega, by omega⟩ (by simp) (by simp) ?_
  rintro m1 i e2 ⟨hy1, hy2⟩
  refine AW.seq' ?_
  refine AW.seq' ?_
  refine AW.region ?_
  iterate 4 refine AO.c ?_
  refine AO.nil ?_
  refine SQ.normal ?_
  refine AW.iteB (GL.ev _) (fun h3 => ?_) (fun h3 => ?_)
  ·
   rw [decide_eq_true_eq] at h3
   have hi : i < L.length := by omega
   have hf2 := List.length_filter_le (fun x : DefD => sLt d.name x.name) (L.take i)
   rw [List.length_take] at hf2
   refine AW.skip ?_
   refine SQ.normal ?_
   refine AW.seq' ?_
   refine AW.block' ?_
   refine AW.seq' ?_
   refine AW.drawsZ [] (.one 0 false (.one 1 false (.one 2 false (.one 3 false (.one 4 false (.one 5 false (.one 6 false (.one 7 false .nil)))))))) (by kernel_rfl) rfl (by kernel_rfl) ?_
   iterate 2 refine AZ.c rfl ?_
   refine AZ.oo rfl ?_
   iterate 5 refine AZ.c rfl ?_
   refine AZ.done ?_
   refine SQ.normal ?_
   refine AW.iteB (GL.ev _) (fun h4 => ?_) (fun h4 => ?_)
   ·
    skip
    refine AW.region ?_
    iterate 3 refine AO.c ?_
    refine AO.oo ?_
    refine AO.c ?_
    refine AO.rr ?_
    refine AO.ww ?_
    refine AO.c ?_
    refine AO.nil ?_
    refine BQ.normal ?_
    refine SQ.normal ?_
    refine AW.region ?_
    refine AO.c ?_
    refine AO.oo ?_
    refine AO.c ?_
    refine AO.nil ?_
    exact AW.backU [.k, .f, .f, .k, .f, .k, .f, .k, .F, .F, .F, .F, .F, .F, .F] (m1 - 1) (i + 1, e2 + 1) (by omega) (by (try dsimp only); exact ⟨by omega, by omega⟩) (by first | ((try dsimp only); rw [filter_snoc hi, if_pos h4, ← List.append_assoc]; simp; done) | ((try dsimp only); rw [filter_snoc hi, if_pos h4, ← List.append_assoc]; simp; omega)) (by first | ((try dsimp only); rw [filter_snoc hi, if_pos h4, ← List.append_assoc, List.map_append (l₂ := [L.getD i default])]; done) | ((try dsimp only); rw [filter_snoc hi, if_pos h4, ← List.append_assoc, List.map_append (l₂ := [L.getD i default])]; rfl))
   ·
    skip
    refine AW.skip ?_
    refine BQ.normal ?_
    refine SQ.normal ?_
    refine AW.region ?_
    refine AO.c ?_
    refine AO.oo ?_
    refine AO.c ?_
    refine AO.nil ?_
    exact AW.backU [.k, .f, .f, .k, .f, .k, .f, .k, .F, .F, .F, .F, .F, .F, .F] (m1 - 1) (i + 1, e2) (by omega) (by (try dsimp only); exact ⟨by omega, by omega⟩) (by first | ((try dsimp only); rw [filter_snoc hi, if_neg (by rw [h4]; decide), List.append_nil]; done) | ((try dsimp only); rw [filter_snoc hi, if_neg (by rw [h4]; decide), List.append_nil]; rfl)) (by (try dsimp only); rw [filter_snoc hi, if_neg (by rw [h4]; decide), List.append_nil])
  ·
   rw [decide_eq_false_iff_not] at h3
   have hi : i = L.length := by omega
   subst hi
   rw [List.take_length]
   refine AW.exit ?_
   refine SQ.exit <| AW.out <| LU.exit <| BQ.exit ?_
   refine SQ.normal ?_
   refine AW.seq' ?_
   refine AW.ghost (Gh.freezeM 5 defA (putF L d) (by rw [hput]) (by rw [hput]) (by rw [hput]; have h1 := List.length_filter_le (fun x : DefD => sLt x.name d.name) L; have h2 := List.length_filter_le (fun x : DefD => sLt d.name x.name) L; simp only [List.length_append, List.length_cons, List.length_nil]; omega)) ?_
   refine AW.region ?_
   iterate 2 refine AO.c ?_
   refine AO.nil ?_
   refine SQ.normal ?_
   refine AW.ret ?_
   refine Fin.ret (Gh.refl) noid1 ?_
   rfl
end Go.Proofs.YtiomdnmicagdcaaGreat.AL
namespace Go.Proofs.YtiomdnmicagdcaaGreat.AL
open Go Go.RowKit Go.Proofs.YtiomdnmicagdcaaGreat.Base
set_option linter.unusedVariables false
set_option linter.unusedSimpArgs false
set_option maxRecDepth 4000
set_option synthInstance.maxSize 1000
set_option synthInstance.maxHeartbeats 200000
theorem set_get {r : List Bool} {p j : Nat} {b : Bool} : (r.set p b)[j]? = if p = j then (r[j]?).map (fun _ => b) else r[j]? := by
 by_cases e : p = j
 · subst e
   rw [if_pos rfl]
   by_cases hl : p < r.length
   · rw [List.getElem?_set_self hl, List.getElem?_eq_getElem hl]; rfl
   · rw [List.getElem?_eq_none (by rw [List.length_set]; omega), List.getElem?_eq_none (by omega)]; rfl
 · rw [List.getElem?_set_ne e, if_neg e]
theorem memSet_get (b : Bool) : ∀ (m : List Int) (r : List Bool) (j : Nat), (memSet b r m)[j]? = if ∃ n ∈ m, (n - 1).toNat = j then (r[j]?).map fun _ => b else r[j]? := by
 intro m
 induction m with
 | nil => intro r j; rw [if_neg (by rintro ⟨n, h, _⟩; cases h)]; rfl
 | cons x m ih =>
  intro r j
  show (memSet b (r.set (x - 1).toNat b) m)[j]? = _
  rw [ih, set_get]
  by_cases h : ∃ n ∈ m, (n - 1).toNat = j
  · rw [if_pos h, if_pos (show ∃ n ∈ x :: m, (n - 1).toNat = j from by obtain ⟨n, h1, h2⟩ := h; exact ⟨n, by simp [h1], h2⟩)]
    split
    · cases r[j]? <;> rfl
    · rfl
  · rw [if_neg h]
    by_cases e : (x - 1).toNat = j
    · rw [if_pos e, if_pos ⟨x, by simp, e⟩]
    · rw [if_neg e, if_neg]
      rintro ⟨n, h1, h2⟩
      rcases List.mem_cons.1 h1 with rfl | h1
      · exact e h2
      · exact h ⟨n, h1, h2⟩
theorem memSet_same {b : Bool} {m : List Int} {r : List Bool} (h : ∀ n ∈ m, r[(n - 1).toNat]? ≠ some (!b)) : memSet b r m = r := by
 apply List.ext_getElem?
 intro j
 rw [memSet_get]
 split
 · rename_i hx
   obtain ⟨n, h1, rfl⟩ := hx
   have := h n h1
   cases hr : r[(n - 1).toNat]? with
   | none => rfl
   | some y =>
    rw [hr] at this
    cases y <;> cases b <;> simp at this ⊢
 · rfl
theorem dropK_true {l : List ObjD} {i : Nat} : ∀ k j, (dropK l i k)[j]? = some true → ∃ k', k' < k ∧ ∃ n ∈ ((l.getD i default).groups.getD k' default).mem, (n - 1).toNat = j := by
 intro k
 induction k with
 | zero =>
  intro j h
  rw [dropK, List.getElem?_replicate] at h
  split at h <;> cases h
 | succ k ih =>
  intro j h
  rw [dropK, memSet_get] at h
  split at h
  · rename_i hx; exact ⟨k, by omega, hx⟩
  · obtain ⟨k', h1, h2⟩ := ih j h
    exact ⟨k', by omega, h2⟩
theorem sum_nonneg {f : GrpD → Int} (hf : ∀ g, 0 ≤ f g) : ∀ gs : List GrpD, 0 ≤ (gs.map f).sum := by
 intro gs
 induction gs with
 | nil => exact Int.le_refl _
 | cons g gs ih => rw [List.map_cons, List.sum_cons]; have := hf g; omega
theorem sum_one {f : GrpD → Int} (hf : ∀ g, 0 ≤ f g) : ∀ (gs : List GrpD) (k : Nat), k < gs.length → f (gs.getD k default) ≤ (gs.map f).sum := by
 intro gs
 induction gs with
 | nil => intro k h; simp at h
 | cons g gs ih =>
  intro k h
  rw [List.map_cons, List.sum_cons]
  cases k with
  | zero => have := sum_nonneg hf gs; show f g ≤ _; omega
  | succ k =>
   have h1 := ih k (by simpa using h)
   have h2 := hf g
   show f (gs.getD k default) ≤ _
   omega
theorem sum_two {f : GrpD → Int} (hf : ∀ g, 0 ≤ f g) : ∀ (gs : List GrpD) (a k : Nat), a < k → k < gs.length → f (gs.getD a default) + f (gs.getD k default) ≤ (gs.map f).sum := by
 intro gs
 induction gs with
 | nil => intro a k _ h; simp at h
 | cons g gs ih =>
  intro a k ha h
  rw [List.map_cons, List.sum_cons]
  obtain ⟨k, rfl⟩ : ∃ q, k = q + 1 := ⟨k - 1, by omega⟩
  cases a with
  | zero =>
   have := sum_one hf gs k (by simpa using h)
   show f g + f (gs.getD k default) ≤ _
   omega
  | succ a =>
   have h1 := ih a k (by omega) (by simpa using h)
   have h2 := hf g
   show f (gs.getD a default) + f (gs.getD k default) ≤ _
   omega
theorem section_member {o : ObjD} {n : Int} (h : sectionB o n = true) : memberF o.groups n ≤ 1 := by
 unfold sectionB at h
 obtain ⟨_, h⟩ := bif_ff h
 obtain ⟨_, h⟩ := bif_ff h
 simp only [Bool.or_eq_true, Bool.and_eq_true, decide_eq_true_eq] at h
 omega
theorem drop_same {l : List ObjD} {i : Nat} (hi : i < l.length) (hw : GrpW l) (hm : ∀ k, k < (l.getD i default).secs.length → memberF (l.getD i default).groups ((k : Int) + 1) ≤ 1) : ∀ k, k ≤ (l.getD i default).groups.length → dropK l i k = dRk l i k := by
 intro k
 induction k with
 | zero => intro _; rfl
 | succ k ih =>
  intro hk
  have e := ih (by omega)
  cases ha : ahB l i k with
  | true => rw [dropK, dRk_yes ha, ha, e]
  | false =>
   rw [dropK, dRk_no ha, ha, ← e]
   refine memSet_same fun n hn ht => ?_
   obtain ⟨k', h1, n', h2, h3⟩ := dropK_true k _ ht
   obtain ⟨q, hq, e1⟩ := List.getElem_of_mem hn
   obtain ⟨q', hq', e2⟩ := List.getElem_of_mem h2
   have b1 := (hw.mem i k hi (by omega)).2 q hq
   have b2 := (hw.mem i k' hi (by omega)).2 q' hq'
   rw [List.getD_eq_getElem?_getD, List.getElem?_eq_getElem hq, e1] at b1
   rw [List.getD_eq_getElem?_getD, List.getElem?_eq_getElem hq', e2] at b2
   simp only [Option.getD_some] at b1 b2
   have en : n' = n := by omega
   subst en
   have h4 := hm (n' - 1).toNat (by omega)
   rw [show (((n' - 1).toNat : Nat) : Int) + 1 = n' by omega] at h4
   have h5 := sum_two (f := fun g => (g.mem.count n' : Int)) (fun g => by omega) (l.getD i default).groups k' k h1 (by omega)
   have c1 : 0 < ((l.getD i default).groups.getD k' default).mem.count n' := List.count_pos_iff.2 h2
   have c2 : 0 < ((l.getD i default).groups.getD k default).mem.count n' := List.count_pos_iff.2 hn
   have h6 : memberF (l.getD i default).groups n' = ((l.getD i default).groups.map fun g => (g.mem.count n' : Int)).sum := rfl
   rw [h6] at h4
   omega
theorem dropR_eq {l : List ObjD} (hk : LOk l) (hm : AllMay l) {i : Nat} (hi : i < l.length) : dropR l i = dRf l i := by
 have hin : l.getD i default ∈ l := getD_in hi
 have h1 := hm.2 _ hin
 unfold mayP at h1
 simp only [Bool.and_eq_true] at h1
 exact drop_same hi (may_res hk hm).g (fun k hk2 => section_member ((shape_parts h1.1).2.2.1 k hk2)) _ (Nat.le_refl _)
end Go.Proofs.YtiomdnmicagdcaaGreat.AL
namespace Go.Proofs.YtiomdnmicagdcaaGreat.AL
open Go Go.RowKit Go.Proofs.YtiomdnmicagdcaaGreat.Base
set_option linter.unusedVariables false
set_option linter.unusedSimpArgs false
set_option maxRecDepth 4000
set_option synthInstance.maxSize 1000
set_option synthInstance.maxHeartbeats 200000
def pK (l : List ObjD) (i : Nat) (st : List DefD × Bool) : Nat → List DefD × Bool
 | 0 => st
 | k + 1 => if ((l.getD i default).syms.getD k default).bind = 0 then pK l i st k
  else (if (findR l ((l.getD i default).syms.getD k default).name).2 = true then putF (pK l i st k).1 (findR l ((l.getD i default).syms.getD k default).name).1 else (pK l i st k).1, (pK l i st k).2 || (!(findR l ((l.getD i default).syms.getD k default).name).2 && decide (((l.getD i default).syms.getD k default).bind = 1)))
/-- The document's definitions, and whether a name is undefined. -/
def pI (l : List ObjD) : Nat → List DefD × Bool
 | 0 => ([], false)
 | i + 1 => pK l i (pI l i) (l.getD i default).syms.length
def mny (l : List ObjD) (i k : Nat) : Bool := decide (((l.getD i default).syms.getD k default).bind ≠ 0) && decide ((fI l ((l.getD i default).syms.getD k default).name 1 l.length).2 > 1)
def mnyE (l : List ObjD) : Prop := ∃ i k, i < l.length ∧ k < (l.getD i default).syms.length ∧ mny l i k = true
theorem filter_two {p q : DefD → Bool} (h : ∀ x, ¬ (p x = true ∧ q x = true)) : ∀ L : List DefD, (L.filter p).length + (L.filter q).length ≤ L.length := by
 intro L
 induction L with
 | nil => simp
 | cons x L ih =>
  have := h x
  rw [List.filter_cons, List.filter_cons]
  cases hp : p x <;> cases hq : q x <;> simp [hp, hq] at this ⊢ <;> omega
theorem putF_len (L : List DefD) (d : DefD) : (putF L d).length ≤ L.length + 1 := by
 unfold putF
 split
 · omega
 · have := filter_two (p := fun x => sLt x.name d.name) (q := fun x => sLt d.name x.name) (fun x ⟨h1, h2⟩ => by rw [sLt_asym h1] at h2; cases h2) L
   simp only [List.length_append, List.length_cons, List.length_nil]
   omega
theorem pK_len (l : List ObjD) (i : Nat) (st : List DefD × Bool) : ∀ k, (pK l i st k).1.length ≤ st.1.length + k := by
 intro k
 induction k with
 | zero => exact Nat.le_refl _
 | succ k ih =>
  rw [pK]
  split
  · omega
  · show (if _ then _ else _ : List DefD).length ≤ _
    split
    · have := putF_len (pK l i st k).1 (findR l ((l.getD i default).syms.getD k default).name).1
      omega
    · omega
theorem pI_len {l : List ObjD} (hw : ResW l) : ∀ i, i ≤ l.length → (pI l i).1.length ≤ 128 * i := by
 intro i
 induction i with
 | zero => intro _; exact Nat.le_refl _
 | succ i ih =>
  intro hi
  have h1 := pK_len l i (pI l i) (l.getD i default).syms.length
  have h2 := (hw.sy i (by omega)).1
  have h3 := ih (by omega)
  rw [pI]; omega
set_option maxHeartbeats 8000000 in
theorem ref_Resolve (l : List ObjD) (hk : LOk l) : A0 Tryz.prog 9 [.rd 5 (l.map objA)] (fun ret => (¬ AllMay l ∧ ret = .tup [.agg (tabA ⟨[], []⟩), .v (.int .i64 (1))]) ∨ (AllMay l ∧ mnyE l ∧ ret = .tup [.agg (tabA ⟨[], []⟩), .v (.int .i64 (3))]) ∨ (AllMay l ∧ ¬ mnyE l ∧ (pI l l.length).2 = true ∧ ret = .tup [.agg (tabA ⟨[], []⟩), .v (.int .i64 (4))]) ∨ (AllMay l ∧ ¬ mnyE l ∧ (pI l l.length).2 = false ∧ ret = .tup [.agg (tabA ⟨dropF l l.length, (pI l l.length).1⟩), .v (.int .i64 (0))])) := by
 have hlen := hk.len
 refine A0.body 114 Tryz.func9 rfl rfl Tryz.ntmps9 fun base n0 => ?_
 refine AW.seq' ?_
 refine AW.region ?_
 refine AO.ww ?_
 refine AO.c ?_
 refine AO.nil ?_
 refine SQ.normal ?_
 refine AW.seq' ?_
 refine AW.region ?_
 refine AO.c ?_
 refine AO.ww ?_
 refine AO.sst ?_
 refine AO.nil ?_
 refine SQ.normal ?_
 refine AW.seq' ?_
 refine AW.seq' ?_
 refine AW.region ?_
 iterate 3 refine AO.c ?_
 refine AO.nil ?_
 refine SQ.normal ?_
 refine AW.iteB (GL.ev _) (fun h0 => ?_) (fun h0 => ?_)
 ·
  rw [decide_eq_true_eq] at h0
  have hno : ¬ AllMay l := fun h => by have := h.1; omega
  refine AW.seq' ?_
  refine AW.region ?_
  refine AO.c ?_
  refine AO.sst ?_
  refine AO.c ?_
  refine AO.nil ?_
  refine SQ.normal ?_
  refine AW.ret ?_
  refine SQ.ret ?_
  refine Fin.ret (Gh.tellC 0 [.rd 1 (([] : List (List Bool)).map drA), .rd 3 (([] : List DefD).map defA)]) noid2 ?_
  exact .inl ⟨hno, rfl⟩
 ·
  rw [decide_eq_false_iff_not] at h0
  refine AW.skip ?_
  refine SQ.normal ?_
  refine AW.seq' ?_
  refine AW.seq' ?_
  refine AW.region ?_
  refine AO.c ?_
  refine AO.nil ?_
  refine SQ.normal ?_
  refine AW.block' ?_
  refine AW.loopU [.k, .f, .k, .f, .k, .k, .F, .F, .F, .F, .F, .F, .F, .F, .F, .F, .F, .F, .F, .f, .f, .f, .f] (fun (i : Nat) => [(5, .v (.int .i64 ((i : Int))))]) (fun i => Hn n0 [some (.box 35 [.v (.slice none 0 0), .v (.slice none 0 0)]), some (.box 35 [.v (.slice none 0 0), .v (.slice none 0 0)])]) (fun m i => (i ≤ l.length ∧ m = l.length - i) ∧ ∀ q, q < i → mayP (l.getD q default) = true) (l.length) (0) ⟨by omega, fun q h => by omega⟩ (by first | rfl | (simp; done)) (by first | rfl | (simp; done)) ?_
  rintro m0 i ⟨hx1, hx2⟩
  refine AW.seq' ?_
  refine AW.seq' ?_
  refine AW.region ?_
  iterate 4 refine AO.c ?_
  refine AO.nil ?_
  refine SQ.normal ?_
  refine AW.iteB (GL.ev _) (fun h1 => ?_) (fun h1 => ?_)
  ·
   rw [decide_eq_true_eq] at h1
   have hi : i < l.length := by omega
   have hin : l.getD i default ∈ l := getD_in hi
   refine AW.skip ?_
   refine SQ.normal ?_
   refine AW.seq' ?_
   refine AW.block' ?_
   refine AW.seq' ?_
   refine AW.region ?_
   iterate 2 refine AO.c ?_
   refine AO.oo ?_
   refine AO.c ?_
   refine AO.call1 Tryz.func31 rfl rfl (ref_May8 _ (hk.ok _ hin).1 (hk.ok _ hin).2.1 (hk.ok _ hin).2.2 (hk.gs _ hin)) ?_
   refine AO.c ?_
   refine AO.nil ?_
   refine SQ.normal ?_
   refine AW.seq' ?_
   refine AW.region ?_
   iterate 2 refine AO.c ?_
   refine AO.nil ?_
   refine SQ.normal ?_
   refine AW.iteB (GL.ev _) (fun h2 => ?_) (fun h2 => ?_)
   ·
    rw [Bool.not_eq_true'] at h2
    have hno : ¬ AllMay l := fun h => by have := h.2 _ hin; rw [this] at h2; cases h2
    refine AW.seq' ?_
    refine AW.region ?_
    refine AO.c ?_
    refine AO.sst ?_
    refine AO.c ?_
    refine AO.nil ?_
    refine SQ.normal ?_
    refine AW.ret ?_
    refine BQ.ret <| SQ.ret <| AW.out <| LU.ret <| BQ.ret <| SQ.ret ?_
    refine Fin.ret (Gh.tellC 0 [.rd 1 (([] : List (List Bool)).map drA), .rd 3 (([] : List DefD).map defA)]) noid2 ?_
    exact .inl ⟨hno, rfl⟩
   ·
    rw [Bool.not_eq_false'] at h2
    have hal : ∀ q, q < i + 1 → mayP (l.getD q default) = true := fun q hq => by
     by_cases e : q = i
     · rw [e]; exact h2
     · exact hx2 q (by omega)
    refine AW.skip ?_
    refine BQ.normal ?_
    refine SQ.normal ?_
    refine AW.region ?_
    refine AO.c ?_
    refine AO.oo ?_
    refine AO.c ?_
    refine AO.nil ?_
    exact AW.backU [.k, .f, .k, .f, .k, .k, .F, .F, .F, .F, .F, .F, .F, .F, .F, .F, .F, .F, .F, .f, .f, .f, .f] (m0 - 1) (i + 1) (by omega) (by (try dsimp only); exact ⟨by omega, hal⟩) (by first | rfl | (simp; done)) (by first | rfl | (simp; done))
  ·
   rw [decide_eq_false_iff_not] at h1
   have hmay : AllMay l := ⟨by omega, fun o ho => by
    obtain ⟨q, hq, rfl⟩ := List.getElem_of_mem ho
    have := hx2 q (by omega)
    rw [List.getD_eq_getElem?_getD, List.getElem?_eq_getElem hq] at this
    exact this⟩
   have hw := may_res hk hmay
   have hl8 := hw.len
   refine AW.exit ?_
   refine SQ.exit <| AW.out <| LU.exit <| BQ.exit ?_
   refine SQ.normal ?_
   refine AW.seq' ?_
   refine AW.seq' ?_
   refine AW.ghost (Gh.adoptC 1 0 89 1 rfl) ?_
   refine AW.region ?_
   refine AO.c ?_
   refine AO.nil ?_
   refine SQ.normal ?_
   refine AW.block' ?_
   refine AW.loopU2 [.k, .f, .k, .f, .k, .f, .f, .k, .F, .F, .F, .F, .F, .F, .F, .F, .F, .F, .F, .F, .F, .f, .f] (fun (i ep : Nat) => [(7, .v (.int .i64 ((i : Int))))]) (fun i ep => Hn n0 [some (.box 35 [.v (.slice none 0 0), .v (.slice none 0 0)]), some (.box 35 [.own (n0 + 2) ep 0 (dropF l i).length, .v (.slice none 0 0)]), some (.row 89 1 ep ((dropF l i).map drA))]) (fun m i ep => i ≤ l.length ∧ m = l.length - i) (l.length) (0) (0) ⟨by omega, by omega⟩ (by first | rfl | (simp; done)) (by simp [dropF]) ?_
   rintro m1 i ep ⟨hy1, hy2⟩
   refine AW.seq' ?_
   refine AW.seq' ?_
   refine AW.region ?_
   iterate 4 refine AO.c ?_
   refine AO.nil ?_
   refine SQ.normal ?_
   refine AW.iteB (GL.ev _) (fun h3 => ?_) (fun h3 => ?_)
   ·
    rw [decide_eq_true_eq] at h3
    have hi : i < l.length := by omega
    have hdl := dropF_len l i
    have hdr : A0 Tryz.prog 32 [.rd 5 (l.map objA), .v (.int .i64 ((i : Int)))] (fun ret => ret = .rd 1 ((dropR l i).map bA)) := by rw [dropR_eq hk hmay hi]; exact ref_Dropped l hw.g i hi
    refine AW.skip ?_
    refine SQ.normal ?_
    refine AW.seq' ?_
    refine AW.block' ?_
    refine AW.drawsZ [6, 8] (.one 0 false (.one 1 false (.one 2 false (.one 3 false (.one 4 true (.one 5 true (.one 6 true (.one 7 false (.one 8 true .nil))))))))) (by kernel_rfl) rfl (by kernel_rfl) ?_
    iterate 4 refine AZ.c rfl ?_
    refine AZ.call1 rfl Tryz.func32 rfl rfl (hdr) ?_
    refine AZ.rr rfl ?_
    refine AZ.ww rfl rfl ?_
    refine AZ.c rfl ?_
    refine AZ.sst rfl rfl ?_
    refine AZ.done ?_
    refine BQ.normal ?_
    refine SQ.normal ?_
    refine AW.region ?_
    refine AO.c ?_
    refine AO.oo ?_
    refine AO.c ?_
    refine AO.nil ?_
    exact AW.backU [.k, .f, .k, .f, .k, .f, .f, .k, .F, .F, .F, .F, .F, .F, .F, .F, .F, .F, .F, .F, .F, .f, .f] (m1 - 1) (i + 1, ep + 1) (by omega) (by (try dsimp only); exact ⟨by omega, by omega⟩) (by first | rfl | (simp; done)) (by first | ((try dsimp only); rw [dropF_succ, List.map_append, List.length_append]; done) | ((try dsimp only); rw [dropF_succ, List.map_append, List.length_append]; rfl))
   ·
    rw [decide_eq_false_iff_not] at h3
    have hi : i = l.length := by omega
    subst hi
    refine AW.exit ?_
    refine SQ.exit <| AW.out <| LU.exit <| BQ.exit ?_
    refine SQ.normal ?_
    refine AW.seq' ?_
    refine AW.ghost (Gh.freezeC 1 0 (by rw [List.length_map]) (by rw [List.length_map, dropF_len]; omega)) ?_
    refine AW.ghost (Gh.tellC 1 [.rd 1 ((dropF l l.length).map drA), .rd 3 (([] : List DefD).map defA)]) ?_
    refine AW.region ?_
    refine AO.c ?_
    refine AO.nil ?_
    refine SQ.normal ?_
    refine AW.seq' ?_
    refine AW.seq' ?_
    refine AW.region ?_
    refine AO.c ?_
    refine AO.nil ?_
    refine SQ.normal ?_
    refine AW.block' ?_
    refine AW.loopU2 [.k, .f, .k, .f, .k, .f, .f, .f, .k, .k, .F, .F, .F, .F, .F, .F, .F, .F, .F, .F, .F, .F, .F] (fun (i j : Nat) => [(8, .v (.bool (pI l i).2)), (9, .v (.int .i64 ((i : Int))))]) (fun i j => Hn n0 (([some (.box 35 [.v (.slice none 0 0), .v (.slice none 0 0)]), some (.box 35 (tabA ⟨dropF l l.length, (pI l i).1⟩)), none] ++ List.replicate j none) ++ [])) (fun m i j => (i ≤ l.length ∧ m = l.length - i) ∧ ∀ a k, a < i → k < (l.getD a default).syms.length → mny l a k = false) (l.length) (0) (0) ⟨by omega, fun a k h => by omega⟩ (by first | rfl | (simp; done)) (by first | rfl | (simp [pI]; rfl) | (simp [pI]; done)) ?_
    rintro m2 i j ⟨hz1, hz2⟩
    refine AW.seq' ?_
    refine AW.seq' ?_
    refine AW.region ?_
    iterate 4 refine AO.c ?_
    refine AO.nil ?_
    refine SQ.normal ?_
    refine AW.iteB (GL.ev _) (fun h4 => ?_) (fun h4 => ?_)
    ·
     rw [decide_eq_true_eq] at h4
     have hi : i < l.length := by omega
     have hsy := hw.sy i hi
     have hpl := pI_len hw i (by omega)
     refine AW.skip ?_
     refine SQ.normal ?_
     refine AW.seq' ?_
     refine AW.block' ?_
     refine AW.seq' ?_
     refine AW.region ?_
     refine AO.c ?_
     refine AO.nil ?_
     refine SQ.normal ?_
     refine AW.block' ?_
     refine AW.loopU2 [.k, .f, .k, .f, .k, .f, .f, .f, .k, .k, .k, .F, .F, .F, .F, .F, .F, .F, .F, .F, .F, .F, .F, .f, .f, .f, .f, .f, .f, .f] (fun (k j2 : Nat) => [(8, .v (.bool (pK l i (pI l i) k).2)), (10, .v (.int .i64 ((k : Int))))]) (fun k j2 => Hn n0 ((([some (.box 35 [.v (.slice none 0 0), .v (.slice none 0 0)]), some (.box 35 (tabA ⟨dropF l l.length, (pK l i (pI l i) k).1⟩)), none] ++ List.replicate j none) ++ List.replicate j2 none) ++ [])) (fun m k j2 => (k ≤ (l.getD i default).syms.length ∧ m = (l.getD i default).syms.length - k) ∧ ∀ q, q < k → mny l i q = false) ((l.getD i default).syms.length) (0) (0) ⟨by omega, fun q h => by omega⟩ (by first | rfl | (simp; done)) (by simp [pK]) ?_
     rintro m3 k j2 ⟨hw1, hw2⟩
     refine AW.seq' ?_
     refine AW.seq' ?_
     refine AW.region ?_
     iterate 3 refine AO.c ?_
     refine AO.oo ?_
     iterate 4 refine AO.c ?_
     refine AO.nil ?_
     refine SQ.normal ?_
     refine AW.iteB (GL.ev _) (fun h5 => ?_) (fun h5 => ?_)
     ·
      rw [decide_eq_true_eq] at h5
      have hk2 : k < (l.getD i default).syms.length := by omega
      have hkl := pK_len l i (pI l i) k
      refine AW.skip ?_
      refine SQ.normal ?_
      refine AW.seq' ?_
      refine AW.block' ?_
      refine AW.seq' ?_
      refine AW.region ?_
      iterate 2 refine AO.c ?_
      refine AO.oo ?_
      iterate 3 refine AO.c ?_
      refine AO.oo ?_
      refine AO.c ?_
      refine AO.ww ?_
      refine AO.sst ?_
      refine AO.nil ?_
      refine SQ.normal ?_
      refine AW.seq' ?_
      refine AW.seq' ?_
      refine AW.region ?_
      iterate 3 refine AO.c ?_
      refine AO.nil ?_
      refine SQ.normal ?_
      refine AW.iteB (GL.ev _) (fun h6 => ?_) (fun h6 => ?_)
      ·
       rw [decide_eq_true_eq] at h6
       have hst : pK l i (pI l i) (k + 1) = (pK l i (pI l i) k) := by rw [pK, if_pos h6]
       have hmn : mny l i k = false := by unfold mny; rw [decide_eq_false (by rw [h6]; decide)]; rfl
       have hal : ∀ q, q < k + 1 → mny l i q = false := fun q hq => by
        by_cases e : q = k
        · rw [e]; exact hmn
        · exact hw2 q (by omega)
       refine AW.exit ?_
       refine SQ.exit <| BQ.exit ?_
       refine SQ.normal ?_
       refine AW.region ?_
       refine AO.c ?_
       refine AO.oo ?_
       refine AO.c ?_
       refine AO.nil ?_
       exact AW.backE [.k, .f, .k, .f, .k, .f, .f, .f, .k, .k, .k, .F, .F, .F, .F, .F, .F, .F, .F, .F, .F, .F, .F, .f, .f, .f, .f, .f, .f, .f] (j2) (m3 - 1) (k + 1, j2 + 1) (by omega) (by (try dsimp only); exact ⟨by omega, hal⟩) (by first | ((try dsimp only); rw [hst]; done) | ((try dsimp only); rw [hst]; rfl)) (by first | ((try dsimp only); rw [hst]; done) | ((try dsimp only); rw [hst]; rfl))
      ·
       rw [decide_eq_false_iff_not] at h6
       refine AW.skip ?_
       refine SQ.normal ?_
       refine AW.seq' ?_
       refine AW.region ?_
       iterate 4 refine AO.c ?_
       refine AO.call1 Tryz.func33 rfl rfl (ref_First l hw (pK l i (pI l i) k).1 ((l.getD i default).syms.getD k default).name 1) ?_
       iterate 3 refine AO.c ?_
       refine AO.ww ?_
       refine AO.sst ?_
       refine AO.c ?_
       refine AO.nil ?_
       refine SQ.normal ?_
       refine AW.seq' ?_
       refine AW.seq' ?_
       refine AW.region ?_
       iterate 2 refine AO.c ?_
       refine AO.nil ?_
       refine SQ.normal ?_
       refine AW.iteB (GL.ev _) (fun h7 => ?_) (fun h7 => ?_)
       ·
        rw [decide_eq_true_eq] at h7
        have hme : mnyE l := ⟨i, k, hi, hk2, by unfold mny; rw [decide_eq_true h6, decide_eq_true h7]; rfl⟩
        refine AW.seq' ?_
        refine AW.region ?_
        refine AO.c ?_
        refine AO.sst ?_
        refine AO.c ?_
        refine AO.nil ?_
        refine SQ.normal ?_
        refine AW.ret ?_
        refine SQ.ret <| BQ.ret <| SQ.ret <| AW.out <| LU.ret <| BQ.ret <| BQ.ret <| SQ.ret <| AW.out <| LU.ret <| BQ.ret <| SQ.ret ?_
        refine Fin.ret (Gh.tellC 0 [.rd 1 (([] : List (List Bool)).map drA), .rd 3 (([] : List DefD).map defA)]) noid2 ?_
        exact .inr (.inl ⟨hmay, hme, rfl⟩)
       ·
        rw [decide_eq_false_iff_not] at h7
        have hmn : mny l i k = false := by unfold mny; rw [decide_eq_false h7, Bool.and_false]
        have hal : ∀ q, q < k + 1 → mny l i q = false := fun q hq => by
         by_cases e : q = k
         · rw [e]; exact hmn
         · exact hw2 q (by omega)
        refine AW.skip ?_
        refine SQ.normal ?_
        refine AW.seq' ?_
        refine AW.region ?_
        iterate 4 refine AO.c ?_
        refine AO.call1 Tryz.func13 rfl rfl (ref_FindN l hw (pK l i (pI l i) k).1 ((l.getD i default).syms.getD k default).name) ?_
        iterate 3 refine AO.c ?_
        refine AO.ww ?_
        refine AO.sst ?_
        refine AO.c ?_
        refine AO.nil ?_
        refine SQ.normal ?_
        refine AW.seq' ?_
        refine AW.seq' ?_
        refine AW.region ?_
        refine AO.c ?_
        refine AO.nil ?_
        refine SQ.normal ?_
        refine AW.iteB (GL.ev _) (fun h8 => ?_) (fun h8 => ?_)
        ·
         have hst : pK l i (pI l i) (k + 1) = (putF (pK l i (pI l i) k).1 (findR l ((l.getD i default).syms.getD k default).name).1, (pK l i (pI l i) k).2 || (!(findR l ((l.getD i default).syms.getD k default).name).2 && decide (((l.getD i default).syms.getD k default).bind = 1))) := by rw [pK, if_neg h6, if_pos h8]
         refine AW.region ?_
         iterate 3 refine AO.c ?_
         refine AO.call1 Tryz.func34 rfl rfl (ref_put (pK l i (pI l i) k).1 (findR l ((l.getD i default).syms.getD k default).name).1 (by omega)) ?_
         refine AO.c ?_
         refine AO.sst ?_
         refine AO.nil ?_
         refine SQ.normal ?_
         refine AW.region ?_
         iterate 2 refine AO.c ?_
         iterate 7 refine AO.gx ?_
         iterate 2 refine AO.c ?_
         refine AO.nil ?_
         refine BQ.normal ?_
         refine SQ.normal ?_
         refine AW.region ?_
         refine AO.c ?_
         refine AO.oo ?_
         refine AO.c ?_
         refine AO.nil ?_
         exact AW.backE [.k, .f, .k, .f, .k, .f, .f, .f, .k, .k, .k, .F, .F, .F, .F, .F, .F, .F, .F, .F, .F, .F, .F, .f, .f, .f, .f, .f, .f, .f] (j2) (m3 - 1) (k + 1, j2 + 3) (by omega) (by (try dsimp only); exact ⟨by omega, hal⟩) (by (try dsimp only); rw [hst]; simp [h8]) (by first | ((try dsimp only); rw [hst]; done) | ((try dsimp only); rw [hst]; rfl))
        ·
         have hst : pK l i (pI l i) (k + 1) = ((pK l i (pI l i) k).1, (pK l i (pI l i) k).2 || (!(findR l ((l.getD i default).syms.getD k default).name).2 && decide (((l.getD i default).syms.getD k default).bind = 1))) := by rw [pK, if_neg h6, if_neg (by rw [h8]; decide)]
         refine AW.skip ?_
         refine SQ.normal ?_
         refine AW.region ?_
         iterate 2 refine AO.c ?_
         iterate 7 refine AO.gx ?_
         iterate 2 refine AO.c ?_
         refine AO.nil ?_
         refine BQ.normal ?_
         refine SQ.normal ?_
         refine AW.region ?_
         refine AO.c ?_
         refine AO.oo ?_
         refine AO.c ?_
         refine AO.nil ?_
         exact AW.backE [.k, .f, .k, .f, .k, .f, .f, .f, .k, .k, .k, .F, .F, .F, .F, .F, .F, .F, .F, .F, .F, .F, .F, .f, .f, .f, .f, .f, .f, .f] (j2) (m3 - 1) (k + 1, j2 + 3) (by omega) (by (try dsimp only); exact ⟨by omega, hal⟩) (by (try dsimp only); rw [hst]; simp [h8]) (by first | ((try dsimp only); rw [hst]; done) | ((try dsimp only); rw [hst]; rfl))
     ·
      rw [decide_eq_false_iff_not] at h5
      have hk2 : k = (l.getD i default).syms.length := by omega
      subst hk2
      have hnx : ∀ a k, a < i + 1 → k < (l.getD a default).syms.length → mny l a k = false := fun a k g1 g2 => by
       by_cases e : a = i
       · subst e; exact hw2 k g2
       · exact hz2 a k (by omega) g2
      refine AW.exit ?_
      refine SQ.exit <| AW.out <| LU.exit <| BQ.exit ?_
      refine BQ.normal ?_
      refine SQ.normal ?_
      refine AW.region ?_
      refine AO.c ?_
      refine AO.oo ?_
      refine AO.c ?_
      refine AO.nil ?_
      exact AW.backE [.k, .f, .k, .f, .k, .f, .f, .f, .k, .k, .F, .F, .F, .F, .F, .F, .F, .F, .F, .F, .F, .F, .F] (j) (m2 - 1) (i + 1, j + j2) (by omega) (by (try dsimp only); exact ⟨by omega, hnx⟩) (by first | rfl | (simp; done)) ((Hn_repJ (b := j + j2) (by first | (simp; done) | (simp; omega))).trans (by (try dsimp only) <;> rfl))
    ·
     rw [decide_eq_false_iff_not] at h4
     have hi : i = l.length := by omega
     subst hi
     have hnm : ¬ mnyE l := fun ⟨a, k, g1, g2, g3⟩ => by rw [hz2 a k g1 g2] at g3; cases g3
     refine AW.exit ?_
     refine SQ.exit <| AW.out <| LU.exit <| BQ.exit ?_
     refine SQ.normal ?_
     refine AW.seq' ?_
     refine AW.seq' ?_
     refine AW.region ?_
     refine AO.c ?_
     refine AO.nil ?_
     refine SQ.normal ?_
     refine AW.iteB (GL.ev _) (fun h9 => ?_) (fun h9 => ?_)
     ·
      skip
      refine AW.seq' ?_
      refine AW.region ?_
      refine AO.c ?_
      refine AO.sst ?_
      refine AO.c ?_
      refine AO.nil ?_
      refine SQ.normal ?_
      refine AW.ret ?_
      refine SQ.ret ?_
      refine Fin.ret (Gh.tellC 0 [.rd 1 (([] : List (List Bool)).map drA), .rd 3 (([] : List DefD).map defA)]) noid2 ?_
      exact .inr (.inr (.inl ⟨hmay, hnm, h9, rfl⟩))
     ·
      skip
      refine AW.skip ?_
      refine SQ.normal ?_
      refine AW.seq' ?_
      refine AW.region ?_
      refine AO.c ?_
      refine AO.sst ?_
      refine AO.c ?_
      refine AO.nil ?_
      refine SQ.normal ?_
      refine AW.ret ?_
      refine Fin.ret (Gh.refl) noid2 ?_
      exact .inr (.inr (.inr ⟨hmay, hnm, h9, rfl⟩))
end Go.Proofs.YtiomdnmicagdcaaGreat.AL
namespace Go.Proofs.YtiomdnmicagdcaaGreat.AL
open Go Go.RowKit Go.Proofs.YtiomdnmicagdcaaGreat.Base
set_option linter.unusedVariables false
set_option linter.unusedSimpArgs false
set_option maxRecDepth 4000
set_option synthInstance.maxSize 1000
set_option synthInstance.maxHeartbeats 200000
def whereR (l : List ObjD) (t : TabD) (o s : Int) : PlcD × Int :=
 if o < 0 ∨ o ≥ l.length ∨ s < 0 ∨ s ≥ (l.getD o.toNat default).syms.length then (⟨0, 0, 0⟩, 1)
 else if ((l.getD o.toNat default).syms.getD s.toNat default).bind = 0 then placeF l t o s
 else if (findR l ((l.getD o.toNat default).syms.getD s.toNat default).name).2 = true then placeF l t (findR l ((l.getD o.toNat default).syms.getD s.toNat default).name).1.obj (findR l ((l.getD o.toNat default).syms.getD s.toNat default).name).1.sym
 else if ((l.getD o.toNat default).syms.getD s.toNat default).bind = 2 then (⟨0, 0, 0⟩, 0) else (⟨0, 0, 0⟩, 4)
theorem fK_in {l : List ObjD} {nm : ByteArray} {bd : Int} {i : Nat} (hi : i < l.length) {st : DefD × Int} (h0 : 0 ≤ st.2) (h : st.2 > 0 → DefIn l st.1) : ∀ k, k ≤ (l.getD i default).syms.length → (fK l nm bd i st k).2 > 0 → DefIn l (fK l nm bd i st k).1 := by
 intro k
 induction k with
 | zero => intro _; exact h
 | succ k ih =>
  intro hk
  have hr := fK_rng l nm bd i st h0 k
  rw [fK]
  split
  · intro _
    show DefIn l (if (fK l nm bd i st k).2 = 0 then _ else _)
    split
    · refine ⟨by show (0 : Int) ≤ i; omega, by show (i : Int) < l.length; omega, by show (0 : Int) ≤ k; omega, ?_⟩
      show (k : Int) < ((l.getD ((i : Int)).toNat default).syms.length : Int)
      rw [Int.toNat_natCast]; omega
    · exact ih (by omega) (by omega)
  · exact ih (by omega)
theorem fI_in {l : List ObjD} (hw : ResW l) {nm : ByteArray} {bd : Int} : ∀ i, i ≤ l.length → (fI l nm bd i).2 > 0 → DefIn l (fI l nm bd i).1 := by
 intro i
 induction i with
 | zero => intro _ h; exact absurd h (by show ¬ (0 : Int) > 0; decide)
 | succ i ih => intro hi; exact fK_in (by omega) (fI_rng hw nm bd i (by omega)).1 (ih (by omega)) _ (Nat.le_refl _)
theorem findR_in {l : List ObjD} (hw : ResW l) {nm : ByteArray} (h : (findR l nm).2 = true) : DefIn l (findR l nm).1 := by
 unfold findR at h ⊢
 split
 · rename_i h1; exact fI_in hw _ (Nat.le_refl _) h1
 · rename_i h1
   rw [if_neg h1] at h
   exact fI_in hw _ (Nat.le_refl _) (of_decide_eq_true h)
set_option maxHeartbeats 1000000 in
theorem ref_own (l : List ObjD) (L : List DefD) (o s : Int) (hw : TabW l ⟨dropF l l.length, L⟩) (ho : 0 ≤ o ∧ o < l.length) (hs : 0 ≤ s ∧ s < (l.getD o.toNat default).syms.length) : A0 Tryz.prog 39 [.rd 5 (l.map objA), .agg (tabA ⟨dropF l l.length, L⟩), .v (.int .i64 (o)), .v (.int .i64 (s))] (fun ret => ret = .tup [.agg (plcA (placeF l (⟨dropF l l.length, L⟩ : TabD) o s).1), .v (.int .i64 ((placeF l (⟨dropF l l.length, L⟩ : TabD) o s).2))]) := by
 obtain ⟨t, ht⟩ : ∃ t : TabD, (⟨dropF l l.length, L⟩ : TabD) = t := ⟨_, rfl⟩
 have hmy := hw.many
 rw [ht] at hw ⊢
 have hsc := hw.sec o.toNat s.toNat (by omega) (by omega)
 have hrow := hw.row o.toNat (by omega)
 have hlen := hw.len
 have hsz := hw.szs o.toNat (by omega)
 refine A0.body 42 Tryz.func39 rfl rfl Tryz.ntmps39 fun base n0 => ?_
 refine AW.seq' ?_
 refine AW.region ?_
 iterate 2 refine AO.ww ?_
 refine AO.c ?_
 refine AO.nil ?_
 refine SQ.normal ?_
 refine AW.seq' ?_
 refine AW.region ?_
 iterate 2 refine AO.c ?_
 refine AO.o (by omega) ?_
 iterate 3 refine AO.c ?_
 refine AO.o (by omega) ?_
 refine AO.c ?_
 refine AO.ww ?_
 refine AO.sst ?_
 refine AO.nil ?_
 refine SQ.normal ?_
 refine AW.seq' ?_
 refine AW.seq' ?_
 refine AW.region ?_
 iterate 3 refine AO.c ?_
 refine AO.nil ?_
 refine SQ.normal ?_
 refine AW.iteB (GL.ev _) (fun h0 => ?_) (fun h0 => ?_)
 ·
  rw [decide_eq_true_eq] at h0
  have e : placeF l t o s = (⟨0, 0, ((l.getD o.toNat default).syms.getD s.toNat default).val⟩, 0) := by unfold placeF; rw [if_pos (by omega)]
  refine AW.seq' ?_
  refine AW.region ?_
  iterate 3 refine AO.c ?_
  refine AO.sst ?_
  refine AO.c ?_
  refine AO.nil ?_
  refine SQ.normal ?_
  refine AW.ret ?_
  refine SQ.ret ?_
  refine Fin.ret (Gh.refl) noid2 ?_
  rw [e]; rfl
 ·
  rw [decide_eq_false_iff_not] at h0
  refine AW.skip ?_
  refine SQ.normal ?_
  refine AW.seq' ?_
  refine AW.seq' ?_
  refine AW.drawsZ [] (.one 0 false (.one 1 false (.one 2 false (.one 3 false (.one 4 false (.one 5 false (.one 6 false (.one 7 false (.one 8 false (.one 9 false .nil)))))))))) (by kernel_rfl) rfl (by kernel_rfl) ?_
  iterate 3 refine AZ.c rfl ?_
  refine AZ.o rfl (by omega) ?_
  iterate 3 refine AZ.c rfl ?_
  refine AZ.o rfl (by omega) ?_
  refine AZ.o rfl (by omega) ?_
  refine AZ.c rfl ?_
  refine AZ.done ?_
  refine SQ.normal ?_
  refine AW.iteB (GL.ev _) (fun h1 => ?_) (fun h1 => ?_)
  ·
   have e : placeF l t o s = (⟨0, 0, 0⟩, 4) := by unfold placeF; rw [if_neg (by omega), if_pos h1]
   refine AW.seq' ?_
   refine AW.region ?_
   refine AO.c ?_
   refine AO.sst ?_
   refine AO.c ?_
   refine AO.nil ?_
   refine SQ.normal ?_
   refine AW.ret ?_
   refine SQ.ret ?_
   refine Fin.ret (Gh.refl) noid2 ?_
   rw [e]; rfl
  ·
   have e : placeF l t o s = (⟨o, ((l.getD o.toNat default).syms.getD s.toNat default).sec, ((l.getD o.toNat default).syms.getD s.toNat default).val⟩, 0) := by unfold placeF; rw [if_neg (by omega), if_neg (by rw [h1]; decide)]
   refine AW.skip ?_
   refine SQ.normal ?_
   refine AW.seq' ?_
   refine AW.region ?_
   iterate 6 refine AO.c ?_
   refine AO.sst ?_
   refine AO.c ?_
   refine AO.nil ?_
   refine SQ.normal ?_
   refine AW.ret ?_
   refine Fin.ret (Gh.refl) noid2 ?_
   rw [e]; rfl
set_option maxHeartbeats 2000000 in
theorem ref_Where (l : List ObjD) (hr : ResW l) (L : List DefD) (o s : Int) (hw : TabW l ⟨dropF l l.length, L⟩) : A0 Tryz.prog 15 [.rd 5 (l.map objA), .agg (tabA ⟨dropF l l.length, L⟩), .v (.int .i64 (o)), .v (.int .i64 (s))] (fun ret => ret = .tup [.agg (plcA (whereR l (⟨dropF l l.length, L⟩ : TabD) o s).1), .v (.int .i64 ((whereR l (⟨dropF l l.length, L⟩ : TabD) o s).2))]) := by
 have hmy := hw.many
 refine A0.body 76 Tryz.func15 rfl rfl Tryz.ntmps15 fun base n0 => ?_
 refine AW.seq' ?_
 refine AW.region ?_
 iterate 2 refine AO.ww ?_
 refine AO.c ?_
 refine AO.nil ?_
 refine SQ.normal ?_
 refine AW.seq' ?_
 refine AW.seq' ?_
 refine AW.region ?_
 iterate 3 refine AO.c ?_
 iterate 4 refine AO.gx ?_
 refine AO.c ?_
 refine AO.nil ?_
 refine SQ.normal ?_
 refine AW.iteB (GL.ev _) (fun h0 => ?_) (fun h0 => ?_)
 ·
  have hno : o < 0 ∨ o ≥ l.length ∨ s < 0 ∨ s ≥ (l.getD o.toNat default).syms.length := by simp only [Bool.or_eq_true, decide_eq_true_eq] at h0; omega
  have e : whereR l (⟨dropF l l.length, L⟩ : TabD) o s = (⟨0, 0, 0⟩, 1) := by unfold whereR; rw [if_pos hno]
  refine AW.seq' ?_
  refine AW.region ?_
  refine AO.c ?_
  refine AO.sst ?_
  refine AO.c ?_
  refine AO.nil ?_
  refine SQ.normal ?_
  refine AW.ret ?_
  refine SQ.ret ?_
  refine Fin.ret (Gh.refl) noid2 ?_
  rw [e]; rfl
 ·
  have ho : 0 ≤ o ∧ o < l.length := by simp only [Bool.or_eq_false_iff, decide_eq_false_iff_not] at h0; omega
  refine AW.skip ?_
  refine SQ.normal ?_
  refine AW.seq' ?_
  refine AW.seq' ?_
  refine AW.region ?_
  iterate 3 refine AO.c ?_
  iterate 3 refine AO.gx ?_
  refine AO.gxo (fun h => by omega) ?_
  iterate 4 refine AO.gx ?_
  refine AO.c ?_
  refine AO.nil ?_
  refine SQ.normal ?_
  refine AW.iteB (GL.ev _) (fun h1 => ?_) (fun h1 => ?_)
  ·
   have hno : o < 0 ∨ o ≥ l.length ∨ s < 0 ∨ s ≥ (l.getD o.toNat default).syms.length := by simp only [Bool.or_eq_true, decide_eq_true_eq] at h1; omega
   have e : whereR l (⟨dropF l l.length, L⟩ : TabD) o s = (⟨0, 0, 0⟩, 1) := by unfold whereR; rw [if_pos hno]
   refine AW.seq' ?_
   refine AW.region ?_
   refine AO.c ?_
   refine AO.sst ?_
   refine AO.c ?_
   refine AO.nil ?_
   refine SQ.normal ?_
   refine AW.ret ?_
   refine SQ.ret ?_
   refine Fin.ret (Gh.refl) noid2 ?_
   rw [e]; rfl
  ·
   have hyes : ¬ (o < 0 ∨ o ≥ l.length ∨ s < 0 ∨ s ≥ (l.getD o.toNat default).syms.length) := by simp only [Bool.or_eq_false_iff, decide_eq_false_iff_not] at h1; omega
   refine AW.skip ?_
   refine SQ.normal ?_
   refine AW.seq' ?_
   refine AW.region ?_
   iterate 2 refine AO.c ?_
   refine AO.o (by omega) ?_
   iterate 3 refine AO.c ?_
   refine AO.o (by omega) ?_
   refine AO.c ?_
   refine AO.ww ?_
   refine AO.sst ?_
   refine AO.nil ?_
   refine SQ.normal ?_
   refine AW.seq' ?_
   refine AW.seq' ?_
   refine AW.region ?_
   iterate 3 refine AO.c ?_
   refine AO.nil ?_
   refine SQ.normal ?_
   refine AW.iteB (GL.ev _) (fun h2 => ?_) (fun h2 => ?_)
   ·
    rw [decide_eq_true_eq] at h2
    have e : whereR l (⟨dropF l l.length, L⟩ : TabD) o s = placeF l (⟨dropF l l.length, L⟩ : TabD) o s := by unfold whereR; rw [if_neg hyes, if_pos h2]
    refine AW.seq' ?_
    refine AW.region ?_
    iterate 4 refine AO.c ?_
    refine AO.call1 Tryz.func39 rfl rfl (ref_own l L o s hw (by omega) (by omega)) ?_
    iterate 2 refine AO.c ?_
    refine AO.sst ?_
    refine AO.c ?_
    refine AO.nil ?_
    refine SQ.normal ?_
    refine AW.ret ?_
    refine SQ.ret ?_
    refine Fin.ret (Gh.refl) noid2 ?_
    rw [e]; rfl
   ·
    rw [decide_eq_false_iff_not] at h2
    refine AW.skip ?_
    refine SQ.normal ?_
    refine AW.seq' ?_
    refine AW.region ?_
    iterate 4 refine AO.c ?_
    refine AO.call1 Tryz.func13 rfl rfl (ref_FindN l hr L _) ?_
    iterate 3 refine AO.c ?_
    refine AO.ww ?_
    refine AO.sst ?_
    refine AO.c ?_
    refine AO.nil ?_
    refine SQ.normal ?_
    refine AW.seq' ?_
    refine AW.seq' ?_
    refine AW.region ?_
    refine AO.c ?_
    refine AO.nil ?_
    refine SQ.normal ?_
    refine AW.iteB (GL.ev _) (fun h3 => ?_) (fun h3 => ?_)
    ·
     have e : whereR l (⟨dropF l l.length, L⟩ : TabD) o s = placeF l (⟨dropF l l.length, L⟩ : TabD) (findR l ((l.getD o.toNat default).syms.getD s.toNat default).name).1.obj (findR l ((l.getD o.toNat default).syms.getD s.toNat default).name).1.sym := by unfold whereR; rw [if_neg hyes, if_neg h2, if_pos h3]
     have hfd := findR_in hr h3
     unfold DefIn at hfd
     refine AW.seq' ?_
     refine AW.region ?_
     iterate 6 refine AO.c ?_
     refine AO.call1 Tryz.func39 rfl rfl (ref_own l L _ _ hw ⟨hfd.1, hfd.2.1⟩ ⟨hfd.2.2.1, hfd.2.2.2⟩) ?_
     iterate 2 refine AO.c ?_
     refine AO.sst ?_
     refine AO.c ?_
     refine AO.nil ?_
     refine SQ.normal ?_
     refine AW.ret ?_
     refine SQ.ret ?_
     refine Fin.ret (Gh.refl) noid2 ?_
     rw [e]; rfl
    ·
     skip
     refine AW.skip ?_
     refine SQ.normal ?_
     refine AW.seq' ?_
     refine AW.seq' ?_
     refine AW.region ?_
     iterate 3 refine AO.c ?_
     refine AO.nil ?_
     refine SQ.normal ?_
     refine AW.iteB (GL.ev _) (fun h4 => ?_) (fun h4 => ?_)
     ·
      rw [decide_eq_true_eq] at h4
      have e : whereR l (⟨dropF l l.length, L⟩ : TabD) o s = (⟨0, 0, 0⟩, 0) := by unfold whereR; rw [if_neg hyes, if_neg h2, if_neg (by rw [h3]; decide), if_pos h4]
      refine AW.seq' ?_
      refine AW.region ?_
      refine AO.c ?_
      refine AO.sst ?_
      refine AO.c ?_
      refine AO.nil ?_
      refine SQ.normal ?_
      refine AW.ret ?_
      refine SQ.ret ?_
      refine Fin.ret (Gh.refl) noid2 ?_
      rw [e]; rfl
     ·
      rw [decide_eq_false_iff_not] at h4
      have e : whereR l (⟨dropF l l.length, L⟩ : TabD) o s = (⟨0, 0, 0⟩, 4) := by unfold whereR; rw [if_neg hyes, if_neg h2, if_neg (by rw [h3]; decide), if_neg h4]
      refine AW.skip ?_
      refine SQ.normal ?_
      refine AW.seq' ?_
      refine AW.region ?_
      refine AO.c ?_
      refine AO.sst ?_
      refine AO.c ?_
      refine AO.nil ?_
      refine SQ.normal ?_
      refine AW.ret ?_
      refine Fin.ret (Gh.refl) noid2 ?_
      rw [e]; rfl
end Go.Proofs.YtiomdnmicagdcaaGreat.AL
namespace Go.Proofs.YtiomdnmicagdcaaGreat.AL
open Go Go.RowKit Go.Proofs.YtiomdnmicagdcaaGreat.Base
set_option linter.unusedVariables false
set_option linter.unusedSimpArgs false
set_option maxRecDepth 4000
set_option synthInstance.maxSize 1000
set_option synthInstance.maxHeartbeats 200000
def look (L : List DefD) (nm : ByteArray) : Option DefD := L.find? fun x => decide (x.name = nm)
theorem sLt_ne {a b : ByteArray} (h : sLt a b = true) : a ≠ b := fun e => by rw [e, sLt_irrefl] at h; cases h
theorem look_yes {L : List DefD} {nm : ByteArray} (hs : Srt L) (h : findB L nm = true) : look L nm = some (L.getD (lowF L nm) default) := by
 obtain ⟨h1, h2⟩ := find_yes h
 have h3 := (low_spec hs nm).1
 unfold look
 rw [List.find?_eq_some_iff_getElem]
 refine ⟨decide_eq_true h2, lowF L nm, h1, ?_, fun j hj => ?_⟩
 · rw [List.getD_eq_getElem?_getD, List.getElem?_eq_getElem h1]; rfl
 · have := h3 j hj
   rw [List.getD_eq_getElem?_getD, List.getElem?_eq_getElem (by omega)] at this
   rw [Bool.not_eq_true', decide_eq_false_iff_not]
   exact sLt_ne this
theorem look_no {L : List DefD} {nm : ByteArray} (hs : Srt L) (h : findB L nm = false) : look L nm = none := by
 have h3 := (low_spec hs nm).1
 have h4 := find_no hs h
 unfold look
 rw [List.find?_eq_none]
 intro x hx
 obtain ⟨k, hk, rfl⟩ := List.getElem_of_mem hx
 rw [decide_eq_true_eq]
 by_cases e : k < lowF L nm
 · have := h3 k e
   rw [List.getD_eq_getElem?_getD, List.getElem?_eq_getElem hk] at this
   exact sLt_ne this
 · have := h4 k (by omega) hk
   rw [List.getD_eq_getElem?_getD, List.getElem?_eq_getElem hk] at this
   exact fun c => sLt_ne this c.symm
theorem look_isSome {L : List DefD} {nm : ByteArray} (hs : Srt L) : (look L nm).isSome = findB L nm := by
 cases h : findB L nm with
 | true => rw [look_yes hs h]; rfl
 | false => rw [look_no hs h]; rfl
theorem look_mem {L : List DefD} {nm : ByteArray} {d : DefD} (h : look L nm = some d) : d ∈ L ∧ d.name = nm :=
 ⟨List.mem_of_find?_eq_some h, of_decide_eq_true (List.find?_some (p := fun x : DefD => decide (x.name = nm)) h)⟩
theorem look_of {L : List DefD} {d : DefD} (hs : Srt L) (h : d ∈ L) : look L d.name = some d := by
 have hp := srt_pw.1 hs
 cases hl : look L d.name with
 | none =>
  exfalso
  unfold look at hl
  rw [List.find?_eq_none] at hl
  exact hl d h (decide_eq_true rfl)
 | some x =>
  obtain ⟨h1, h2⟩ := look_mem hl
  obtain ⟨a, ha, rfl⟩ := List.getElem_of_mem h
  obtain ⟨b, hb, rfl⟩ := List.getElem_of_mem h1
  rw [List.pairwise_iff_getElem] at hp
  rcases Nat.lt_trichotomy a b with c | c | c
  · exact absurd h2.symm (sLt_ne (hp a b ha hb c))
  · subst c; rfl
  · exact absurd h2 (sLt_ne (hp b a hb ha c))
/-- Two rising lists with the same definitions are one. -/
theorem srt_ext : ∀ {L M : List DefD}, Srt L → Srt M → (∀ nm, look L nm = look M nm) → L = M := by
 intro L M hL hM h
 have hmem : ∀ d, d ∈ L ↔ d ∈ M := fun d => by
  constructor
  · intro hd
    have := look_of hL hd
    rw [h] at this
    exact (look_mem this).1
  · intro hd
    have := look_of hM hd
    rw [← h] at this
    exact (look_mem this).1
 have pL := srt_pw.1 hL
 have pM := srt_pw.1 hM
 clear h hL hM
 induction L generalizing M with
 | nil =>
  cases M with
  | nil => rfl
  | cons x M => have := (hmem x).2 (by simp); cases this
 | cons a L ih =>
  cases M with
  | nil => have := (hmem a).1 (by simp); cases this
  | cons b M =>
   rw [List.pairwise_cons] at pL pM
   have e : a = b := by
    rcases List.mem_cons.1 ((hmem a).1 (by simp)) with e | ha
    · exact e
    · rcases List.mem_cons.1 ((hmem b).2 (by simp)) with e | hb
      · exact e.symm
      · have h1 := pM.1 a ha
        have h2 := pL.1 b hb
        unfold RL at h1 h2
        rw [sLt_asym h1] at h2; cases h2
   subst e
   rw [ih (fun d => ⟨fun hd => ?_, fun hd => ?_⟩) pL.2 pM.2]
   · rcases List.mem_cons.1 ((hmem d).1 (by simp [hd])) with e | h1
     · subst e; exact absurd rfl (sLt_ne (pL.1 d hd))
     · exact h1
   · rcases List.mem_cons.1 ((hmem d).2 (by simp [hd])) with e | h1
     · subst e; exact absurd rfl (sLt_ne (pM.1 d hd))
     · exact h1
theorem look_iff {L : List DefD} (hs : Srt L) {nm : ByteArray} {x : DefD} : look L nm = some x ↔ x ∈ L ∧ x.name = nm := by
 constructor
 · exact look_mem
 · rintro ⟨h, rfl⟩; exact look_of hs h
theorem set_mem {L : List DefD} {d : DefD} (hs : Srt L) (h : findB L d.name = true) {x : DefD} : x ∈ L.set (lowF L d.name) d ↔ x = d ∨ (x ∈ L ∧ x.name ≠ d.name) := by
 obtain ⟨h1, h2⟩ := find_yes h
 have hp := srt_pw.1 hs
 rw [List.pairwise_iff_getElem] at hp
 rw [List.getD_eq_getElem?_getD, List.getElem?_eq_getElem h1] at h2
 simp only [Option.getD_some] at h2
 constructor
 · intro hx
   obtain ⟨k, hk, rfl⟩ := List.getElem_of_mem hx
   rw [List.length_set] at hk
   by_cases e : lowF L d.name = k
   · left; rw [List.getElem_set]; rw [if_pos e]
   · right
     rw [List.getElem_set_ne e]
     refine ⟨List.getElem_mem hk, ?_⟩
     intro e2
     have e3 := e2.trans h2.symm
     rcases Nat.lt_or_gt_of_ne e with c | c
     · exact sLt_ne (hp _ _ h1 hk c) e3.symm
     · exact sLt_ne (hp _ _ hk h1 c) e3
 · rintro (rfl | ⟨hx, hn⟩)
   · exact List.mem_set h1 _
   · obtain ⟨k, hk, rfl⟩ := List.getElem_of_mem hx
     have e : lowF L d.name ≠ k := fun e => by subst e; exact hn h2
     rw [List.mem_iff_getElem]
     exact ⟨k, by rw [List.length_set]; exact hk, List.getElem_set_ne e _⟩
theorem look_add {l : List ObjD} {L : List DefD} {d : DefD} (hs : Srt L) (nm : ByteArray) : look (addF l L d) nm = if d.name = nm then (match look L nm with | none => some d | some h => if bindD l h = 2 ∧ bindD l d = 1 then some d else some h) else look L nm := by
 have hs2 := addF_srt (l := l) (d := d) hs
 apply Option.ext
 intro x
 rw [look_iff hs2]
 by_cases hn : d.name = nm
 · subst hn
   rw [if_pos rfl]
   cases hf : findB L d.name with
   | false =>
    have e : addF l L d = insD L (lowF L d.name) d := by unfold addF; rw [if_neg (by rw [hf]; decide)]
    have hl := look_no hs hf
    rw [e, hl, insD_mem]
    constructor
    · rintro ⟨rfl | hx, h2⟩
      · rfl
      · have := look_of hs hx; rw [h2, hl] at this; cases this
    · intro h; obtain rfl := Option.some.inj h; exact ⟨.inl rfl, rfl⟩
   | true =>
    have hl := look_yes hs hf
    rw [hl]
    simp only
    by_cases hb : bindD l (L.getD (lowF L d.name) default) = 2 ∧ bindD l d = 1
    · have e : addF l L d = L.set (lowF L d.name) d := by unfold addF; rw [if_pos hf, if_pos hb]
      rw [e, if_pos hb, set_mem hs hf]
      constructor
      · rintro ⟨rfl | ⟨_, h1⟩, h2⟩
        · rfl
        · exact absurd h2 h1
      · intro h; obtain rfl := Option.some.inj h; exact ⟨.inl rfl, rfl⟩
    · have e : addF l L d = L := by unfold addF; rw [if_pos hf, if_neg hb]
      rw [e, if_neg hb, ← look_iff hs, hl]
 · rw [if_neg hn, look_iff hs]
   cases hf : findB L d.name with
   | false =>
    have e : addF l L d = insD L (lowF L d.name) d := by unfold addF; rw [if_neg (by rw [hf]; decide)]
    rw [e, insD_mem]
    constructor
    · rintro ⟨rfl | hx, h2⟩
      · exact absurd h2 hn
      · exact ⟨hx, h2⟩
    · rintro ⟨hx, h2⟩; exact ⟨.inr hx, h2⟩
   | true =>
    by_cases hb : bindD l (L.getD (lowF L d.name) default) = 2 ∧ bindD l d = 1
    · have e : addF l L d = L.set (lowF L d.name) d := by unfold addF; rw [if_pos hf, if_pos hb]
      rw [e, set_mem hs hf]
      constructor
      · rintro ⟨rfl | ⟨hx, _⟩, h2⟩
        · exact absurd h2 hn
        · exact ⟨hx, h2⟩
      · rintro ⟨hx, h2⟩; exact ⟨.inr ⟨hx, by rw [h2]; exact fun c => hn c.symm⟩, h2⟩
    · have e : addF l L d = L := by unfold addF; rw [if_pos hf, if_neg hb]
      rw [e]
theorem put_srt {L : List DefD} {d : DefD} (hs : Srt L) : Srt (putF L d) := by
 unfold putF
 split
 · exact hs
 · have hp := srt_pw.1 hs
   rw [srt_pw, List.pairwise_append, List.pairwise_append]
   refine ⟨⟨hp.filter _, List.pairwise_singleton _ _, fun a ha b hb => ?_⟩, hp.filter _, fun a ha b hb => ?_⟩
   · obtain rfl := List.mem_singleton.1 hb
     exact (List.mem_filter.1 ha).2
   · have hb2 := (List.mem_filter.1 hb).2
     rcases List.mem_append.1 ha with ha | ha
     · have ha2 := (List.mem_filter.1 ha).2
       exact sLt_trans ha2 hb2
     · obtain rfl := List.mem_singleton.1 ha
       exact hb2
theorem put_mem {L : List DefD} {d : DefD} (hn : ¬ ∃ x ∈ L, x.name = d.name) {x : DefD} : x ∈ putF L d ↔ x = d ∨ x ∈ L := by
 unfold putF
 rw [if_neg hn, List.mem_append, List.mem_append, List.mem_singleton, List.mem_filter, List.mem_filter]
 constructor
 · rintro ((h | h) | h)
   · exact .inr h.1
   · exact .inl h
   · exact .inr h.1
 · rintro (h | h)
   · exact .inl (.inr h)
   · cases h1 : sLt x.name d.name with
     | true => exact .inl (.inl ⟨h, rfl⟩)
     | false =>
      cases h2 : sLt d.name x.name with
      | true => exact .inr ⟨h, rfl⟩
      | false => exact absurd ⟨x, h, ba_eq.1 (sLt_tri h1 h2)⟩ hn
theorem look_put {L : List DefD} {d : DefD} (hs : Srt L) (nm : ByteArray) : look (putF L d) nm = if d.name = nm then some ((look L nm).getD d) else look L nm := by
 have hs2 := put_srt (d := d) hs
 apply Option.ext
 intro x
 rw [look_iff hs2]
 by_cases he : ∃ x ∈ L, x.name = d.name
 · have e : putF L d = L := by unfold putF; rw [if_pos he]
   rw [e, ← look_iff hs]
   by_cases hn : d.name = nm
   · subst hn
     rw [if_pos rfl]
     obtain ⟨y, hy, h2⟩ := he
     have h3 := look_of hs hy
     rw [h2] at h3
     rw [h3]; rfl
   · rw [if_neg hn]
 · rw [put_mem he]
   by_cases hn : d.name = nm
   · subst hn
     have hl : look L d.name = none := by
      cases h : look L d.name with
      | none => rfl
      | some y => exact absurd ⟨y, look_mem h⟩ he
     rw [if_pos rfl, hl]
     constructor
     · rintro ⟨rfl | hx, h2⟩
       · rfl
       · exact absurd ⟨x, hx, h2⟩ he
     · intro h; obtain rfl := Option.some.inj h; exact ⟨.inl rfl, rfl⟩
   · rw [if_neg hn, look_iff hs]
     constructor
     · rintro ⟨rfl | hx, h2⟩
       · exact absurd h2 hn
       · exact ⟨hx, h2⟩
     · rintro ⟨hx, h2⟩; exact ⟨.inr hx, h2⟩
end Go.Proofs.YtiomdnmicagdcaaGreat.AL
