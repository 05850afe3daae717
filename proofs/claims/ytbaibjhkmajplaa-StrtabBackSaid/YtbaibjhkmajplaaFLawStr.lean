/- What functions of the program compute, each by its own contract; the conditions stand with each. -/
import Derived.Test.YtbaibjhkmajplaaFStr
import Derived.Test.YtbaibjhkmajplaaFInts
namespace Go.Proofs.Ytbaibjhkmajplaa.AL
open Go Go.RowKit Go.Proofs.Ytbaibjhkmajplaa.Base
set_option linter.unusedVariables false
set_option linter.unusedSimpArgs false
set_option maxRecDepth 4000
set_option synthInstance.maxSize 1000

def shortL (l : List ByteArray) : Bool := decide (l.length ≤ 100) && l.all mayS
theorem shortL_spec {l : List ByteArray} (h : shortL l = true) : l.length ≤ 100 ∧ ∀ s ∈ l, mayS s = true ∧ s.size ≤ 32 := by
  unfold shortL at h
  rw [Bool.and_eq_true, decide_eq_true_eq, List.all_eq_true] at h
  refine ⟨h.1, fun s hs => ⟨h.2 s hs, ?_⟩⟩
  have := h.2 s hs
  unfold mayS at this
  rw [decide_eq_true_eq] at this
  exact this.1
theorem strOfNums_eq {a b : List Int} : a = b → strOfNums a = strOfNums b := fun h => by rw [h]
theorem tabOf_bytes (l : List ByteArray) : Bytes (tabOf l).1 := by
  have : ∀ (l2 : List ByteArray) (st : TabS), Bytes st.1 → Bytes (l2.foldl tabStep st).1 := by
    intro l2
    induction l2 with
    | nil => intro st h; exact h
    | cons s l2 ih =>
      intro st h
      refine ih _ ?_
      unfold tabStep
      split
      · exact h
      · split
        · exact h
        · exact (h.append (strB_bytes s)).append (Bytes.cons (by decide) (by decide) Bytes.nil)
  exact this l _ (Bytes.cons (by decide) (by decide) Bytes.nil)
/-- Is a name the first of its kind? -/
def isNew (l : List ByteArray) (i : Nat) : Prop := l.getD i default ≠ noS ∧ ∀ k, k < i → l.getD k default ≠ l.getD i default
theorem tab_new {l : List ByteArray} {i : Nat} (hi : i < l.length) (h : isNew l i) : (tabOf (l.take (i + 1))).1.length = (tabOf (l.take i)).1.length + (l.getD i default).size + 1 := by
  have hinv := tab_inv (l.take i)
  have htl : (l.take i).length = i := by rw [List.length_take]; omega
  have hag : aget (tabOf (l.take i)).2.2 (l.getD i default) = none := by
    cases hc : aget (tabOf (l.take i)).2.2 (l.getD i default) with
    | none => rfl
    | some a =>
      obtain ⟨_, _, j, g1, g2⟩ := hinv.old _ _ hc
      rw [htl] at g1
      rw [take_getD g1] at g2
      exact absurd g2 (h.2 j g1)
  rw [tabOf_succ hi, step_new h.1 hag]
  simp only [List.length_append, strB_len, List.length_cons, List.length_nil]
theorem tab_old {l : List ByteArray} {i : Nat} (hi : i < l.length) (h : ¬ isNew l i) : (tabOf (l.take (i + 1))).1.length = (tabOf (l.take i)).1.length := by
  have hinv := tab_inv (l.take i)
  have htl : (l.take i).length = i := by rw [List.length_take]; omega
  rw [tabOf_succ hi]
  by_cases h1 : l.getD i default = noS
  · rw [step_no h1]
  · have hex : ∃ k, k < i ∧ l.getD k default = l.getD i default := by
      refine Classical.byContradiction fun h2 => h ⟨h1, fun k hk he => h2 ⟨k, hk, he⟩⟩
    obtain ⟨k, hk, he⟩ := hex
    have g := hinv.get k (by rw [htl]; exact hk) (by rw [take_getD hk, he]; exact h1)
    rw [take_getD hk, he] at g
    rw [step_old h1 g]
theorem tab_same {l : List ByteArray} {i k : Nat} (hi : i < l.length) (hk : k < l.length) (he : l.getD k default = l.getD i default) : (tabOf l).2.1.getD k 0 = (tabOf l).2.1.getD i 0 := by
  have hinv := tab_inv l
  by_cases h : l.getD i default = noS
  · rw [hinv.nil i hi h, hinv.nil k hk (by rw [he]; exact h)]
  · have g1 := hinv.get i hi h
    have g2 := hinv.get k hk (by rw [he]; exact h)
    rw [he, g1] at g2
    exact (Option.some.inj g2).symm

theorem law_short (l : List ByteArray) (hl : l.length ≤ 9223372036854775807) (hs : ∀ s ∈ l, s.size ≤ 9223372036854775807) : A0 Try.prog 45 [.rd 1 (l.map sA)] (fun ret => ret = .v (.int .i64 (if shortL l = true then 1 else 0))) := by
  refine A0.body 21 Try.func45 rfl rfl Try.ntmps45 fun base n0 => ?_
  refine AW.seq' ?_
  refine AW.region ?_
  refine AO.c ?_
  refine AO.nil ?_
  refine SQ.normal ?_
  refine AW.seq' ?_
  refine AW.seq' ?_
  refine AW.region ?_
  refine AO.c ?_
  refine AO.c ?_
  refine AO.c ?_
  refine AO.nil ?_
  refine SQ.normal ?_
  refine AW.iteB (GL.ev _) (fun h0 => ?_) (fun h0 => ?_)
  · skip
    rw [decide_eq_true_eq] at h0
    have hres : ¬ shortL l = true := fun h => by have := (shortL_spec h).1; omega
    refine AW.seq' ?_
    refine AW.region ?_
    refine AO.c ?_
    refine AO.nil ?_
    refine SQ.normal ?_
    refine AW.ret ?_
    refine SQ.ret ?_
    refine Fin.ret (Gh.refl) noid1 ?_
    rw [if_neg hres]; rfl
  · skip
    rw [decide_eq_false_iff_not] at h0
    refine AW.skip ?_
    refine SQ.normal ?_
    refine AW.seq' ?_
    refine AW.seq' ?_
    refine AW.region ?_
    refine AO.c ?_
    refine AO.nil ?_
    refine SQ.normal ?_
    refine AW.block' ?_
    refine AW.loopU [.k, .f, .f, .k, .F, .F, .f] (fun (i : Nat) => [(3, .v (.int .i64 (i)))]) (fun i => Hn n0 []) (fun m i => i ≤ l.length ∧ m = l.length - i ∧ ∀ j, j < i → mayS (l.getD j default) = true) (l.length) (0) ⟨by omega, rfl, fun j h => by omega⟩ (by first | rfl | (simp; done)) (by first | rfl | (simp; done)) ?_
    rintro m0 i ⟨hx1, hx2, hx3⟩
    refine AW.seq' ?_
    refine AW.seq' ?_
    refine AW.region ?_
    refine AO.c ?_
    refine AO.c ?_
    refine AO.c ?_
    refine AO.c ?_
    refine AO.nil ?_
    refine SQ.normal ?_
    refine AW.iteB (GL.ev _) (fun h1 => ?_) (fun h1 => ?_)
    · skip
      rw [decide_eq_true_eq] at h1
      have hi : i < l.length := by omega
      refine AW.skip ?_
      refine SQ.normal ?_
      refine AW.seq' ?_
      refine AW.block' ?_
      refine AW.seq' ?_
      refine AW.region ?_
      refine AO.c ?_
      refine AO.c ?_
      refine AO.oo ?_
      refine AO.c ?_
      refine AO.call1 Try.func44 rfl rfl (ref_Name _ (hs _ (getD_in hi))) ?_
      refine AO.c ?_
      refine AO.nil ?_
      refine SQ.normal ?_
      refine AW.seq' ?_
      refine AW.region ?_
      refine AO.c ?_
      refine AO.c ?_
      refine AO.nil ?_
      refine SQ.normal ?_
      refine AW.iteB (GL.ev _) (fun h2 => ?_) (fun h2 => ?_)
      · skip
        rw [Bool.not_eq_true'] at h2
        have hres : ¬ shortL l = true := fun h => by have := ((shortL_spec h).2 _ (getD_in hi)).1; rw [h2] at this; cases this
        refine AW.seq' ?_
        refine AW.region ?_
        refine AO.c ?_
        refine AO.nil ?_
        refine SQ.normal ?_
        refine AW.ret ?_
        refine BQ.ret <| SQ.ret <| AW.out <| LU.ret <| BQ.ret <| SQ.ret ?_
        refine Fin.ret (Gh.refl) noid1 ?_
        rw [if_neg hres]; rfl
      · skip
        rw [Bool.not_eq_false'] at h2
        refine AW.skip ?_
        refine BQ.normal ?_
        refine SQ.normal ?_
        refine AW.region ?_
        refine AO.c ?_
        refine AO.oo ?_
        refine AO.c ?_
        refine AO.nil ?_
        exact AW.backU [.k, .f, .f, .k, .F, .F, .f] (m0 - 1) (i + 1) (by omega) (by (try dsimp only); exact ⟨by omega, by omega, fun j hj => (Nat.lt_or_eq_of_le (Nat.le_of_lt_succ hj)).elim (hx3 j) (fun h => by rw [h]; exact h2)⟩) (by first | rfl | (simp; done)) (by first | rfl | (simp; done))
    · skip
      rw [decide_eq_false_iff_not] at h1
      have hres : shortL l = true := by
        unfold shortL
        rw [Bool.and_eq_true, decide_eq_true_eq, List.all_eq_true]
        refine ⟨by omega, fun x hx => ?_⟩
        obtain ⟨j, hj, rfl⟩ := List.getElem_of_mem hx
        have := hx3 j (by omega)
        simpa [hj] using this
      refine AW.exit ?_
      refine SQ.exit <| AW.out <| LU.exit <| BQ.exit ?_
      refine SQ.normal ?_
      refine AW.seq' ?_
      refine AW.region ?_
      refine AO.c ?_
      refine AO.nil ?_
      refine SQ.normal ?_
      refine AW.ret ?_
      refine Fin.ret (Gh.refl) noid1 ?_
      rw [if_pos hres]; rfl
theorem up03  : A0 Try.prog 40 [] (fun ret => ret = .v (.bool true)) := by
  have ht : tabOf [⟨#[97, 98]⟩, ⟨#[]⟩, ⟨#[99]⟩, ⟨#[97, 98]⟩] = ([0, 97, 98, 0, 99, 0], [1, 0, 4, 1], [(⟨#[97, 98]⟩, 1), (⟨#[99]⟩, 4)]) := by decide
  have hp := strtab_Make [⟨#[97, 98]⟩, ⟨#[]⟩, ⟨#[99]⟩, ⟨#[97, 98]⟩] (by decide) (by decide)
  rw [ht] at hp
  have hi := law_Ints [1, 0, 4, 1] [1, 0, 4, 1] (by decide) (by decide)
  have es : (strOfNums [0, 97, 98, 0, 99, 0]).toList = (ByteArray.mk #[0, 97, 98, 0, 99, 0]).toList := by rfl
  refine A0.body 17 Try.func40 rfl rfl Try.ntmps40 fun base n0 => ?_
  refine AW.seq' ?_
  refine AW.region ?_
  refine AO.c ?_
  refine AO.nil ?_
  refine SQ.normal ?_
  refine AW.seq' ?_
  refine AW.region ?_
  refine AO.rr ?_
  refine AO.eq 4 (av' := .rd 1 (([⟨#[97, 98]⟩, ⟨#[]⟩, ⟨#[99]⟩, ⟨#[97, 98]⟩] : List ByteArray).map sA)) rfl ?_
  refine AO.call1 Try.func46 rfl rfl (hp) ?_
  refine AO.c ?_
  refine AO.c ?_
  refine AO.c ?_
  refine AO.c ?_
  refine AO.c ?_
  refine AO.nil ?_
  refine SQ.normal ?_
  refine AW.seq' ?_
  refine AW.region ?_
  refine AO.c ?_
  refine AO.c ?_
  refine AO.c ?_
  refine AO.c ?_
  refine AO.gx ?_
  refine AO.gxrr ?_
  refine AO.eq 13 (av' := cv _ (.rd 1 (([1, 0, 4, 1] : List Int).map iA))) rfl ?_
  refine AO.gxcall1 Try.func48 rfl rfl (fun hgd => hi) ?_
  refine AO.gx ?_
  refine AO.c ?_
  refine AO.c ?_
  refine AO.nil ?_
  refine SQ.normal ?_
  refine AW.ret ?_
  refine Fin.ret (Gh.refl) noid1 ?_
  show AV.v (.bool _) = AV.v (.bool true)
  simp [es]
theorem strtab_Tells (s : ByteArray) (b : List Int) (a : Int) (l : List ByteArray) (hB : Bytes b) (hs : s.size ≤ maxLen) (hbl : b.length ≤ maxLen) (ha : I64 a) (hl : l.length ≤ maxLen) (h64 : ∀ x ∈ l, x.size ≤ maxLen) : A0 Try.prog 9 [.v (.string s), .rd 1 (bys b), .v (.int .i64 (a)), .rd 1 (l.map sA)] (fun ret => ret = .v (.bool true)) := by
  have hup := up03
  rw [maxLen_eq] at hs hbl hl
  have h64n : ∀ x ∈ l, x.size ≤ 9223372036854775807 := fun x hx => by rw [← maxLen_eq]; exact h64 x hx
  refine A0.body 83 Try.func9 rfl rfl Try.ntmps9 fun base n0 => ?_
  refine AW.seq' ?_
  refine AW.region ?_
  refine AO.c ?_
  refine AO.nil ?_
  refine SQ.normal ?_
  refine AW.seq' ?_
  refine AW.region ?_
  refine AO.call1 Try.func40 rfl rfl (up03) ?_
  refine AO.c ?_
  refine AO.nil ?_
  refine SQ.normal ?_
  refine AW.seq' ?_
  refine AW.seq' ?_
  refine AW.region ?_
  refine AO.c ?_
  refine AO.c ?_
  refine AO.c ?_
  refine AO.c ?_
  refine AO.gx ?_
  refine AO.gx ?_
  refine AO.gx ?_
  refine AO.c ?_
  refine AO.nil ?_
  refine SQ.normal ?_
  refine AW.iteB (GL.ev _) (fun h0 => ?_) (fun h0 => ?_)
  · skip
    skip
    refine AW.seq' ?_
    refine AW.region ?_
    refine AO.c ?_
    refine AO.c ?_
    refine AO.nil ?_
    refine SQ.normal ?_
    refine AW.ret ?_
    refine SQ.ret ?_
    refine Fin.ret (Gh.refl) noid1 ?_
    rfl
  · skip
    simp only [Bool.or_eq_false_iff, decide_eq_false_iff_not] at h0
    refine AW.skip ?_
    refine SQ.normal ?_
    refine AW.seq' ?_
    refine AW.region ?_
    refine AO.c ?_
    refine AO.c ?_
    refine AO.call1 Try.func41 rfl rfl (strtab_At b a hB (by omega) ha) ?_
    refine AO.c ?_
    refine AO.c ?_
    refine AO.c ?_
    refine AO.c ?_
    refine AO.c ?_
    refine AO.nil ?_
    refine SQ.normal ?_
    refine AW.seq' ?_
    refine AW.region ?_
    refine AO.c ?_
    refine AO.c ?_
    refine AO.call1 Try.func42 rfl rfl (ref_At b a hB (by omega) ha) ?_
    refine AO.c ?_
    refine AO.c ?_
    refine AO.c ?_
    refine AO.c ?_
    refine AO.c ?_
    refine AO.nil ?_
    refine SQ.normal ?_
    refine AW.seq' ?_
    refine AW.seq' ?_
    refine AW.region ?_
    refine AO.c ?_
    refine AO.call1 Try.func43 rfl rfl (strtab_May _) ?_
    refine AO.c ?_
    refine AO.call1 Try.func44 rfl rfl (ref_Name s hs) ?_
    refine AO.c ?_
    refine AO.c ?_
    refine AO.gx ?_
    refine AO.gx ?_
    refine AO.gx ?_
    refine AO.c ?_
    refine AO.c ?_
    refine AO.gx ?_
    refine AO.gx ?_
    refine AO.gx ?_
    refine AO.c ?_
    refine AO.nil ?_
    refine SQ.normal ?_
    refine AW.iteB (GL.ev _) (fun h1 => ?_) (fun h1 => ?_)
    · skip
      exfalso
      simp at h1
    · skip
      skip
      refine AW.skip ?_
      refine SQ.normal ?_
      refine AW.seq' ?_
      refine AW.seq' ?_
      refine AW.region ?_
      refine AO.c ?_
      refine AO.call1 Try.func45 rfl rfl (law_short l hl h64n) ?_
      refine AO.c ?_
      refine AO.nil ?_
      refine SQ.normal ?_
      refine AW.iteB (GL.ev _) (fun h2 => ?_) (fun h2 => ?_)
      · skip
        skip
        refine AW.seq' ?_
        refine AW.region ?_
        refine AO.c ?_
        refine AO.c ?_
        refine AO.nil ?_
        refine SQ.normal ?_
        refine AW.ret ?_
        refine SQ.ret ?_
        refine Fin.ret (Gh.refl) noid1 ?_
        rfl
      · skip
        have hsh : shortL l = true := by
          cases hc : shortL l with
          | true => rfl
          | false => rw [hc] at h2; simp at h2
        obtain ⟨q1, q2⟩ := shortL_spec hsh
        have hsz : ∀ s ∈ l, s.size ≤ 1000000 := fun s hs => by have := (q2 s hs).2; omega
        have hpl := tabOf_pl l
        refine AW.skip ?_
        refine SQ.normal ?_
        refine AW.seq' ?_
        refine AW.region ?_
        refine AO.c ?_
        refine AO.call1 Try.func46 rfl rfl (strtab_Make l (by omega) hsz) ?_
        refine AO.c ?_
        refine AO.c ?_
        refine AO.c ?_
        refine AO.c ?_
        refine AO.c ?_
        refine AO.nil ?_
        refine SQ.normal ?_
        refine AW.seq' ?_
        refine AW.region ?_
        refine AO.c ?_
        refine AO.call1 Try.func47 rfl rfl (ref_Make l (by omega) hsz) ?_
        refine AO.c ?_
        refine AO.c ?_
        refine AO.c ?_
        refine AO.c ?_
        refine AO.c ?_
        refine AO.nil ?_
        refine SQ.normal ?_
        refine AW.seq' ?_
        refine AW.region ?_
        refine AO.c ?_
        refine AO.c ?_
        refine AO.gx ?_
        refine AO.gx ?_
        refine AO.gx ?_
        refine AO.gx ?_
        refine AO.gx ?_
        refine AO.c ?_
        refine AO.c ?_
        refine AO.gx ?_
        refine AO.gx ?_
        refine AO.gxcall1 Try.func48 rfl rfl (fun hgd => law_Ints _ _ (by rw [hpl]; omega) (by rw [hpl]; omega)) ?_
        refine AO.gx ?_
        refine AO.c ?_
        refine AO.c ?_
        refine AO.nil ?_
        refine SQ.normal ?_
        refine AW.ret ?_
        refine Fin.ret (Gh.refl) noid1 ?_
        show AV.v (.bool _) = AV.v (.bool true)
        simp
set_option maxHeartbeats 1000000 in
theorem strtab_BackL (l : List ByteArray) (hl : l.length ≤ maxLen) (h64 : ∀ x ∈ l, x.size ≤ maxLen) : A0 Try.prog 10 [.rd 1 (l.map sA)] (fun ret => ret = .v (.bool true)) := by
  have hup := up03
  rw [maxLen_eq] at hl
  have h64n : ∀ x ∈ l, x.size ≤ 9223372036854775807 := fun x hx => by rw [← maxLen_eq]; exact h64 x hx
  have hpl := tabOf_pl l
  have hinv := tab_inv l
  refine A0.body 101 Try.func10 rfl rfl Try.ntmps10 fun base n0 => ?_
  refine AW.seq' ?_
  refine AW.region ?_
  refine AO.c ?_
  refine AO.nil ?_
  refine SQ.normal ?_
  refine AW.seq' ?_
  refine AW.region ?_
  refine AO.call1 Try.func40 rfl rfl (up03) ?_
  refine AO.c ?_
  refine AO.nil ?_
  refine SQ.normal ?_
  refine AW.seq' ?_
  refine AW.seq' ?_
  refine AW.region ?_
  refine AO.c ?_
  refine AO.call1 Try.func45 rfl rfl (law_short l hl h64n) ?_
  refine AO.c ?_
  refine AO.nil ?_
  refine SQ.normal ?_
  refine AW.iteB (GL.ev _) (fun h0 => ?_) (fun h0 => ?_)
  · skip
    skip
    refine AW.seq' ?_
    refine AW.region ?_
    refine AO.c ?_
    refine AO.c ?_
    refine AO.nil ?_
    refine SQ.normal ?_
    refine AW.ret ?_
    refine SQ.ret ?_
    refine Fin.ret (Gh.refl) noid1 ?_
    rfl
  · skip
    have hsh : shortL l = true := by
      cases hc : shortL l with
      | true => rfl
      | false => rw [hc] at h0; simp at h0
    obtain ⟨q1, q2⟩ := shortL_spec hsh
    have hsz : ∀ s ∈ l, s.size ≤ 1000000 := fun s hs => by have := (q2 s hs).2; omega
    have htl := tabOf_len hsz
    refine AW.skip ?_
    refine SQ.normal ?_
    refine AW.seq' ?_
    refine AW.region ?_
    refine AO.c ?_
    refine AO.call1 Try.func46 rfl rfl (strtab_Make l (by omega) hsz) ?_
    refine AO.c ?_
    refine AO.c ?_
    refine AO.c ?_
    refine AO.c ?_
    refine AO.c ?_
    refine AO.nil ?_
    refine SQ.normal ?_
    refine AW.seq' ?_
    refine AW.seq' ?_
    refine AW.region ?_
    refine AO.c ?_
    refine AO.c ?_
    refine AO.c ?_
    refine AO.c ?_
    refine AO.c ?_
    refine AO.nil ?_
    refine SQ.normal ?_
    refine AW.iteB (GL.ev _) (fun h1 => ?_) (fun h1 => ?_)
    · skip
      exfalso
      rw [decide_eq_true_eq] at h1
      omega
    · skip
      skip
      refine AW.skip ?_
      refine SQ.normal ?_
      refine AW.seq' ?_
      refine AW.region ?_
      refine AO.c ?_
      refine AO.nil ?_
      refine SQ.normal ?_
      refine AW.seq' ?_
      refine AW.seq' ?_
      refine AW.region ?_
      refine AO.c ?_
      refine AO.nil ?_
      refine SQ.normal ?_
      refine AW.block' ?_
      refine AW.loopU [.k, .f, .f, .k, .k, .k, .k, .k, .F, .F, .F, .F, .F, .F, .F, .F, .F, .F, .F, .f, .f, .f, .f, .f] (fun (i : Nat) => [(6, .v (.int .i64 (((tabOf (l.take i)).1.length : Nat)))), (7, .v (.int .i64 (i)))]) (fun i => Hn n0 []) (fun m i => i ≤ l.length ∧ m = l.length - i) (l.length) (0) ⟨by omega, rfl⟩ (by first | rfl | (simp; done)) (by first | rfl | (simp; done)) ?_
      rintro m0 i ⟨hx1, hx2⟩
      have hti := tabOf_len (takeI hsz i)
      rw [List.length_take] at hti
      refine AW.seq' ?_
      refine AW.seq' ?_
      refine AW.region ?_
      refine AO.c ?_
      refine AO.c ?_
      refine AO.c ?_
      refine AO.c ?_
      refine AO.nil ?_
      refine SQ.normal ?_
      refine AW.iteB (GL.ev _) (fun h2 => ?_) (fun h2 => ?_)
      · skip
        rw [decide_eq_true_eq] at h2
        have hi : i < l.length := by omega
        have hmay := (q2 _ (getD_in hi)).1
        obtain ⟨hp0, r, hdr⟩ := hinv.at_ i hi
        have hsi := szI hsz i
        have hat := atF_name hp0 hmay hdr
        have hdl := congrArg List.length hdr
        rw [List.length_drop, List.length_append, List.length_cons] at hdl
        refine AW.skip ?_
        refine SQ.normal ?_
        refine AW.seq' ?_
        refine AW.block' ?_
        refine AW.seq' ?_
        refine AW.region ?_
        refine AO.c ?_
        refine AO.c ?_
        refine AO.c ?_
        refine AO.oo ?_
        refine AO.c ?_
        have hcall := strtab_At (tabOf l).1 ((tabOf l).2.1.getD i 0) (tabOf_bytes l) (by omega) (by unfold I64; omega)
        rw [hat] at hcall
        refine AO.call1 Try.func41 rfl rfl (hcall) ?_
        refine AO.c ?_
        refine AO.c ?_
        refine AO.c ?_
        refine AO.c ?_
        refine AO.c ?_
        refine AO.nil ?_
        refine SQ.normal ?_
        refine AW.seq' ?_
        refine AW.seq' ?_
        refine AW.region ?_
        refine AO.c ?_
        refine AO.c ?_
        refine AO.c ?_
        refine AO.gx ?_
        refine AO.gx ?_
        refine AO.gx ?_
        refine AO.gxoo ?_
        refine AO.gx ?_
        refine AO.gx ?_
        refine AO.c ?_
        refine AO.c ?_
        refine AO.gx ?_
        refine AO.gxcall1 Try.func43 rfl rfl (fun hgd => strtab_May _) ?_
        refine AO.gx ?_
        refine AO.c ?_
        refine AO.nil ?_
        refine SQ.normal ?_
        refine AW.iteB (GL.ev _) (fun h3 => ?_) (fun h3 => ?_)
        · skip
          exfalso
          generalize l.getD i default = g at h3 hmay
          simp [hmay] at h3
        · skip
          skip
          refine AW.skip ?_
          refine SQ.normal ?_
          refine AW.seq' ?_
          refine AW.region ?_
          refine AO.c ?_
          refine AO.c ?_
          refine AO.oo ?_
          refine AO.c ?_
          refine AO.c ?_
          refine AO.c ?_
          refine AO.nil ?_
          refine SQ.normal ?_
          refine AW.seq' ?_
          refine AW.seq' ?_
          refine AW.region ?_
          refine AO.c ?_
          refine AO.nil ?_
          refine SQ.normal ?_
          refine AW.block' ?_
          refine AW.loopU2 [.k, .f, .f, .k, .k, .k, .k, .k, .f, .f, .k, .k, .F, .F, .F, .F, .F, .F, .F, .F, .F, .F, .F, .f] (fun (k : Nat) (fb : Bool) => [(10, .v (.bool fb)), (11, .v (.int .i64 (k)))]) (fun k fb => Hn n0 []) (fun m k fb => k ≤ i ∧ m = i - k ∧ (fb = true ↔ (l.getD i default ≠ noS ∧ ∀ j, j < k → l.getD j default ≠ l.getD i default))) (i) (0) ((decide ((l.getD i default).toList ≠ (ByteArray.mk #[]).toList))) ⟨by omega, rfl, by rw [decide_eq_true_eq, Ne, ba_eq]; exact ⟨fun h => ⟨h, fun j hj => by omega⟩, fun h => h.1⟩⟩ (by first | rfl | (simp; done)) (by first | rfl | (simp; done)) ?_
          rintro m1 k fb ⟨hy1, hy2, hfst⟩
          refine AW.seq' ?_
          refine AW.seq' ?_
          refine AW.region ?_
          refine AO.c ?_
          refine AO.c ?_
          refine AO.c ?_
          refine AO.nil ?_
          refine SQ.normal ?_
          refine AW.iteB (GL.ev _) (fun h4 => ?_) (fun h4 => ?_)
          · skip
            rw [decide_eq_true_eq] at h4
            have hk : k < l.length := by omega
            refine AW.skip ?_
            refine SQ.normal ?_
            refine AW.seq' ?_
            refine AW.block' ?_
            refine AW.seq' ?_
            refine AW.drawsZ [] (.one 0 false (.one 1 false (.one 2 false (.one 3 false (.one 4 false (.one 5 false (.one 6 false (.one 7 false (.one 8 false .nil))))))))) (by kernel_rfl) rfl (by kernel_rfl) ?_
            refine AZ.c rfl ?_
            refine AZ.c rfl ?_
            refine AZ.oo rfl ?_
            refine AZ.c rfl ?_
            refine AZ.c rfl ?_
            refine AZ.c rfl ?_
            refine AZ.oo rfl ?_
            refine AZ.c rfl ?_
            refine AZ.c rfl ?_
            refine AZ.done ?_
            refine SQ.normal ?_
            refine AW.iteB (GL.ev _) (fun h5 => ?_) (fun h5 => ?_)
            · skip
              rw [decide_eq_true_eq, ba_eq] at h5
              have hsame := tab_same hi hk h5
              refine AW.seq' ?_
              refine AW.region ?_
              refine AO.c ?_
              refine AO.nil ?_
              refine SQ.normal ?_
              refine AW.seq' ?_
              refine AW.drawsZ [] (.one 0 false (.one 1 false (.one 2 false (.one 3 false (.one 4 false (.one 5 false (.one 6 false (.one 7 false (.one 8 false .nil))))))))) (by kernel_rfl) rfl (by kernel_rfl) ?_
              refine AZ.c rfl ?_
              refine AZ.c rfl ?_
              refine AZ.oo rfl ?_
              refine AZ.c rfl ?_
              refine AZ.c rfl ?_
              refine AZ.c rfl ?_
              refine AZ.oo rfl ?_
              refine AZ.c rfl ?_
              refine AZ.c rfl ?_
              refine AZ.done ?_
              refine SQ.normal ?_
              refine AW.iteB (GL.ev _) (fun h6 => ?_) (fun h6 => ?_)
              · skip
                exfalso
                rw [decide_eq_true_eq] at h6
                exact h6 hsame
              · skip
                skip
                refine AW.skip ?_
                refine BQ.normal ?_
                refine SQ.normal ?_
                refine AW.region ?_
                refine AO.c ?_
                refine AO.oo ?_
                refine AO.c ?_
                refine AO.nil ?_
                exact AW.backU [.k, .f, .f, .k, .k, .k, .k, .k, .f, .f, .k, .k, .F, .F, .F, .F, .F, .F, .F, .F, .F, .F, .F, .f] (m1 - 1) (k + 1, false) (by omega) (by (try dsimp only); exact ⟨by omega, by omega, ⟨(fun h => by cases h), fun h => absurd h5 (h.2 k (by omega))⟩⟩) (by first | rfl | (simp; done)) (by first | rfl | (simp; done))
            · skip
              rw [decide_eq_false_iff_not, ba_eq] at h5
              refine AW.skip ?_
              refine BQ.normal ?_
              refine SQ.normal ?_
              refine AW.region ?_
              refine AO.c ?_
              refine AO.oo ?_
              refine AO.c ?_
              refine AO.nil ?_
              exact AW.backU [.k, .f, .f, .k, .k, .k, .k, .k, .f, .f, .k, .k, .F, .F, .F, .F, .F, .F, .F, .F, .F, .F, .F, .f] (m1 - 1) (k + 1, fb) (by omega) (by (try dsimp only); exact ⟨by omega, by omega, by rw [hfst]; exact ⟨fun h => ⟨h.1, fun j hj => (Nat.lt_or_eq_of_le (Nat.le_of_lt_succ hj)).elim (h.2 j) (fun e => by rw [e]; exact h5)⟩, fun h => ⟨h.1, fun j hj => h.2 j (by omega)⟩⟩⟩) (by first | rfl | (simp; done)) (by first | rfl | (simp; done))
          · skip
            rw [decide_eq_false_iff_not] at h4
            refine AW.exit ?_
            refine SQ.exit <| AW.out <| LU.exit <| BQ.exit ?_
            refine SQ.normal ?_
            refine AW.seq' ?_
            refine AW.region ?_
            refine AO.c ?_
            refine AO.nil ?_
            refine SQ.normal ?_
            refine AW.iteB (GL.ev _) (fun h7 => ?_) (fun h7 => ?_)
            · skip
              skip
              refine AW.region ?_
              refine AO.c ?_
              refine AO.c ?_
              refine AO.c ?_
              refine AO.oo ?_
              refine AO.c ?_
              refine AO.c ?_
              refine AO.o (by omega) ?_
              refine AO.o (by omega) ?_
              refine AO.c ?_
              refine AO.nil ?_
              refine BQ.normal ?_
              refine SQ.normal ?_
              refine AW.region ?_
              refine AO.c ?_
              refine AO.oo ?_
              refine AO.c ?_
              refine AO.nil ?_
              exact AW.backU [.k, .f, .f, .k, .k, .k, .k, .k, .F, .F, .F, .F, .F, .F, .F, .F, .F, .F, .F, .f, .f, .f, .f, .f] (m0 - 1) (i + 1) (by omega) (by first | omega | (simp; done) | (simp; omega)) (by rw [tab_new hi ⟨(hfst.1 h7).1, fun k hk => (hfst.1 h7).2 k (by omega)⟩]; simp [Int.add_assoc]) (by first | rfl | (simp; done))
            · skip
              skip
              refine AW.skip ?_
              refine BQ.normal ?_
              refine SQ.normal ?_
              refine AW.region ?_
              refine AO.c ?_
              refine AO.oo ?_
              refine AO.c ?_
              refine AO.nil ?_
              exact AW.backU [.k, .f, .f, .k, .k, .k, .k, .k, .F, .F, .F, .F, .F, .F, .F, .F, .F, .F, .F, .f, .f, .f, .f, .f] (m0 - 1) (i + 1) (by omega) (by first | omega | (simp; done) | (simp; omega)) (by rw [tab_old hi (fun hn => by rw [hfst.2 ⟨hn.1, fun j hj => hn.2 j (by omega)⟩] at h7; cases h7)]; rfl) (by first | rfl | (simp; done))
      · skip
        rw [decide_eq_false_iff_not] at h2
        have hfin : l.take i = l := List.take_of_length_le (by omega)
        refine AW.exit ?_
        refine SQ.exit <| AW.out <| LU.exit <| BQ.exit ?_
        refine SQ.normal ?_
        refine AW.seq' ?_
        refine AW.region ?_
        refine AO.c ?_
        refine AO.c ?_
        refine AO.gx ?_
        refine AO.gx ?_
        refine AO.gx ?_
        refine AO.gx ?_
        refine AO.c ?_
        refine AO.c ?_
        refine AO.nil ?_
        refine SQ.normal ?_
        refine AW.ret ?_
        refine Fin.ret (Gh.refl) noid1 ?_
        show AV.v (.bool _) = AV.v (.bool true)
        rw [hfin]
        simp

theorem args_StrtabTells {avs : List AV} (h : TArgs Try.prog [9, 22, 3, 45] avs) : A0 Try.prog 9 avs (fun ret => ret = .v (.bool true)) := by
  obtain ⟨av1, b1, rfl, k1, h1⟩ := TArgs.inv_one rfl h
  obtain ⟨av2, b2, rfl, k2, h2⟩ := TArgs.inv_one rfl h1
  obtain ⟨av3, b3, rfl, k3, h3⟩ := TArgs.inv_one rfl h2
  obtain ⟨av4, b4, rfl, k4, h4⟩ := TArgs.inv_one rfl h3
  obtain rfl := TArgs.inv_nil h4
  obtain ⟨s, he1, w1⟩ := k1.inv_str
  cases he1
  obtain ⟨b, he2, w2, q2⟩ := TA.inv_bytes (e := 5) k2
  cases he2
  obtain ⟨n, he3, w3⟩ := k3.inv_int (k := .i64)
  cases he3
  obtain ⟨l, he4, w4, q4⟩ := k4.inv_strs (e := 9)
  cases he4
  exact strtab_Tells s b n l q2 w1 w2 (wf_i64 w3) w4 q4
theorem args_StrtabBack {avs : List AV} (h : TArgs Try.prog [45] avs) : A0 Try.prog 10 avs (fun ret => ret = .v (.bool true)) := by
  obtain ⟨av1, b1, rfl, k1, h1⟩ := TArgs.inv_one rfl h
  obtain rfl := TArgs.inv_nil h1
  obtain ⟨l, he4, w4, q4⟩ := k1.inv_strs (e := 9)
  cases he4
  exact strtab_BackL l w4 q4


end Go.Proofs.Ytbaibjhkmajplaa.AL
