/- An intermediate logic over abstract blocks, further rules; no condition. -/
import Derived.Test.YtlapfdfbgckfcaaAlE
namespace Go.Proofs.Ytlapfdfbgckfcaa.AL
open Go Go.RowKit
set_option linter.unusedVariables false
set_option linter.unusedSimpArgs false
/-! Drawn regions: one check of a whole order. -/
section
open Go.Proofs.YtlapfdfbgckfcaaW.PrintLast
structure OSig where
  d : Option Nat
  l : List Nat
  e : List Nat
def sig1 (ops : Array Oper) (o : Oper) : OSig := ⟨o.dst, o.looksAt ops, (o.after.toList.filter (Region.binds .any)).map (·.on)⟩
def sigsOf (ops : Array Oper) : List OSig := ops.toList.map (sig1 ops)
def apartS (x y : OSig) : Bool :=
  (match x.d with | some d => !y.l.contains d && y.d != some d | none => true) && (match y.d with | some d => !x.l.contains d | none => true)
/-- All that has not come up waits for i, or has nothing to do with it. -/
def freeS (x : OSig) (i : Nat) : Nat → List OSig → List Bool → Bool
  | _, [], _ => true
  | _, _ :: _, [] => true
  | j, y :: ys, b :: bs => (b || Nat.beq j i || y.e.any (Nat.beq i) || apartS x y) && freeS x i (j + 1) ys bs
/-- Just this one is ready. -/
def onlyS (fl : List Bool) (i : Nat) : Nat → List OSig → List Bool → Bool
  | _, [], _ => true
  | _, _ :: _, [] => false
  | j, y :: ys, b :: bs => (b || (Nat.beq j i == y.e.all fun e => fl.getD e false)) && onlyS fl i (j + 1) ys bs
/-- What waits for i, by chains. -/
def waitS (i : Nat) : Nat → List OSig → List Bool → List Bool
  | _, [], acc => acc
  | j, y :: ys, acc => waitS i (j + 1) ys (acc ++ [y.e.any fun e => Nat.beq e i || acc.getD e false])
def forceB {α : Type} : List Bool → (List Bool → α) → α
  | [], k => k []
  | true :: l, k => forceB l fun l' => k (true :: l')
  | false :: l, k => forceB l fun l' => k (false :: l')
theorem forceB_eq {α : Type} : ∀ (l : List Bool) (k : List Bool → α), forceB l k = k l
  | [], _ => rfl
  | true :: l, k => by rw [forceB, forceB_eq l]
  | false :: l, k => by rw [forceB, forceB_eq l]
/-- The ways by which the operations may come up: one by one; two heavy ones where either may be first. -/
inductive OT where
  | nil
  | one (i : Nat) (hv : Bool) (r : OT)
  | two (i j : Nat) (ri rj : OT)
  | pur (i : Nat) (r : OT)
def OT.len : OT → Nat
  | .nil => 0
  | .pur _ r => r.len + 1
  | .one _ _ r => r.len + 1
  | .two _ _ r _ => r.len + 1
/-- Just these two may be ready. -/
def twoS (fl : List Bool) (i i' : Nat) : Nat → List OSig → List Bool → Bool
  | _, [], _ => true
  | _, _ :: _, [] => false
  | j, y :: ys, b :: bs => (b || Nat.beq j i || Nat.beq j i' || !(y.e.all fun e => fl.getD e false)) && twoS fl i i' (j + 1) ys bs
/-- An order is one by which all may be shown; true: what makes, calls or writes. -/
def okS (ss : List OSig) (ds : List Nat) : OT → List Bool → Bool
  | .nil, fl => fl.all id
  | .pur i rest, fl =>
    (match ss[i]? with
     | none => false
     | some x => !fl.getD i true && (x.e.all fun e => fl.getD e false) && freeS x i 0 ss fl) &&
    forceB (fl.set i true) fun fl' => okS ss ds rest fl'
  | .two i j ri rj, fl =>
    (match ss[i]? with
     | none => false
     | some x => !fl.getD i true && (x.e.all fun e => fl.getD e false)) &&
    (match ss[j]? with
     | none => false
     | some x => !fl.getD j true && (x.e.all fun e => fl.getD e false)) &&
    twoS fl i j 0 ss fl && Nat.beq ri.len rj.len && (forceB (fl.set i true) fun fl' => okS ss ds ri fl') && forceB (fl.set j true) fun fl' => okS ss ds rj fl'
  | .one i hv rest, fl =>
    (match ss[i]? with
     | none => false
     | some x => !fl.getD i true && (x.e.all fun e => fl.getD e false) &&
        (bif hv then onlyS fl i 0 ss fl else freeS x i 0 ss fl && (ds.isEmpty || ds.all fun d => fl.getD d true || (waitS i 0 ss []).getD d false))) &&
    forceB (fl.set i true) fun fl' => okS ss ds rest fl'
/-- Chains go back. -/
def backS : Nat → List OSig → Bool
  | _, [] => true
  | j, y :: ys => (y.e.all fun e => Nat.blt e j) && backS (j + 1) ys
def okAll (ops : Array Oper) (ds : List Nat) (ord : OT) : Bool := Region.noSelect ops && backS 0 (sigsOf ops) && okS (sigsOf ops) ds ord (List.replicate ops.size false)
theorem sigs_get {ops : Array Oper} {j : Nat} {o : Oper} (h : ops[j]? = some o) : (sigsOf ops)[j]? = some (sig1 ops o) := by
  unfold sigsOf; rw [List.getElem?_map, Array.getElem?_toList, h]; rfl
theorem sigs_of {ops : Array Oper} {j : Nat} {y : OSig} (h : (sigsOf ops)[j]? = some y) : ∃ o, ops[j]? = some o ∧ y = sig1 ops o := by
  unfold sigsOf at h; rw [List.getElem?_map, Array.getElem?_toList] at h
  cases ho : ops[j]? with
  | none => rw [ho] at h; cases h
  | some o => rw [ho] at h; exact ⟨o, rfl, (Option.some.inj h).symm⟩
theorem sigs_len {ops : Array Oper} : (sigsOf ops).length = ops.size := by unfold sigsOf; simp
theorem sig_e {ops : Array Oper} {o : Oper} {k : Nat} : k ∈ (sig1 ops o).e ↔ ∃ e ∈ o.after, Region.binds .any e = true ∧ e.on = k := by
  unfold sig1
  simp [and_assoc]
theorem free_go {x : OSig} {i : Nat} : ∀ (ys : List OSig) (bs : List Bool) (j : Nat), freeS x i j ys bs = true → ∀ (k : Nat) (y : OSig), ys[k]? = some y → bs.getD k true = false → j + k ≠ i → i ∉ y.e → apartS x y = true := by
  intro ys
  induction ys with
  | nil => intro bs j _ k y h; simp at h
  | cons z ys ih =>
    intro bs j h k y hy hb hne hni
    cases bs with
    | nil => simp at hb
    | cons b bs =>
      simp only [freeS, Bool.and_eq_true, Bool.or_eq_true] at h
      cases k with
      | zero =>
        simp at hy hb
        subst hy; subst hb
        rcases h.1 with ((h1 | h1) | h1) | h1
        · cases h1
        · exact absurd (Nat.eq_of_beq_eq_true h1) (by simpa using hne)
        · obtain ⟨e, he, h2⟩ := List.any_eq_true.1 h1
          obtain rfl := Nat.eq_of_beq_eq_true h2
          exact absurd he hni
        · exact h1
      | succ k => exact ih bs (j + 1) h.2 k y (by simpa using hy) (by simpa using hb) (by omega) hni
theorem only_go {fl : List Bool} {i : Nat} : ∀ (ys : List OSig) (bs : List Bool) (j : Nat), onlyS fl i j ys bs = true → ∀ (k : Nat) (y : OSig), ys[k]? = some y → bs.getD k true = false → (j + k = i ↔ (y.e.all fun e => fl.getD e false) = true) := by
  intro ys
  induction ys with
  | nil => intro bs j _ k y h; simp at h
  | cons z ys ih =>
    intro bs j h k y hy hb
    cases bs with
    | nil => simp at hb
    | cons b bs =>
      simp only [onlyS, Bool.and_eq_true, Bool.or_eq_true] at h
      cases k with
      | zero =>
        simp only [List.getElem?_cons_zero, Option.some.injEq, List.getD_cons_zero] at hy hb
        subst hy; subst hb
        rcases h.1 with h1 | h1
        · cases h1
        · have h1 := eq_of_beq h1
          rw [← h1, Nat.add_zero]
          exact ⟨fun h => by subst h; simp, fun h => Nat.eq_of_beq_eq_true h⟩
      | succ k =>
        have := ih bs (j + 1) h.2 k y (by simpa using hy) (by simpa using hb)
        rw [← this]
        omega
theorem reach_mono {ops : Array Oper} {i : Nat} : ∀ (f f' d : Nat), f ≤ f' → Region.reachB .any ops i f d = true → Region.reachB .any ops i f' d = true := by
  intro f
  induction f with
  | zero => intro f' d _ h; simp [Region.reachB] at h
  | succ f ih =>
    intro f' d hle h
    cases f' with
    | zero => omega
    | succ f' =>
      unfold Region.reachB at h ⊢
      cases ho : ops[d]? with
      | none => rw [ho] at h; cases h
      | some o =>
        rw [ho] at h
        obtain ⟨e, he, h1⟩ := Array.any_eq_true'.1 h
        refine Array.any_eq_true'.2 ⟨e, he, ?_⟩
        simp only [Bool.and_eq_true, Bool.or_eq_true] at h1 ⊢
        exact ⟨h1.1, h1.2.imp id (ih f' e.on (by omega))⟩
theorem back_go : ∀ (ys : List OSig) (j : Nat), backS j ys = true → ∀ (k : Nat) (y : OSig), ys[k]? = some y → ∀ e ∈ y.e, e < j + k := by
  intro ys
  induction ys with
  | nil => intro j _ k y h; simp at h
  | cons z ys ih =>
    intro j h k y hy e he
    simp only [backS, Bool.and_eq_true] at h
    cases k with
    | zero =>
      simp at hy; subst hy
      have := List.all_eq_true.1 h.1 e he
      simpa using this
    | succ k => have := ih (j + 1) h.2 k y (by simpa using hy) e he; omega
theorem wait_go {ops : Array Oper} {i : Nat} (hb : backS 0 (sigsOf ops) = true) : ∀ (ys : List OSig) (acc : List Bool), (∀ k, ys[k]? = (sigsOf ops)[acc.length + k]?) → (∀ d, acc.getD d false = true → Region.reachB .any ops i (d + 1) d = true) →
    ∀ d, (waitS i acc.length ys acc).getD d false = true → Region.reachB .any ops i (d + 1) d = true := by
  intro ys
  induction ys with
  | nil => intro acc _ h d hd; exact h d hd
  | cons y ys ih =>
    intro acc hys h d hd
    unfold waitS at hd
    have e1 : acc.length + 1 = (acc ++ [y.e.any fun e => Nat.beq e i || acc.getD e false]).length := by simp
    rw [e1] at hd
    refine ih _ (fun k => ?_) (fun d' hd' => ?_) d hd
    · have := hys (k + 1)
      simp only [List.getElem?_cons_succ] at this
      rw [this, ← e1]; congr 1; omega
    · rcases Nat.lt_trichotomy d' acc.length with hlt | heq | hgt
      · exact h d' (by rw [List.getD_eq_getElem?_getD, List.getElem?_append_left hlt] at hd'; rw [List.getD_eq_getElem?_getD]; exact hd')
      · subst heq
        have hv : (y.e.any fun e => Nat.beq e i || acc.getD e false) = true := by
          rw [List.getD_eq_getElem?_getD, List.getElem?_append_right (Nat.le_refl _)] at hd'
          simpa using hd'
        obtain ⟨e, he, h1⟩ := List.any_eq_true.1 hv
        have hy0 := hys 0
        simp only [List.getElem?_cons_zero, Nat.add_zero] at hy0
        obtain ⟨o, ho, rfl⟩ := sigs_of hy0.symm
        obtain ⟨ed, hed, hbd, rfl⟩ := sig_e.1 he
        have hlt := back_go _ 0 hb _ _ hy0.symm _ he
        unfold Region.reachB
        rw [ho]
        refine Array.any_eq_true'.2 ⟨ed, hed, ?_⟩
        simp only [Bool.and_eq_true, Bool.or_eq_true] at h1 ⊢
        refine ⟨hbd, h1.imp (fun h => by rw [Nat.eq_of_beq_eq_true h]; exact beq_self_eq_true i) fun h2 => reach_mono _ _ _ (by omega) (h _ h2)⟩
      · rw [List.getD_eq_getElem?_getD, List.getElem?_eq_none (by simp; omega)] at hd'
        cases hd'
theorem filter_one (i : Nat) : ∀ n, (List.range n).filter (fun j => j == i) = if i < n then [i] else [] := by
  intro n
  induction n with
  | zero => simp
  | succ n ih =>
    rw [List.range_succ, List.filter_append, ih]
    by_cases h : i < n
    · rw [if_pos h, if_pos (by omega)]
      have : n ≠ i := by omega
      simp [this]
    · rw [if_neg h]
      by_cases h2 : n = i
      · subst h2; simp
      · rw [if_neg (by omega)]; simp [h2]
theorem arrGet {fl : List Bool} {i : Nat} {b : Bool} : (⟨fl⟩ : Array Bool).getD i b = fl.getD i b := by
  rw [Array.getD_eq_getD_getElem?, List.getD_eq_getElem?_getD]; simp
theorem arrSet {fl : List Bool} {i : Nat} : (⟨fl⟩ : Array Bool).setIfInBounds i true = ⟨fl.set i true⟩ := by simp
/-- From a state on, by an order that is checked. -/
def AZ (P : Program) (base : Cx) (ops : Array Oper) (ds : List Nat) (rest : OT) (s : St) (Q : Exit → St → Prop) : Prop :=
  ∀ fl : List Bool, fl.length = ops.size → ListedClosed .any ops ⟨fl⟩ → Region.noSelect ops = true → backS 0 (sigsOf ops) = true → okS (sigsOf ops) ds rest fl = true → AY P base ops ds rest.len ⟨fl⟩ s Q
variable {P : Program} {base : Cx} {ops : Array Oper} {ds : List Nat} {rest : OT} {s : St} {Q : Exit → St → Prop} {i : Nat} {o : Oper}
theorem AW.drawsZ {id : Nat} (ds : List Nat) (ord : OT) (hm : P.follows .mixedOrders = true) (hn : ord.len = ops.size) (hc : okAll ops ds ord = true) (h : AZ P base ops ds ord s Q) : AW P base (.region id ops true) s Q := by
  simp only [okAll, Bool.and_eq_true] at hc
  refine AW.draws ds ops.size (Array.replicate ops.size false) hm rfl rfl ?_
  have := h (List.replicate ops.size false) (by simp) (fun j oj hj hl => by
    exfalso
    rw [arrGet, List.getD_eq_getElem?_getD, List.getElem?_replicate] at hl
    split at hl <;> cases hl) hc.1.1 hc.1.2 hc.2
  rw [hn] at this
  have e : (⟨List.replicate ops.size false⟩ : Array Bool) = Array.replicate ops.size false := by simp
  rw [e] at this
  exact this
theorem AZ.done (h : Q .normal s) : AZ P base ops ds .nil s Q := fun fl hl hc hs hb hk => by
  refine AY.done ?_ h
  have : Region.ready .any ops ⟨fl⟩ = [] := by
    cases hr : Region.ready .any ops ⟨fl⟩ with
    | nil => rfl
    | cons j t =>
      exfalso
      obtain ⟨h1, o, h2, _⟩ := mem_ready.1 (show j ∈ Region.ready .any ops ⟨fl⟩ by rw [hr]; exact List.mem_cons_self)
      rw [arrGet] at h1
      have hj : j < fl.length := by rw [hl]; exact (Array.getElem?_eq_some_iff.1 h2).1
      have h3 := List.all_eq_true.1 hk fl[j] (List.getElem_mem hj)
      rw [List.getD_eq_getElem?_getD, List.getElem?_eq_getElem hj] at h1
      simp at h1 h3
      rw [h1] at h3; cases h3
  rw [this]; rfl
theorem ok_step {hv : Bool} {fl : List Bool} (hi : ops[i]? = some o) (hk : okS (sigsOf ops) ds (.one i hv rest) fl = true) :
    i ∈ Region.ready .any ops ⟨fl⟩ ∧ (bif hv then onlyS fl i 0 (sigsOf ops) fl else freeS (sig1 ops o) i 0 (sigsOf ops) fl && (ds.isEmpty || ds.all fun d => fl.getD d true || (waitS i 0 (sigsOf ops) []).getD d false)) = true ∧ okS (sigsOf ops) ds rest (fl.set i true) = true := by
  unfold okS at hk
  rw [sigs_get hi] at hk
  simp only [Bool.and_eq_true, forceB_eq, Bool.not_eq_true'] at hk
  refine ⟨mem_ready.2 ⟨by rw [arrGet]; exact hk.1.1.1, o, hi, fun e he hb => ?_⟩, hk.1.2, hk.2⟩
  rw [arrGet]
  exact List.all_eq_true.1 hk.1.1.2 e.on (sig_e.2 ⟨e, he, hb, rfl⟩)
theorem AZ.light {av : AV} (hi : ops[i]? = some o) (hw : wantedA ops s o.guard = some true) (h : Lt P o.op s av) (k : AZ P base ops ds rest (s.put o.dst av) Q) : AZ P base ops ds (.one i false rest) s Q := by
  intro fl hl hcl hs hb hk
  obtain ⟨hr, h1, h2⟩ := ok_step hi hk
  simp only [cond_false, Bool.and_eq_true] at h1
  have hcl2 := hcl.set hr
  rw [arrSet] at hcl2
  have hk2 := k (fl.set i true) (by simpa using hl) hcl2 hs hb h2
  intro σ a w hrel K hK hkk
  obtain ⟨x, h4, h5⟩ := h o.dst o.type o.pos o.after o.guard base σ a w hrel
  refine wpAnyR_first hi (Region.noSelect_spec hs) (fun c a w h => (hK _ _ _ h).elim) ops.size _ ⟨fl⟩ a w ?_ hcl ?_ hr (.inl ⟨wanted_ok hrel hw, h5⟩) ?_
  · intro j oj hj hne hun hno
    have := free_go _ _ 0 h1.1 j _ (sigs_get hj) (by rw [arrGet] at hun; exact hun) (by omega) (fun hm => by
      obtain ⟨e, he, hbd, hon⟩ := sig_e.1 hm
      exact hno e he hbd hon)
    exact this
  · intro d hd hun
    rw [arrGet] at hun
    have hda : (ds.all fun d => fl.getD d true || (waitS i 0 (sigsOf ops) []).getD d false) = true := by
      have := h1.2
      simp only [Bool.or_eq_true] at this
      rcases this with h | h
      · exfalso; cases ds with
        | nil => cases hd
        | cons a b => cases h
      · exact h
    have h6 := List.all_eq_true.1 hda d hd
    simp only [hun, Bool.false_or] at h6
    have h7 := wait_go (i := i) hb (sigsOf ops) [] (fun k => by simp) (fun d h => by simp at h) d h6
    refine reach_mono _ _ _ ?_ h7
    have : d < (waitS i 0 (sigsOf ops) []).length := by
      rcases Nat.lt_or_ge d (waitS i 0 (sigsOf ops) []).length with h | h
      · exact h
      · rw [List.getD_eq_getElem?_getD, List.getElem?_eq_none h] at h6; cases h6
    have hlen : ∀ (ys : List OSig) (j : Nat) (acc : List Bool), (waitS i j ys acc).length = acc.length + ys.length := by
      intro ys
      induction ys with
      | nil => intro j acc; rfl
      | cons y ys ih => intro j acc; rw [waitS, ih]; simp; omega
    rw [hlen, sigs_len] at this
    simp at this
    omega
  · rw [arrSet]
    exact hk2 σ _ w (hrel.put o.dst h4) K hK fun e σ' s' a' w' h6 h7 h8 h9 => hkk e σ' s' a' w' h6 (by rw [put_H] at h7; exact h7) h8 h9
theorem ok_stepP {fl : List Bool} (hi : ops[i]? = some o) (hk : okS (sigsOf ops) ds (.pur i rest) fl = true) :
    i ∈ Region.ready .any ops ⟨fl⟩ ∧ freeS (sig1 ops o) i 0 (sigsOf ops) fl = true ∧ okS (sigsOf ops) ds rest (fl.set i true) = true := by
  unfold okS at hk
  rw [sigs_get hi] at hk
  simp only [Bool.and_eq_true, forceB_eq, Bool.not_eq_true'] at hk
  refine ⟨mem_ready.2 ⟨by rw [arrGet]; exact hk.1.1.1, o, hi, fun e he hb => ?_⟩, hk.1.2, hk.2⟩
  rw [arrGet]
  exact List.all_eq_true.1 hk.1.1.2 e.on (sig_e.2 ⟨e, he, hb, rfl⟩)
/-- What reads no memory has nothing to do with what is written. -/
theorem AZ.pureZ {av : AV} (hi : ops[i]? = some o) (hw : wantedA ops s o.guard = some true) (h : Pu P o.op s av) (k : AZ P base ops ds rest (s.put o.dst av) Q) : AZ P base ops ds (.pur i rest) s Q := by
  intro fl hl hcl hs hb hk
  obtain ⟨hr, h1, h2⟩ := ok_stepP hi hk
  have hcl2 := hcl.set hr
  rw [arrSet] at hcl2
  have hk2 := k (fl.set i true) (by simpa using hl) hcl2 hs hb h2
  intro σ a w hrel K hK hkk
  obtain ⟨x, h4, h5⟩ := h o.dst o.type o.pos o.after o.guard base σ a w hrel
  refine wpAnyR_any hi (Region.noSelect_spec hs) (fun c a w h => (hK _ _ _ h).elim) _ ⟨fl⟩ a w ?_ hr (.inl ⟨wanted_ok hrel hw, h5⟩) ?_
  · intro j oj hj hne hun hno
    exact free_go _ _ 0 h1 j _ (sigs_get hj) (by rw [arrGet] at hun; exact hun) (by omega) (fun hm => by
      obtain ⟨e, he, hbd, hon⟩ := sig_e.1 hm
      exact hno e he hbd hon)
  · rw [arrSet]
    exact hk2 σ _ w (hrel.put o.dst h4) K hK fun e σ' s' a' w' h6 h7 h8 h9 => hkk e σ' s' a' w' h6 (by rw [put_H] at h7; exact h7) h8 h9
theorem only_ready {fl : List Bool} (hl : fl.length = ops.size) (h1 : onlyS fl i 0 (sigsOf ops) fl = true) (hr : i ∈ Region.ready .any ops ⟨fl⟩) : Region.ready .any ops ⟨fl⟩ = [i] := by
  have hlt : i < ops.size := by
    obtain ⟨_, o, h, _⟩ := mem_ready.1 hr
    exact (Array.getElem?_eq_some_iff.1 h).1
  have : Region.ready .any ops ⟨fl⟩ = (List.range ops.size).filter (fun j => j == i) := by
    unfold Region.ready
    refine List.filter_congr fun j hj => ?_
    rw [List.mem_range] at hj
    have ho : ops[j]? = some ops[j] := Array.getElem?_eq_getElem hj
    rw [ho, arrGet]
    simp only [Option.map_some, Option.getD_some]
    by_cases hu : fl.getD j true = false
    · have h2 := only_go _ _ 0 h1 j _ (sigs_get ho) hu
      rw [Nat.zero_add] at h2
      have h3 : (ops[j].after.all fun e => !Region.binds .any e || (⟨fl⟩ : Array Bool).getD e.on false) = ((sig1 ops ops[j]).e.all fun e => fl.getD e false) := by
        rw [Bool.eq_iff_iff, Array.all_eq_true_iff_forall_mem, List.all_eq_true]
        constructor
        · intro h e he
          obtain ⟨ed, h4, h5, rfl⟩ := sig_e.1 he
          have := h ed h4
          rw [h5, arrGet] at this
          simpa using this
        · intro h e he
          cases hbd : Region.binds .any e with
          | false => rfl
          | true =>
            have := h e.on (sig_e.2 ⟨e, he, hbd, rfl⟩)
            rw [arrGet, this]; rfl
      rw [h3, hu]
      rw [Bool.eq_iff_iff]
      simp only [Bool.not_false, Bool.true_and, beq_iff_eq]
      exact h2.symm
    · have hu : fl.getD j true = true := by simpa using hu
      rw [hu]
      simp only [Bool.not_true, Bool.false_and]
      symm
      rw [beq_eq_false_iff_ne]
      rintro rfl
      have := (mem_ready.1 hr).1
      rw [arrGet, hu] at this
      cases this
  rw [this, filter_one, if_pos hlt]
theorem AZ.skip (hi : ops[i]? = some o) (hw : wantedA ops s o.guard = some false) (k : AZ P base ops ds rest (s.put o.dst (.v undef)) Q) {hv : Bool} : AZ P base ops ds (.one i hv rest) s Q := by
  intro fl hl hcl hs hb hk
  obtain ⟨hr, h1, h2⟩ := ok_step hi hk
  have hcl2 := hcl.set hr
  rw [arrSet] at hcl2
  have hk2 := k (fl.set i true) (by simpa using hl) hcl2 hs hb h2
  cases hv with
  | false =>
    simp only [cond_false, Bool.and_eq_true] at h1
    intro σ a w hrel K hK hkk
    refine wpAnyR_any hi (Region.noSelect_spec hs) (fun c a w h => (hK _ _ _ h).elim) _ ⟨fl⟩ a w ?_ hr (.inr ⟨wanted_ok hrel hw, rfl⟩) ?_
    · intro j oj hj hne hun hno
      exact free_go _ _ 0 h1.1 j _ (sigs_get hj) (by rw [arrGet] at hun; exact hun) (by omega) (fun hm => by
        obtain ⟨e, he, hbd, hon⟩ := sig_e.1 hm
        exact hno e he hbd hon)
    · rw [arrSet]
      exact hk2 σ _ w (hrel.put o.dst (.v _)) K hK fun e σ' s' a' w' h6 h7 h8 h9 => hkk e σ' s' a' w' h6 (by rw [put_H] at h7; exact h7) h8 h9
  | true =>
    simp only [cond_true] at h1
    have hone := only_ready hl h1 hr
    intro σ a w hrel K hK hkk
    refine ⟨fun h0 => (by rw [hone] at h0; cases h0), fun j hj => ?_⟩
    rw [hone] at hj
    obtain rfl := List.mem_singleton.1 hj
    unfold wpOp
    simp only [hi]
    rw [wanted_ok hrel hw, if_neg (by decide)]
    refine ⟨fun _ => KeepW.refl w, ?_⟩
    rw [arrSet]
    exact hk2 σ _ w (hrel.put o.dst (.v _)) K hK fun e σ' s' a' w' h6 h7 h8 h9 => hkk e σ' s' a' w' h6 (by rw [put_H] at h7; exact h7) h8 h9
theorem AZ.skipU {j u : Nat} {want : Bool} (hi : ops[i]? = some o) (hg : o.guard = some (j, want)) (hu : (ops[j]?).bind (·.dst) = some u) (hun : s.fr[u]? = some (.v undef)) (k : AZ P base ops ds rest (s.put o.dst (.v undef)) Q) {hv : Bool} : AZ P base ops ds (.one i hv rest) s Q := by
  intro fl hl hcl hs hb hk
  obtain ⟨hr, h1, h2⟩ := ok_step hi hk
  have hcl2 := hcl.set hr
  rw [arrSet] at hcl2
  have hk2 := k (fl.set i true) (by simpa using hl) hcl2 hs hb h2
  cases hv with
  | false =>
    simp only [cond_false, Bool.and_eq_true] at h1
    intro σ a w hrel K hK hkk
    refine wpAnyR_any hi (Region.noSelect_spec hs) (fun c a w h => (hK _ _ _ h).elim) _ ⟨fl⟩ a w ?_ hr (.inr ⟨wanted_undef hrel hg hu hun, rfl⟩) ?_
    · intro j oj hj hne hun hno
      exact free_go _ _ 0 h1.1 j _ (sigs_get hj) (by rw [arrGet] at hun; exact hun) (by omega) (fun hm => by
        obtain ⟨e, he, hbd, hon⟩ := sig_e.1 hm
        exact hno e he hbd hon)
    · rw [arrSet]
      exact hk2 σ _ w (hrel.put o.dst (.v _)) K hK fun e σ' s' a' w' h6 h7 h8 h9 => hkk e σ' s' a' w' h6 (by rw [put_H] at h7; exact h7) h8 h9
  | true =>
    simp only [cond_true] at h1
    have hone := only_ready hl h1 hr
    intro σ a w hrel K hK hkk
    refine ⟨fun h0 => (by rw [hone] at h0; cases h0), fun j hj => ?_⟩
    rw [hone] at hj
    obtain rfl := List.mem_singleton.1 hj
    unfold wpOp
    simp only [hi]
    rw [wanted_undef hrel hg hu hun, if_neg (by decide)]
    refine ⟨fun _ => KeepW.refl w, ?_⟩
    rw [arrSet]
    exact hk2 σ _ w (hrel.put o.dst (.v _)) K hK fun e σ' s' a' w' h6 h7 h8 h9 => hkk e σ' s' a' w' h6 (by rw [put_H] at h7; exact h7) h8 h9
theorem AZ.heavy {R : St → Prop} (hi : ops[i]? = some o) (hw : wantedA ops s o.guard = some true) (h : HvK P base o s R) (k : ∀ s', R s' → AZ P base ops ds rest s' Q) : AZ P base ops ds (.one i true rest) s Q := by
  intro fl hl hcl hs hb hk
  obtain ⟨hr, h1, h2⟩ := ok_step hi hk
  have hcl2 := hcl.set hr
  rw [arrSet] at hcl2
  simp only [cond_true] at h1
  have hone := only_ready hl h1 hr
  intro σ a w hrel K hK hkk
  refine ⟨fun h0 => (by rw [hone] at h0; cases h0), fun j hj => ?_⟩
  rw [hone] at hj
  obtain rfl := List.mem_singleton.1 hj
  unfold wpOp
  simp only [hi]
  rw [wanted_ok hrel hw, if_pos rfl]
  refine .inl (h σ a w hrel K _ fun σ' s' a' w' h3 h4 h5 h6 => ⟨fun _ => h5, ?_⟩)
  rw [arrSet]
  exact k s' h6 (fl.set j true) (by simpa using hl) hcl2 hs hb h2 σ' a' w' h3 K hK fun e σ'' s'' a'' w'' h7 h8 h9 h10 => hkk e σ'' s'' a'' w'' h7 (h4.trans h8) h9 h10
theorem AZ.last {R : St → Prop} (hi : ops[i]? = some o) (hd : ds.contains i = true) (hw : wantedA ops s o.guard = some true) (h : Hv P base o s R) (k : ∀ s', R s' → AZ P base ops ds rest s' Q) : AZ P base ops ds (.one i true rest) s Q := by
  intro fl hl hcl hs hb hk
  obtain ⟨hr, h1, h2⟩ := ok_step hi hk
  have hcl2 := hcl.set hr
  rw [arrSet] at hcl2
  simp only [cond_true] at h1
  have hone := only_ready hl h1 hr
  intro σ a w hrel K hK hkk
  refine ⟨fun h0 => (by rw [hone] at h0; cases h0), fun j hj => ?_⟩
  rw [hone] at hj
  obtain rfl := List.mem_singleton.1 hj
  unfold wpOp
  simp only [hi]
  rw [wanted_ok hrel hw, if_pos rfl]
  refine .inl (h σ a w hrel K _ fun σ' s' a' w' h3 h4 h6 => ⟨fun hn => absurd (by simpa using hd) hn, ?_⟩)
  rw [arrSet]
  exact k s' h6 (fl.set j true) (by simpa using hl) hcl2 hs hb h2 σ' a' w' h3 K hK fun e σ'' s'' a'' w'' h7 h8 h9 h10 => hkk e σ'' s'' a'' w'' h7 (h4.trans h8) h9 h10

/-- Number i comes up next, of two. -/
def AZi (P : Program) (base : Cx) (ops : Array Oper) (ds : List Nat) (i : Nat) (rest : OT) (s : St) (Q : Exit → St → Prop) : Prop :=
  ∀ fl : List Bool, fl.length = ops.size → ListedClosed .any ops ⟨fl⟩ → Region.noSelect ops = true → backS 0 (sigsOf ops) = true → i ∈ Region.ready .any ops ⟨fl⟩ → okS (sigsOf ops) ds rest (fl.set i true) = true → AYi P base ops ds rest.len ⟨fl⟩ s Q i
theorem two_go {fl : List Bool} {i i' : Nat} : ∀ (ys : List OSig) (bs : List Bool) (j : Nat), twoS fl i i' j ys bs = true → ∀ (k : Nat) (y : OSig), ys[k]? = some y → bs.getD k true = false → (y.e.all fun e => fl.getD e false) = true → j + k = i ∨ j + k = i' := by
  intro ys
  induction ys with
  | nil => intro bs j _ k y h; simp at h
  | cons z ys ih =>
    intro bs j h k y hy hb hall
    cases bs with
    | nil => simp at hb
    | cons b bs =>
      simp only [twoS, Bool.and_eq_true, Bool.or_eq_true] at h
      cases k with
      | zero =>
        simp only [List.getElem?_cons_zero, Option.some.injEq, List.getD_cons_zero] at hy hb
        subst hy; subst hb
        rcases h.1 with ((h1 | h1) | h1) | h1
        · cases h1
        · exact .inl (Nat.eq_of_beq_eq_true h1)
        · exact .inr (Nat.eq_of_beq_eq_true h1)
        · rw [hall] at h1; cases h1
      | succ k =>
        have := ih bs (j + 1) h.2 k y (by simpa using hy) (by simpa using hb) hall
        omega
theorem AZ.two {j : Nat} {ri rj : OT} (hi : AZi P base ops ds i ri s Q) (hj : AZi P base ops ds j rj s Q) : AZ P base ops ds (.two i j ri rj) s Q := by
  intro fl hl hcl hs hb hk
  unfold okS at hk
  simp only [Bool.and_eq_true, forceB_eq] at hk
  obtain ⟨⟨⟨⟨⟨h1, h2⟩, h3⟩, h4⟩, h5⟩, h6⟩ := hk
  have rdy : ∀ k, (match (sigsOf ops)[k]? with | none => false | some x => !fl.getD k true && (x.e.all fun e => fl.getD e false)) = true → k ∈ Region.ready .any ops ⟨fl⟩ := by
    intro k h
    cases hx : (sigsOf ops)[k]? with
    | none => rw [hx] at h; cases h
    | some x =>
      rw [hx] at h
      simp only [Bool.and_eq_true, Bool.not_eq_true'] at h
      obtain ⟨o, ho, rfl⟩ := sigs_of hx
      refine mem_ready.2 ⟨by rw [arrGet]; exact h.1, o, ho, fun e he hbd => ?_⟩
      rw [arrGet]
      exact List.all_eq_true.1 h.2 e.on (sig_e.2 ⟨e, he, hbd, rfl⟩)
  have hri := rdy i h1
  have hrj := rdy j h2
  have hlen : ri.len = rj.len := Nat.eq_of_beq_eq_true h4
  intro σ a w hrel K hK hkk
  refine ⟨fun h0 => (by rw [h0] at hri; cases hri), fun k hk => ?_⟩
  obtain ⟨hf, o, ho, he⟩ := mem_ready.1 hk
  have h7 := two_go _ _ 0 h3 k _ (sigs_get ho) (by rw [arrGet] at hf; exact hf) (List.all_eq_true.2 fun e h => by
    obtain ⟨ed, h8, h9, rfl⟩ := sig_e.1 h
    have := he ed h8 h9
    rw [arrGet] at this
    exact this)
  rw [Nat.zero_add] at h7
  rcases h7 with rfl | rfl
  · exact hi fl hl hcl hs hb hri h5 σ a w hrel K hK hkk
  · have := hj fl hl hcl hs hb hrj h6 σ a w hrel K hK hkk
    rw [← hlen] at this
    exact this
theorem AZi.heavy {R : St → Prop} (hi : ops[i]? = some o) (hw : wantedA ops s o.guard = some true) (h : HvK P base o s R) (k : ∀ s', R s' → AZ P base ops ds rest s' Q) : AZi P base ops ds i rest s Q := by
  intro fl hl hcl hs hb hr h2
  have hcl2 := hcl.set hr
  rw [arrSet] at hcl2
  refine AYi.heavy hi hw h fun s' h6 => ?_
  rw [arrSet]
  exact k s' h6 (fl.set i true) (by simpa using hl) hcl2 hs hb h2
theorem AZi.last {R : St → Prop} (hi : ops[i]? = some o) (hd : ds.contains i = true) (hw : wantedA ops s o.guard = some true) (h : Hv P base o s R) (k : ∀ s', R s' → AZ P base ops ds rest s' Q) : AZi P base ops ds i rest s Q := by
  intro fl hl hcl hs hb hr h2
  have hcl2 := hcl.set hr
  rw [arrSet] at hcl2
  intro σ a w hrel K hK hkk
  unfold wpOp
  simp only [hi]
  rw [wanted_ok hrel hw, if_pos rfl]
  refine .inl (h σ a w hrel K _ fun σ' s' a' w' h3 h4 h6 => ⟨fun hn => absurd (by simpa using hd) hn, ?_⟩)
  rw [arrSet]
  exact k s' h6 (fl.set i true) (by simpa using hl) hcl2 hs hb h2 σ' a' w' h3 K hK fun e σ'' s'' a'' w'' h7 h8 h9 h10 => hkk e σ'' s'' a'' w'' h7 (h4.trans h8) h9 h10
theorem AZi.light {av : AV} (hi : ops[i]? = some o) (hw : wantedA ops s o.guard = some true) (h : Lt P o.op s av) (k : AZ P base ops ds rest (s.put o.dst av) Q) : AZi P base ops ds i rest s Q := by
  intro fl hl hcl hs hb hr h2
  have hcl2 := hcl.set hr
  rw [arrSet] at hcl2
  have hk2 := k (fl.set i true) (by simpa using hl) hcl2 hs hb h2
  intro σ a w hrel K hK hkk
  obtain ⟨x, h4, h5⟩ := h o.dst o.type o.pos o.after o.guard base σ a w hrel
  unfold wpOp
  simp only [hi]
  rw [wanted_ok hrel hw, if_pos rfl]
  refine .inl ?_
  unfold Oper.wp
  rw [h5 w (KeepW.refl w)]
  refine ⟨fun _ => KeepW.refl w, ?_⟩
  rw [arrSet]
  exact hk2 σ _ w (hrel.put o.dst h4) K hK fun e σ' s' a' w' h6 h7 h8 h9 => hkk e σ' s' a' w' h6 (by rw [put_H] at h7; exact h7) h8 h9
theorem AZi.skip (hi : ops[i]? = some o) (hw : wantedA ops s o.guard = some false) (k : AZ P base ops ds rest (s.put o.dst (.v undef)) Q) : AZi P base ops ds i rest s Q := by
  intro fl hl hcl hs hb hr h2
  have hcl2 := hcl.set hr
  rw [arrSet] at hcl2
  have hk2 := k (fl.set i true) (by simpa using hl) hcl2 hs hb h2
  intro σ a w hrel K hK hkk
  unfold wpOp
  simp only [hi]
  rw [wanted_ok hrel hw, if_neg (by decide)]
  refine ⟨fun _ => KeepW.refl w, ?_⟩
  rw [arrSet]
  exact hk2 σ _ w (hrel.put o.dst (.v _)) K hK fun e σ' s' a' w' h6 h7 h8 h9 => hkk e σ' s' a' w' h6 (by rw [put_H] at h7; exact h7) h8 h9
theorem AZi.skipU {j u : Nat} {want : Bool} (hi : ops[i]? = some o) (hg : o.guard = some (j, want)) (hu : (ops[j]?).bind (·.dst) = some u) (hun : s.fr[u]? = some (.v undef)) (k : AZ P base ops ds rest (s.put o.dst (.v undef)) Q) : AZi P base ops ds i rest s Q := by
  intro fl hl hcl hs hb hr h2
  have hcl2 := hcl.set hr
  rw [arrSet] at hcl2
  have hk2 := k (fl.set i true) (by simpa using hl) hcl2 hs hb h2
  intro σ a w hrel K hK hkk
  unfold wpOp
  simp only [hi]
  rw [wanted_undef hrel hg hu hun, if_neg (by decide)]
  refine ⟨fun _ => KeepW.refl w, ?_⟩
  rw [arrSet]
  exact hk2 σ _ w (hrel.put o.dst (.v _)) K hK fun e σ' s' a' w' h6 h7 h8 h9 => hkk e σ' s' a' w' h6 (by rw [put_H] at h7; exact h7) h8 h9
theorem AW.mid {c : Code} {s1 : St} (h : AW P base c s (fun e s' => e = .normal ∧ s' = s1)) (k : Q .normal s1) : AW P base c s Q :=
  fun σ a w hr K hk => h σ a w hr K fun _ _ _ _ _ h1 h2 ⟨he, hs⟩ => by subst he; subst hs; exact hk _ _ _ _ _ h1 h2 k
end

section
variable {P : Program} {base : Cx} {l l' : List AV} {H H' : List (Option AB)} {Q : Exit → St → Prop} {os : List Oper} {ops : Array Oper} {ds : List Nat} {rest : OT} {d : Option Tmp} {op : Op} {t : TypeId} {pos : String} {af : Array Edge} {av : AV} {ob : Prop} {i j u : Nat} {b cn want : Bool}
theorem AZ.c [hp : LC true P op l H av] [hd : DL l d av l'] (hi : ops[i]? = some ⟨d, op, t, pos, af, none⟩) (k : AZ P base ops ds rest ⟨l', H⟩ Q) : AZ P base ops ds (.one i false rest) ⟨l, H⟩ Q :=
  AZ.light hi rfl (hp.h rfl) (by rw [hd.h]; exact k)
theorem AZ.pw [hp : PW true P op l H av] [hd : DL l d av l'] (hi : ops[i]? = some ⟨d, op, t, pos, af, none⟩) (k : AZ P base ops ds rest ⟨l', H⟩ Q) : AZ P base ops ds (.one i false rest) ⟨l, H⟩ Q :=
  AZ.light hi rfl (hp.h rfl) (by rw [hd.h]; exact k)
theorem AZ.o [hp : OC true P op l H av ob] [hd : DL l d av l'] (hi : ops[i]? = some ⟨d, op, t, pos, af, none⟩) (hob : ob) (k : AZ P base ops ds rest ⟨l', H⟩ Q) : AZ P base ops ds (.one i false rest) ⟨l, H⟩ Q :=
  AZ.light hi rfl (hp.h rfl hob) (by rw [hd.h]; exact k)
theorem AZ.ww [hp : HW P op l H av H' ob] [hd : DL l d av l'] (hi : ops[i]? = some ⟨d, op, t, pos, af, none⟩) (hs : ds.contains i = true) (k : AZ P base ops ds rest ⟨l', H'⟩ Q) (hob : ob := by first | omega | ((repeat' apply And.intro) <;> first | rfl | omega | (simp; done) | (simp [bys_length]; omega))) : AZ P base ops ds (.one i true rest) ⟨l, H⟩ Q :=
  AZ.last hi hs rfl (hp.h hob base d t pos af none) fun s1 h1 => by subst h1; rw [hd.h]; exact k
theorem AZ.sst [hp : HS P op l H H' ob] (hi : ops[i]? = some ⟨none, op, t, pos, af, none⟩) (hs : ds.contains i = true) (k : AZ P base ops ds rest ⟨l, H'⟩ Q) (hob : ob := by first | omega | ((repeat' apply And.intro) <;> first | rfl | omega | (simp; done) | (simp [bys_length]; omega))) : AZ P base ops ds (.one i true rest) ⟨l, H⟩ Q :=
  AZ.last hi hs rfl (hp.h hob base t pos af none) fun s1 h1 => by subst h1; exact k
theorem AZ.mkk [hp : HM P op l H av H' ob] [hd : DL l d av l'] (hi : ops[i]? = some ⟨d, op, t, pos, af, none⟩) (k : AZ P base ops ds rest ⟨l', H'⟩ Q) (hob : ob := by first | omega | ((repeat' apply And.intro) <;> first | rfl | omega | (simp; done) | (simp [bys_length]; omega))) : AZ P base ops ds (.one i true rest) ⟨l, H⟩ Q :=
  AZ.heavy hi rfl (hp.h hob base d t pos af none) fun s1 h1 => by subst h1; rw [hd.h]; exact k
theorem AZ.rr [hp : HR P op l H av ob] [hd : DL l d av l'] (hi : ops[i]? = some ⟨d, op, t, pos, af, none⟩) (k : AZ P base ops ds rest ⟨l', H⟩ Q) (hob : ob := by first | omega | ((repeat' apply And.intro) <;> first | rfl | omega | (simp; done) | (simp [bys_length]; omega))) : AZ P base ops ds (.one i true rest) ⟨l, H⟩ Q :=
  AZ.heavy hi rfl (hp.h hob base d t pos af none) fun s1 h1 => by subst h1; rw [hd.h]; exact k
theorem AZ.oo [hp : OC true P op l H av ob] [hd : DL l d av l'] (hi : ops[i]? = some ⟨d, op, t, pos, af, none⟩) (k : AZ P base ops ds rest ⟨l', H⟩ Q) (hob : ob := by first | omega | ((repeat' apply And.intro) <;> first | rfl | omega | (simp; done) | (simp [bys_length]; omega))) : AZ P base ops ds (.one i false rest) ⟨l, H⟩ Q := AZ.o hi hob k
theorem AZ.call1 {f : FuncId} {fn : Func} {as : List Operand} {ts : Array TypeId} {args : List AV} (hi : ops[i]? = some ⟨d, .call { callee := .value (.func f), args := as.toArray, argTypes := ts }, t, pos, af, none⟩) (hf : P.funcs[f]? = some fn) (hname : (fn.name == "runtime.NumGoroutine") = false) (hb : fn.body.isSome = true)
    [ha : ARG l as args] [hga : GA H.length args] (h : A0 P f args (fun r => r = av)) [hd : DL l d av l'] (k : AZ P base ops ds rest ⟨l', H⟩ Q) : AZ P base ops ds (.one i true rest) ⟨l, H⟩ Q :=
  AZ.heavy hi rfl (HvK.call0 hf hname hb (ha.h H) hga.h h) fun s1 ⟨r, h4, h5⟩ => by subst h4; subst h5; rw [hd.h]; exact k
theorem AZ.eq {av av' : AV} {l' : List AV} (t : Tmp) [g : GL l t av] [sl : SL l t av' l'] (he : av = av') (kk : AZ P base ops ds rest ⟨l', H⟩ Q) : AZ P base ops ds rest ⟨l, H⟩ Q := fun fl h1 h2 h3 h4 h5 => AY.eq t he (kk fl h1 h2 h3 h4 h5)
theorem AZ.ghost {s s' : St} (h : Gh base s s') (k : AZ P base ops ds rest s' Q) : AZ P base ops ds rest s Q := fun fl h1 h2 h3 h4 h5 => AY.ghost h (k fl h1 h2 h3 h4 h5)
theorem AZ.gxs {hv : Bool} (hi : os.toArray[i]? = some ⟨d, op, t, pos, af, some (j, want)⟩) [ho : DO os j u] (g : GL l u (.v (.bool (!want))) ∨ GL l u (.v undef)) (hd : St.put ⟨l, H⟩ d (.v undef) = ⟨l', H⟩) (k : AZ P base os.toArray ds rest ⟨l', H⟩ Q) : AZ P base os.toArray ds (.one i hv rest) ⟨l, H⟩ Q := by
  rcases g with g | g
  · exact AZ.skip hi (by rw [wanted_some (s := ⟨l, H⟩) (by simpa using ho.h) (g.ev H)]; cases want <;> rfl) (by rw [hd]; exact k)
  · exact AZ.skipU hi rfl (by simpa using ho.h) g.h (by rw [hd]; exact k)
theorem AZ.gxl (hi : os.toArray[i]? = some ⟨d, op, t, pos, af, some (j, want)⟩) [ho : DO os j u] [gx : GX l u want cn] (hp : cn = true → Lt P op ⟨l, H⟩ av) (hd : St.put ⟨l, H⟩ d (cv cn av) = ⟨l', H⟩) (k : AZ P base os.toArray ds rest ⟨l', H⟩ Q) : AZ P base os.toArray ds (.one i false rest) ⟨l, H⟩ Q := by
  rcases gx_cases gx with ⟨rfl, g⟩ | ⟨rfl, g⟩
  · refine AZ.light hi (by rw [wanted_some (s := ⟨l, H⟩) (by simpa using ho.h) (g.ev H)]; simp) (hp rfl) ?_
    have e : St.put ⟨l, H⟩ d av = ⟨l', H⟩ := hd
    rw [e]; exact k
  · exact AZ.gxs hi g hd k
theorem AZ.gx [ho : DO os j u] [gx : GX l u want cn] [hp : LC cn P op l H av] [hd : DL l d (cv cn av) l'] (hi : os.toArray[i]? = some ⟨d, op, t, pos, af, some (j, want)⟩) (k : AZ P base os.toArray ds rest ⟨l', H⟩ Q) : AZ P base os.toArray ds (.one i false rest) ⟨l, H⟩ Q := AZ.gxl hi hp.h (hd.h H) k
theorem AZ.gxpw [ho : DO os j u] [gx : GX l u want cn] [hp : PW cn P op l H av] [hd : DL l d (cv cn av) l'] (hi : os.toArray[i]? = some ⟨d, op, t, pos, af, some (j, want)⟩) (k : AZ P base os.toArray ds rest ⟨l', H⟩ Q) : AZ P base os.toArray ds (.one i false rest) ⟨l, H⟩ Q := AZ.gxl hi hp.h (hd.h H) k
theorem AZ.gxo [ho : DO os j u] [gx : GX l u want cn] [hp : OC cn P op l H av ob] [hd : DL l d (cv cn av) l'] (hi : os.toArray[i]? = some ⟨d, op, t, pos, af, some (j, want)⟩) (hob : cn = true → ob) (k : AZ P base os.toArray ds rest ⟨l', H⟩ Q) : AZ P base os.toArray ds (.one i false rest) ⟨l, H⟩ Q := AZ.gxl hi (fun h => hp.h h (hob h)) (hd.h H) k
theorem AZ.gxoo [ho : DO os j u] [gx : GX l u want cn] [hp : OC cn P op l H av ob] [hd : DL l d (cv cn av) l'] (hi : os.toArray[i]? = some ⟨d, op, t, pos, af, some (j, want)⟩) (k : AZ P base os.toArray ds rest ⟨l', H⟩ Q) (hob : cn = true → ob := by intro hgd; (try simp only [Bool.and_eq_true, Bool.or_eq_true, Bool.not_eq_true', Bool.and_eq_false_iff, Bool.or_eq_false_iff, decide_eq_true_eq, decide_eq_false_iff_not, bys_length] at hgd); first | omega | ((repeat' apply And.intro) <;> first | rfl | omega | (simp; done) | (simp [bys_length]; omega))) : AZ P base os.toArray ds (.one i false rest) ⟨l, H⟩ Q := AZ.gxo hi hob k
theorem AZ.gxh (hi : os.toArray[i]? = some ⟨d, op, t, pos, af, some (j, want)⟩) [ho : DO os j u] [gx : GX l u want cn] (h : cn = true → HvK P base ⟨d, op, t, pos, af, some (j, want)⟩ ⟨l, H⟩ (fun s1 => s1 = St.put ⟨l, H⟩ d av)) (hd : St.put ⟨l, H⟩ d (cv cn av) = ⟨l', H⟩) (k : AZ P base os.toArray ds rest ⟨l', H⟩ Q) : AZ P base os.toArray ds (.one i true rest) ⟨l, H⟩ Q := by
  rcases gx_cases gx with ⟨rfl, g⟩ | ⟨rfl, g⟩
  · refine AZ.heavy hi (by rw [wanted_some (s := ⟨l, H⟩) (by simpa using ho.h) (g.ev H)]; simp) (h rfl) fun s1 h1 => ?_
    subst h1
    have e : St.put ⟨l, H⟩ d av = ⟨l', H⟩ := hd
    rw [e]; exact k
  · exact AZ.gxs hi g hd k
theorem AZ.gxcall1 {f : FuncId} {fn : Func} {as : List Operand} {ts : Array TypeId} {args : List AV} (hi : os.toArray[i]? = some ⟨d, .call { callee := .value (.func f), args := as.toArray, argTypes := ts }, t, pos, af, some (j, want)⟩) [ho : DO os j u] [gx : GX l u want cn] (hf : P.funcs[f]? = some fn) (hname : (fn.name == "runtime.NumGoroutine") = false) (hb : fn.body.isSome = true)
    [ha : ARGc cn l as args] [hga : GA H.length args] (h : cn = true → A0 P f args (fun r => r = av)) [hd : DL l d (cv cn av) l'] (k : AZ P base os.toArray ds rest ⟨l', H⟩ Q) : AZ P base os.toArray ds (.one i true rest) ⟨l, H⟩ Q := by
  refine AZ.gxh (cn := cn) hi (fun hc' => ?_) (hd.h H) k
  intro σ a w hr Q' K hk
  exact HvK.call0 hf hname hb (ha.h hc' H) hga.h (h hc') σ a w hr Q' K fun σ' s' a' w' h1 h2 h3 ⟨r, h4, h5⟩ => by subst h4; exact hk σ' s' a' w' h1 h2 h3 h5
theorem AZ.gxrr [ho : DO os j u] [gx : GX l u want cn] [hp : HRc cn P op l H av ob] [hd : DL l d (cv cn av) l'] (hi : os.toArray[i]? = some ⟨d, op, t, pos, af, some (j, want)⟩) (k : AZ P base os.toArray ds rest ⟨l', H⟩ Q) (hob : ob := by first | omega | ((repeat' apply And.intro) <;> first | rfl | omega | (simp; done) | (simp [bys_length]; omega))) : AZ P base os.toArray ds (.one i true rest) ⟨l, H⟩ Q :=
  AZ.gxh hi (fun hc' => hp.h hc' hob base d t pos af (some (j, want))) (hd.h H) k
theorem AZ.p [hp : PC true P op l H av] [hd : DL l d av l'] (hi : ops[i]? = some ⟨d, op, t, pos, af, none⟩) (k : AZ P base ops ds rest ⟨l', H⟩ Q) : AZ P base ops ds (.pur i rest) ⟨l, H⟩ Q :=
  AZ.pureZ hi rfl (hp.h rfl) (by rw [hd.h]; exact k)
theorem AZi.c [hp : LC true P op l H av] [hd : DL l d av l'] (hi : ops[i]? = some ⟨d, op, t, pos, af, none⟩) (k : AZ P base ops ds rest ⟨l', H⟩ Q) : AZi P base ops ds i rest ⟨l, H⟩ Q :=
  AZi.light hi rfl (hp.h rfl) (by rw [hd.h]; exact k)
theorem AZi.o [hp : OC true P op l H av ob] [hd : DL l d av l'] (hi : ops[i]? = some ⟨d, op, t, pos, af, none⟩) (hob : ob) (k : AZ P base ops ds rest ⟨l', H⟩ Q) : AZi P base ops ds i rest ⟨l, H⟩ Q :=
  AZi.light hi rfl (hp.h rfl hob) (by rw [hd.h]; exact k)
theorem AZi.oo [hp : OC true P op l H av ob] [hd : DL l d av l'] (hi : ops[i]? = some ⟨d, op, t, pos, af, none⟩) (k : AZ P base ops ds rest ⟨l', H⟩ Q) (hob : ob := by first | omega | ((repeat' apply And.intro) <;> first | rfl | omega | (simp; done) | (simp [bys_length]; omega))) : AZi P base ops ds i rest ⟨l, H⟩ Q := AZi.o hi hob k
theorem AZi.ww [hp : HW P op l H av H' ob] [hd : DL l d av l'] (hi : ops[i]? = some ⟨d, op, t, pos, af, none⟩) (hs : ds.contains i = true) (k : AZ P base ops ds rest ⟨l', H'⟩ Q) (hob : ob := by first | omega | ((repeat' apply And.intro) <;> first | rfl | omega | (simp; done) | (simp [bys_length]; omega))) : AZi P base ops ds i rest ⟨l, H⟩ Q :=
  AZi.last hi hs rfl (hp.h hob base d t pos af none) fun s1 h1 => by subst h1; rw [hd.h]; exact k
theorem AZi.sst [hp : HS P op l H H' ob] (hi : ops[i]? = some ⟨none, op, t, pos, af, none⟩) (hs : ds.contains i = true) (k : AZ P base ops ds rest ⟨l, H'⟩ Q) (hob : ob := by first | omega | ((repeat' apply And.intro) <;> first | rfl | omega | (simp; done) | (simp [bys_length]; omega))) : AZi P base ops ds i rest ⟨l, H⟩ Q :=
  AZi.last hi hs rfl (hp.h hob base t pos af none) fun s1 h1 => by subst h1; exact k
theorem AZi.mkk [hp : HM P op l H av H' ob] [hd : DL l d av l'] (hi : ops[i]? = some ⟨d, op, t, pos, af, none⟩) (k : AZ P base ops ds rest ⟨l', H'⟩ Q) (hob : ob := by first | omega | ((repeat' apply And.intro) <;> first | rfl | omega | (simp; done) | (simp [bys_length]; omega))) : AZi P base ops ds i rest ⟨l, H⟩ Q :=
  AZi.heavy hi rfl (hp.h hob base d t pos af none) fun s1 h1 => by subst h1; rw [hd.h]; exact k
theorem AZi.rr [hp : HR P op l H av ob] [hd : DL l d av l'] (hi : ops[i]? = some ⟨d, op, t, pos, af, none⟩) (k : AZ P base ops ds rest ⟨l', H⟩ Q) (hob : ob := by first | omega | ((repeat' apply And.intro) <;> first | rfl | omega | (simp; done) | (simp [bys_length]; omega))) : AZi P base ops ds i rest ⟨l, H⟩ Q :=
  AZi.heavy hi rfl (hp.h hob base d t pos af none) fun s1 h1 => by subst h1; rw [hd.h]; exact k
theorem AZi.call1 {f : FuncId} {fn : Func} {as : List Operand} {ts : Array TypeId} {args : List AV} (hi : ops[i]? = some ⟨d, .call { callee := .value (.func f), args := as.toArray, argTypes := ts }, t, pos, af, none⟩) (hf : P.funcs[f]? = some fn) (hname : (fn.name == "runtime.NumGoroutine") = false) (hb : fn.body.isSome = true)
    [ha : ARG l as args] [hga : GA H.length args] (h : A0 P f args (fun r => r = av)) [hd : DL l d av l'] (k : AZ P base ops ds rest ⟨l', H⟩ Q) : AZi P base ops ds i rest ⟨l, H⟩ Q :=
  AZi.heavy hi rfl (HvK.call0 hf hname hb (ha.h H) hga.h h) fun s1 ⟨r, h4, h5⟩ => by subst h4; subst h5; rw [hd.h]; exact k
theorem AZi.gxs (hi : os.toArray[i]? = some ⟨d, op, t, pos, af, some (j, want)⟩) [ho : DO os j u] (g : GL l u (.v (.bool (!want))) ∨ GL l u (.v undef)) (hd : St.put ⟨l, H⟩ d (.v undef) = ⟨l', H⟩) (k : AZ P base os.toArray ds rest ⟨l', H⟩ Q) : AZi P base os.toArray ds i rest ⟨l, H⟩ Q := by
  rcases g with g | g
  · exact AZi.skip hi (by rw [wanted_some (s := ⟨l, H⟩) (by simpa using ho.h) (g.ev H)]; cases want <;> rfl) (by rw [hd]; exact k)
  · exact AZi.skipU hi rfl (by simpa using ho.h) g.h (by rw [hd]; exact k)
theorem AZi.gxh (hi : os.toArray[i]? = some ⟨d, op, t, pos, af, some (j, want)⟩) [ho : DO os j u] [gx : GX l u want cn] (h : cn = true → HvK P base ⟨d, op, t, pos, af, some (j, want)⟩ ⟨l, H⟩ (fun s1 => s1 = St.put ⟨l, H⟩ d av)) (hd : St.put ⟨l, H⟩ d (cv cn av) = ⟨l', H⟩) (k : AZ P base os.toArray ds rest ⟨l', H⟩ Q) : AZi P base os.toArray ds i rest ⟨l, H⟩ Q := by
  rcases gx_cases gx with ⟨rfl, g⟩ | ⟨rfl, g⟩
  · refine AZi.heavy hi (by rw [wanted_some (s := ⟨l, H⟩) (by simpa using ho.h) (g.ev H)]; simp) (h rfl) fun s1 h1 => ?_
    subst h1
    have e : St.put ⟨l, H⟩ d av = ⟨l', H⟩ := hd
    rw [e]; exact k
  · exact AZi.gxs hi g hd k
theorem AZi.gxcall1 {f : FuncId} {fn : Func} {as : List Operand} {ts : Array TypeId} {args : List AV} (hi : os.toArray[i]? = some ⟨d, .call { callee := .value (.func f), args := as.toArray, argTypes := ts }, t, pos, af, some (j, want)⟩) [ho : DO os j u] [gx : GX l u want cn] (hf : P.funcs[f]? = some fn) (hname : (fn.name == "runtime.NumGoroutine") = false) (hb : fn.body.isSome = true)
    [ha : ARGc cn l as args] [hga : GA H.length args] (h : cn = true → A0 P f args (fun r => r = av)) [hd : DL l d (cv cn av) l'] (k : AZ P base os.toArray ds rest ⟨l', H⟩ Q) : AZi P base os.toArray ds i rest ⟨l, H⟩ Q := by
  refine AZi.gxh (cn := cn) hi (fun hc' => ?_) (hd.h H) k
  intro σ a w hr Q' K hk
  exact HvK.call0 hf hname hb (ha.h hc' H) hga.h (h hc') σ a w hr Q' K fun σ' s' a' w' h1 h2 h3 ⟨r, h4, h5⟩ => by subst h4; exact hk σ' s' a' w' h1 h2 h3 h5
theorem AZi.gxrr [ho : DO os j u] [gx : GX l u want cn] [hp : HRc cn P op l H av ob] [hd : DL l d (cv cn av) l'] (hi : os.toArray[i]? = some ⟨d, op, t, pos, af, some (j, want)⟩) (k : AZ P base os.toArray ds rest ⟨l', H⟩ Q) (hob : ob := by first | omega | ((repeat' apply And.intro) <;> first | rfl | omega | (simp; done) | (simp [bys_length]; omega))) : AZi P base os.toArray ds i rest ⟨l, H⟩ Q :=
  AZi.gxh hi (fun hc' => hp.h hc' hob base d t pos af (some (j, want))) (hd.h H) k
end

end Go.Proofs.Ytlapfdfbgckfcaa.AL
