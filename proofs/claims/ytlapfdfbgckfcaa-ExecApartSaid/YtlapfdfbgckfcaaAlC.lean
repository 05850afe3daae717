/- An intermediate logic over abstract blocks, further rules; no condition. -/
import Derived.Test.YtlapfdfbgckfcaaAlB
namespace Go.Proofs.Ytlapfdfbgckfcaa.AL
open Go Go.RowKit
set_option linter.unusedVariables false
set_option linter.unusedSimpArgs false
section
instance (priority := 20000) {a0 a1 a2 a3 a4 a5 a6 a7 a8 a9 a10 a11 a12 a13 a14 a15 a16 a17 a18 a19 a20 a21 a22 a23 a24 a25 a26 a27 a28 a29 a30 a31 v : AV} {l : List AV} {n : Nat} [h : GL l n v] : GL (a0 :: a1 :: a2 :: a3 :: a4 :: a5 :: a6 :: a7 :: a8 :: a9 :: a10 :: a11 :: a12 :: a13 :: a14 :: a15 :: a16 :: a17 :: a18 :: a19 :: a20 :: a21 :: a22 :: a23 :: a24 :: a25 :: a26 :: a27 :: a28 :: a29 :: a30 :: a31 :: l) (n + 32) v := ⟨by have := h.h; simpa using this⟩
instance (priority := 20000) {a0 a1 a2 a3 a4 a5 a6 a7 a8 a9 a10 a11 a12 a13 a14 a15 a16 a17 a18 a19 a20 a21 a22 a23 a24 a25 a26 a27 a28 a29 a30 a31 v : AV} {l l' : List AV} {n : Nat} [h : SL l n v l'] : SL (a0 :: a1 :: a2 :: a3 :: a4 :: a5 :: a6 :: a7 :: a8 :: a9 :: a10 :: a11 :: a12 :: a13 :: a14 :: a15 :: a16 :: a17 :: a18 :: a19 :: a20 :: a21 :: a22 :: a23 :: a24 :: a25 :: a26 :: a27 :: a28 :: a29 :: a30 :: a31 :: l) (n + 32) v (a0 :: a1 :: a2 :: a3 :: a4 :: a5 :: a6 :: a7 :: a8 :: a9 :: a10 :: a11 :: a12 :: a13 :: a14 :: a15 :: a16 :: a17 :: a18 :: a19 :: a20 :: a21 :: a22 :: a23 :: a24 :: a25 :: a26 :: a27 :: a28 :: a29 :: a30 :: a31 :: l') := ⟨by have := h.h; simp [List.set_cons_succ, this]⟩
end
/-! Loops and joins by variables; masks; guards of which nothing is known; rows of the call's own that are only read. -/
inductive KP where
  | k
  | f
  | K
  | F
/-- Some temporaries are forgotten. -/
class MK (l : List AV) (m : List KP) (l' : outParam (List AV)) : Prop where
  len : l'.length = l.length
  h : ∀ (i : Nat) (av : AV), l'[i]? = some av → av = .any ∨ l[i]? = some av
theorem mk_cons {a b : AV} {l l' : List AV} (h : l'.length = l.length ∧ ∀ (i : Nat) (av : AV), l'[i]? = some av → av = .any ∨ l[i]? = some av) (hb : b = .any ∨ b = a) :
    (b :: l').length = (a :: l).length ∧ ∀ (i : Nat) (av : AV), (b :: l')[i]? = some av → av = .any ∨ (a :: l)[i]? = some av := by
  refine ⟨by simp [h.1], fun i av hi => ?_⟩
  cases i with
  | zero => simp at hi ⊢; subst hi; rcases hb with hb | hb <;> simp [hb]
  | succ i => simp at hi ⊢; exact h.2 i av hi
instance mkNil {l : List AV} : MK l [] l := ⟨rfl, fun _ _ h => .inr h⟩
instance (priority := low) mkK {a : AV} {l l' : List AV} {m : List KP} [h : MK l m l'] : MK (a :: l) (.k :: m) (a :: l') := by
  have := mk_cons (a := a) (b := a) ⟨h.len, h.h⟩ (.inr rfl)
  exact ⟨this.1, this.2⟩
instance (priority := low) mkF {a : AV} {l l' : List AV} {m : List KP} [h : MK l m l'] : MK (a :: l) (.f :: m) (.any :: l') := by
  have := mk_cons (a := a) (b := .any) ⟨h.len, h.h⟩ (.inl rfl)
  exact ⟨this.1, this.2⟩
instance mkK8 {a0 a1 a2 a3 a4 a5 a6 a7 : AV} {l l' : List AV} {m : List KP} [h : MK l m l'] : MK (a0 :: a1 :: a2 :: a3 :: a4 :: a5 :: a6 :: a7 :: l) (.K :: m) (a0 :: a1 :: a2 :: a3 :: a4 :: a5 :: a6 :: a7 :: l') := by
  have := mk_cons (a := a0) (mk_cons (a := a1) (mk_cons (a := a2) (mk_cons (a := a3) (mk_cons (a := a4) (mk_cons (a := a5) (mk_cons (a := a6) (mk_cons (a := a7) ⟨h.len, h.h⟩ (.inr rfl)) (.inr rfl)) (.inr rfl)) (.inr rfl)) (.inr rfl)) (.inr rfl)) (.inr rfl)) (.inr rfl)
  exact ⟨this.1, this.2⟩
instance mkF8 {a0 a1 a2 a3 a4 a5 a6 a7 : AV} {l l' : List AV} {m : List KP} [h : MK l m l'] : MK (a0 :: a1 :: a2 :: a3 :: a4 :: a5 :: a6 :: a7 :: l) (.F :: m) (.any :: .any :: .any :: .any :: .any :: .any :: .any :: .any :: l') := by
  have := mk_cons (a := a0) (mk_cons (a := a1) (mk_cons (a := a2) (mk_cons (a := a3) (mk_cons (a := a4) (mk_cons (a := a5) (mk_cons (a := a6) (mk_cons (a := a7) ⟨h.len, h.h⟩ (.inl rfl)) (.inl rfl)) (.inl rfl)) (.inl rfl)) (.inl rfl)) (.inl rfl)) (.inl rfl)) (.inl rfl)
  exact ⟨this.1, this.2⟩
/-- Some temporaries are something else. -/
class UPD (l : List AV) (us : List (Nat × AV)) (l' : outParam (List AV)) : Prop where
  h : us.foldl (fun l p => l.set p.1 p.2) l = l'
instance updNil {l : List AV} : UPD l [] l := ⟨rfl⟩
instance updCons {l l1 l2 : List AV} {t : Nat} {v : AV} {us : List (Nat × AV)} [s : SL l t v l1] [h : UPD l1 us l2] : UPD l ((t, v) :: us) l2 := ⟨by
  have := h.h
  simp only [List.foldl_cons, s.h]
  exact this⟩
section
variable {P : Program} {base : Cx} {Q : Exit → St → Prop} {c d : Code} {l lm : List AV} {H : List (Option AB)} {α : Type}
/-- The round of a loop. -/
def LU (l1 : α → List AV) (H1 : α → List (Option AB)) (I : Nat → α → Prop) (n : Nat) (Q : Exit → St → Prop) : Exit → St → Prop := fun e s => match e with | .normal => ∃ m x, m < n ∧ I m x ∧ s = ⟨l1 x, H1 x⟩ | e => Q e s
theorem LU.ret {s : St} {l1 : α → List AV} {H1 : α → List (Option AB)} {I : Nat → α → Prop} {n : Nat} (h : Q .ret s) : LU l1 H1 I n Q .ret s := h
theorem LU.exit {s : St} {l1 : α → List AV} {H1 : α → List (Option AB)} {I : Nat → α → Prop} {n i : Nat} (h : Q (.exit i) s) : LU l1 H1 I n Q (.exit i) s := h
theorem AW.loopU (m : List KP) [mk : MK l m lm] (us : α → List (Nat × AV)) {l1 : α → List AV} [up : ∀ x, UPD lm (us x) (l1 x)] (H1 : α → List (Option AB)) (I : Nat → α → Prop) (n₀ : Nat) (x₀ : α) (h₀ : I n₀ x₀)
    (hl : lm = l1 x₀) (hH : H = H1 x₀) (round : ∀ n x, I n x → AW P base c ⟨l1 x, H1 x⟩ (fun e s1 => ∃ s2, Gh base s1 s2 ∧ LU l1 H1 I n Q e s2)) : AW P base (.loop c) ⟨l, H⟩ Q := by
  refine AW.ghost (s' := ⟨lm, H⟩) (Gh.weaken mk.len mk.h) ?_
  refine AW.loopG (fun n s' => ∃ x, I n x ∧ s' = ⟨l1 x, H1 x⟩) n₀ ⟨x₀, h₀, by rw [hl, hH]⟩ ?_
  rintro n s' ⟨x, hx, rfl⟩
  refine AW.mono (round n x hx) fun e s1 ⟨s2, h1, h2⟩ => ⟨s2, h1, ?_⟩
  cases e with
  | normal => obtain ⟨m', x', h3, h4, h5⟩ := h2; exact ⟨m', h3, x', h4, h5⟩
  | exit id => exact h2
  | goto l => exact h2
  | ret => exact h2
  | panic c => exact h2
  | outgrown => exact h2
theorem AW.backU (m : List KP) [mk : MK l m lm] {l1 : α → List AV} {H1 : α → List (Option AB)} {I : Nat → α → Prop} {n : Nat} (n' : Nat) (x' : α) (hn : n' < n) (hI : I n' x') (hl : lm = l1 x') (hH : H = H1 x') :
    ∃ s2, Gh base ⟨l, H⟩ s2 ∧ LU l1 H1 I n Q .normal s2 := ⟨⟨lm, H⟩, Gh.weaken mk.len mk.h, n', x', hn, hI, by rw [hl, hH]⟩
/-- Behind code that has several ends. -/
def JQ (P : Program) (base : Cx) (l1 : α → List AV) (H1 : α → List (Option AB)) (J : α → Prop) (Q : Exit → St → Prop) : Exit → St → Prop := fun e s => match e with | .normal => ∃ x, J x ∧ s = ⟨l1 x, H1 x⟩ | e => Q e s
theorem JQ.ret {s : St} {l1 : α → List AV} {H1 : α → List (Option AB)} {J : α → Prop} (h : Q .ret s) : JQ P base l1 H1 J Q .ret s := h
theorem JQ.exit {s : St} {l1 : α → List AV} {H1 : α → List (Option AB)} {J : α → Prop} {i : Nat} (h : Q (.exit i) s) : JQ P base l1 H1 J Q (.exit i) s := h
theorem AW.joinU (l1 : α → List AV) (H1 : α → List (Option AB)) (J : α → Prop) (h : AW P base c ⟨l, H⟩ (fun e s1 => ∃ s2, Gh base s1 s2 ∧ JQ P base l1 H1 J Q e s2)) (k : ∀ x, J x → AW P base d ⟨l1 x, H1 x⟩ Q) : AW P base (.seq c d) ⟨l, H⟩ Q := by
  refine AW.seq' (AW.mono_ghost h fun e s1 ⟨s2, h1, h2⟩ => ⟨s2, h1, ?_⟩)
  cases e with
  | normal => obtain ⟨x, hx, rfl⟩ := h2; exact k x hx
  | exit id => exact h2
  | goto l => exact h2
  | ret => exact h2
  | panic c => exact h2
  | outgrown => exact h2
/-- The frame behind a join: what stood ahead of it, some of it forgotten, some of it something else. -/
theorem AW.joinM (m : List KP) [mk : MK l m lm] (us : α → List (Nat × AV)) {l1 : α → List AV} [up : ∀ x, UPD lm (us x) (l1 x)] (H1 : α → List (Option AB)) (J : α → Prop) (h : AW P base c ⟨l, H⟩ (fun e s1 => ∃ s2, Gh base s1 s2 ∧ JQ P base l1 H1 J Q e s2)) (k : ∀ x, J x → AW P base d ⟨l1 x, H1 x⟩ Q) : AW P base (.seq c d) ⟨l, H⟩ Q :=
  AW.joinU l1 H1 J h k
theorem AW.backJ (m : List KP) [mk : MK l m lm] {l1 : α → List AV} {H1 : α → List (Option AB)} {J : α → Prop} (x' : α) (hJ : J x') (hl : lm = l1 x') (hH : H = H1 x') :
    ∃ s2, Gh base ⟨l, H⟩ s2 ∧ JQ P base l1 H1 J Q .normal s2 := ⟨⟨lm, H⟩, Gh.weaken mk.len mk.h, x', hJ, by rw [hl, hH]⟩
theorem AW.mask {c : Code} (m : List KP) [mk : MK l m lm] (k : AW P base c ⟨lm, H⟩ Q) : AW P base c ⟨l, H⟩ Q := AW.ghost (Gh.weaken mk.len mk.h) k
end
section
variable {P : Program} {base : Cx} {Q : Exit → St → Prop} {c d : Code} {l lm : List AV} {H : List (Option AB)} {α β γ δ : Type}
theorem AW.loopU2 (m : List KP) [mk : MK l m lm] (us : α → β → List (Nat × AV)) {l1 : α → β → List AV} [up : ∀ x y, UPD lm (us x y) (l1 x y)] (H1 : α → β → List (Option AB)) (I : Nat → α → β → Prop) (n₀ : Nat) (x₀ : α) (y₀ : β) (h₀ : I n₀ x₀ y₀)
    (hl : lm = l1 x₀ y₀) (hH : H = H1 x₀ y₀) (round : ∀ n x y, I n x y → AW P base c ⟨l1 x y, H1 x y⟩ (fun e s1 => ∃ s2, Gh base s1 s2 ∧ LU (fun p : α × β => l1 p.1 p.2) (fun p => H1 p.1 p.2) (fun n p => I n p.1 p.2) n Q e s2)) : AW P base (.loop c) ⟨l, H⟩ Q :=
  AW.loopU m (fun p : α × β => us p.1 p.2) (l1 := fun p : α × β => l1 p.1 p.2) (up := fun p => up p.1 p.2) (fun p => H1 p.1 p.2) (fun n p => I n p.1 p.2) n₀ (x₀, y₀) h₀ hl hH fun n p hp => round n p.1 p.2 hp
theorem AW.loopU3 (m : List KP) [mk : MK l m lm] (us : α → β → γ → List (Nat × AV)) {l1 : α → β → γ → List AV} [up : ∀ x y z, UPD lm (us x y z) (l1 x y z)] (H1 : α → β → γ → List (Option AB)) (I : Nat → α → β → γ → Prop) (n₀ : Nat) (x₀ : α) (y₀ : β) (z₀ : γ) (h₀ : I n₀ x₀ y₀ z₀)
    (hl : lm = l1 x₀ y₀ z₀) (hH : H = H1 x₀ y₀ z₀) (round : ∀ n x y z, I n x y z → AW P base c ⟨l1 x y z, H1 x y z⟩ (fun e s1 => ∃ s2, Gh base s1 s2 ∧ LU (fun p : α × β × γ => l1 p.1 p.2.1 p.2.2) (fun p => H1 p.1 p.2.1 p.2.2) (fun n p => I n p.1 p.2.1 p.2.2) n Q e s2)) : AW P base (.loop c) ⟨l, H⟩ Q :=
  AW.loopU m (fun p : α × β × γ => us p.1 p.2.1 p.2.2) (l1 := fun p : α × β × γ => l1 p.1 p.2.1 p.2.2) (up := fun p => up p.1 p.2.1 p.2.2) (fun p => H1 p.1 p.2.1 p.2.2) (fun n p => I n p.1 p.2.1 p.2.2) n₀ (x₀, y₀, z₀) h₀ hl hH fun n p hp => round n p.1 p.2.1 p.2.2 hp
theorem AW.loopU4 (m : List KP) [mk : MK l m lm] (us : α → β → γ → δ → List (Nat × AV)) {l1 : α → β → γ → δ → List AV} [up : ∀ x y z u, UPD lm (us x y z u) (l1 x y z u)] (H1 : α → β → γ → δ → List (Option AB)) (I : Nat → α → β → γ → δ → Prop) (n₀ : Nat) (x₀ : α) (y₀ : β) (z₀ : γ) (u₀ : δ) (h₀ : I n₀ x₀ y₀ z₀ u₀)
    (hl : lm = l1 x₀ y₀ z₀ u₀) (hH : H = H1 x₀ y₀ z₀ u₀) (round : ∀ n x y z u, I n x y z u → AW P base c ⟨l1 x y z u, H1 x y z u⟩ (fun e s1 => ∃ s2, Gh base s1 s2 ∧ LU (fun p : α × β × γ × δ => l1 p.1 p.2.1 p.2.2.1 p.2.2.2) (fun p => H1 p.1 p.2.1 p.2.2.1 p.2.2.2) (fun n p => I n p.1 p.2.1 p.2.2.1 p.2.2.2) n Q e s2)) : AW P base (.loop c) ⟨l, H⟩ Q :=
  AW.loopU m (fun p : α × β × γ × δ => us p.1 p.2.1 p.2.2.1 p.2.2.2) (l1 := fun p : α × β × γ × δ => l1 p.1 p.2.1 p.2.2.1 p.2.2.2) (up := fun p => up p.1 p.2.1 p.2.2.1 p.2.2.2) (fun p => H1 p.1 p.2.1 p.2.2.1 p.2.2.2) (fun n p => I n p.1 p.2.1 p.2.2.1 p.2.2.2) n₀ (x₀, y₀, z₀, u₀) h₀ hl hH fun n p hp => round n p.1 p.2.1 p.2.2.1 p.2.2.2 hp
end
section
variable {P : Program} {base : Cx} {l l' : List AV} {H : List (Option AB)} {Q : Exit → St → Prop} {os : List Oper} {rest : List Oper} {d : Option Tmp} {op : Op} {t : TypeId} {pos : String} {af : Array Edge} {av : AV} {ob : Prop} {j u : Nat} {b c want : Bool}
/-- The arguments of a call, if c. -/
class ARGc (c : Bool) (l : List AV) (as : List Operand) (args : outParam (List AV)) : Prop where
  h : c = true → ∀ H, as.map (ev ⟨l, H⟩) = args
instance {c : Bool} : ARGc c l [] [] := ⟨fun _ _ => rfl⟩
instance {c : Bool} {x : Operand} {as : List Operand} {args : List AV} [h : EC c l x av] [h' : ARGc c l as args] : ARGc c l (x :: as) (av :: args) := ⟨fun hc H => by rw [List.map_cons, h.h hc H, h'.h hc H]⟩
/-- Just if c, what is behind this guard is carried out. -/
class GX (l : List AV) (u : Nat) (want : Bool) (c : outParam Bool) : Prop where
  h : ∃ av, l[u]? = some av ∧ (c = true → av = .v (.bool want)) ∧ (c = false → av = .v (.bool (!want)) ∨ av = .v undef)
instance gxT [g : GL l u (.v (.bool b))] : GX l u true b := ⟨_, g.h, fun h => by rw [h], fun h => .inl (by rw [h]; rfl)⟩
instance gxF [g : GL l u (.v (.bool b))] : GX l u false (!b) := ⟨_, g.h, fun h => by cases b <;> simp_all, fun h => .inl (by cases b <;> simp_all)⟩
instance gxTT [g : GL l u (cv c (.v (.bool b)))] : GX l u true (c && b) := ⟨_, g.h, fun h => by cases b <;> cases c <;> simp_all [cv], fun h => by cases c <;> simp_all [cv]⟩
instance gxFF [g : GL l u (cv c (.v (.bool b)))] : GX l u false (c && !b) := ⟨_, g.h, fun h => by cases b <;> cases c <;> simp_all [cv], fun h => by cases b <;> cases c <;> simp_all [cv]⟩
theorem gx_cases (h : GX l u want c) : (c = true ∧ GL l u (.v (.bool want))) ∨ (c = false ∧ (GL l u (.v (.bool (!want))) ∨ GL l u (.v undef))) := by
  obtain ⟨av, h1, h2, h3⟩ := h.h
  cases c with
  | true => have := h2 rfl; subst this; exact .inl ⟨rfl, ⟨h1⟩⟩
  | false =>
    rcases h3 rfl with rfl | rfl
    · exact .inr ⟨rfl, .inl ⟨h1⟩⟩
    · exact .inr ⟨rfl, .inr ⟨h1⟩⟩
theorem AO.gxw {o : Oper} (hg : o.guard = some (j, want)) [ho : DO os j u] [gx : GX l u want c] (hd : St.put ⟨l, H⟩ o.dst (cv c av) = ⟨l', H⟩) (h : c = true → Hv P base o ⟨l, H⟩ (fun s1 => s1 = St.put ⟨l, H⟩ o.dst av)) (k : AO P base os.toArray rest ⟨l', H⟩ Q) : AO P base os.toArray (o :: rest) ⟨l, H⟩ Q := by
  obtain ⟨d, op, t, pos, af, g⟩ := o
  dsimp only at hg hd
  subst hg
  rcases gx_cases gx with ⟨rfl, g⟩ | ⟨rfl, g | g⟩
  · refine AO.heavyG (by rw [wanted_some (s := ⟨l, H⟩) (by simpa using ho.h) (g.ev H)]; simp) (h rfl) fun s1 h1 => ?_
    subst h1
    have e : St.put ⟨l, H⟩ d av = ⟨l', H⟩ := hd
    rw [e]; exact k
  · haveI : DL l d (.v undef) l' := ⟨fun H' => by
      have e : St.put ⟨l, H⟩ d (.v undef) = ⟨l', H⟩ := hd
      cases d with
      | none => simp [St.put] at e ⊢; exact e
      | some d => simp [St.put] at e ⊢; exact e⟩
    exact AO.s rfl k
  · haveI : DL l d (.v undef) l' := ⟨fun H' => by
      have e : St.put ⟨l, H⟩ d (.v undef) = ⟨l', H⟩ := hd
      cases d with
      | none => simp [St.put] at e ⊢; exact e
      | some d => simp [St.put] at e ⊢; exact e⟩
    exact AO.un k
theorem Lt.hv {o : Oper} (h : Lt P o.op ⟨l, H⟩ av) : Hv P base o ⟨l, H⟩ (fun s1 => s1 = St.put ⟨l, H⟩ o.dst av) := by
  intro σ a w hr Q K hk
  obtain ⟨x, h1, h2⟩ := h o.dst o.type o.pos o.after o.guard base σ a w hr
  unfold Oper.wp
  rw [h2 w (KeepW.refl w)]
  exact hk σ _ _ w (hr.put o.dst h1) (by rw [put_H]; exact Ext.refl _) rfl
theorem AO.gx [ho : DO os j u] [gx : GX l u want c] [hp : LC c P op l H av] [hd : DL l d (cv c av) l'] (k : AO P base os.toArray rest ⟨l', H⟩ Q) : AO P base os.toArray (⟨d, op, t, pos, af, some (j, want)⟩ :: rest) ⟨l, H⟩ Q :=
  AO.gxw rfl (hd.h H) (fun hc => Lt.hv (hp.h hc)) k
theorem AO.gxo [ho : DO os j u] [gx : GX l u want c] [hp : OC c P op l H av ob] [hd : DL l d (cv c av) l'] (hob : c = true → ob) (k : AO P base os.toArray rest ⟨l', H⟩ Q) : AO P base os.toArray (⟨d, op, t, pos, af, some (j, want)⟩ :: rest) ⟨l, H⟩ Q :=
  AO.gxw rfl (hd.h H) (fun hc => Lt.hv (hp.h hc (hob hc))) k
theorem AO.gxcall1 {f : FuncId} {fn : Func} {as : List Operand} {ts : Array TypeId} {args : List AV} [ho : DO os j u] [gx : GX l u want c] (hf : P.funcs[f]? = some fn) (hname : (fn.name == "runtime.NumGoroutine") = false) (hb : fn.body.isSome = true)
    [ha : ARGc c l as args] [hga : GA H.length args] (h : c = true → A0 P f args (fun r => r = av)) [hd : DL l d (cv c av) l'] (k : AO P base os.toArray rest ⟨l', H⟩ Q) : AO P base os.toArray (⟨d, .call { callee := .value (.func f), args := as.toArray, argTypes := ts }, t, pos, af, some (j, want)⟩ :: rest) ⟨l, H⟩ Q := by
  refine AO.gxw (c := c) rfl (hd.h H) (fun hc => ?_) k
  intro σ a w hr Q' K hk
  exact HvK.call0 hf hname hb (ha.h hc H) hga.h (h hc) σ a w hr Q' K fun σ' s' a' w' h1 h2 h3 ⟨r, h4, h5⟩ => by subst h4; exact hk σ' s' a' w' h1 h2 h5
/-- A row that is made and only read, behind a guard. -/
class HRc (c : Bool) (P : Program) (o : Op) (l : List AV) (H : List (Option AB)) (av : outParam AV) (ob : outParam Prop) : Prop where
  h : c = true → ob → ∀ (base : Cx) (d : Option Tmp) (ty : TypeId) (pos : String) (af : Array Edge) (g : Option (Nat × Bool)), HvK P base ⟨d, o, ty, pos, af, g⟩ ⟨l, H⟩ (fun s' => s' = St.put ⟨l, H⟩ d av)
instance hrcOf [h : HR P op l H av ob] : HRc c P op l H av ob := ⟨fun _ => h.h⟩
theorem AO.gxr [ho : DO os j u] [gx : GX l u want c] [hp : HRc c P op l H av ob] [hd : DL l d (cv c av) l'] (hob : ob) (k : AO P base os.toArray rest ⟨l', H⟩ Q) : AO P base os.toArray (⟨d, op, t, pos, af, some (j, want)⟩ :: rest) ⟨l, H⟩ Q :=
  AO.gxw rfl (hd.h H) (fun hc => (hp.h hc hob base d t pos af (some (j, want))).hv) k
variable {ds : List Nat} {nf : Nat} {fl : Array Bool}
theorem AY.gxs {d : Option Tmp} {op : Op} (i : Nat) (hi : os.toArray[i]? = some ⟨d, op, t, pos, af, some (j, want)⟩) (hc : anyR os.toArray fl (fl.setIfInBounds i true) i = true) [ho : DO os j u] (g : GL l u (.v (.bool (!want))) ∨ GL l u (.v undef)) (hd : St.put ⟨l, H⟩ d (.v undef) = ⟨l', H⟩) (k : AY P base os.toArray ds nf (fl.setIfInBounds i true) ⟨l', H⟩ Q) : AY P base os.toArray ds (nf + 1) fl ⟨l, H⟩ Q := by
  haveI : DL l d (.v undef) l' := ⟨fun H' => by
    have e : St.put ⟨l, H⟩ d (.v undef) = ⟨l', H⟩ := hd
    cases d with
    | none => simp [St.put] at e ⊢; exact e
    | some d => simp [St.put] at e ⊢; exact e⟩
  rcases g with g | g
  · exact AY.s i hi hc rfl k
  · exact AY.un i hi hc k
theorem AY.gxl {d : Option Tmp} {op : Op} (i : Nat) (hi : os.toArray[i]? = some ⟨d, op, t, pos, af, some (j, want)⟩) (hc : takeR os.toArray ds fl (fl.setIfInBounds i true) i = true) [ho : DO os j u] [gx : GX l u want c] (hp : c = true → Lt P op ⟨l, H⟩ av) (hd : St.put ⟨l, H⟩ d (cv c av) = ⟨l', H⟩) (k : AY P base os.toArray ds nf (fl.setIfInBounds i true) ⟨l', H⟩ Q) : AY P base os.toArray ds (nf + 1) fl ⟨l, H⟩ Q := by
  have hc' := hc
  simp only [takeR, Bool.and_eq_true] at hc'
  rcases gx_cases gx with ⟨rfl, g⟩ | ⟨rfl, g⟩
  · refine AY.light hi hc (by rw [wanted_some (s := ⟨l, H⟩) (by simpa using ho.h) (g.ev H)]; simp) (hp rfl) ?_
    have e : St.put ⟨l, H⟩ d av = ⟨l', H⟩ := hd
    rw [e]; exact k
  · exact AY.gxs i hi hc'.1.1 g hd k
theorem AY.gx (i : Nat) (hi : os.toArray[i]? = some ⟨d, op, t, pos, af, some (j, want)⟩) (hc : takeR os.toArray ds fl (fl.setIfInBounds i true) i = true) [ho : DO os j u] [gx : GX l u want c] [hp : LC c P op l H av] [hd : DL l d (cv c av) l'] (k : AY P base os.toArray ds nf (fl.setIfInBounds i true) ⟨l', H⟩ Q) : AY P base os.toArray ds (nf + 1) fl ⟨l, H⟩ Q :=
  AY.gxl i hi hc hp.h (hd.h H) k
theorem AY.gxo (i : Nat) (hi : os.toArray[i]? = some ⟨d, op, t, pos, af, some (j, want)⟩) (hc : takeR os.toArray ds fl (fl.setIfInBounds i true) i = true) [ho : DO os j u] [gx : GX l u want c] [hp : OC c P op l H av ob] [hd : DL l d (cv c av) l'] (hob : c = true → ob) (k : AY P base os.toArray ds nf (fl.setIfInBounds i true) ⟨l', H⟩ Q) : AY P base os.toArray ds (nf + 1) fl ⟨l, H⟩ Q :=
  AY.gxl i hi hc (fun h => hp.h h (hob h)) (hd.h H) k
theorem AY.gxh {d : Option Tmp} {op : Op} (i : Nat) (hi : os.toArray[i]? = some ⟨d, op, t, pos, af, some (j, want)⟩) (hc : oneR os.toArray fl (fl.setIfInBounds i true) i = true) (hc2 : anyR os.toArray fl (fl.setIfInBounds i true) i = true) [ho : DO os j u] [gx : GX l u want c] (h : c = true → HvK P base ⟨d, op, t, pos, af, some (j, want)⟩ ⟨l, H⟩ (fun s1 => s1 = St.put ⟨l, H⟩ d av)) (hd : St.put ⟨l, H⟩ d (cv c av) = ⟨l', H⟩) (k : AY P base os.toArray ds nf (fl.setIfInBounds i true) ⟨l', H⟩ Q) : AY P base os.toArray ds (nf + 1) fl ⟨l, H⟩ Q := by
  rcases gx_cases gx with ⟨rfl, g⟩ | ⟨rfl, g⟩
  · refine AY.heavy hi hc (by rw [wanted_some (s := ⟨l, H⟩) (by simpa using ho.h) (g.ev H)]; simp) (h rfl) fun s1 h1 => ?_
    subst h1
    have e : St.put ⟨l, H⟩ d av = ⟨l', H⟩ := hd
    rw [e]; exact k
  · exact AY.gxs i hi hc2 g hd k
theorem AY.gxcall1 (i : Nat) {f : FuncId} {fn : Func} {as : List Operand} {ts : Array TypeId} {args : List AV} (hi : os.toArray[i]? = some ⟨d, .call { callee := .value (.func f), args := as.toArray, argTypes := ts }, t, pos, af, some (j, want)⟩) (hc : oneR os.toArray fl (fl.setIfInBounds i true) i = true) (hc2 : anyR os.toArray fl (fl.setIfInBounds i true) i = true) [ho : DO os j u] [gx : GX l u want c] (hf : P.funcs[f]? = some fn) (hname : (fn.name == "runtime.NumGoroutine") = false) (hb : fn.body.isSome = true)
    [ha : ARGc c l as args] [hga : GA H.length args] (h : c = true → A0 P f args (fun r => r = av)) [hd : DL l d (cv c av) l'] (k : AY P base os.toArray ds nf (fl.setIfInBounds i true) ⟨l', H⟩ Q) : AY P base os.toArray ds (nf + 1) fl ⟨l, H⟩ Q := by
  refine AY.gxh (c := c) i hi hc hc2 (fun hc' => ?_) (hd.h H) k
  intro σ a w hr Q' K hk
  exact HvK.call0 hf hname hb (ha.h hc' H) hga.h (h hc') σ a w hr Q' K fun σ' s' a' w' h1 h2 h3 ⟨r, h4, h5⟩ => by subst h4; exact hk σ' s' a' w' h1 h2 h3 h5
theorem AY.gxr (i : Nat) (hi : os.toArray[i]? = some ⟨d, op, t, pos, af, some (j, want)⟩) (hc : oneR os.toArray fl (fl.setIfInBounds i true) i = true) (hc2 : anyR os.toArray fl (fl.setIfInBounds i true) i = true) [ho : DO os j u] [gx : GX l u want c] [hp : HRc c P op l H av ob] [hd : DL l d (cv c av) l'] (hob : ob) (k : AY P base os.toArray ds nf (fl.setIfInBounds i true) ⟨l', H⟩ Q) : AY P base os.toArray ds (nf + 1) fl ⟨l, H⟩ Q :=
  AY.gxh i hi hc hc2 (fun hc' => hp.h hc' hob base d t pos af (some (j, want))) (hd.h H) k
end
/-! Guards behind guards. -/
section
variable {l : List AV} {x y : Operand} {v : AV} {c b b' : Bool} {P : Program} {H : List (Option AB)}
instance (priority := low) ecAnd [h : EC c l x v] : EC (c && b) l x v := ⟨fun hc H => h.h (by cases c <;> simp_all) H⟩
instance (priority := high) ecAndG {t : Tmp} {v : AV} [g : GL l t (cv (c && b) v)] : EC (c && b) l (.tmp t) v := ⟨fun hc H => by rw [g.ev H, hc]; rfl⟩
instance and2n [h : EC c l x (.v (.bool b))] [h' : EC c l y (cv (c && b) (.v (.bool b')))] : PC c P (.pick x y (.const (.bool false))) l H (.v (.bool (b && b'))) := ⟨fun hc => by
  refine Pu.pick (h.h hc H) ?_
  have e := h'.h hc H
  cases b
  · rfl
  · rw [hc] at e; exact e⟩
instance or2n [h : EC c l x (.v (.bool b))] [h' : EC c l y (cv (c && !b) (.v (.bool b')))] : PC c P (.pick x (.const (.bool true)) y) l H (.v (.bool (b || b'))) := ⟨fun hc => by
  refine Pu.pick (h.h hc H) ?_
  have e := h'.h hc H
  cases b
  · rw [hc] at e; exact e
  · rfl⟩
end

/-! The same rules, with what must be shown first sought by itself. -/
section
variable {P : Program} {base : Cx} {l l' : List AV} {H H' : List (Option AB)} {Q : Exit → St → Prop} {os : List Oper} {ops : Array Oper} {rest : List Oper} {d : Option Tmp} {op : Op} {t : TypeId} {pos : String} {af : Array Edge} {av : AV} {ob : Prop} {j u : Nat} {b c want : Bool}
theorem AO.oo [hp : OC true P op l H av ob] [hd : DL l d av l'] (k : AO P base ops rest ⟨l', H⟩ Q) (hob : ob := by first | omega | ((repeat' apply And.intro) <;> first | rfl | omega | (simp; done) | (simp [bys_length]; omega))) : AO P base ops (⟨d, op, t, pos, af, none⟩ :: rest) ⟨l, H⟩ Q := AO.o hob k
theorem AO.ww [hp : HW P op l H av H' ob] [hd : DL l d av l'] (k : AO P base ops rest ⟨l', H'⟩ Q) (hob : ob := by first | omega | ((repeat' apply And.intro) <;> first | rfl | omega | (simp; done) | (simp [bys_length]; omega))) : AO P base ops (⟨d, op, t, pos, af, none⟩ :: rest) ⟨l, H⟩ Q := AO.w hob k
theorem AO.rr [hp : HR P op l H av ob] [hd : DL l d av l'] (k : AO P base ops rest ⟨l', H⟩ Q) (hob : ob := by first | omega | ((repeat' apply And.intro) <;> first | rfl | omega | (simp; done) | (simp [bys_length]; omega))) : AO P base ops (⟨d, op, t, pos, af, none⟩ :: rest) ⟨l, H⟩ Q := AO.r hob k
theorem AO.sst [hp : HS P op l H H' ob] (k : AO P base ops rest ⟨l, H'⟩ Q) (hob : ob := by first | omega | ((repeat' apply And.intro) <;> first | rfl | omega | (simp; done) | (simp [bys_length]; omega))) : AO P base ops (⟨none, op, t, pos, af, none⟩ :: rest) ⟨l, H⟩ Q := AO.st hob k
theorem AO.gxoo [ho : DO os j u] [gx : GX l u want c] [hp : OC c P op l H av ob] [hd : DL l d (cv c av) l'] (k : AO P base os.toArray rest ⟨l', H⟩ Q) (hob : c = true → ob := by intro hgd; (try simp only [Bool.and_eq_true, Bool.or_eq_true, Bool.not_eq_true', Bool.and_eq_false_iff, Bool.or_eq_false_iff, decide_eq_true_eq, decide_eq_false_iff_not, bys_length] at hgd); first | omega | ((repeat' apply And.intro) <;> first | rfl | omega | (simp; done) | (simp [bys_length]; omega))) : AO P base os.toArray (⟨d, op, t, pos, af, some (j, want)⟩ :: rest) ⟨l, H⟩ Q := AO.gxo hob k
theorem AO.gxrr [ho : DO os j u] [gx : GX l u want c] [hp : HRc c P op l H av ob] [hd : DL l d (cv c av) l'] (k : AO P base os.toArray rest ⟨l', H⟩ Q) (hob : ob := by first | omega | ((repeat' apply And.intro) <;> first | rfl | omega | (simp; done) | (simp [bys_length]; omega))) : AO P base os.toArray (⟨d, op, t, pos, af, some (j, want)⟩ :: rest) ⟨l, H⟩ Q := AO.gxr hob k
variable {ds : List Nat} {nf : Nat} {fl : Array Bool}
theorem AY.oo (i : Nat) (hi : ops[i]? = some ⟨d, op, t, pos, af, none⟩) (hc : takeR ops ds fl (fl.setIfInBounds i true) i = true) [hp : OC true P op l H av ob] [hd : DL l d av l'] (k : AY P base ops ds nf (fl.setIfInBounds i true) ⟨l', H⟩ Q) (hob : ob := by first | omega | ((repeat' apply And.intro) <;> first | rfl | omega | (simp; done) | (simp [bys_length]; omega))) : AY P base ops ds (nf + 1) fl ⟨l, H⟩ Q := AY.o i hi hc hob k
theorem AY.mkk (i : Nat) (hi : ops[i]? = some ⟨d, op, t, pos, af, none⟩) (hc : oneR ops fl (fl.setIfInBounds i true) i = true) [hp : HM P op l H av H' ob] [hd : DL l d av l'] (k : AY P base ops ds nf (fl.setIfInBounds i true) ⟨l', H'⟩ Q) (hob : ob := by first | omega | ((repeat' apply And.intro) <;> first | rfl | omega | (simp; done) | (simp [bys_length]; omega))) : AY P base ops ds (nf + 1) fl ⟨l, H⟩ Q := AY.mk i hi hc hob k
theorem AY.ww (i : Nat) (hi : ops[i]? = some ⟨d, op, t, pos, af, none⟩) (hc : oneR ops fl (fl.setIfInBounds i true) i = true) (hs : ds.contains i = true) [hp : HW P op l H av H' ob] [hd : DL l d av l'] (k : AY P base ops ds nf (fl.setIfInBounds i true) ⟨l', H'⟩ Q) (hob : ob := by first | omega | ((repeat' apply And.intro) <;> first | rfl | omega | (simp; done) | (simp [bys_length]; omega))) : AY P base ops ds (nf + 1) fl ⟨l, H⟩ Q := AY.w i hi hc hs hob k
theorem AY.sst (i : Nat) (hi : ops[i]? = some ⟨none, op, t, pos, af, none⟩) (hc : oneR ops fl (fl.setIfInBounds i true) i = true) (hs : ds.contains i = true) [hp : HS P op l H H' ob] (k : AY P base ops ds nf (fl.setIfInBounds i true) ⟨l, H'⟩ Q) (hob : ob := by first | omega | ((repeat' apply And.intro) <;> first | rfl | omega | (simp; done) | (simp [bys_length]; omega))) : AY P base ops ds (nf + 1) fl ⟨l, H⟩ Q := AY.st i hi hc hs hob k
theorem AY.rr (i : Nat) (hi : ops[i]? = some ⟨d, op, t, pos, af, none⟩) (hc : oneR ops fl (fl.setIfInBounds i true) i = true) [hp : HR P op l H av ob] [hd : DL l d av l'] (k : AY P base ops ds nf (fl.setIfInBounds i true) ⟨l', H⟩ Q) (hob : ob := by first | omega | ((repeat' apply And.intro) <;> first | rfl | omega | (simp; done) | (simp [bys_length]; omega))) : AY P base ops ds (nf + 1) fl ⟨l, H⟩ Q := AY.r i hi hc hob k
theorem AY.gxoo (i : Nat) (hi : os.toArray[i]? = some ⟨d, op, t, pos, af, some (j, want)⟩) (hc : takeR os.toArray ds fl (fl.setIfInBounds i true) i = true) [ho : DO os j u] [gx : GX l u want c] [hp : OC c P op l H av ob] [hd : DL l d (cv c av) l'] (k : AY P base os.toArray ds nf (fl.setIfInBounds i true) ⟨l', H⟩ Q) (hob : c = true → ob := by intro hgd; (try simp only [Bool.and_eq_true, Bool.or_eq_true, Bool.not_eq_true', Bool.and_eq_false_iff, Bool.or_eq_false_iff, decide_eq_true_eq, decide_eq_false_iff_not, bys_length] at hgd); first | omega | ((repeat' apply And.intro) <;> first | rfl | omega | (simp; done) | (simp [bys_length]; omega))) : AY P base os.toArray ds (nf + 1) fl ⟨l, H⟩ Q := AY.gxo i hi hc hob k
theorem AY.gxrr (i : Nat) (hi : os.toArray[i]? = some ⟨d, op, t, pos, af, some (j, want)⟩) (hc : oneR os.toArray fl (fl.setIfInBounds i true) i = true) (hc2 : anyR os.toArray fl (fl.setIfInBounds i true) i = true) [ho : DO os j u] [gx : GX l u want c] [hp : HRc c P op l H av ob] [hd : DL l d (cv c av) l'] (k : AY P base os.toArray ds nf (fl.setIfInBounds i true) ⟨l', H⟩ Q) (hob : ob := by first | omega | ((repeat' apply And.intro) <;> first | rfl | omega | (simp; done) | (simp [bys_length]; omega))) : AY P base os.toArray ds (nf + 1) fl ⟨l, H⟩ Q := AY.gxr i hi hc hc2 hob k
end

end Go.Proofs.Ytlapfdfbgckfcaa.AL
