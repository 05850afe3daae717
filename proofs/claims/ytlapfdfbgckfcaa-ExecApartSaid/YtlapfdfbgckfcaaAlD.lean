/- An intermediate logic over abstract blocks, further rules; no condition. -/
import Derived.Test.YtlapfdfbgckfcaaAlC
import Derived.Carry
import Derived.OpenShut
import Derived.ChangeShapes
namespace Go.Proofs.Ytlapfdfbgckfcaa.AL
open Go Go.RowKit
set_option linter.unusedVariables false
set_option linter.unusedSimpArgs false
/-! Arguments of any tree-like types, and the row of a statement. -/
mutual
/-- Values of a type, as they are told. -/
inductive TA (P : Program) : TypeId → List AV → Prop
  | bool {t : TypeId} {b : Bool} (h : P.underlying t = some .bool) : TA P t [.v (.bool b)]
  | int {t : TypeId} {k : IntKind} {n : Int} (h : P.underlying t = some (.int k)) (hw : (Lit.int k n).wf = true) : TA P t [.v (.int k n)]
  | str {t : TypeId} {s : ByteArray} (h : P.underlying t = some .string) (hs : s.size ≤ maxLen) : TA P t [.v (.string s)]
  | slice {t e : TypeId} {rows : List (List AV)} (h : P.underlying t = some (.slice e)) (hl : rows.length ≤ maxLen) (hr : ∀ row ∈ rows, TA P e row) : TA P t [.rd (P.cellsOf e) rows]
  | struct {t : TypeId} {fs : Array Field} {avs : List AV} (h : P.underlying t = some (.struct fs)) (hs : TAs P (fs.toList.map (·.type)) avs) : TA P t avs
  | other {t : TypeId} {n : Nat} (hn : ∀ d, P.underlying t = some d → (match d with | .bool | .int _ | .string | .slice _ | .struct _ => False | _ => True)) : TA P t (List.replicate n .any)
inductive TAs (P : Program) : List TypeId → List AV → Prop
  | nil : TAs P [] []
  | cons {t : TypeId} {ts : List TypeId} {a b : List AV} (h : TA P t a) (hl : a.length = P.cellsOf t) (hs : TAs P ts b) : TAs P (t :: ts) (a ++ b)
end
/-- Fields lie one behind the other. -/
def contigF (P : Program) : List Field → Nat → Nat → Bool
  | [], o, n => o == n
  | f :: fs, o, n => (f.offset == o) && contigF P fs (o + P.cellsOf f.type) n
/-- Types that lead to no others, and to no arrays. -/
def closedB (P : Program) (ts : List TypeId) : Bool := ts.all fun t => match P.underlying t with
  | some (.struct fs) => contigF P fs.toList 0 (P.cellsOf t) && fs.toList.all (fun f => ts.contains f.type)
  | some (.slice e) => ts.contains e && Nat.blt 0 (P.cellsOf e)
  | some (.array _ _) => false
  | _ => true
def GoodC (W : World) (σ : Nat → Value) (avs : List AV) (cs : List Value) : Prop :=
  avs.length = cs.length ∧ ∀ (j : Nat) (av : AV) (x : Value), avs[j]? = some av → cs[j]? = some x → VR ⟨W, [], σ, fun _ => False⟩ av x ∧ x.oneCell' = true
theorem GoodC.nil {W : World} {σ : Nat → Value} : GoodC W σ [] [] := ⟨rfl, fun j av x h => by simp at h⟩
theorem GoodC.one {W : World} {σ : Nat → Value} {av : AV} {x : Value} (h : VR ⟨W, [], σ, fun _ => False⟩ av x) (h1 : x.oneCell' = true) : GoodC W σ [av] [x] := ⟨rfl, fun j av' x' h2 h3 => by
  cases j with
  | zero => simp at h2 h3; subst h2; subst h3; exact ⟨h, h1⟩
  | succ j => simp at h2⟩
theorem GoodC.append {W : World} {σ : Nat → Value} {a a' : List AV} {c c' : List Value} (h : GoodC W σ a c) (h' : GoodC W σ a' c') : GoodC W σ (a ++ a') (c ++ c') := by
  refine ⟨by simp [h.1, h'.1], fun j av x h1 h2 => ?_⟩
  by_cases hj : j < a.length
  · rw [List.getElem?_append_left hj] at h1
    rw [List.getElem?_append_left (by rw [← h.1]; exact hj)] at h2
    exact h.2 j av x h1 h2
  · rw [List.getElem?_append_right (by omega)] at h1
    rw [List.getElem?_append_right (by rw [← h.1]; omega)] at h2
    rw [← h.1] at h2
    exact h'.2 _ av x h1 h2
theorem GoodC.any {W : World} {σ : Nat → Value} {cs : List Value} (h1 : ∀ x ∈ cs, x.oneCell' = true) : GoodC W σ (List.replicate cs.length .any) cs :=
  ⟨by simp, fun j av x h2 h3 => by
    rw [List.getElem?_replicate] at h2
    split at h2
    · obtain rfl := Option.some.inj h2
      exact ⟨.any x, h1 x (List.mem_of_getElem? h3)⟩
    · cases h2⟩
/-- Of each number something: a list of them. -/
theorem list_of {α : Type} (p : Nat → α → Prop) : ∀ (n : Nat), (∀ i, i < n → ∃ x, p i x) → ∃ l : List α, l.length = n ∧ ∀ i x, l[i]? = some x → p i x := by
  intro n
  induction n with
  | zero => exact fun _ => ⟨[], rfl, fun i x h => by simp at h⟩
  | succ n ih =>
    intro h
    obtain ⟨l, h1, h2⟩ := ih fun i hi => h i (by omega)
    obtain ⟨x, hx⟩ := h n (by omega)
    refine ⟨l ++ [x], by simp [h1], fun i y hy => ?_⟩
    by_cases hi : i < l.length
    · rw [List.getElem?_append_left hi] at hy; exact h2 i y hy
    · have := (List.getElem?_eq_some_iff.1 hy).1
      simp at this
      have : i = l.length := by omega
      subst this
      simp at hy
      subst hy
      rw [h1]; exact hx
theorem mapM_get {α β : Type} {f : α → Option β} : ∀ {l : List α} {r : List β}, l.mapM f = some r → ∀ x ∈ l, ∃ y, f x = some y := by
  intro l
  induction l with
  | nil => intro r h x hx; cases hx
  | cons a l ih =>
    intro r h x hx
    rw [List.mapM_cons] at h
    cases ha : f a with
    | none => simp [ha] at h
    | some b =>
      cases has : l.mapM f with
      | none => simp [ha, has] at h
      | some bs =>
        rcases List.mem_cons.1 hx with rfl | hx
        · exact ⟨b, ha⟩
        · exact ih has x hx
theorem cells_mapM {α β : Type} {f : α → Option β} : ∀ {l : List α} {r : List β}, l.mapM f = some r → r.length = l.length ∧ ∀ (i : Nat) (x : α) (y : β), l[i]? = some x → r[i]? = some y → f x = some y := by
  intro l
  induction l with
  | nil => intro r h; simp at h; subst h; exact ⟨rfl, fun i x y h => by simp at h⟩
  | cons a l ih =>
    intro r h
    rw [List.mapM_cons] at h
    cases ha : f a with
    | none => simp [ha] at h
    | some b =>
      cases has : l.mapM f with
      | none => simp [ha, has] at h
      | some bs =>
        simp [ha, has] at h
        subst h
        obtain ⟨h1, h2⟩ := ih has
        refine ⟨by simp [h1], fun i x y hx hy => ?_⟩
        cases i with
        | zero => simp at hx hy; subst hx; subst hy; exact ha
        | succ i => simp at hx hy; exact h2 i x y hx hy
section
variable {H : Type} {enc : TypeId × Value → H} {P : Program} {W : World} {σ : Nat → Value}
theorem ta_fields {n : Nat} {ts : List TypeId} (ih : ∀ (t : TypeId) (cs : List Value) (x : DataW H × List MemPlace), ts.contains t = true → DataW.trod enc P W 0 (fun _ => true) true n t cs = some x → ∃ avs, TA P t avs ∧ GoodC W σ avs cs) :
    ∀ (fs : List Field) (o m : Nat) (cs : List Value), contigF P fs o m = true → cs.length = m → (∀ f ∈ fs, ts.contains f.type = true) → (∀ f ∈ fs, ∃ y, DataW.trod enc P W 0 (fun _ => true) true n f.type ((cs.drop f.offset).take (P.cellsOf f.type)) = some y) →
      ∃ avs, TAs P (fs.map (·.type)) avs ∧ GoodC W σ avs (cs.drop o) ∧ o ≤ m := by
  intro fs
  induction fs with
  | nil =>
    intro o m cs hc hl _ _
    simp [contigF] at hc
    subst hc
    exact ⟨[], .nil, by rw [List.drop_of_length_le (by omega)]; exact GoodC.nil, Nat.le_refl _⟩
  | cons f fs ihf =>
    intro o m cs hc hl ht hf
    simp only [contigF, Bool.and_eq_true, beq_iff_eq] at hc
    obtain ⟨h1, h2⟩ := hc
    obtain ⟨avs, h3, h4, h5⟩ := ihf (o + P.cellsOf f.type) m cs h2 hl (fun g hg => ht g (List.mem_cons_of_mem _ hg)) fun g hg => hf g (List.mem_cons_of_mem _ hg)
    obtain ⟨y, hy⟩ := hf f List.mem_cons_self
    obtain ⟨a, h6, h7⟩ := ih _ _ _ (ht f List.mem_cons_self) hy
    rw [h1] at h7
    have hla : a.length = P.cellsOf f.type := by rw [h7.1, List.length_take, List.length_drop]; omega
    refine ⟨a ++ avs, .cons h6 hla h3, ?_, by omega⟩
    have e : cs.drop o = (cs.drop o).take (P.cellsOf f.type) ++ cs.drop (o + P.cellsOf f.type) := by
      rw [← List.drop_drop, List.take_append_drop]
    rw [e]
    exact h7.append h4
theorem cells?_spec {a : Addr} {n : Nat} {cs : List Value} (h : W.cells? 0 a n = some cs) : cs.length = n ∧ ∀ j x, cs[j]? = some x → W.cell? (a.add j) = some x := by
  unfold World.cells? at h
  rw [if_pos (Nat.zero_le _)] at h
  obtain ⟨h1, h2⟩ := cells_mapM h
  rw [List.length_range] at h1
  refine ⟨h1, fun j x hx => ?_⟩
  have hj := (List.getElem?_eq_some_iff.1 hx).1
  exact h2 j j x (by rw [List.getElem?_range (by omega)]) hx
/-- What an argument is known to be. -/
theorem ta_of_trod {ts : List TypeId} (hc : closedB P ts = true) : ∀ (n : Nat) (t : TypeId) (cs : List Value) (x : DataW H × List MemPlace), ts.contains t = true → DataW.trod enc P W 0 (fun _ => true) true n t cs = some x → ∃ avs, TA P t avs ∧ GoodC W σ avs cs := by
  intro n
  induction n with
  | zero => intro t cs x _ h; simp [DataW.trod] at h
  | succ n ih =>
    intro t cs0 x ht h
    have hct := List.all_eq_true.1 hc t (by simpa using ht)
    have other : ∀ {cs : List Value}, (∀ d, P.underlying t = some d → (match d with | .bool | .int _ | .string | .slice _ | .struct _ => False | _ => True)) → (∀ x ∈ cs, x.oneCell' = true) → ∃ avs, TA P t avs ∧ GoodC W σ avs cs :=
      fun {cs} h1 h2 => ⟨_, .other (n := cs.length) h1, GoodC.any h2⟩
    rw [DataW.trod_step] at h
    unfold DataW.trodStep at h
    split at h
    · next hu => exact ⟨_, .bool hu, .one (.v _) rfl⟩
    · next hu => split at h
                 · next hw => obtain ⟨rfl, hw⟩ := hw; exact ⟨_, .int hu hw, .one (.v _) rfl⟩
                 · cases h
    · next hu => exact other (fun d hd => by rw [hu] at hd; obtain rfl := Option.some.inj hd; trivial) (by simp [Value.oneCell'])
    · next hu => split at h
                 · next hw => exact ⟨_, .str hu hw, .one (.v _) rfl⟩
                 · cases h
    · next hu => exact other (fun d hd => by rw [hu] at hd; obtain rfl := Option.some.inj hd; trivial) (by simp [Value.oneCell'])
    · next hu => exact other (fun d hd => by rw [hu] at hd; obtain rfl := Option.some.inj hd; trivial) (by simp [Value.oneCell'])
    · next e hu =>
      exact ⟨_, .slice hu (rows := []) (by simp) (by simp), .one (.rd (fun _ _ => undef) (by simp) (by simp) (by simp) (by simp) (by simp)) rfl⟩
    · next e a len cap hu =>
      simp only at h
      split at h
      · next hcap =>
        obtain ⟨_, hlc, hcm⟩ := hcap
        cases hel : (List.range len).mapM (fun i => (W.cells? 0 (a.add (i * P.cellsOf e)) (P.cellsOf e)).bind (DataW.trod enc P W 0 (fun _ => true) true n e)) with
        | none => rw [hel] at h; simp at h
        | some elems =>
          have hi : ∀ i, i < len → ∃ avs, TA P e avs ∧ ∃ csi, W.cells? 0 (a.add (i * P.cellsOf e)) (P.cellsOf e) = some csi ∧ GoodC W σ avs csi := by
            intro i hi
            obtain ⟨y, hy⟩ := mapM_get hel i (List.mem_range.2 hi)
            cases hcs : W.cells? 0 (a.add (i * P.cellsOf e)) (P.cellsOf e) with
            | none => rw [hcs] at hy; cases hy
            | some csi =>
              rw [hcs] at hy
              rw [hu] at hct
              simp only [Bool.and_eq_true] at hct
              obtain ⟨avs, h1, h2⟩ := ih e csi y hct.1 hy
              exact ⟨avs, h1, csi, rfl, h2⟩
          obtain ⟨rows, hr1, hr2⟩ := list_of (fun i avs => TA P e avs ∧ ∃ csi, W.cells? 0 (a.add (i * P.cellsOf e)) (P.cellsOf e) = some csi ∧ GoodC W σ avs csi) len hi
          have hsz : ∀ row ∈ rows, row.length = P.cellsOf e := by
            intro row hm
            obtain ⟨i, hi⟩ := List.mem_iff_getElem?.1 hm
            obtain ⟨_, csi, h2, h3⟩ := hr2 i row hi
            rw [h3.1, (cells?_spec h2).1]
          have hcell : ∀ (i : Nat) (row : List AV) (j : Nat) (av : AV), rows[i]? = some row → row[j]? = some av → W.cell? (a.add (i * P.cellsOf e + j)) = some ((W.cell? (a.add (i * P.cellsOf e + j))).getD undef) ∧ ((W.cell? (a.add (i * P.cellsOf e + j))).getD undef).oneCell' = true ∧ VR ⟨W, [], σ, fun _ => False⟩ av ((W.cell? (a.add (i * P.cellsOf e + j))).getD undef) := by
            intro i row j av hi hj
            obtain ⟨_, csi, h2, h3⟩ := hr2 i row hi
            have hjl : j < csi.length := by rw [← h3.1]; exact (List.getElem?_eq_some_iff.1 hj).1
            have hx : csi[j]? = some csi[j] := List.getElem?_eq_getElem hjl
            have h4 := (cells?_spec h2).2 j _ hx
            rw [add_add] at h4
            have h5 := h3.2 j av _ hj hx
            rw [h4]
            exact ⟨rfl, h5.2, h5.1⟩
          have hvr : VR ⟨W, [], σ, fun _ => False⟩ (.rd (P.cellsOf e) rows) (.slice (some a) rows.length cap) := by
            refine .rd (fun i j => (W.cell? (a.add (i * P.cellsOf e + j))).getD undef) (by omega) hcm hsz (fun h0 => ⟨a, rfl, ?_, ?_, fun i row j av hi hj => ⟨(hcell i row j av hi hj).1, (hcell i row j av hi hj).2.1⟩⟩) (fun i row j av hi hj => (hcell i row j av hi hj).2.2)
            · rintro (⟨id, b, h1, _⟩ | h1)
              · simp at h1
              · exact h1
            · obtain ⟨row, hrow⟩ : ∃ row, rows[0]? = some row := ⟨rows[0], List.getElem?_eq_getElem h0⟩
              have hz : 0 < P.cellsOf e := by
                rw [hu] at hct
                simp only [Bool.and_eq_true] at hct
                simpa using hct.2
              have hl := hsz row (List.mem_of_getElem? hrow)
              have hj : row[0]? = some (row[0]'(by omega)) := List.getElem?_eq_getElem (by omega)
              have := (hcell 0 row 0 _ hrow hj).1
              have hlt := cell_lt this
              rw [block_add] at hlt
              exact hlt
          rw [hr1] at hvr
          exact ⟨_, .slice hu (by rw [hr1]; omega) (fun row hm => by obtain ⟨i, hi⟩ := List.mem_iff_getElem?.1 hm; exact (hr2 i row hi).1), .one hvr rfl⟩
      · cases h
    · rename_i cs0 _ _ fs hu
      split at h
      · next hl =>
        cases hm : fs.toList.mapM (fun f => DataW.trod enc P W 0 (fun _ => true) true n f.type ((cs0.drop f.offset).take (P.cellsOf f.type))) with
        | none => rw [hm] at h; cases h
        | some xs =>
          obtain ⟨avs, h1, h2, _⟩ := ta_fields (ts := ts) ih fs.toList 0 _ cs0 (by rw [hu] at hct; simp only [Bool.and_eq_true] at hct; exact hct.1) hl (fun f hf => by rw [hu] at hct; simp only [Bool.and_eq_true] at hct; exact List.all_eq_true.1 hct.2 f hf) fun f hf => mapM_get hm f hf
          exact ⟨avs, .struct hu h1, by simpa using h2⟩
      · cases h
    all_goals first
      | (cases h; done)
      | (rename_i hu; rw [hu] at hct; cases hct; done)
      | (rename_i hu; exact other (fun d hd => by rw [hu] at hd; obtain rfl := Option.some.inj hd; trivial) (by simp [Value.oneCell']))
end

/-- Arguments of types. -/
inductive TArgs (P : Program) : List TypeId → List AV → Prop
  | nil : TArgs P [] []
  | one {t : TypeId} {ts : List TypeId} {av : AV} {avs : List AV} (hn : ∀ fs, P.underlying t ≠ some (.struct fs)) (h : TA P t [av]) (hs : TArgs P ts avs) : TArgs P (t :: ts) (av :: avs)
  | agg {t : TypeId} {ts : List TypeId} {cs avs : List AV} {fs : Array Field} (hu : P.underlying t = some (.struct fs)) (h : TA P t cs) (hs : TArgs P ts avs) : TArgs P (t :: ts) (.agg cs :: avs)
section
variable {H : Type} {enc : TypeId × Value → H} {P : Program} {W : World} {σ : Nat → Value}
theorem okWide_one {r : Reach} {base : Nat} {t : TypeId} {v : Value} (hn : ∀ d, P.underlying t = some d → (match d with | .struct _ | .array _ _ => False | _ => True)) (h : Value.okWide P W r base t v) : v.cells.toList = [v] := by
  cases v with
  | agg cs =>
    exfalso
    unfold Value.okWide at h
    cases hu : P.underlying t with
    | none => rw [hu] at h; unfold Cell.okWide Cell.ok at h; rw [hu] at h; exact h
    | some d =>
      have := hn d hu
      rw [hu] at h
      cases d <;> first | exact this | (unfold Cell.okWide Cell.ok at h; rw [hu] at h; exact h)
  | _ => rfl
theorem args_of_trod {tys : List TypeId} (hc : closedB P tys = true) {base : Nat} : ∀ (tps : List TypeId) (vs : List Value) (ds : List (DataW H)) (ps : List MemPlace), DataW.TrodAll enc P W 0 (fun _ => true) true tps vs ds ps →
    (∀ (j : Nat) t v, tps[j]? = some t → vs[j]? = some v → Value.okWide P W .any base t v) → (tps.all tys.contains) = true →
    ∃ args : List AV, TArgs P tps args ∧ args.length = vs.length ∧ ∀ (j : Nat) (av : AV) (x : Value), args[j]? = some av → vs[j]? = some x → VR ⟨W, [], σ, fun _ => False⟩ av x := by
  intro tps
  induction tps with
  | nil =>
    intro vs ds ps h _ _
    obtain ⟨rfl, _, _⟩ := ChangeShapes.trodAll_nil h
    exact ⟨[], .nil, rfl, fun j av x h => by simp at h⟩
  | cons t tps ih =>
    intro vs ds ps h hok ht
    obtain ⟨v, vs', d, ds', p, q, rfl, rfl, rfl, h1, h2⟩ := ChangeShapes.trodAll_cons h
    simp only [List.all_cons, Bool.and_eq_true] at ht
    obtain ⟨args, h3, h4, h5⟩ := ih vs' ds' q h2 (fun j t' v' h6 h7 => hok (j + 1) t' v' (by simpa using h6) (by simpa using h7)) ht.2
    obtain ⟨n, hn⟩ := h1
    obtain ⟨avs, h6, h7⟩ := ta_of_trod (σ := σ) hc n t _ _ ht.1 hn
    have hv := hok 0 t v rfl rfl
    have hct := List.all_eq_true.1 hc t (by simpa using ht.1)
    have cons_ : ∀ {a : AV}, VR ⟨W, [], σ, fun _ => False⟩ a v → ∀ (j : Nat) (av : AV) (x : Value), (a :: args)[j]? = some av → (v :: vs')[j]? = some x → VR ⟨W, [], σ, fun _ => False⟩ av x := by
      intro a ha j av x h8 h9
      cases j with
      | zero => simp at h8 h9; subst h8; subst h9; exact ha
      | succ j => simp at h8 h9; exact h5 j av x h8 h9
    by_cases hst : ∃ fs, P.underlying t = some (.struct fs)
    · obtain ⟨fs, hfs⟩ := hst
      have : ∃ cs, v = .agg cs ∧ cs.size = P.cellsOf t ∧ Row.okWide P W .any base t cs := by
        unfold Value.okWide at hv; rw [hfs] at hv; exact hv
      obtain ⟨cs, rfl, _, _⟩ := this
      refine ⟨.agg avs :: args, .agg hfs h6 h3, by simp [h4], cons_ ?_⟩
      have h7' : GoodC W σ avs cs.toList := h7
      have he : (Value.agg cs) = .agg ⟨cs.toList⟩ := by simp
      rw [he]
      refine .agg h7'.1.symm (fun u hu => ?_) fun j av x h8 h9 => (h7'.2 j av x h8 h9).1
      obtain ⟨j, hj⟩ := List.mem_iff_getElem?.1 hu
      have hlt : j < avs.length := by rw [h7'.1]; exact (List.getElem?_eq_some_iff.1 hj).1
      exact (h7'.2 j _ u (List.getElem?_eq_getElem hlt) hj).2
    · have hns : ∀ fs, P.underlying t ≠ some (.struct fs) := fun fs h => hst ⟨fs, h⟩
      have h1v := okWide_one (fun d hd => by
        cases d with
        | struct fs => exact hns fs hd
        | array n e => rw [hd] at hct; cases hct
        | _ => trivial) hv
      rw [h1v] at h7
      have hl := h7.1
      match avs, hl, h6, h7 with
      | [av], _, h6, h7 => exact ⟨av :: args, .one hns h6 h3, by simp [h4], cons_ (h7.2 0 av v rfl rfl).1⟩
theorem trodAll_below (hl : laidOutB P = true) {W' : World} (hb : Below W.heap.size W W') : ∀ (tps : List TypeId) (vs : List Value) (ds : List (DataW H)) (ps : List MemPlace), (tps.all fun t => P.readableRec t && Nat.blt t P.types.size) = true →
    DataW.TrodAll enc P W 0 (fun _ => true) true tps vs ds ps → DataW.TrodAll enc P W' 0 (fun b => decide (b < W.heap.size)) true tps vs ds ps := by
  intro tps
  induction tps with
  | nil => intro vs ds ps _ h; obtain ⟨rfl, rfl, rfl⟩ := ChangeShapes.trodAll_nil h; exact ChangeShapes.trodAll_mk0
  | cons t tps ih =>
    intro vs ds ps ht h
    have hlt := h.lt
    obtain ⟨v, vs', d, ds', p, q, rfl, rfl, rfl, h1, h2⟩ := ChangeShapes.trodAll_cons h
    simp only [List.all_cons, Bool.and_eq_true] at ht
    exact trodAll_cons_mk (Below.trod hl ht.1.1 (by simpa using ht.1.2) h1 hb fun x hx => hlt x (List.mem_append_left _ hx)) (ih vs' ds' q ht.2 h2)
end
section
variable {P : Program} {t e : TypeId} {avs : List AV}
theorem TA.inv_int {k : IntKind} [tu : TU P t (.int k)] (h : TA P t avs) : ∃ n, avs = [.v (.int k n)] ∧ (Lit.int k n).wf = true := by
  have hu := tu.h
  cases h with
  | int h hw => rw [hu] at h; cases h; exact ⟨_, rfl, hw⟩
  | bool h => rw [hu] at h; cases h
  | str h => rw [hu] at h; cases h
  | slice h => rw [hu] at h; cases h
  | struct h => rw [hu] at h; cases h
  | other hn => exact (hn _ hu).elim
theorem TA.inv_bool [tu : TU P t .bool] (h : TA P t avs) : ∃ b, avs = [.v (.bool b)] := by
  have hu := tu.h
  cases h with
  | bool h => exact ⟨_, rfl⟩
  | int h => rw [hu] at h; cases h
  | str h => rw [hu] at h; cases h
  | slice h => rw [hu] at h; cases h
  | struct h => rw [hu] at h; cases h
  | other hn => exact (hn _ hu).elim
theorem TA.inv_str [tu : TU P t .string] (h : TA P t avs) : ∃ s, avs = [.v (.string s)] ∧ s.size ≤ maxLen := by
  have hu := tu.h
  cases h with
  | str h hs => exact ⟨_, rfl, hs⟩
  | int h => rw [hu] at h; cases h
  | bool h => rw [hu] at h; cases h
  | slice h => rw [hu] at h; cases h
  | struct h => rw [hu] at h; cases h
  | other hn => exact (hn _ hu).elim
theorem TA.inv_slice {g : Bool} {sz : Nat} [tu : TU P t (.slice e)] [tg : TG P e g sz] (h : TA P t avs) : ∃ rows, avs = [.rd sz rows] ∧ rows.length ≤ maxLen ∧ ∀ row ∈ rows, TA P e row := by
  have hu := tu.h
  have hs : P.cellsOf e = sz := by unfold Program.cellsOf; rw [tg.s]; rfl
  cases h with
  | slice h hl hr => rw [hu] at h; cases h; exact ⟨_, by rw [hs], hl, hr⟩
  | int h => rw [hu] at h; cases h
  | bool h => rw [hu] at h; cases h
  | str h => rw [hu] at h; cases h
  | struct h => rw [hu] at h; cases h
  | other hn => exact (hn _ hu).elim
theorem TA.inv_struct {fs : Array Field} [tu : TU P t (.struct fs)] (h : TA P t avs) : TAs P (fs.toList.map (·.type)) avs := by
  have hu := tu.h
  cases h with
  | struct h hs => rw [hu] at h; cases h; exact hs
  | int h => rw [hu] at h; cases h
  | bool h => rw [hu] at h; cases h
  | str h => rw [hu] at h; cases h
  | slice h => rw [hu] at h; cases h
  | other hn => exact (hn _ hu).elim
theorem TAs.inv_cons {ts : List TypeId} (h : TAs P (t :: ts) avs) : ∃ a b, avs = a ++ b ∧ TA P t a ∧ TAs P ts b := by
  cases h with
  | cons h hl hs => exact ⟨_, _, rfl, h, hs⟩
theorem TAs.inv_nil (h : TAs P [] avs) : avs = [] := by cases h; rfl
theorem TArgs.inv_nil (h : TArgs P [] avs) : avs = [] := by cases h; rfl
theorem TArgs.inv_one {d : TypeDesc} [tu : TU P t d] (hd : (match d with | .struct _ => false | _ => true) = true) {ts : List TypeId} (h : TArgs P (t :: ts) avs) : ∃ av b, avs = av :: b ∧ TA P t [av] ∧ TArgs P ts b := by
  cases h with
  | one hn h hs => exact ⟨_, _, rfl, h, hs⟩
  | agg hu h hs => rw [tu.h] at hu; cases hu; cases hd
theorem TArgs.inv_agg {fs : Array Field} [tu : TU P t (.struct fs)] {ts : List TypeId} (h : TArgs P (t :: ts) avs) : ∃ cs b, avs = .agg cs :: b ∧ TA P t cs ∧ TArgs P ts b := by
  cases h with
  | one hn h hs => exact (hn _ tu.h).elim
  | agg hu h hs => exact ⟨_, _, rfl, h, hs⟩
/-- Rows that are all of some make. -/
theorem rows_map {α : Type} (f : α → List AV) (p : α → Prop) : ∀ {rows : List (List AV)}, (∀ row ∈ rows, ∃ x, row = f x ∧ p x) → ∃ l : List α, rows = l.map f ∧ ∀ x ∈ l, p x := by
  intro rows
  induction rows with
  | nil => exact fun _ => ⟨[], rfl, fun x h => by cases h⟩
  | cons row rows ih =>
    intro h
    obtain ⟨x, rfl, hx⟩ := h row List.mem_cons_self
    obtain ⟨l, rfl, hl⟩ := ih fun r hr => h r (List.mem_cons_of_mem _ hr)
    exact ⟨x :: l, rfl, fun y hy => by rcases List.mem_cons.1 hy with rfl | hy; exact hx; exact hl y hy⟩
theorem TA.inv_bytes [tu : TU P t (.slice e)] [te : TU P e (.int .u8)] [tg : TG P e false 1] (h : TA P t avs) : ∃ l : List Int, avs = [.rd 1 (bys l)] ∧ l.length ≤ maxLen ∧ ∀ x ∈ l, 0 ≤ x ∧ x < 256 := by
  obtain ⟨rows, rfl, hl, hr⟩ := TA.inv_slice (g := false) (sz := 1) h
  obtain ⟨l, rfl, h2⟩ := rows_map (fun n => [AV.v (.int .u8 n)]) (fun n => 0 ≤ n ∧ n < 256) fun row hm => by
    obtain ⟨n, h3, h4⟩ := (hr row hm).inv_int (k := .u8)
    exact ⟨n, h3, by simp [Lit.wf, IntKind.min, IntKind.max, IntKind.signed, IntKind.bits] at h4; omega⟩
  exact ⟨l, rfl, by simpa using hl, h2⟩
theorem TA.inv_ints {k : IntKind} [tu : TU P t (.slice e)] [te : TU P e (.int k)] [tg : TG P e false 1] (h : TA P t avs) : ∃ l : List Int, avs = [.rd 1 (l.map fun n => [AV.v (.int k n)])] ∧ l.length ≤ maxLen ∧ ∀ x ∈ l, (Lit.int k x).wf = true := by
  obtain ⟨rows, rfl, hl, hr⟩ := TA.inv_slice (g := false) (sz := 1) h
  obtain ⟨l, rfl, h2⟩ := rows_map (fun n => [AV.v (.int k n)]) (fun n => (Lit.int k n).wf = true) fun row hm => by
    obtain ⟨n, h3, h4⟩ := (hr row hm).inv_int (k := k)
    exact ⟨n, h3, h4⟩
  exact ⟨l, rfl, by simpa using hl, h2⟩
theorem TA.inv_strs [tu : TU P t (.slice e)] [te : TU P e .string] [tg : TG P e false 1] (h : TA P t avs) : ∃ l : List ByteArray, avs = [.rd 1 (l.map fun s => [AV.v (.string s)])] ∧ l.length ≤ maxLen ∧ ∀ x ∈ l, x.size ≤ maxLen := by
  obtain ⟨rows, rfl, hl, hr⟩ := TA.inv_slice (g := false) (sz := 1) h
  obtain ⟨l, rfl, h2⟩ := rows_map (fun s => [AV.v (.string s)]) (fun s => s.size ≤ maxLen) fun row hm => (hr row hm).inv_str
  exact ⟨l, rfl, by simpa using hl, h2⟩
theorem wf_i64 {a : Int} (h : (Lit.int .i64 a).wf = true) : -9223372036854775808 ≤ a ∧ a ≤ 9223372036854775807 := by simp [Lit.wf, IntKind.min, IntKind.max, IntKind.signed, IntKind.bits] at h; omega
end

end Go.Proofs.Ytlapfdfbgckfcaa.AL
