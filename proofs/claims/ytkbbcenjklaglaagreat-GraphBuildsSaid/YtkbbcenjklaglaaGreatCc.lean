/- A part of the proof: rules of an own logic over blocks, and what functions of the program compute, each by its own contract; the conditions stand with each. -/
import Derived.Test.YtkbbcenjklaglaaGreatCb
import Derived.Carry
import Derived.OpenShut
import Derived.ChangeShapes
import Derived.Laws.StructEq
import Derived.ArgAppend
import Derived.MapKept
namespace Go.Proofs.YtkbbcenjklaglaaGreat.AL
open Go Go.RowKit
set_option linter.unusedVariables false
set_option linter.unusedSimpArgs false
mutual
inductive TA (P : Program) : TypeId → List AV → Prop
 | bool {t : TypeId} {b : Bool} (h : P.underlying t = some .bool) : TA P t [.v (.bool b)]
 | int {t : TypeId} {k : IntKind} {n : Int} (h : P.underlying t = some (.int k)) (hw : (Lit.int k n).wf = true) : TA P t [.v (.int k n)]
 | str {t : TypeId} {s : ByteArray} (h : P.underlying t = some .string) (hs : s.size ≤ maxLen) : TA P t [.v (.string s)]
 | slice {t e : TypeId} {rows : List (List AV)} (h : P.underlying t = some (.slice e)) (hl : rows.length ≤ maxLen) (hr : ∀ row ∈ rows, TA P e row) : TA P t [.rd (P.cellsOf e) rows]
 | struct {t : TypeId} {fs : Array Field} {avs : List AV} (h : P.underlying t = some (.struct fs)) (hs : TAs P (fs.toList.map (·.type)) avs) : TA P t avs
 | other {t : TypeId} {n : Nat} (hn : ∀ d, P.underlying t = some d → (match d with | .bool | .int _ | .string | .slice _ | .struct _ => False | _ => True)) : TA P t (List.replicate n .any)
inductive TAs (P : Program) : List TypeId → List AV → Prop
 | nil : TAs P [] []
 | cons {t : TypeId} {ts : List TypeId} {a b : List AV} (h : TA P t a) (hl : a.length = P.cellsOf t) (hs : TAs P ts b) : TAs P (t :: ts) (a ++ b)
end
def contigF (P : Program) : List Field → Nat → Nat → Bool
 | [], o, n => o == n
 | f :: fs, o, n => (f.offset == o) && contigF P fs (o + P.cellsOf f.type) n
def closedB (P : Program) (ts : List TypeId) : Bool := ts.all fun t => match P.underlying t with
 | some (.struct fs) => contigF P fs.toList 0 (P.cellsOf t) && fs.toList.all (fun f => ts.contains f.type)
 | some (.slice e) => ts.contains e && Nat.blt 0 (P.cellsOf e)
 | some (.array _ _) => false
 | _ => true
def GoodC (W : World) (σ : Nat → Value) (avs : List AV) (cs : List Value) : Prop :=
 avs.length = cs.length ∧ ∀ (j : Nat) (av : AV) (x : Value), avs[j]? = some av → cs[j]? = some x → VR ⟨W, [], σ, fun _ => False⟩ av x ∧ x.oneCell' = true
theorem GoodC.nil {W : World} {σ : Nat → Value} : GoodC W σ [] [] := ⟨rfl, fun j av x h => by simp at h⟩
theorem GoodC.one {W : World} {σ : Nat → Value} {av : AV} {x : Value} (h : VR ⟨W, [], σ, fun _ => False⟩ av x) (h1 : x.oneCell' = true) : GoodC W σ [av] [x] := ⟨rfl, fun j av' x' h2 h3 => by
 cases j with
 | zero => simp at h2 h3; subst h2; subst h3; exact ⟨h, h1⟩
 | succ j => simp at h2⟩
theorem GoodC.append {W : World} {σ : Nat → Value} {a a' : List AV} {c c' : List Value} (h : GoodC W σ a c) (h' : GoodC W σ a' c') : GoodC W σ (a ++ a') (c ++ c') := by
 refine ⟨by simp [h.1, h'.1], fun j av x h1 h2 => ?_⟩;by_cases hj : j < a.length
 · rw [List.getElem?_append_left hj] at h1
   rw [List.getElem?_append_left (by rw [← h.1]; exact hj)] at h2;exact h.2 j av x h1 h2
 · rw [List.getElem?_append_right (by omega)] at h1
   rw [List.getElem?_append_right (by rw [← h.1]; omega)] at h2;rw [← h.1] at h2;exact h'.2 _ av x h1 h2
theorem GoodC.any {W : World} {σ : Nat → Value} {cs : List Value} (h1 : ∀ x ∈ cs, x.oneCell' = true) : GoodC W σ (List.replicate cs.length .any) cs :=
 ⟨by simp, fun j av x h2 h3 => by
  rw [List.getElem?_replicate] at h2
  split at h2
  · obtain rfl := Option.some.inj h2
    exact ⟨.any x, h1 x (List.mem_of_getElem? h3)⟩
  · cases h2⟩
theorem list_of {α : Type} (p : Nat → α → Prop) : ∀ (n : Nat), (∀ i, i < n → ∃ x, p i x) → ∃ l : List α, l.length = n ∧ ∀ i x, l[i]? = some x → p i x := by
 intro n
 induction n with
 | zero => exact fun _ => ⟨[], rfl, fun i x h => by simp at h⟩
 | succ n ih =>
  intro h;obtain ⟨l, h1, h2⟩ := ih fun i hi => h i (by omega)
  obtain ⟨x, hx⟩ := h n (by omega);refine ⟨l ++ [x], by simp [h1], fun i y hy => ?_⟩;by_cases hi : i < l.length
  · rw [List.getElem?_append_left hi] at hy; exact h2 i y hy
  · have := (List.getElem?_eq_some_iff.1 hy).1
    simp at this;have : i = l.length := by omega
    subst this;simp at hy;subst hy;rw [h1]; exact hx
theorem mapM_get {α β : Type} {f : α → Option β} : ∀ {l : List α} {r : List β}, l.mapM f = some r → ∀ x ∈ l, ∃ y, f x = some y := by
 intro l
 induction l with
 | nil => intro r h x hx; cases hx
 | cons a l ih =>
  intro r h x hx;rw [List.mapM_cons] at h
  cases ha : f a with
  | none => simp [ha] at h
  | some b =>
   cases has : l.mapM f with
   | none => simp [ha, has] at h
   | some bs =>
    rcases List.mem_cons.1 hx with rfl | hx
    · exact ⟨b, ha⟩
    · exact ih has x hx
theorem cells_mapM {α β : Type} {f : α → Option β} : ∀ {l : List α} {r : List β}, l.mapM f = some r → r.length = l.length ∧ ∀ (i : Nat) (x : α) (y : β), l[i]? = some x → r[i]? = some y → f x = some y := by
 intro l
 induction l with
 | nil => intro r h; simp at h; subst h; exact ⟨rfl, fun i x y h => by simp at h⟩
 | cons a l ih =>
  intro r h;rw [List.mapM_cons] at h
  cases ha : f a with
  | none => simp [ha] at h
  | some b =>
   cases has : l.mapM f with
   | none => simp [ha, has] at h
   | some bs =>
    simp [ha, has] at h;subst h;obtain ⟨h1, h2⟩ := ih has;refine ⟨by simp [h1], fun i x y hx hy => ?_⟩
    cases i with
    | zero => simp at hx hy; subst hx; subst hy; exact ha
    | succ i => simp at hx hy; exact h2 i x y hx hy
section
variable {H : Type} {enc : TypeId × Value → H} {P : Program} {W : World} {σ : Nat → Value}
theorem ta_fields {n : Nat} {ts : List TypeId} (ih : ∀ (t : TypeId) (cs : List Value) (x : DataW H × List MemPlace), ts.contains t = true → DataW.trod enc P W 0 (fun _ => true) true n t cs = some x → ∃ avs, TA P t avs ∧ GoodC W σ avs cs) :
 ∀ (fs : List Field) (o m : Nat) (cs : List Value), contigF P fs o m = true → cs.length = m → (∀ f ∈ fs, ts.contains f.type = true) → (∀ f ∈ fs, ∃ y, DataW.trod enc P W 0 (fun _ => true) true n f.type ((cs.drop f.offset).take (P.cellsOf f.type)) = some y) →
  ∃ avs, TAs P (fs.map (·.type)) avs ∧ GoodC W σ avs (cs.drop o) ∧ o ≤ m := by
 intro fs
 induction fs with
 | nil =>
  intro o m cs hc hl _ _;simp [contigF] at hc;subst hc;exact ⟨[], .nil, by rw [List.drop_of_length_le (by omega)]; exact GoodC.nil, Nat.le_refl _⟩
 | cons f fs ihf =>
  intro o m cs hc hl ht hf;simp only [contigF, Bool.and_eq_true, beq_iff_eq] at hc;obtain ⟨h1, h2⟩ := hc;obtain ⟨avs, h3, h4, h5⟩ := ihf (o + P.cellsOf f.type) m cs h2 hl (fun g hg => ht g (List.mem_cons_of_mem _ hg)) fun g hg => hf g (List.mem_cons_of_mem _ hg)
  obtain ⟨y, hy⟩ := hf f List.mem_cons_self;obtain ⟨a, h6, h7⟩ := ih _ _ _ (ht f List.mem_cons_self) hy;rw [h1] at h7;have hla : a.length = P.cellsOf f.type := by rw [h7.1, List.length_take, List.length_drop]; omega
  refine ⟨a ++ avs, .cons h6 hla h3, ?_, by omega⟩;have e : cs.drop o = (cs.drop o).take (P.cellsOf f.type) ++ cs.drop (o + P.cellsOf f.type) := by
   rw [← List.drop_drop, List.take_append_drop]
  rw [e];exact h7.append h4
theorem cells?_spec {a : Addr} {n : Nat} {cs : List Value} (h : W.cells? 0 a n = some cs) : cs.length = n ∧ ∀ j x, cs[j]? = some x → W.cell? (a.add j) = some x := by
 unfold World.cells? at h;rw [if_pos (Nat.zero_le _)] at h;obtain ⟨h1, h2⟩ := cells_mapM h;rw [List.length_range] at h1;refine ⟨h1, fun j x hx => ?_⟩;have hj := (List.getElem?_eq_some_iff.1 hx).1;exact h2 j j x (by rw [List.getElem?_range (by omega)]) hx
theorem ta_of_trod {ts : List TypeId} (hc : closedB P ts = true) : ∀ (n : Nat) (t : TypeId) (cs : List Value) (x : DataW H × List MemPlace), ts.contains t = true → DataW.trod enc P W 0 (fun _ => true) true n t cs = some x → ∃ avs, TA P t avs ∧ GoodC W σ avs cs := by
  intro n
  induction n with
  | zero => intro t cs x _ h; simp [DataW.trod] at h
  | succ n ih =>
    intro t cs0 x ht h;have hct := List.all_eq_true.1 hc t (by simpa using ht);have other : ∀ {cs : List Value}, (∀ d, P.underlying t = some d → (match d with | .bool | .int _ | .string | .slice _ | .struct _ => False | _ => True)) → (∀ x ∈ cs, x.oneCell' = true) → ∃ avs, TA P t avs ∧ GoodC W σ avs cs :=
      fun {cs} h1 h2 => ⟨_, .other (n := cs.length) h1, GoodC.any h2⟩
    rw [DataW.trod_step] at h;unfold DataW.trodStep at h
    split at h
    · next hu => exact ⟨_, .bool hu, .one (.v _) rfl⟩
    · next hu => split at h
                 · next hw => obtain ⟨rfl, hw⟩ := hw; exact ⟨_, .int hu hw, .one (.v _) rfl⟩
                 · cases h
    · next hu => exact other (fun d hd => by rw [hu] at hd; obtain rfl := Option.some.inj hd; trivial) (by simp [Value.oneCell'])
    · next hu => split at h
                 · next hw => exact ⟨_, .str hu hw, .one (.v _) rfl⟩
                 · cases h
    · next hu => exact other (fun d hd => by rw [hu] at hd; obtain rfl := Option.some.inj hd; trivial) (by simp [Value.oneCell'])
    · next hu => exact other (fun d hd => by rw [hu] at hd; obtain rfl := Option.some.inj hd; trivial) (by simp [Value.oneCell'])
    · next e hu =>
      exact ⟨_, .slice hu (rows := []) (by simp) (by simp), .one (.rd (fun _ _ => undef) (by simp) (by simp) (by simp) (by simp) (by simp)) rfl⟩
    · next e a len cap hu =>
      simp only at h
      split at h
      · next hcap =>
        obtain ⟨_, hlc, hcm⟩ := hcap
        cases hel : (List.range len).mapM (fun i => (W.cells? 0 (a.add (i * P.cellsOf e)) (P.cellsOf e)).bind (DataW.trod enc P W 0 (fun _ => true) true n e)) with
        | none => rw [hel] at h; simp at h
        | some elems =>
          have hi : ∀ i, i < len → ∃ avs, TA P e avs ∧ ∃ csi, W.cells? 0 (a.add (i * P.cellsOf e)) (P.cellsOf e) = some csi ∧ GoodC W σ avs csi := by
            intro i hi;obtain ⟨y, hy⟩ := mapM_get hel i (List.mem_range.2 hi)
            cases hcs : W.cells? 0 (a.add (i * P.cellsOf e)) (P.cellsOf e) with
            | none => rw [hcs] at hy; cases hy
            | some csi =>
              rw [hcs] at hy;rw [hu] at hct;simp only [Bool.and_eq_true] at hct;obtain ⟨avs, h1, h2⟩ := ih e csi y hct.1 hy;exact ⟨avs, h1, csi, rfl, h2⟩
          obtain ⟨rows, hr1, hr2⟩ := list_of (fun i avs => TA P e avs ∧ ∃ csi, W.cells? 0 (a.add (i * P.cellsOf e)) (P.cellsOf e) = some csi ∧ GoodC W σ avs csi) len hi;have hsz : ∀ row ∈ rows, row.length = P.cellsOf e := by
            intro row hm;obtain ⟨i, hi⟩ := List.mem_iff_getElem?.1 hm;obtain ⟨_, csi, h2, h3⟩ := hr2 i row hi;rw [h3.1, (cells?_spec h2).1]
          have hcell : ∀ (i : Nat) (row : List AV) (j : Nat) (av : AV), rows[i]? = some row → row[j]? = some av → W.cell? (a.add (i * P.cellsOf e + j)) = some ((W.cell? (a.add (i * P.cellsOf e + j))).getD undef) ∧ ((W.cell? (a.add (i * P.cellsOf e + j))).getD undef).oneCell' = true ∧ VR ⟨W, [], σ, fun _ => False⟩ av ((W.cell? (a.add (i * P.cellsOf e + j))).getD undef) := by
            intro i row j av hi hj;obtain ⟨_, csi, h2, h3⟩ := hr2 i row hi;have hjl : j < csi.length := by rw [← h3.1]; exact (List.getElem?_eq_some_iff.1 hj).1
            have hx : csi[j]? = some csi[j] := List.getElem?_eq_getElem hjl;have h4 := (cells?_spec h2).2 j _ hx;rw [add_add] at h4;have h5 := h3.2 j av _ hj hx;rw [h4];exact ⟨rfl, h5.2, h5.1⟩
          have hvr : VR ⟨W, [], σ, fun _ => False⟩ (.rd (P.cellsOf e) rows) (.slice (some a) rows.length cap) := by
            refine .rd (fun i j => (W.cell? (a.add (i * P.cellsOf e + j))).getD undef) (by omega) hcm hsz (fun h0 => ⟨a, rfl, ?_, ?_, fun i row j av hi hj => ⟨(hcell i row j av hi hj).1, (hcell i row j av hi hj).2.1⟩⟩) (fun i row j av hi hj => (hcell i row j av hi hj).2.2)
            · rintro (⟨id, b, h1, _⟩ | h1)
              · simp at h1
              · exact h1
            · obtain ⟨row, hrow⟩ : ∃ row, rows[0]? = some row := ⟨rows[0], List.getElem?_eq_getElem h0⟩
              have hz : 0 < P.cellsOf e := by
                rw [hu] at hct;simp only [Bool.and_eq_true] at hct;simpa using hct.2
              have hl := hsz row (List.mem_of_getElem? hrow);have hj : row[0]? = some (row[0]'(by omega)) := List.getElem?_eq_getElem (by omega);have := (hcell 0 row 0 _ hrow hj).1;have hlt := cell_lt this;rw [block_add] at hlt;exact hlt
          rw [hr1] at hvr;exact ⟨_, .slice hu (by rw [hr1]; omega) (fun row hm => by obtain ⟨i, hi⟩ := List.mem_iff_getElem?.1 hm; exact (hr2 i row hi).1), .one hvr rfl⟩
      · cases h
    · rename_i cs0 _ _ fs hu
      split at h
      · next hl =>
        cases hm : fs.toList.mapM (fun f => DataW.trod enc P W 0 (fun _ => true) true n f.type ((cs0.drop f.offset).take (P.cellsOf f.type))) with
        | none => rw [hm] at h; cases h
        | some xs =>
          obtain ⟨avs, h1, h2, _⟩ := ta_fields (ts := ts) ih fs.toList 0 _ cs0 (by rw [hu] at hct; simp only [Bool.and_eq_true] at hct; exact hct.1) hl (fun f hf => by rw [hu] at hct; simp only [Bool.and_eq_true] at hct; exact List.all_eq_true.1 hct.2 f hf) fun f hf => mapM_get hm f hf
          exact ⟨avs, .struct hu h1, by simpa using h2⟩
      · cases h
    all_goals first
      | (cases h; done)
      | (rename_i hu; rw [hu] at hct; cases hct; done)
      | (rename_i hu; exact other (fun d hd => by rw [hu] at hd; obtain rfl := Option.some.inj hd; trivial) (by simp [Value.oneCell']))
end
inductive TArgs (P : Program) : List TypeId → List AV → Prop
 | nil : TArgs P [] []
 | one {t : TypeId} {ts : List TypeId} {av : AV} {avs : List AV} (hn : ∀ fs, P.underlying t ≠ some (.struct fs)) (h : TA P t [av]) (hs : TArgs P ts avs) : TArgs P (t :: ts) (av :: avs)
 | agg {t : TypeId} {ts : List TypeId} {cs avs : List AV} {fs : Array Field} (hu : P.underlying t = some (.struct fs)) (h : TA P t cs) (hs : TArgs P ts avs) : TArgs P (t :: ts) (.agg cs :: avs)
section
variable {H : Type} {enc : TypeId × Value → H} {P : Program} {W : World} {σ : Nat → Value}
theorem okWide_one {r : Reach} {base : Nat} {t : TypeId} {v : Value} (hn : ∀ d, P.underlying t = some d → (match d with | .struct _ | .array _ _ => False | _ => True)) (h : Value.okWide P W r base t v) : v.cells.toList = [v] := by
 cases v with
 | agg cs =>
  exfalso
  unfold Value.okWide at h
  cases hu : P.underlying t with
  | none => rw [hu] at h; unfold Cell.okWide Cell.ok at h; rw [hu] at h; exact h
  | some d =>
   have := hn d hu;rw [hu] at h
   cases d <;> first | exact this | (unfold Cell.okWide Cell.ok at h; rw [hu] at h; exact h)
 | _ => rfl
theorem args_of_trod {tys : List TypeId} (hc : closedB P tys = true) {base : Nat} : ∀ (tps : List TypeId) (vs : List Value) (ds : List (DataW H)) (ps : List MemPlace), DataW.TrodAll enc P W 0 (fun _ => true) true tps vs ds ps →
 (∀ (j : Nat) t v, tps[j]? = some t → vs[j]? = some v → Value.okWide P W .any base t v) → (tps.all tys.contains) = true →
 ∃ args : List AV, TArgs P tps args ∧ args.length = vs.length ∧ ∀ (j : Nat) (av : AV) (x : Value), args[j]? = some av → vs[j]? = some x → VR ⟨W, [], σ, fun _ => False⟩ av x := by
 intro tps
 induction tps with
 | nil =>
  intro vs ds ps h _ _;obtain ⟨rfl, _, _⟩ := ChangeShapes.trodAll_nil h;exact ⟨[], .nil, rfl, fun j av x h => by simp at h⟩
 | cons t tps ih =>
  intro vs ds ps h hok ht;obtain ⟨v, vs', d, ds', p, q, rfl, rfl, rfl, h1, h2⟩ := ChangeShapes.trodAll_cons h;simp only [List.all_cons, Bool.and_eq_true] at ht;obtain ⟨args, h3, h4, h5⟩ := ih vs' ds' q h2 (fun j t' v' h6 h7 => hok (j + 1) t' v' (by simpa using h6) (by simpa using h7)) ht.2;obtain ⟨n, hn⟩ := h1;obtain ⟨avs, h6, h7⟩ := ta_of_trod (σ := σ) hc n t _ _ ht.1 hn
  have hv := hok 0 t v rfl rfl;have hct := List.all_eq_true.1 hc t (by simpa using ht.1);have cons_ : ∀ {a : AV}, VR ⟨W, [], σ, fun _ => False⟩ a v → ∀ (j : Nat) (av : AV) (x : Value), (a :: args)[j]? = some av → (v :: vs')[j]? = some x → VR ⟨W, [], σ, fun _ => False⟩ av x := by
   intro a ha j av x h8 h9
   cases j with
   | zero => simp at h8 h9; subst h8; subst h9; exact ha
   | succ j => simp at h8 h9; exact h5 j av x h8 h9
  by_cases hst : ∃ fs, P.underlying t = some (.struct fs)
  · obtain ⟨fs, hfs⟩ := hst
    have : ∃ cs, v = .agg cs ∧ cs.size = P.cellsOf t ∧ Row.okWide P W .any base t cs := by
     unfold Value.okWide at hv; rw [hfs] at hv; exact hv
    obtain ⟨cs, rfl, _, _⟩ := this;refine ⟨.agg avs :: args, .agg hfs h6 h3, by simp [h4], cons_ ?_⟩;have h7' : GoodC W σ avs cs.toList := h7;have he : (Value.agg cs) = .agg ⟨cs.toList⟩ := by simp
    rw [he];refine .agg h7'.1.symm (fun u hu => ?_) fun j av x h8 h9 => (h7'.2 j av x h8 h9).1
    obtain ⟨j, hj⟩ := List.mem_iff_getElem?.1 hu;have hlt : j < avs.length := by rw [h7'.1]; exact (List.getElem?_eq_some_iff.1 hj).1
    exact (h7'.2 j _ u (List.getElem?_eq_getElem hlt) hj).2
  · have hns : ∀ fs, P.underlying t ≠ some (.struct fs) := fun fs h => hst ⟨fs, h⟩
    have h1v := okWide_one (fun d hd => by
     cases d with
     | struct fs => exact hns fs hd
     | array n e => rw [hd] at hct; cases hct
     | _ => trivial) hv
    rw [h1v] at h7;have hl := h7.1
    match avs, hl, h6, h7 with
    | [av], _, h6, h7 => exact ⟨av :: args, .one hns h6 h3, by simp [h4], cons_ (h7.2 0 av v rfl rfl).1⟩
theorem trodAll_below (hl : laidOutB P = true) {W' : World} (hb : Below W.heap.size W W') : ∀ (tps : List TypeId) (vs : List Value) (ds : List (DataW H)) (ps : List MemPlace), (tps.all fun t => P.readableRec t && Nat.blt t P.types.size) = true →
 DataW.TrodAll enc P W 0 (fun _ => true) true tps vs ds ps → DataW.TrodAll enc P W' 0 (fun b => decide (b < W.heap.size)) true tps vs ds ps := by
 intro tps
 induction tps with
 | nil => intro vs ds ps _ h; obtain ⟨rfl, rfl, rfl⟩ := ChangeShapes.trodAll_nil h; exact ChangeShapes.trodAll_mk0
 | cons t tps ih =>
  intro vs ds ps ht h;have hlt := h.lt;obtain ⟨v, vs', d, ds', p, q, rfl, rfl, rfl, h1, h2⟩ := ChangeShapes.trodAll_cons h;simp only [List.all_cons, Bool.and_eq_true] at ht;exact trodAll_cons_mk (Below.trod hl ht.1.1 (by simpa using ht.1.2) h1 hb fun x hx => hlt x (List.mem_append_left _ hx)) (ih vs' ds' q ht.2 h2)
end
section
variable {P : Program} {t e : TypeId} {avs : List AV}
theorem TA.inv_int {k : IntKind} [tu : TU P t (.int k)] (h : TA P t avs) : ∃ n, avs = [.v (.int k n)] ∧ (Lit.int k n).wf = true := by
 have hu := tu.h
 cases h with
 | int h hw => rw [hu] at h; cases h; exact ⟨_, rfl, hw⟩
 | bool h => rw [hu] at h; cases h
 | str h => rw [hu] at h; cases h
 | slice h => rw [hu] at h; cases h
 | struct h => rw [hu] at h; cases h
 | other hn => exact (hn _ hu).elim
theorem TA.inv_bool [tu : TU P t .bool] (h : TA P t avs) : ∃ b, avs = [.v (.bool b)] := by
 have hu := tu.h
 cases h with
 | bool h => exact ⟨_, rfl⟩
 | int h => rw [hu] at h; cases h
 | str h => rw [hu] at h; cases h
 | slice h => rw [hu] at h; cases h
 | struct h => rw [hu] at h; cases h
 | other hn => exact (hn _ hu).elim
theorem TA.inv_str [tu : TU P t .string] (h : TA P t avs) : ∃ s, avs = [.v (.string s)] ∧ s.size ≤ maxLen := by
 have hu := tu.h
 cases h with
 | str h hs => exact ⟨_, rfl, hs⟩
 | int h => rw [hu] at h; cases h
 | bool h => rw [hu] at h; cases h
 | slice h => rw [hu] at h; cases h
 | struct h => rw [hu] at h; cases h
 | other hn => exact (hn _ hu).elim
theorem TA.inv_slice {g : Bool} {sz : Nat} [tu : TU P t (.slice e)] [tg : TG P e g sz] (h : TA P t avs) : ∃ rows, avs = [.rd sz rows] ∧ rows.length ≤ maxLen ∧ ∀ row ∈ rows, TA P e row := by
 have hu := tu.h;have hs : P.cellsOf e = sz := by unfold Program.cellsOf; rw [tg.s]; rfl
 cases h with
 | slice h hl hr => rw [hu] at h; cases h; exact ⟨_, by rw [hs], hl, hr⟩
 | int h => rw [hu] at h; cases h
 | bool h => rw [hu] at h; cases h
 | str h => rw [hu] at h; cases h
 | struct h => rw [hu] at h; cases h
 | other hn => exact (hn _ hu).elim
theorem TA.inv_struct {fs : Array Field} [tu : TU P t (.struct fs)] (h : TA P t avs) : TAs P (fs.toList.map (·.type)) avs := by
 have hu := tu.h
 cases h with
 | struct h hs => rw [hu] at h; cases h; exact hs
 | int h => rw [hu] at h; cases h
 | bool h => rw [hu] at h; cases h
 | str h => rw [hu] at h; cases h
 | slice h => rw [hu] at h; cases h
 | other hn => exact (hn _ hu).elim
theorem TAs.inv_cons {ts : List TypeId} (h : TAs P (t :: ts) avs) : ∃ a b, avs = a ++ b ∧ TA P t a ∧ TAs P ts b := by
 cases h with
 | cons h hl hs => exact ⟨_, _, rfl, h, hs⟩
theorem TAs.inv_nil (h : TAs P [] avs) : avs = [] := by cases h; rfl
theorem TArgs.inv_nil (h : TArgs P [] avs) : avs = [] := by cases h; rfl
theorem TArgs.inv_one {d : TypeDesc} [tu : TU P t d] (hd : (match d with | .struct _ => false | _ => true) = true) {ts : List TypeId} (h : TArgs P (t :: ts) avs) : ∃ av b, avs = av :: b ∧ TA P t [av] ∧ TArgs P ts b := by
 cases h with
 | one hn h hs => exact ⟨_, _, rfl, h, hs⟩
 | agg hu h hs => rw [tu.h] at hu; cases hu; cases hd
theorem rows_map {α : Type} (f : α → List AV) (p : α → Prop) : ∀ {rows : List (List AV)}, (∀ row ∈ rows, ∃ x, row = f x ∧ p x) → ∃ l : List α, rows = l.map f ∧ ∀ x ∈ l, p x := by
 intro rows
 induction rows with
 | nil => exact fun _ => ⟨[], rfl, fun x h => by cases h⟩
 | cons row rows ih =>
  intro h;obtain ⟨x, rfl, hx⟩ := h row List.mem_cons_self;obtain ⟨l, rfl, hl⟩ := ih fun r hr => h r (List.mem_cons_of_mem _ hr)
  exact ⟨x :: l, rfl, fun y hy => by rcases List.mem_cons.1 hy with rfl | hy; exact hx; exact hl y hy⟩
theorem TA.inv_bytes [tu : TU P t (.slice e)] [te : TU P e (.int .u8)] [tg : TG P e false 1] (h : TA P t avs) : ∃ l : List Int, avs = [.rd 1 (bys l)] ∧ l.length ≤ maxLen ∧ ∀ x ∈ l, 0 ≤ x ∧ x < 256 := by
 obtain ⟨rows, rfl, hl, hr⟩ := TA.inv_slice (g := false) (sz := 1) h;obtain ⟨l, rfl, h2⟩ := rows_map (fun n => [AV.v (.int .u8 n)]) (fun n => 0 ≤ n ∧ n < 256) fun row hm => by
  obtain ⟨n, h3, h4⟩ := (hr row hm).inv_int (k := .u8);exact ⟨n, h3, by simp [Lit.wf, IntKind.min, IntKind.max, IntKind.signed, IntKind.bits] at h4; omega⟩
 exact ⟨l, rfl, by simpa using hl, h2⟩
theorem TA.inv_ints {k : IntKind} [tu : TU P t (.slice e)] [te : TU P e (.int k)] [tg : TG P e false 1] (h : TA P t avs) : ∃ l : List Int, avs = [.rd 1 (l.map fun n => [AV.v (.int k n)])] ∧ l.length ≤ maxLen ∧ ∀ x ∈ l, (Lit.int k x).wf = true := by
 obtain ⟨rows, rfl, hl, hr⟩ := TA.inv_slice (g := false) (sz := 1) h;obtain ⟨l, rfl, h2⟩ := rows_map (fun n => [AV.v (.int k n)]) (fun n => (Lit.int k n).wf = true) fun row hm => by
  obtain ⟨n, h3, h4⟩ := (hr row hm).inv_int (k := k);exact ⟨n, h3, h4⟩
 exact ⟨l, rfl, by simpa using hl, h2⟩
theorem wf_i64 {a : Int} (h : (Lit.int .i64 a).wf = true) : -9223372036854775808 ≤ a ∧ a ≤ 9223372036854775807 := by simp [Lit.wf, IntKind.min, IntKind.max, IntKind.signed, IntKind.bits] at h; omega
end
section
class PW (c : Bool) (P : Program) (o : Op) (l : List AV) (H : List (Option AB)) (av : outParam AV) : Prop where
 h : c = true → Lt P o ⟨l, H⟩ av
variable {c : Bool} {P : Program} {l : List AV} {H : List (Option AB)} {x y z : Operand} {k k' : IntKind} {p q : Int} {t t' : TypeId}
instance [h : EC c l x (.v (.int k p))] [h' : EC c l y (.v (.int k q))] : PW c P (.binOp .sub t x y t') l H (.v (.int k (k.wrap (p - q)))) := ⟨fun hc => (Pu.subW (h.h hc H) (h'.h hc H)).lt⟩
instance {d : TypeDesc} [hd : TU P t' (.int k')] [hs : TU P t d] [h : EC c l x (.v (.int k p))] : PW c P (.convert t t' x) l H (.v (.int k' (k'.wrap p))) := ⟨fun hc => convW hc⟩
variable {b : ByteArray} {cc : UInt8}
instance [tu : TU P t .string] [h : EC c l x (.v (.string b))] [h' : EC c l y (.v (.int k p))] : OC c P (.index t x y) l H (.v (.int .u8 ((b.data.toList.getD p.toNat 0).toNat : Nat))) (0 ≤ p ∧ p < b.size) := ⟨fun hc ⟨h0, h1⟩ => by
 have hlt : p.toNat < b.size := by omega
 have hg : b[p.toNat]? = some (b.data.toList.getD p.toNat 0) := by
  have : b[p.toNat]? = b.data[p.toNat]? := rfl
  have hl2 : p.toNat < b.data.size := hlt
  rw [this, Array.getElem?_eq_getElem hl2]
  simp only [List.getD_eq_getElem?_getD, Array.getElem?_toList, Array.getElem?_eq_getElem hl2, Option.getD_some]
 exact (Pu.index_str tu.h (h.h hc H) (h'.h hc H) h0 hg).lt⟩
end
section
variable {P : Program} {base : Cx} {l l' : List AV} {H H' : List (Option AB)} {Q : Exit → St → Prop} {os : List Oper} {ops : Array Oper} {rest : List Oper} {d : Option Tmp} {op : Op} {t : TypeId} {pos : String} {af : Array Edge} {av : AV} {ob : Prop} {j u : Nat} {b c want : Bool}
theorem AO.pw [hp : PW true P op l H av] [hd : DL l d av l'] (k : AO P base ops rest ⟨l', H⟩ Q) : AO P base ops (⟨d, op, t, pos, af, none⟩ :: rest) ⟨l, H⟩ Q := AO.light (hp.h rfl) (by rw [hd.h]; exact k)
theorem AO.gxpw [ho : DO os j u] [gx : GX l u want c] [hp : PW c P op l H av] [hd : DL l d (cv c av) l'] (k : AO P base os.toArray rest ⟨l', H⟩ Q) : AO P base os.toArray (⟨d, op, t, pos, af, some (j, want)⟩ :: rest) ⟨l, H⟩ Q := by
 haveI : LC c P op l H av := ⟨hp.h⟩
 exact AO.gx k
variable {ds : List Nat} {nf : Nat} {fl : Array Bool}
end
def zadd (z k : Nat) : Nat := z + k
class LEN (L : List (Option AB)) (z : outParam Nat) : Prop where
 h : L.length = z
instance : LEN [] 0 := ⟨rfl⟩
instance {a : Option AB} {L : List (Option AB)} {n : Nat} [h : LEN L n] : LEN (a :: L) (n + 1) := ⟨by simp [h.h]⟩
instance {j : Nat} {b : Option AB} : LEN (List.replicate j b) j := ⟨by simp⟩
instance {A B : List (Option AB)} {a b : Nat} [h : LEN A a] [h' : LEN B b] : LEN (A ++ B) (zadd a b) := ⟨by simp [h.h, h'.h, zadd]⟩
instance gbBehind {Y M : List (Option AB)} {z k : Nat} {b : AB} [h : LEN Y z] [g : GB M k b] : GB (Y ++ M) (zadd z k) b := ⟨by
 rw [List.getElem?_append_right (by rw [h.h]; unfold zadd; omega), h.h]
 have : zadd z k - z = k := by unfold zadd; omega
 rw [this]; exact g.h⟩
instance (priority := low) gbAhead {Y M : List (Option AB)} {k : Nat} {b : AB} [g : GB Y k b] : GB (Y ++ M) k b := ⟨by
 have := g.h
 rw [List.getElem?_append_left (List.getElem?_eq_some_iff.1 this).1]; exact this⟩
instance sbBehind {Y M M' : List (Option AB)} {z k : Nat} {b : Option AB} [h : LEN Y z] [g : SB M k b M'] : SB (Y ++ M) (zadd z k) b (Y ++ M') := ⟨by
 rw [List.set_append_right _ _ (by rw [h.h]; unfold zadd; omega), h.h]
 have : zadd z k - z = k := by unfold zadd; omega
 rw [this, g.h]⟩
class SBL (L : List (Option AB)) (k : Nat) (b : Option AB) (L' : outParam (List (Option AB))) : Prop where
 h : L.set k b = L'
 lt : k < L.length
instance {a b : Option AB} {l : List (Option AB)} : SBL (a :: l) 0 b (b :: l) := ⟨rfl, by simp⟩
instance {a b : Option AB} {l l' : List (Option AB)} {n : Nat} [h : SBL l n b l'] : SBL (a :: l) (n + 1) b (a :: l') := ⟨by simp [h.h], by have := h.lt; simp; omega⟩
instance sblBehind {Y M M' : List (Option AB)} {z k : Nat} {b : Option AB} [h : LEN Y z] [g : SBL M k b M'] : SBL (Y ++ M) (zadd z k) b (Y ++ M') := ⟨by
 rw [List.set_append_right _ _ (by rw [h.h]; unfold zadd; omega), h.h]
 have : zadd z k - z = k := by unfold zadd; omega
 rw [this, g.h], by have := g.lt; rw [List.length_append, h.h]; unfold zadd; omega⟩
instance (priority := low) sblAhead {Y Y' M : List (Option AB)} {k : Nat} {b : Option AB} [g : SBL Y k b Y'] : SBL (Y ++ M) k b (Y' ++ M) := ⟨by rw [List.set_append_left _ _ g.lt, g.h], by have := g.lt; rw [List.length_append]; omega⟩
instance (priority := low) sbAhead {Y Y' M : List (Option AB)} {k : Nat} {b : Option AB} [g : SBL Y k b Y'] : SB (Y ++ M) k b (Y' ++ M) := ⟨by rw [List.set_append_left _ _ g.lt, g.h]⟩
instance pbBehind {Y M M' : List (Option AB)} {z k : Nat} {b : Option AB} [h : LEN Y z] [g : PB M b k M'] : PB (Y ++ M) b (zadd z k) (Y ++ M') := ⟨by rw [List.append_assoc, g.h], by rw [List.length_append, h.h, g.k]; rfl⟩
class ASC (X Y : List (Option AB)) (T : outParam (List (Option AB))) : Prop where
 h : X = Y ++ T
instance (priority := high) ascSelf {Y T : List (Option AB)} : ASC (Y ++ T) Y T := ⟨rfl⟩
instance ascMore {A B Y T : List (Option AB)} [h : ASC A Y T] : ASC (A ++ B) Y (T ++ B) := ⟨by rw [h.h, List.append_assoc]⟩
theorem Gh.dead {base : Cx} {l : List AV} {n j : Nat} {L T : List (Option AB)} : Gh base ⟨l, Hn n ((L ++ List.replicate j none) ++ T)⟩ ⟨l, Hn n ((L ++ List.replicate (j + T.length) none) ++ [])⟩ := fun σ a w hr => by
 have hl : (Hn n ((L ++ List.replicate (j + T.length) none) ++ [])).length = (Hn n ((L ++ List.replicate j none) ++ T)).length := by simp [Hn, Nat.add_assoc]
 have hf : ∀ (i : Nat) (b : AB), (Hn n ((L ++ List.replicate (j + T.length) none) ++ []))[i]? = some (some b) → (Hn n ((L ++ List.replicate j none) ++ T))[i]? = some (some b) := by
  intro i b h;unfold Hn at h ⊢;by_cases hi : i < n
  · rw [List.getElem?_append_left (by simpa using hi)] at h ⊢; exact h
  · rw [List.getElem?_append_right (by simp; omega)] at h ⊢
    simp only [List.length_replicate, List.append_nil] at h ⊢;by_cases hk : i - n < L.length
    · rw [List.getElem?_append_left hk] at h
      rw [List.append_assoc, List.getElem?_append_left hk]; exact h
    · rw [List.getElem?_append_right (by omega), List.getElem?_replicate] at h
      split at h <;> cases h
 exact ⟨σ, ⟨hr.1.forget hl hf, ⟨hr.2.1.1, fun i av hi => by
  obtain ⟨x, h1, h2⟩ := hr.2.1.2 i av hi;exact ⟨x, h1, h2.ext (Ext.forget hl hf)⟩⟩, hr.2.2⟩, Ext.forget hl hf⟩
section
variable {P : Program} {base : Cx} {Q : Exit → St → Prop} {l lm : List AV} {α : Type}
theorem AW.backD (m : List KP) [mk : MK l m lm] {l1 : α → List AV} {H1 : α → List (Option AB)} {I : Nat → α → Prop} {n nn : Nat} {X T : List (Option AB)} (L : List (Option AB)) (j : Nat) [as : ASC X (L ++ List.replicate j none) T] (n' : Nat) (x' : α) (hn : n' < n) (hI : I n' x') (hl : lm = l1 x') (hH : Hn nn ((L ++ List.replicate (j + T.length) none) ++ []) = H1 x') :
 ∃ s2, Gh base ⟨l, Hn nn X⟩ s2 ∧ LU l1 H1 I n Q .normal s2 := by
 refine ⟨⟨lm, Hn nn ((L ++ List.replicate (j + T.length) none) ++ [])⟩, ?_, n', x', hn, hI, by rw [hl, hH]⟩;have := as.h;subst this;exact (Gh.weaken mk.len mk.h).trans Gh.dead
end
section
variable {c : Bool} {P : Program} {l : List AV} {H : List (Option AB)} {x y z : Operand} {k k' : IntKind} {p q : Int} {t t' e : TypeId} {g : Bool} {sz : Nat} {α : Type}
instance (priority := 20000) idxBysN [ht : TU P t (.slice e)] [hg : TG P e g 1] {li : List Int} {i : Nat} [h : EC c l x (.rd 1 (bys li))] [h' : EC c l y (.v (.int k ((i : Nat) : Int)))] : OC c P (.indexAddr t x y) l H (.eptr [.v (.int .u8 (li.getD i 0))]) (i < li.length) := ⟨fun hc hlt => by
 refine (Pu.index_rd ht.h hg.s (h.h hc H) (h'.h hc H) (by omega) ?_).lt
 have := bys_get (li := li) (p := (i : Int)) (by omega) (by omega)
 rw [Int.toNat_natCast] at this ⊢; exact this⟩
instance (priority := 20000) idxMapN [ia : Inhabited α] {li : List α} {f : α → List AV} {i : Nat} [ht : TU P t (.slice e)] [hg : TG P e g sz] [h : EC c l x (.rd sz (li.map f))] [h' : EC c l y (.v (.int k ((i : Nat) : Int)))] : OC c P (.indexAddr t x y) l H (.eptr (f (li.getD i default))) (i < li.length) := ⟨fun hc hlt => by
 refine (Pu.index_rd ht.h hg.s (h.h hc H) (h'.h hc H) (by omega) ?_).lt
 rw [Int.toNat_natCast, List.getElem?_map, List.getElem?_eq_getElem hlt]
 simp [hlt]⟩
instance (priority := high) idxMap [ia : Inhabited α] {li : List α} {f : α → List AV} [ht : TU P t (.slice e)] [hg : TG P e g sz] [h : EC c l x (.rd sz (li.map f))] [h' : EC c l y (.v (.int k p))] : OC c P (.indexAddr t x y) l H (.eptr (f (li.getD p.toNat default))) (0 ≤ p ∧ p < li.length) := ⟨fun hc ⟨h0, h1⟩ => by
 have hlt : p.toNat < li.length := by omega
 refine (Pu.index_rd ht.h hg.s (h.h hc H) (h'.h hc H) h0 ?_).lt
 rw [List.getElem?_map, List.getElem?_eq_getElem hlt]
 simp [hlt]⟩
instance (priority := high) lenMap {li : List α} {f : α → List AV} [ht : TU P t (.slice e)] [h : EC c l x (.rd sz (li.map f))] : PC c P (.call { callee := .builtin .len, args := #[x], argTypes := #[t] }) l H (.v (.int .i64 li.length)) := ⟨fun hc => by
 have := Pu.len_rd (P := P) (t := t) (e := e) ht.h (h.h hc H)
 rw [List.length_map] at this; exact this⟩
instance (priority := high) lenBys {li : List Int} [ht : TU P t (.slice e)] [h : EC c l x (.rd sz (bys li))] : PC c P (.call { callee := .builtin .len, args := #[x], argTypes := #[t] }) l H (.v (.int .i64 li.length)) := ⟨fun hc => by
 have := Pu.len_rd (P := P) (t := t) (e := e) ht.h (h.h hc H)
 rw [bys_length] at this; exact this⟩
end
section
variable {c : Bool} {P : Program} {l : List AV} {x : Operand} {t e : TypeId} {f off sz id n kk ep i sz' : Nat} {g : Bool} {bt : TypeId} {cs : List AV} {L : List (Option AB)} {rows : List (List AV)}
instance (priority := high) fieldB0 [hf : TF P t f off sz g] [h : EC c l x (.box (n + kk) 0)] [hb : GB L kk (.box bt cs)] : PC c P (.fieldAddr t x f) l (Hn n L) (.box (n + kk) off) := ⟨fun hc => by
 have := Pu.fieldB (P := P) (s := ⟨l, Hn n L⟩) (n := n) (k := kk) (L := L) rfl (h.h hc _) hb.h (h := hf)
 rw [Nat.zero_add] at this; exact this⟩
instance (priority := high) fieldO0 [hf : TF P t f off sz g] [h : EC c l x (.optr (n + kk) ep i 0)] [hb : GB L kk (.row e sz' ep rows)] : PC c P (.fieldAddr t x f) l (Hn n L) (.optr (n + kk) ep i off) := ⟨fun hc => by
 have := Pu.fieldO (P := P) (s := ⟨l, Hn n L⟩) (n := n) (k := kk) (L := L) rfl (h.h hc _) hb.h (h := hf)
 rw [Nat.zero_add] at this; exact this⟩
end
instance rowssMap {α : Type} {n : Nat} {li : List α} {f : α → List AV} [h : ∀ x, GA n (f x)] : Rowss n (li.map f) := ⟨fun row hr => by
 obtain ⟨x, _, rfl⟩ := List.mem_map.1 hr
 exact h x⟩
instance {n : Nat} : G1 n .any := ⟨.any⟩
class NI (av : AV) : Prop where
 h : NoId av
class NIs (avs : List AV) : Prop where
 h : ∀ av ∈ avs, NoId av
class NIr (rows : List (List AV)) : Prop where
 h : ∀ row ∈ rows, ∀ av ∈ row, NoId av
instance {x : Value} : NI (.v x) := ⟨.v x⟩
instance {l : List Int} : NI (.rd 1 (bys l)) := ⟨.bys l⟩
instance {cs : List AV} [h : NIs cs] : NI (.agg cs) := ⟨.agg h.h⟩
instance {sz : Nat} {rows : List (List AV)} [h : NIr rows] : NI (.rd sz rows) := ⟨.rd h.h⟩
instance : NIs [] := ⟨fun _ h => by cases h⟩
instance {av : AV} {avs : List AV} [h : NI av] [h' : NIs avs] : NIs (av :: avs) := ⟨NoId.cons h.h h'.h⟩
instance {α : Type} {li : List α} {f : α → List AV} [h : ∀ x, NIs (f x)] : NIr (li.map f) := ⟨fun row hr => by
 obtain ⟨x, _, rfl⟩ := List.mem_map.1 hr
 exact (h x).h⟩
instance : NIr [] := ⟨fun _ h => by cases h⟩
instance {row : List AV} {rows : List (List AV)} [h : NIs row] [h' : NIr rows] : NIr (row :: rows) := ⟨fun r hr => by
 rcases List.mem_cons.1 hr with rfl | hr
 · exact h.h
 · exact h'.h r hr⟩
theorem noid1 {av : AV} [h : NI av] : NoId (packA [av]) := h.h
theorem noid2 {a b : AV} [h : NIs [a, b]] : NoId (packA [a, b]) := NoId.tup h.h
theorem noid3 {a b c : AV} [h : NIs [a, b, c]] : NoId (packA [a, b, c]) := NoId.tup h.h
section
open Go.Proofs.YtkbbcenjklaglaaGreatW.PrintLast
structure OSig where
 d : Option Nat
 l : List Nat
 e : List Nat
def sig1 (ops : Array Oper) (o : Oper) : OSig := ⟨o.dst, o.looksAt ops, (o.after.toList.filter (Region.binds .any)).map (·.on)⟩
def sigsOf (ops : Array Oper) : List OSig := ops.toList.map (sig1 ops)
def apartS (x y : OSig) : Bool :=
 (match x.d with | some d => !y.l.contains d && y.d != some d | none => true) && (match y.d with | some d => !x.l.contains d | none => true)
def freeS (x : OSig) (i : Nat) : Nat → List OSig → List Bool → Bool
 | _, [], _ => true
 | _, _ :: _, [] => true
 | j, y :: ys, b :: bs => (b || Nat.beq j i || y.e.any (Nat.beq i) || apartS x y) && freeS x i (j + 1) ys bs
def onlyS (fl : List Bool) (i : Nat) : Nat → List OSig → List Bool → Bool
 | _, [], _ => true
 | _, _ :: _, [] => false
 | j, y :: ys, b :: bs => (b || (Nat.beq j i == y.e.all fun e => fl.getD e false)) && onlyS fl i (j + 1) ys bs
def waitS (i : Nat) : Nat → List OSig → List Bool → List Bool
 | _, [], acc => acc
 | j, y :: ys, acc => waitS i (j + 1) ys (acc ++ [y.e.any fun e => Nat.beq e i || acc.getD e false])
def forceB {α : Type} : List Bool → (List Bool → α) → α
 | [], k => k []
 | true :: l, k => forceB l fun l' => k (true :: l')
 | false :: l, k => forceB l fun l' => k (false :: l')
theorem forceB_eq {α : Type} : ∀ (l : List Bool) (k : List Bool → α), forceB l k = k l
 | [], _ => rfl
 | true :: l, k => by rw [forceB, forceB_eq l]
 | false :: l, k => by rw [forceB, forceB_eq l]
inductive OT where
 | nil
 | one (i : Nat) (hv : Bool) (r : OT)
 | two (i j : Nat) (ri rj : OT)
 | pur (i : Nat) (r : OT)
def OT.len : OT → Nat
 | .nil => 0
 | .pur _ r => r.len + 1
 | .one _ _ r => r.len + 1
 | .two _ _ r _ => r.len + 1
def twoS (fl : List Bool) (i i' : Nat) : Nat → List OSig → List Bool → Bool
 | _, [], _ => true
 | _, _ :: _, [] => false
 | j, y :: ys, b :: bs => (b || Nat.beq j i || Nat.beq j i' || !(y.e.all fun e => fl.getD e false)) && twoS fl i i' (j + 1) ys bs
def okS (ss : List OSig) (ds : List Nat) : OT → List Bool → Bool
 | .nil, fl => fl.all id
 | .pur i rest, fl =>
  (match ss[i]? with
   | none => false
   | some x => !fl.getD i true && (x.e.all fun e => fl.getD e false) && freeS x i 0 ss fl) &&
  forceB (fl.set i true) fun fl' => okS ss ds rest fl'
 | .two i j ri rj, fl =>
  (match ss[i]? with
   | none => false
   | some x => !fl.getD i true && (x.e.all fun e => fl.getD e false)) &&
  (match ss[j]? with
   | none => false
   | some x => !fl.getD j true && (x.e.all fun e => fl.getD e false)) &&
  twoS fl i j 0 ss fl && Nat.beq ri.len rj.len && (forceB (fl.set i true) fun fl' => okS ss ds ri fl') && forceB (fl.set j true) fun fl' => okS ss ds rj fl'
 | .one i hv rest, fl =>
  (match ss[i]? with
   | none => false
   | some x => !fl.getD i true && (x.e.all fun e => fl.getD e false) &&
    (bif hv then onlyS fl i 0 ss fl else freeS x i 0 ss fl && (ds.isEmpty || ds.all fun d => fl.getD d true || (waitS i 0 ss []).getD d false))) &&
  forceB (fl.set i true) fun fl' => okS ss ds rest fl'
def backS : Nat → List OSig → Bool
 | _, [] => true
 | j, y :: ys => (y.e.all fun e => Nat.blt e j) && backS (j + 1) ys
def okAll (ops : Array Oper) (ds : List Nat) (ord : OT) : Bool := Region.noSelect ops && backS 0 (sigsOf ops) && okS (sigsOf ops) ds ord (List.replicate ops.size false)
theorem sigs_get {ops : Array Oper} {j : Nat} {o : Oper} (h : ops[j]? = some o) : (sigsOf ops)[j]? = some (sig1 ops o) := by
 unfold sigsOf; rw [List.getElem?_map, Array.getElem?_toList, h]; rfl
theorem sigs_of {ops : Array Oper} {j : Nat} {y : OSig} (h : (sigsOf ops)[j]? = some y) : ∃ o, ops[j]? = some o ∧ y = sig1 ops o := by
 unfold sigsOf at h; rw [List.getElem?_map, Array.getElem?_toList] at h
 cases ho : ops[j]? with
 | none => rw [ho] at h; cases h
 | some o => rw [ho] at h; exact ⟨o, rfl, (Option.some.inj h).symm⟩
theorem sigs_len {ops : Array Oper} : (sigsOf ops).length = ops.size := by unfold sigsOf; simp
theorem sig_e {ops : Array Oper} {o : Oper} {k : Nat} : k ∈ (sig1 ops o).e ↔ ∃ e ∈ o.after, Region.binds .any e = true ∧ e.on = k := by
 unfold sig1;simp [and_assoc]
theorem free_go {x : OSig} {i : Nat} : ∀ (ys : List OSig) (bs : List Bool) (j : Nat), freeS x i j ys bs = true → ∀ (k : Nat) (y : OSig), ys[k]? = some y → bs.getD k true = false → j + k ≠ i → i ∉ y.e → apartS x y = true := by
 intro ys
 induction ys with
 | nil => intro bs j _ k y h; simp at h
 | cons z ys ih =>
  intro bs j h k y hy hb hne hni
  cases bs with
  | nil => simp at hb
  | cons b bs =>
   simp only [freeS, Bool.and_eq_true, Bool.or_eq_true] at h
   cases k with
   | zero =>
    simp at hy hb;subst hy; subst hb;rcases h.1 with ((h1 | h1) | h1) | h1
    · cases h1
    · exact absurd (Nat.eq_of_beq_eq_true h1) (by simpa using hne)
    · obtain ⟨e, he, h2⟩ := List.any_eq_true.1 h1
      obtain rfl := Nat.eq_of_beq_eq_true h2;exact absurd he hni
    · exact h1
   | succ k => exact ih bs (j + 1) h.2 k y (by simpa using hy) (by simpa using hb) (by omega) hni
theorem only_go {fl : List Bool} {i : Nat} : ∀ (ys : List OSig) (bs : List Bool) (j : Nat), onlyS fl i j ys bs = true → ∀ (k : Nat) (y : OSig), ys[k]? = some y → bs.getD k true = false → (j + k = i ↔ (y.e.all fun e => fl.getD e false) = true) := by
 intro ys
 induction ys with
 | nil => intro bs j _ k y h; simp at h
 | cons z ys ih =>
  intro bs j h k y hy hb
  cases bs with
  | nil => simp at hb
  | cons b bs =>
   simp only [onlyS, Bool.and_eq_true, Bool.or_eq_true] at h
   cases k with
   | zero =>
    simp only [List.getElem?_cons_zero, Option.some.injEq, List.getD_cons_zero] at hy hb;subst hy; subst hb;rcases h.1 with h1 | h1
    · cases h1
    · have h1 := eq_of_beq h1
      rw [← h1, Nat.add_zero];exact ⟨fun h => by subst h; simp, fun h => Nat.eq_of_beq_eq_true h⟩
   | succ k =>
    have := ih bs (j + 1) h.2 k y (by simpa using hy) (by simpa using hb);rw [← this];omega
theorem reach_mono {ops : Array Oper} {i : Nat} : ∀ (f f' d : Nat), f ≤ f' → Region.reachB .any ops i f d = true → Region.reachB .any ops i f' d = true := by
 intro f
 induction f with
 | zero => intro f' d _ h; simp [Region.reachB] at h
 | succ f ih =>
  intro f' d hle h
  cases f' with
  | zero => omega
  | succ f' =>
   unfold Region.reachB at h ⊢
   cases ho : ops[d]? with
   | none => rw [ho] at h; cases h
   | some o =>
    rw [ho] at h;obtain ⟨e, he, h1⟩ := Array.any_eq_true'.1 h;refine Array.any_eq_true'.2 ⟨e, he, ?_⟩;simp only [Bool.and_eq_true, Bool.or_eq_true] at h1 ⊢;exact ⟨h1.1, h1.2.imp id (ih f' e.on (by omega))⟩
theorem back_go : ∀ (ys : List OSig) (j : Nat), backS j ys = true → ∀ (k : Nat) (y : OSig), ys[k]? = some y → ∀ e ∈ y.e, e < j + k := by
 intro ys
 induction ys with
 | nil => intro j _ k y h; simp at h
 | cons z ys ih =>
  intro j h k y hy e he;simp only [backS, Bool.and_eq_true] at h
  cases k with
  | zero =>
   simp at hy; subst hy;have := List.all_eq_true.1 h.1 e he;simpa using this
  | succ k => have := ih (j + 1) h.2 k y (by simpa using hy) e he; omega
theorem wait_go {ops : Array Oper} {i : Nat} (hb : backS 0 (sigsOf ops) = true) : ∀ (ys : List OSig) (acc : List Bool), (∀ k, ys[k]? = (sigsOf ops)[acc.length + k]?) → (∀ d, acc.getD d false = true → Region.reachB .any ops i (d + 1) d = true) →
 ∀ d, (waitS i acc.length ys acc).getD d false = true → Region.reachB .any ops i (d + 1) d = true := by
 intro ys
 induction ys with
 | nil => intro acc _ h d hd; exact h d hd
 | cons y ys ih =>
  intro acc hys h d hd;unfold waitS at hd;have e1 : acc.length + 1 = (acc ++ [y.e.any fun e => Nat.beq e i || acc.getD e false]).length := by simp
  rw [e1] at hd;refine ih _ (fun k => ?_) (fun d' hd' => ?_) d hd
  · have := hys (k + 1)
    simp only [List.getElem?_cons_succ] at this;rw [this, ← e1]; congr 1; omega
  · rcases Nat.lt_trichotomy d' acc.length with hlt | heq | hgt
    · exact h d' (by rw [List.getD_eq_getElem?_getD, List.getElem?_append_left hlt] at hd'; rw [List.getD_eq_getElem?_getD]; exact hd')
    · subst heq
      have hv : (y.e.any fun e => Nat.beq e i || acc.getD e false) = true := by
       rw [List.getD_eq_getElem?_getD, List.getElem?_append_right (Nat.le_refl _)] at hd';simpa using hd'
      obtain ⟨e, he, h1⟩ := List.any_eq_true.1 hv;have hy0 := hys 0;simp only [List.getElem?_cons_zero, Nat.add_zero] at hy0;obtain ⟨o, ho, rfl⟩ := sigs_of hy0.symm;obtain ⟨ed, hed, hbd, rfl⟩ := sig_e.1 he;have hlt := back_go _ 0 hb _ _ hy0.symm _ he;unfold Region.reachB;rw [ho];refine Array.any_eq_true'.2 ⟨ed, hed, ?_⟩;simp only [Bool.and_eq_true, Bool.or_eq_true] at h1 ⊢
      refine ⟨hbd, h1.imp (fun h => by rw [Nat.eq_of_beq_eq_true h]; exact beq_self_eq_true i) fun h2 => reach_mono _ _ _ (by omega) (h _ h2)⟩
    · rw [List.getD_eq_getElem?_getD, List.getElem?_eq_none (by simp; omega)] at hd'
      cases hd'
theorem filter_one (i : Nat) : ∀ n, (List.range n).filter (fun j => j == i) = if i < n then [i] else [] := by
 intro n
 induction n with
 | zero => simp
 | succ n ih =>
  rw [List.range_succ, List.filter_append, ih];by_cases h : i < n
  · rw [if_pos h, if_pos (by omega)]
    have : n ≠ i := by omega
    simp [this]
  · rw [if_neg h]
    by_cases h2 : n = i
    · subst h2; simp
    · rw [if_neg (by omega)]; simp [h2]
theorem arrGet {fl : List Bool} {i : Nat} {b : Bool} : (⟨fl⟩ : Array Bool).getD i b = fl.getD i b := by
 rw [Array.getD_eq_getD_getElem?, List.getD_eq_getElem?_getD]; simp
theorem arrSet {fl : List Bool} {i : Nat} : (⟨fl⟩ : Array Bool).setIfInBounds i true = ⟨fl.set i true⟩ := by simp
def AZ (P : Program) (base : Cx) (ops : Array Oper) (ds : List Nat) (rest : OT) (s : St) (Q : Exit → St → Prop) : Prop :=
 ∀ fl : List Bool, fl.length = ops.size → ListedClosed .any ops ⟨fl⟩ → Region.noSelect ops = true → backS 0 (sigsOf ops) = true → okS (sigsOf ops) ds rest fl = true → AY P base ops ds rest.len ⟨fl⟩ s Q
variable {P : Program} {base : Cx} {ops : Array Oper} {ds : List Nat} {rest : OT} {s : St} {Q : Exit → St → Prop} {i : Nat} {o : Oper}
theorem AW.drawsZ {id : Nat} (ds : List Nat) (ord : OT) (hm : P.follows .mixedOrders = true) (hn : ord.len = ops.size) (hc : okAll ops ds ord = true) (h : AZ P base ops ds ord s Q) : AW P base (.region id ops true) s Q := by
 simp only [okAll, Bool.and_eq_true] at hc;refine AW.draws ds ops.size (Array.replicate ops.size false) hm rfl rfl ?_;have := h (List.replicate ops.size false) (by simp) (fun j oj hj hl => by
  exfalso
  rw [arrGet, List.getD_eq_getElem?_getD, List.getElem?_replicate] at hl
  split at hl <;> cases hl) hc.1.1 hc.1.2 hc.2
 rw [hn] at this;have e : (⟨List.replicate ops.size false⟩ : Array Bool) = Array.replicate ops.size false := by simp
 rw [e] at this;exact this
theorem AZ.done (h : Q .normal s) : AZ P base ops ds .nil s Q := fun fl hl hc hs hb hk => by
 refine AY.done ?_ h
 have : Region.ready .any ops ⟨fl⟩ = [] := by
  cases hr : Region.ready .any ops ⟨fl⟩ with
  | nil => rfl
  | cons j t =>
   exfalso
   obtain ⟨h1, o, h2, _⟩ := mem_ready.1 (show j ∈ Region.ready .any ops ⟨fl⟩ by rw [hr]; exact List.mem_cons_self);rw [arrGet] at h1;have hj : j < fl.length := by rw [hl]; exact (Array.getElem?_eq_some_iff.1 h2).1
   have h3 := List.all_eq_true.1 hk fl[j] (List.getElem_mem hj);rw [List.getD_eq_getElem?_getD, List.getElem?_eq_getElem hj] at h1;simp at h1 h3;rw [h1] at h3; cases h3
 rw [this]; rfl
theorem ok_step {hv : Bool} {fl : List Bool} (hi : ops[i]? = some o) (hk : okS (sigsOf ops) ds (.one i hv rest) fl = true) :
 i ∈ Region.ready .any ops ⟨fl⟩ ∧ (bif hv then onlyS fl i 0 (sigsOf ops) fl else freeS (sig1 ops o) i 0 (sigsOf ops) fl && (ds.isEmpty || ds.all fun d => fl.getD d true || (waitS i 0 (sigsOf ops) []).getD d false)) = true ∧ okS (sigsOf ops) ds rest (fl.set i true) = true := by
 unfold okS at hk;rw [sigs_get hi] at hk;simp only [Bool.and_eq_true, forceB_eq, Bool.not_eq_true'] at hk;refine ⟨mem_ready.2 ⟨by rw [arrGet]; exact hk.1.1.1, o, hi, fun e he hb => ?_⟩, hk.1.2, hk.2⟩;rw [arrGet];exact List.all_eq_true.1 hk.1.1.2 e.on (sig_e.2 ⟨e, he, hb, rfl⟩)
theorem AZ.light {av : AV} (hi : ops[i]? = some o) (hw : wantedA ops s o.guard = some true) (h : Lt P o.op s av) (k : AZ P base ops ds rest (s.put o.dst av) Q) : AZ P base ops ds (.one i false rest) s Q := by
 intro fl hl hcl hs hb hk;obtain ⟨hr, h1, h2⟩ := ok_step hi hk;simp only [cond_false, Bool.and_eq_true] at h1;have hcl2 := hcl.set hr;rw [arrSet] at hcl2;have hk2 := k (fl.set i true) (by simpa using hl) hcl2 hs hb h2;intro σ a w hrel K hK hkk;obtain ⟨x, h4, h5⟩ := h o.dst o.type o.pos o.after o.guard base σ a w hrel
 refine wpAnyR_first hi (Region.noSelect_spec hs) (fun c a w h => (hK _ _ _ h).elim) ops.size _ ⟨fl⟩ a w ?_ hcl ?_ hr (.inl ⟨wanted_ok hrel hw, h5⟩) ?_
 · intro j oj hj hne hun hno
   have := free_go _ _ 0 h1.1 j _ (sigs_get hj) (by rw [arrGet] at hun; exact hun) (by omega) (fun hm => by
    obtain ⟨e, he, hbd, hon⟩ := sig_e.1 hm;exact hno e he hbd hon)
   exact this
 · intro d hd hun
   rw [arrGet] at hun;have hda : (ds.all fun d => fl.getD d true || (waitS i 0 (sigsOf ops) []).getD d false) = true := by
    have := h1.2;simp only [Bool.or_eq_true] at this;rcases this with h | h
    · exfalso; cases ds with
      | nil => cases hd
      | cons a b => cases h
    · exact h
   have h6 := List.all_eq_true.1 hda d hd;simp only [hun, Bool.false_or] at h6;have h7 := wait_go (i := i) hb (sigsOf ops) [] (fun k => by simp) (fun d h => by simp at h) d h6;refine reach_mono _ _ _ ?_ h7;have : d < (waitS i 0 (sigsOf ops) []).length := by
    rcases Nat.lt_or_ge d (waitS i 0 (sigsOf ops) []).length with h | h
    · exact h
    · rw [List.getD_eq_getElem?_getD, List.getElem?_eq_none h] at h6; cases h6
   have hlen : ∀ (ys : List OSig) (j : Nat) (acc : List Bool), (waitS i j ys acc).length = acc.length + ys.length := by
    intro ys
    induction ys with
    | nil => intro j acc; rfl
    | cons y ys ih => intro j acc; rw [waitS, ih]; simp; omega
   rw [hlen, sigs_len] at this;simp at this;omega
 · rw [arrSet]
   exact hk2 σ _ w (hrel.put o.dst h4) K hK fun e σ' s' a' w' h6 h7 h8 h9 => hkk e σ' s' a' w' h6 (by rw [put_H] at h7; exact h7) h8 h9
theorem ok_stepP {fl : List Bool} (hi : ops[i]? = some o) (hk : okS (sigsOf ops) ds (.pur i rest) fl = true) :
 i ∈ Region.ready .any ops ⟨fl⟩ ∧ freeS (sig1 ops o) i 0 (sigsOf ops) fl = true ∧ okS (sigsOf ops) ds rest (fl.set i true) = true := by
 unfold okS at hk;rw [sigs_get hi] at hk;simp only [Bool.and_eq_true, forceB_eq, Bool.not_eq_true'] at hk;refine ⟨mem_ready.2 ⟨by rw [arrGet]; exact hk.1.1.1, o, hi, fun e he hb => ?_⟩, hk.1.2, hk.2⟩;rw [arrGet];exact List.all_eq_true.1 hk.1.1.2 e.on (sig_e.2 ⟨e, he, hb, rfl⟩)
theorem AZ.pureZ {av : AV} (hi : ops[i]? = some o) (hw : wantedA ops s o.guard = some true) (h : Pu P o.op s av) (k : AZ P base ops ds rest (s.put o.dst av) Q) : AZ P base ops ds (.pur i rest) s Q := by
 intro fl hl hcl hs hb hk;obtain ⟨hr, h1, h2⟩ := ok_stepP hi hk;have hcl2 := hcl.set hr;rw [arrSet] at hcl2;have hk2 := k (fl.set i true) (by simpa using hl) hcl2 hs hb h2;intro σ a w hrel K hK hkk;obtain ⟨x, h4, h5⟩ := h o.dst o.type o.pos o.after o.guard base σ a w hrel
 refine wpAnyR_any hi (Region.noSelect_spec hs) (fun c a w h => (hK _ _ _ h).elim) _ ⟨fl⟩ a w ?_ hr (.inl ⟨wanted_ok hrel hw, h5⟩) ?_
 · intro j oj hj hne hun hno
   exact free_go _ _ 0 h1 j _ (sigs_get hj) (by rw [arrGet] at hun; exact hun) (by omega) (fun hm => by
    obtain ⟨e, he, hbd, hon⟩ := sig_e.1 hm;exact hno e he hbd hon)
 · rw [arrSet]
   exact hk2 σ _ w (hrel.put o.dst h4) K hK fun e σ' s' a' w' h6 h7 h8 h9 => hkk e σ' s' a' w' h6 (by rw [put_H] at h7; exact h7) h8 h9
theorem only_ready {fl : List Bool} (hl : fl.length = ops.size) (h1 : onlyS fl i 0 (sigsOf ops) fl = true) (hr : i ∈ Region.ready .any ops ⟨fl⟩) : Region.ready .any ops ⟨fl⟩ = [i] := by
 have hlt : i < ops.size := by
  obtain ⟨_, o, h, _⟩ := mem_ready.1 hr;exact (Array.getElem?_eq_some_iff.1 h).1
 have : Region.ready .any ops ⟨fl⟩ = (List.range ops.size).filter (fun j => j == i) := by
  unfold Region.ready;refine List.filter_congr fun j hj => ?_
  rw [List.mem_range] at hj;have ho : ops[j]? = some ops[j] := Array.getElem?_eq_getElem hj;rw [ho, arrGet];simp only [Option.map_some, Option.getD_some];by_cases hu : fl.getD j true = false
  · have h2 := only_go _ _ 0 h1 j _ (sigs_get ho) hu
    rw [Nat.zero_add] at h2;have h3 : (ops[j].after.all fun e => !Region.binds .any e || (⟨fl⟩ : Array Bool).getD e.on false) = ((sig1 ops ops[j]).e.all fun e => fl.getD e false) := by
     rw [Bool.eq_iff_iff, Array.all_eq_true_iff_forall_mem, List.all_eq_true]
     constructor
     · intro h e he
       obtain ⟨ed, h4, h5, rfl⟩ := sig_e.1 he;have := h ed h4;rw [h5, arrGet] at this;simpa using this
     · intro h e he
       cases hbd : Region.binds .any e with
       | false => rfl
       | true =>
        have := h e.on (sig_e.2 ⟨e, he, hbd, rfl⟩);rw [arrGet, this]; rfl
    rw [h3, hu];rw [Bool.eq_iff_iff];simp only [Bool.not_false, Bool.true_and, beq_iff_eq];exact h2.symm
  · have hu : fl.getD j true = true := by simpa using hu
    rw [hu];simp only [Bool.not_true, Bool.false_and]
    symm
    rw [beq_eq_false_iff_ne];rintro rfl
    have := (mem_ready.1 hr).1;rw [arrGet, hu] at this;cases this
 rw [this, filter_one, if_pos hlt]
theorem AZ.skip (hi : ops[i]? = some o) (hw : wantedA ops s o.guard = some false) (k : AZ P base ops ds rest (s.put o.dst (.v undef)) Q) {hv : Bool} : AZ P base ops ds (.one i hv rest) s Q := by
 intro fl hl hcl hs hb hk;obtain ⟨hr, h1, h2⟩ := ok_step hi hk;have hcl2 := hcl.set hr;rw [arrSet] at hcl2;have hk2 := k (fl.set i true) (by simpa using hl) hcl2 hs hb h2
 cases hv with
 | false =>
  simp only [cond_false, Bool.and_eq_true] at h1;intro σ a w hrel K hK hkk;refine wpAnyR_any hi (Region.noSelect_spec hs) (fun c a w h => (hK _ _ _ h).elim) _ ⟨fl⟩ a w ?_ hr (.inr ⟨wanted_ok hrel hw, rfl⟩) ?_
  · intro j oj hj hne hun hno
    exact free_go _ _ 0 h1.1 j _ (sigs_get hj) (by rw [arrGet] at hun; exact hun) (by omega) (fun hm => by
     obtain ⟨e, he, hbd, hon⟩ := sig_e.1 hm;exact hno e he hbd hon)
  · rw [arrSet]
    exact hk2 σ _ w (hrel.put o.dst (.v _)) K hK fun e σ' s' a' w' h6 h7 h8 h9 => hkk e σ' s' a' w' h6 (by rw [put_H] at h7; exact h7) h8 h9
 | true =>
  simp only [cond_true] at h1;have hone := only_ready hl h1 hr;intro σ a w hrel K hK hkk;refine ⟨fun h0 => (by rw [hone] at h0; cases h0), fun j hj => ?_⟩;rw [hone] at hj;obtain rfl := List.mem_singleton.1 hj;unfold wpOp;simp only [hi];rw [wanted_ok hrel hw, if_neg (by decide)];refine ⟨fun _ => KeepW.refl w, ?_⟩;rw [arrSet]
  exact hk2 σ _ w (hrel.put o.dst (.v _)) K hK fun e σ' s' a' w' h6 h7 h8 h9 => hkk e σ' s' a' w' h6 (by rw [put_H] at h7; exact h7) h8 h9
theorem AZ.skipU {j u : Nat} {want : Bool} (hi : ops[i]? = some o) (hg : o.guard = some (j, want)) (hu : (ops[j]?).bind (·.dst) = some u) (hun : s.fr[u]? = some (.v undef)) (k : AZ P base ops ds rest (s.put o.dst (.v undef)) Q) {hv : Bool} : AZ P base ops ds (.one i hv rest) s Q := by
 intro fl hl hcl hs hb hk;obtain ⟨hr, h1, h2⟩ := ok_step hi hk;have hcl2 := hcl.set hr;rw [arrSet] at hcl2;have hk2 := k (fl.set i true) (by simpa using hl) hcl2 hs hb h2
 cases hv with
 | false =>
  simp only [cond_false, Bool.and_eq_true] at h1;intro σ a w hrel K hK hkk;refine wpAnyR_any hi (Region.noSelect_spec hs) (fun c a w h => (hK _ _ _ h).elim) _ ⟨fl⟩ a w ?_ hr (.inr ⟨wanted_undef hrel hg hu hun, rfl⟩) ?_
  · intro j oj hj hne hun hno
    exact free_go _ _ 0 h1.1 j _ (sigs_get hj) (by rw [arrGet] at hun; exact hun) (by omega) (fun hm => by
     obtain ⟨e, he, hbd, hon⟩ := sig_e.1 hm;exact hno e he hbd hon)
  · rw [arrSet]
    exact hk2 σ _ w (hrel.put o.dst (.v _)) K hK fun e σ' s' a' w' h6 h7 h8 h9 => hkk e σ' s' a' w' h6 (by rw [put_H] at h7; exact h7) h8 h9
 | true =>
  simp only [cond_true] at h1;have hone := only_ready hl h1 hr;intro σ a w hrel K hK hkk;refine ⟨fun h0 => (by rw [hone] at h0; cases h0), fun j hj => ?_⟩;rw [hone] at hj;obtain rfl := List.mem_singleton.1 hj;unfold wpOp;simp only [hi];rw [wanted_undef hrel hg hu hun, if_neg (by decide)];refine ⟨fun _ => KeepW.refl w, ?_⟩;rw [arrSet]
  exact hk2 σ _ w (hrel.put o.dst (.v _)) K hK fun e σ' s' a' w' h6 h7 h8 h9 => hkk e σ' s' a' w' h6 (by rw [put_H] at h7; exact h7) h8 h9
theorem AZ.heavy {R : St → Prop} (hi : ops[i]? = some o) (hw : wantedA ops s o.guard = some true) (h : HvK P base o s R) (k : ∀ s', R s' → AZ P base ops ds rest s' Q) : AZ P base ops ds (.one i true rest) s Q := by
 intro fl hl hcl hs hb hk;obtain ⟨hr, h1, h2⟩ := ok_step hi hk;have hcl2 := hcl.set hr;rw [arrSet] at hcl2;simp only [cond_true] at h1;have hone := only_ready hl h1 hr;intro σ a w hrel K hK hkk;refine ⟨fun h0 => (by rw [hone] at h0; cases h0), fun j hj => ?_⟩;rw [hone] at hj;obtain rfl := List.mem_singleton.1 hj;unfold wpOp;simp only [hi];rw [wanted_ok hrel hw, if_pos rfl]
 refine .inl (h σ a w hrel K _ fun σ' s' a' w' h3 h4 h5 h6 => ⟨fun _ => h5, ?_⟩);rw [arrSet];exact k s' h6 (fl.set j true) (by simpa using hl) hcl2 hs hb h2 σ' a' w' h3 K hK fun e σ'' s'' a'' w'' h7 h8 h9 h10 => hkk e σ'' s'' a'' w'' h7 (h4.trans h8) h9 h10
theorem AZ.last {R : St → Prop} (hi : ops[i]? = some o) (hd : ds.contains i = true) (hw : wantedA ops s o.guard = some true) (h : Hv P base o s R) (k : ∀ s', R s' → AZ P base ops ds rest s' Q) : AZ P base ops ds (.one i true rest) s Q := by
 intro fl hl hcl hs hb hk;obtain ⟨hr, h1, h2⟩ := ok_step hi hk;have hcl2 := hcl.set hr;rw [arrSet] at hcl2;simp only [cond_true] at h1;have hone := only_ready hl h1 hr;intro σ a w hrel K hK hkk;refine ⟨fun h0 => (by rw [hone] at h0; cases h0), fun j hj => ?_⟩;rw [hone] at hj;obtain rfl := List.mem_singleton.1 hj;unfold wpOp;simp only [hi];rw [wanted_ok hrel hw, if_pos rfl]
 refine .inl (h σ a w hrel K _ fun σ' s' a' w' h3 h4 h6 => ⟨fun hn => absurd (by simpa using hd) hn, ?_⟩);rw [arrSet];exact k s' h6 (fl.set j true) (by simpa using hl) hcl2 hs hb h2 σ' a' w' h3 K hK fun e σ'' s'' a'' w'' h7 h8 h9 h10 => hkk e σ'' s'' a'' w'' h7 (h4.trans h8) h9 h10
def AZi (P : Program) (base : Cx) (ops : Array Oper) (ds : List Nat) (i : Nat) (rest : OT) (s : St) (Q : Exit → St → Prop) : Prop :=
 ∀ fl : List Bool, fl.length = ops.size → ListedClosed .any ops ⟨fl⟩ → Region.noSelect ops = true → backS 0 (sigsOf ops) = true → i ∈ Region.ready .any ops ⟨fl⟩ → okS (sigsOf ops) ds rest (fl.set i true) = true → AYi P base ops ds rest.len ⟨fl⟩ s Q i
theorem two_go {fl : List Bool} {i i' : Nat} : ∀ (ys : List OSig) (bs : List Bool) (j : Nat), twoS fl i i' j ys bs = true → ∀ (k : Nat) (y : OSig), ys[k]? = some y → bs.getD k true = false → (y.e.all fun e => fl.getD e false) = true → j + k = i ∨ j + k = i' := by
 intro ys
 induction ys with
 | nil => intro bs j _ k y h; simp at h
 | cons z ys ih =>
  intro bs j h k y hy hb hall
  cases bs with
  | nil => simp at hb
  | cons b bs =>
   simp only [twoS, Bool.and_eq_true, Bool.or_eq_true] at h
   cases k with
   | zero =>
    simp only [List.getElem?_cons_zero, Option.some.injEq, List.getD_cons_zero] at hy hb;subst hy; subst hb;rcases h.1 with ((h1 | h1) | h1) | h1
    · cases h1
    · exact .inl (Nat.eq_of_beq_eq_true h1)
    · exact .inr (Nat.eq_of_beq_eq_true h1)
    · rw [hall] at h1; cases h1
   | succ k =>
    have := ih bs (j + 1) h.2 k y (by simpa using hy) (by simpa using hb) hall;omega
theorem AZ.two {j : Nat} {ri rj : OT} (hi : AZi P base ops ds i ri s Q) (hj : AZi P base ops ds j rj s Q) : AZ P base ops ds (.two i j ri rj) s Q := by
 intro fl hl hcl hs hb hk;unfold okS at hk;simp only [Bool.and_eq_true, forceB_eq] at hk;obtain ⟨⟨⟨⟨⟨h1, h2⟩, h3⟩, h4⟩, h5⟩, h6⟩ := hk;have rdy : ∀ k, (match (sigsOf ops)[k]? with | none => false | some x => !fl.getD k true && (x.e.all fun e => fl.getD e false)) = true → k ∈ Region.ready .any ops ⟨fl⟩ := by
  intro k h
  cases hx : (sigsOf ops)[k]? with
  | none => rw [hx] at h; cases h
  | some x =>
   rw [hx] at h;simp only [Bool.and_eq_true, Bool.not_eq_true'] at h;obtain ⟨o, ho, rfl⟩ := sigs_of hx;refine mem_ready.2 ⟨by rw [arrGet]; exact h.1, o, ho, fun e he hbd => ?_⟩;rw [arrGet];exact List.all_eq_true.1 h.2 e.on (sig_e.2 ⟨e, he, hbd, rfl⟩)
 have hri := rdy i h1;have hrj := rdy j h2;have hlen : ri.len = rj.len := Nat.eq_of_beq_eq_true h4;intro σ a w hrel K hK hkk;refine ⟨fun h0 => (by rw [h0] at hri; cases hri), fun k hk => ?_⟩;obtain ⟨hf, o, ho, he⟩ := mem_ready.1 hk;have h7 := two_go _ _ 0 h3 k _ (sigs_get ho) (by rw [arrGet] at hf; exact hf) (List.all_eq_true.2 fun e h => by
  obtain ⟨ed, h8, h9, rfl⟩ := sig_e.1 h;have := he ed h8 h9;rw [arrGet] at this;exact this)
 rw [Nat.zero_add] at h7;rcases h7 with rfl | rfl
 · exact hi fl hl hcl hs hb hri h5 σ a w hrel K hK hkk
 · have := hj fl hl hcl hs hb hrj h6 σ a w hrel K hK hkk
   rw [← hlen] at this;exact this
theorem AZi.heavy {R : St → Prop} (hi : ops[i]? = some o) (hw : wantedA ops s o.guard = some true) (h : HvK P base o s R) (k : ∀ s', R s' → AZ P base ops ds rest s' Q) : AZi P base ops ds i rest s Q := by
 intro fl hl hcl hs hb hr h2;have hcl2 := hcl.set hr;rw [arrSet] at hcl2;refine AYi.heavy hi hw h fun s' h6 => ?_
 rw [arrSet];exact k s' h6 (fl.set i true) (by simpa using hl) hcl2 hs hb h2
theorem AZi.last {R : St → Prop} (hi : ops[i]? = some o) (hd : ds.contains i = true) (hw : wantedA ops s o.guard = some true) (h : Hv P base o s R) (k : ∀ s', R s' → AZ P base ops ds rest s' Q) : AZi P base ops ds i rest s Q := by
 intro fl hl hcl hs hb hr h2;have hcl2 := hcl.set hr;rw [arrSet] at hcl2;intro σ a w hrel K hK hkk;unfold wpOp;simp only [hi];rw [wanted_ok hrel hw, if_pos rfl];refine .inl (h σ a w hrel K _ fun σ' s' a' w' h3 h4 h6 => ⟨fun hn => absurd (by simpa using hd) hn, ?_⟩);rw [arrSet]
 exact k s' h6 (fl.set i true) (by simpa using hl) hcl2 hs hb h2 σ' a' w' h3 K hK fun e σ'' s'' a'' w'' h7 h8 h9 h10 => hkk e σ'' s'' a'' w'' h7 (h4.trans h8) h9 h10
theorem AZi.light {av : AV} (hi : ops[i]? = some o) (hw : wantedA ops s o.guard = some true) (h : Lt P o.op s av) (k : AZ P base ops ds rest (s.put o.dst av) Q) : AZi P base ops ds i rest s Q := by
 intro fl hl hcl hs hb hr h2;have hcl2 := hcl.set hr;rw [arrSet] at hcl2;have hk2 := k (fl.set i true) (by simpa using hl) hcl2 hs hb h2;intro σ a w hrel K hK hkk;obtain ⟨x, h4, h5⟩ := h o.dst o.type o.pos o.after o.guard base σ a w hrel;unfold wpOp;simp only [hi];rw [wanted_ok hrel hw, if_pos rfl];refine .inl ?_;unfold Oper.wp;rw [h5 w (KeepW.refl w)];refine ⟨fun _ => KeepW.refl w, ?_⟩
 rw [arrSet];exact hk2 σ _ w (hrel.put o.dst h4) K hK fun e σ' s' a' w' h6 h7 h8 h9 => hkk e σ' s' a' w' h6 (by rw [put_H] at h7; exact h7) h8 h9
theorem AW.mid {c : Code} {s1 : St} (h : AW P base c s (fun e s' => e = .normal ∧ s' = s1)) (k : Q .normal s1) : AW P base c s Q :=
 fun σ a w hr K hk => h σ a w hr K fun _ _ _ _ _ h1 h2 ⟨he, hs⟩ => by subst he; subst hs; exact hk _ _ _ _ _ h1 h2 k
end
section
variable {P : Program} {base : Cx} {l l' : List AV} {H H' : List (Option AB)} {Q : Exit → St → Prop} {os : List Oper} {ops : Array Oper} {ds : List Nat} {rest : OT} {d : Option Tmp} {op : Op} {t : TypeId} {pos : String} {af : Array Edge} {av : AV} {ob : Prop} {i j u : Nat} {b cn want : Bool}
theorem AZ.c [hp : LC true P op l H av] [hd : DL l d av l'] (hi : ops[i]? = some ⟨d, op, t, pos, af, none⟩) (k : AZ P base ops ds rest ⟨l', H⟩ Q) : AZ P base ops ds (.one i false rest) ⟨l, H⟩ Q :=
 AZ.light hi rfl (hp.h rfl) (by rw [hd.h]; exact k)
theorem AZ.pw [hp : PW true P op l H av] [hd : DL l d av l'] (hi : ops[i]? = some ⟨d, op, t, pos, af, none⟩) (k : AZ P base ops ds rest ⟨l', H⟩ Q) : AZ P base ops ds (.one i false rest) ⟨l, H⟩ Q :=
 AZ.light hi rfl (hp.h rfl) (by rw [hd.h]; exact k)
theorem AZ.o [hp : OC true P op l H av ob] [hd : DL l d av l'] (hi : ops[i]? = some ⟨d, op, t, pos, af, none⟩) (hob : ob) (k : AZ P base ops ds rest ⟨l', H⟩ Q) : AZ P base ops ds (.one i false rest) ⟨l, H⟩ Q :=
 AZ.light hi rfl (hp.h rfl hob) (by rw [hd.h]; exact k)
theorem AZ.ww [hp : HW P op l H av H' ob] [hd : DL l d av l'] (hi : ops[i]? = some ⟨d, op, t, pos, af, none⟩) (hs : ds.contains i = true) (k : AZ P base ops ds rest ⟨l', H'⟩ Q) (hob : ob := by first | omega | ((repeat' apply And.intro) <;> first | rfl | omega | (simp; done) | (simp [bys_length]; omega))) : AZ P base ops ds (.one i true rest) ⟨l, H⟩ Q :=
 AZ.last hi hs rfl (hp.h hob base d t pos af none) fun s1 h1 => by subst h1; rw [hd.h]; exact k
theorem AZ.sst [hp : HS P op l H H' ob] (hi : ops[i]? = some ⟨none, op, t, pos, af, none⟩) (hs : ds.contains i = true) (k : AZ P base ops ds rest ⟨l, H'⟩ Q) (hob : ob := by first | omega | ((repeat' apply And.intro) <;> first | rfl | omega | (simp; done) | (simp [bys_length]; omega))) : AZ P base ops ds (.one i true rest) ⟨l, H⟩ Q :=
 AZ.last hi hs rfl (hp.h hob base t pos af none) fun s1 h1 => by subst h1; exact k
theorem AZ.mkk [hp : HM P op l H av H' ob] [hd : DL l d av l'] (hi : ops[i]? = some ⟨d, op, t, pos, af, none⟩) (k : AZ P base ops ds rest ⟨l', H'⟩ Q) (hob : ob := by first | omega | ((repeat' apply And.intro) <;> first | rfl | omega | (simp; done) | (simp [bys_length]; omega))) : AZ P base ops ds (.one i true rest) ⟨l, H⟩ Q :=
 AZ.heavy hi rfl (hp.h hob base d t pos af none) fun s1 h1 => by subst h1; rw [hd.h]; exact k
theorem AZ.rr [hp : HR P op l H av ob] [hd : DL l d av l'] (hi : ops[i]? = some ⟨d, op, t, pos, af, none⟩) (k : AZ P base ops ds rest ⟨l', H⟩ Q) (hob : ob := by first | omega | ((repeat' apply And.intro) <;> first | rfl | omega | (simp; done) | (simp [bys_length]; omega))) : AZ P base ops ds (.one i true rest) ⟨l, H⟩ Q :=
 AZ.heavy hi rfl (hp.h hob base d t pos af none) fun s1 h1 => by subst h1; rw [hd.h]; exact k
theorem AZ.oo [hp : OC true P op l H av ob] [hd : DL l d av l'] (hi : ops[i]? = some ⟨d, op, t, pos, af, none⟩) (k : AZ P base ops ds rest ⟨l', H⟩ Q) (hob : ob := by first | omega | ((repeat' apply And.intro) <;> first | rfl | omega | (simp; done) | (simp [bys_length]; omega))) : AZ P base ops ds (.one i false rest) ⟨l, H⟩ Q := AZ.o hi hob k
theorem AZ.call1 {f : FuncId} {fn : Func} {as : List Operand} {ts : Array TypeId} {args : List AV} (hi : ops[i]? = some ⟨d, .call { callee := .value (.func f), args := as.toArray, argTypes := ts }, t, pos, af, none⟩) (hf : P.funcs[f]? = some fn) (hname : (fn.name == "runtime.NumGoroutine") = false) (hb : fn.body.isSome = true)
 [ha : ARG l as args] [hga : GA H.length args] (h : A0 P f args (fun r => r = av)) [hd : DL l d av l'] (k : AZ P base ops ds rest ⟨l', H⟩ Q) : AZ P base ops ds (.one i true rest) ⟨l, H⟩ Q :=
 AZ.heavy hi rfl (HvK.call0 hf hname hb (ha.h H) hga.h h) fun s1 ⟨r, h4, h5⟩ => by subst h4; subst h5; rw [hd.h]; exact k
theorem AZ.eq {av av' : AV} {l' : List AV} (t : Tmp) [g : GL l t av] [sl : SL l t av' l'] (he : av = av') (kk : AZ P base ops ds rest ⟨l', H⟩ Q) : AZ P base ops ds rest ⟨l, H⟩ Q := fun fl h1 h2 h3 h4 h5 => AY.eq t he (kk fl h1 h2 h3 h4 h5)
theorem AZ.ghost {s s' : St} (h : Gh base s s') (k : AZ P base ops ds rest s' Q) : AZ P base ops ds rest s Q := fun fl h1 h2 h3 h4 h5 => AY.ghost h (k fl h1 h2 h3 h4 h5)
theorem AZ.gxs {hv : Bool} (hi : os.toArray[i]? = some ⟨d, op, t, pos, af, some (j, want)⟩) [ho : DO os j u] (g : GL l u (.v (.bool (!want))) ∨ GL l u (.v undef)) (hd : St.put ⟨l, H⟩ d (.v undef) = ⟨l', H⟩) (k : AZ P base os.toArray ds rest ⟨l', H⟩ Q) : AZ P base os.toArray ds (.one i hv rest) ⟨l, H⟩ Q := by
 rcases g with g | g
 · exact AZ.skip hi (by rw [wanted_some (s := ⟨l, H⟩) (by simpa using ho.h) (g.ev H)]; cases want <;> rfl) (by rw [hd]; exact k)
 · exact AZ.skipU hi rfl (by simpa using ho.h) g.h (by rw [hd]; exact k)
theorem AZ.gxl (hi : os.toArray[i]? = some ⟨d, op, t, pos, af, some (j, want)⟩) [ho : DO os j u] [gx : GX l u want cn] (hp : cn = true → Lt P op ⟨l, H⟩ av) (hd : St.put ⟨l, H⟩ d (cv cn av) = ⟨l', H⟩) (k : AZ P base os.toArray ds rest ⟨l', H⟩ Q) : AZ P base os.toArray ds (.one i false rest) ⟨l, H⟩ Q := by
 rcases gx_cases gx with ⟨rfl, g⟩ | ⟨rfl, g⟩
 · refine AZ.light hi (by rw [wanted_some (s := ⟨l, H⟩) (by simpa using ho.h) (g.ev H)]; simp) (hp rfl) ?_
   have e : St.put ⟨l, H⟩ d av = ⟨l', H⟩ := hd;rw [e]; exact k
 · exact AZ.gxs hi g hd k
theorem AZ.gx [ho : DO os j u] [gx : GX l u want cn] [hp : LC cn P op l H av] [hd : DL l d (cv cn av) l'] (hi : os.toArray[i]? = some ⟨d, op, t, pos, af, some (j, want)⟩) (k : AZ P base os.toArray ds rest ⟨l', H⟩ Q) : AZ P base os.toArray ds (.one i false rest) ⟨l, H⟩ Q := AZ.gxl hi hp.h (hd.h H) k
theorem AZ.gxo [ho : DO os j u] [gx : GX l u want cn] [hp : OC cn P op l H av ob] [hd : DL l d (cv cn av) l'] (hi : os.toArray[i]? = some ⟨d, op, t, pos, af, some (j, want)⟩) (hob : cn = true → ob) (k : AZ P base os.toArray ds rest ⟨l', H⟩ Q) : AZ P base os.toArray ds (.one i false rest) ⟨l, H⟩ Q := AZ.gxl hi (fun h => hp.h h (hob h)) (hd.h H) k
theorem AZ.gxoo [ho : DO os j u] [gx : GX l u want cn] [hp : OC cn P op l H av ob] [hd : DL l d (cv cn av) l'] (hi : os.toArray[i]? = some ⟨d, op, t, pos, af, some (j, want)⟩) (k : AZ P base os.toArray ds rest ⟨l', H⟩ Q) (hob : cn = true → ob := by intro hgd; (try simp only [Bool.and_eq_true, Bool.or_eq_true, Bool.not_eq_true', Bool.and_eq_false_iff, Bool.or_eq_false_iff, decide_eq_true_eq, decide_eq_false_iff_not, bys_length] at hgd); first | omega | ((repeat' apply And.intro) <;> first | rfl | omega | (simp; done) | (simp [bys_length]; omega))) : AZ P base os.toArray ds (.one i false rest) ⟨l, H⟩ Q := AZ.gxo hi hob k
theorem AZ.gxh (hi : os.toArray[i]? = some ⟨d, op, t, pos, af, some (j, want)⟩) [ho : DO os j u] [gx : GX l u want cn] (h : cn = true → HvK P base ⟨d, op, t, pos, af, some (j, want)⟩ ⟨l, H⟩ (fun s1 => s1 = St.put ⟨l, H⟩ d av)) (hd : St.put ⟨l, H⟩ d (cv cn av) = ⟨l', H⟩) (k : AZ P base os.toArray ds rest ⟨l', H⟩ Q) : AZ P base os.toArray ds (.one i true rest) ⟨l, H⟩ Q := by
 rcases gx_cases gx with ⟨rfl, g⟩ | ⟨rfl, g⟩
 · refine AZ.heavy hi (by rw [wanted_some (s := ⟨l, H⟩) (by simpa using ho.h) (g.ev H)]; simp) (h rfl) fun s1 h1 => ?_
   subst h1;have e : St.put ⟨l, H⟩ d av = ⟨l', H⟩ := hd;rw [e]; exact k
 · exact AZ.gxs hi g hd k
theorem AZ.gxcall1 {f : FuncId} {fn : Func} {as : List Operand} {ts : Array TypeId} {args : List AV} (hi : os.toArray[i]? = some ⟨d, .call { callee := .value (.func f), args := as.toArray, argTypes := ts }, t, pos, af, some (j, want)⟩) [ho : DO os j u] [gx : GX l u want cn] (hf : P.funcs[f]? = some fn) (hname : (fn.name == "runtime.NumGoroutine") = false) (hb : fn.body.isSome = true)
 [ha : ARGc cn l as args] [hga : GA H.length args] (h : cn = true → A0 P f args (fun r => r = av)) [hd : DL l d (cv cn av) l'] (k : AZ P base os.toArray ds rest ⟨l', H⟩ Q) : AZ P base os.toArray ds (.one i true rest) ⟨l, H⟩ Q := by
 refine AZ.gxh (cn := cn) hi (fun hc' => ?_) (hd.h H) k;intro σ a w hr Q' K hk;exact HvK.call0 hf hname hb (ha.h hc' H) hga.h (h hc') σ a w hr Q' K fun σ' s' a' w' h1 h2 h3 ⟨r, h4, h5⟩ => by subst h4; exact hk σ' s' a' w' h1 h2 h3 h5
theorem AZ.p [hp : PC true P op l H av] [hd : DL l d av l'] (hi : ops[i]? = some ⟨d, op, t, pos, af, none⟩) (k : AZ P base ops ds rest ⟨l', H⟩ Q) : AZ P base ops ds (.pur i rest) ⟨l, H⟩ Q :=
 AZ.pureZ hi rfl (hp.h rfl) (by rw [hd.h]; exact k)
theorem AZi.c [hp : LC true P op l H av] [hd : DL l d av l'] (hi : ops[i]? = some ⟨d, op, t, pos, af, none⟩) (k : AZ P base ops ds rest ⟨l', H⟩ Q) : AZi P base ops ds i rest ⟨l, H⟩ Q :=
 AZi.light hi rfl (hp.h rfl) (by rw [hd.h]; exact k)
theorem AZi.ww [hp : HW P op l H av H' ob] [hd : DL l d av l'] (hi : ops[i]? = some ⟨d, op, t, pos, af, none⟩) (hs : ds.contains i = true) (k : AZ P base ops ds rest ⟨l', H'⟩ Q) (hob : ob := by first | omega | ((repeat' apply And.intro) <;> first | rfl | omega | (simp; done) | (simp [bys_length]; omega))) : AZi P base ops ds i rest ⟨l, H⟩ Q :=
 AZi.last hi hs rfl (hp.h hob base d t pos af none) fun s1 h1 => by subst h1; rw [hd.h]; exact k
theorem AZi.sst [hp : HS P op l H H' ob] (hi : ops[i]? = some ⟨none, op, t, pos, af, none⟩) (hs : ds.contains i = true) (k : AZ P base ops ds rest ⟨l, H'⟩ Q) (hob : ob := by first | omega | ((repeat' apply And.intro) <;> first | rfl | omega | (simp; done) | (simp [bys_length]; omega))) : AZi P base ops ds i rest ⟨l, H⟩ Q :=
 AZi.last hi hs rfl (hp.h hob base t pos af none) fun s1 h1 => by subst h1; exact k
theorem AZi.mkk [hp : HM P op l H av H' ob] [hd : DL l d av l'] (hi : ops[i]? = some ⟨d, op, t, pos, af, none⟩) (k : AZ P base ops ds rest ⟨l', H'⟩ Q) (hob : ob := by first | omega | ((repeat' apply And.intro) <;> first | rfl | omega | (simp; done) | (simp [bys_length]; omega))) : AZi P base ops ds i rest ⟨l, H⟩ Q :=
 AZi.heavy hi rfl (hp.h hob base d t pos af none) fun s1 h1 => by subst h1; rw [hd.h]; exact k
theorem AZi.rr [hp : HR P op l H av ob] [hd : DL l d av l'] (hi : ops[i]? = some ⟨d, op, t, pos, af, none⟩) (k : AZ P base ops ds rest ⟨l', H⟩ Q) (hob : ob := by first | omega | ((repeat' apply And.intro) <;> first | rfl | omega | (simp; done) | (simp [bys_length]; omega))) : AZi P base ops ds i rest ⟨l, H⟩ Q :=
 AZi.heavy hi rfl (hp.h hob base d t pos af none) fun s1 h1 => by subst h1; rw [hd.h]; exact k
theorem AZi.call1 {f : FuncId} {fn : Func} {as : List Operand} {ts : Array TypeId} {args : List AV} (hi : ops[i]? = some ⟨d, .call { callee := .value (.func f), args := as.toArray, argTypes := ts }, t, pos, af, none⟩) (hf : P.funcs[f]? = some fn) (hname : (fn.name == "runtime.NumGoroutine") = false) (hb : fn.body.isSome = true)
 [ha : ARG l as args] [hga : GA H.length args] (h : A0 P f args (fun r => r = av)) [hd : DL l d av l'] (k : AZ P base ops ds rest ⟨l', H⟩ Q) : AZi P base ops ds i rest ⟨l, H⟩ Q :=
 AZi.heavy hi rfl (HvK.call0 hf hname hb (ha.h H) hga.h h) fun s1 ⟨r, h4, h5⟩ => by subst h4; subst h5; rw [hd.h]; exact k
end
section
class SFL (P : Program) (t : TypeId) (fl : outParam (List Field)) : Prop where
 h : ∃ fs : Array Field, P.underlying t = some (.struct fs) ∧ fs.toList = fl ∧ P.stoodInHeld t = false ∧ (fl.all fun f => !(f.name == "_")) = true ∧ P.eqGuardType P.depth t = false
class EQF (P : Program) (fs : List Field) (cs cs' : List AV) (b : outParam Bool) : Prop where
 h : (fs.all fun f => !(f.name == "_")) = true → ∀ (xs ys : List Value), (∀ (j : Nat) (x : Value), cs[j]? = some (.v x) → xs[j]? = some x) → (∀ (j : Nat) (x : Value), cs'[j]? = some (.v x) → ys[j]? = some x) → ∀ d w, (Op.eqFields (d + 1) ⟨xs⟩ ⟨ys⟩ fs).run P w = .ok b w
instance {P : Program} {cs cs' : List AV} : EQF P [] cs cs' true := ⟨fun _ _ _ _ _ d w => by simp [Op.eqFields]⟩
theorem eqf_step {P : Program} {d : Nat} {xs ys : Array Value} {f : Field} {fs : List Field} {a b : Value} {r s : Bool} {w : World} (hn : (f.name == "_") = false) (ha : (part f.type xs f.offset).run P w = .ok a w) (hb : (part f.type ys f.offset).run P w = .ok b w) (he : (Op.equalIn d f.type a b).run P w = .ok r w) (hr : (Op.eqFields d xs ys fs).run P w = .ok s w) : (Op.eqFields d xs ys (f :: fs)).run P w = .ok (r && s) w := by
 have hn' : ¬ f.name = "_" := by simpa using hn
 unfold Op.eqFields;simp only [ne_eq, hn', not_false_eq_true, if_true, Sem.run_bind, ha, hb, he, Result.andThen_ok];cases r
 · simp
 · simpa using hr
theorem run_part1 {P : Program} {t : TypeId} {xs : List Value} {off : Nat} {x : Value} (hg : aggB P t = some false) (h : xs[off]? = some x) (w : World) : (part t ⟨xs⟩ off).run P w = .ok x w := by
 unfold part;simp [run_isAgg hg, h]
variable {P : Program} {cs cs' : List AV} {b : Bool} {fs : List Field} {nm tag pk : String} {ty off bo : Nat} {em : Bool}
instance eqfInt {k : IntKind} {p q : Int} [tu : TU P ty (.int k)] [tg : TG P ty false 1] [g : GL cs off (.v (.int k p))] [g' : GL cs' off (.v (.int k q))] [h : EQF P fs cs cs' b] : EQF P (⟨nm, ty, off, em, tag, pk, bo⟩ :: fs) cs cs' (decide (p = q) && b) := ⟨fun hn xs ys hx hy d w => by
 simp only [List.all_cons, Bool.and_eq_true, Bool.not_eq_true'] at hn
 refine eqf_step hn.1 (run_part1 tg.g (hx _ _ g.h) w) (run_part1 tg.g (hy _ _ g'.h) w) ?_ (h.h hn.2 xs ys hx hy d w)
 simp only [Op.equalIn, Sem.run_bind, run_underlying tu.h, Result.andThen_ok]
 have : (p == q) = decide (p = q) := by by_cases h : p = q <;> simp [h]
 simp [this]⟩
instance eqfStr {p q : ByteArray} [tu : TU P ty .string] [tg : TG P ty false 1] [g : GL cs off (.v (.string p))] [g' : GL cs' off (.v (.string q))] [h : EQF P fs cs cs' b] : EQF P (⟨nm, ty, off, em, tag, pk, bo⟩ :: fs) cs cs' (decide (p.toList = q.toList) && b) := ⟨fun hn xs ys hx hy d w => by
 simp only [List.all_cons, Bool.and_eq_true, Bool.not_eq_true'] at hn
 refine eqf_step hn.1 (run_part1 tg.g (hx _ _ g.h) w) (run_part1 tg.g (hy _ _ g'.h) w) ?_ (h.h hn.2 xs ys hx hy d w)
 simp only [Op.equalIn, Sem.run_bind, run_underlying tu.h, Result.andThen_ok]
 have : (p.toList == q.toList) = decide (p.toList = q.toList) := by by_cases h : p.toList = q.toList <;> simp [h]
 simp [beq_toListBytes, this]⟩
theorem agg_ev {base : Cx} {σ : Nat → Value} {s : St} {a : Act} {w : World} (hr : Rel base σ s a w) {x : Operand} (h : ev s x = .agg cs) : ∃ us : List Value, a.eval x = .agg ⟨us⟩ ∧ ∀ (j : Nat) (y : Value), cs[j]? = some (.v y) → us[j]? = some y := by
 have h1 := ev_ok hr x;rw [h] at h1;generalize a.eval x = v at h1
 cases h1 with
 | agg hl h1c hu =>
  rename_i us
  refine ⟨us, rfl, fun j y hj => ?_⟩;have hlt : j < us.length := by rw [hl]; exact (List.getElem?_eq_some_iff.1 hj).1
  have h2 := hu j (.v y) us[j] hj (List.getElem?_eq_getElem hlt);cases h2;exact List.getElem?_eq_getElem hlt
theorem run_eqAgg {t : TypeId} {fl : List Field} [sf : SFL P t fl] {us vs : List Value} (he : ∀ d w, (Op.eqFields (d + 1) ⟨us⟩ ⟨vs⟩ fl).run P w = .ok b w) (w : World) : (Op.equal t (.agg ⟨us⟩) (.agg ⟨vs⟩)).run P w = .ok b w := by
 obtain ⟨fs, h1, h2, h3, h4, h5⟩ := sf.h;unfold Op.equal Op.maxDepth;have hf : P.fieldsOf t = fs := by simp [Program.fieldsOf, h1]
 rw [run_equalIn_struct (P := P) w 9999 t ⟨us⟩ ⟨vs⟩ (by rw [hf]; exact h1) h3, hf, h2];exact he 9998 w
theorem Pu.eqlA {s : St} {xt yt : TypeId} {x y : Operand} {fl : List Field} [sf : SFL P xt fl] (hx : ev s x = .agg cs) (hy : ev s y = .agg cs') [h : EQF P fl cs cs' b] : Pu P (.binOp .eql xt x y yt) s (.v (.bool b)) :=
 Pu.of fun base σ a w hr d t pos af g w' => by
  obtain ⟨us, h1, h2⟩ := agg_ev hr hx
  obtain ⟨vs, h3, h4⟩ := agg_ev hr hy
  obtain ⟨fs, q1, q2, q3, q4, q5⟩ := sf.h
  have he := run_eqAgg (P := P) (t := xt) (fun d w => h.h q4 us vs h2 h4 d w) w'
  unfold execOp
  simp only [h1, h3, Sem.run_bind, eqGuard]
  simp [q5, binOp, he]
theorem Pu.neqA {s : St} {xt yt : TypeId} {x y : Operand} {fl : List Field} [sf : SFL P xt fl] (hx : ev s x = .agg cs) (hy : ev s y = .agg cs') [h : EQF P fl cs cs' b] : Pu P (.binOp .neq xt x y yt) s (.v (.bool (!b))) :=
 Pu.of fun base σ a w hr d t pos af g w' => by
  obtain ⟨us, h1, h2⟩ := agg_ev hr hx
  obtain ⟨vs, h3, h4⟩ := agg_ev hr hy
  obtain ⟨fs, q1, q2, q3, q4, q5⟩ := sf.h
  have he := run_eqAgg (P := P) (t := xt) (fun d w => h.h q4 us vs h2 h4 d w) w'
  unfold execOp
  simp only [h1, h3, Sem.run_bind, eqGuard]
  simp [q5, binOp, he]
variable {c : Bool} {l : List AV} {H : List (Option AB)} {x y : Operand} {t t' : TypeId} {fl : List Field}
instance [h : EC c l x (.agg cs)] [h' : EC c l y (.agg cs')] [sf : SFL P t fl] [e : EQF P fl cs cs' b] : PC c P (.binOp .eql t x y t') l H (.v (.bool b)) := ⟨fun hc => Pu.eqlA (h.h hc H) (h'.h hc H)⟩
instance [h : EC c l x (.agg cs)] [h' : EC c l y (.agg cs')] [sf : SFL P t fl] [e : EQF P fl cs cs' b] : PC c P (.binOp .neq t x y t') l H (.v (.bool (!b))) := ⟨fun hc => Pu.neqA (h.h hc H) (h'.h hc H)⟩
end
section
variable {base : Cx} {l l' : List AV} {H : List (Option AB)} {n k ep m : Nat} {L L' : List (Option AB)} {e : TypeId} {sz : Nat} {α : Type} {f : α → List AV} {li : List α}
theorem Gh.freezeM (t : Tmp) (f : α → List AV) (li : List α) {rows : List (List AV)} [g : GL l t (.own (n + k) ep 0 m)] [gb : GB L k (.row e sz ep rows)] [sb : SB L k none L'] [sl : SL l t (.rd sz (li.map f)) l'] (hr : rows = li.map f) (hl : li.length = m) (hm : li.length ≤ 9223372036854775807) : Gh base ⟨l, Hn n L⟩ ⟨l', Hn n L'⟩ := by
 subst hr;have h1 := Gh.freezeN (base := base) (s := ⟨l, Hn n L⟩) t (rows' := li.map f) rfl (g.ev _) gb.h (by simpa using hm) (by rw [List.drop_zero, List.take_of_length_le (by simp; omega)]) sb.h;unfold St.wH St.put at h1;simp only [sl.h] at h1;exact h1
theorem Gh.nilM (t : Tmp) (sz : Nat) (f : α → List AV) [g : GL l t (.v (.slice none 0 0))] [sl : SL l t (.rd sz (([] : List α).map f)) l'] : Gh base ⟨l, H⟩ ⟨l', H⟩ := by
 have h1 := Gh.nilrd (base := base) (s := ⟨l, H⟩) t sz (g.ev _);unfold St.put at h1;have := sl.h;simp only [List.map_nil] at this;simp only [this] at h1;exact h1
theorem Gh.adoptM (t : Tmp) (e : TypeId) (sz : Nat) [g : GL l t (.v (.slice none 0 0))] [pb : PB L (some (.row e sz 0 [])) k L'] [sl : SL l t (.own (n + k) 0 0 0) l'] : Gh base ⟨l, Hn n L⟩ ⟨l', Hn n L'⟩ := by
 have h1 := Gh.adopt (base := base) (s := ⟨l, Hn n L⟩) t e sz g.h;have hlen : (Hn n L).length = n + k := by rw [Hn_len, pb.k]
 simp only [hlen, sl.h, Hn_push, pb.h] at h1;exact h1
end
theorem tb_of {P : Program} {t : TypeId} {fs : Array Field} {zs : List Value} {zv : List AV} {pl : List (Nat × Nat)} (hu : P.underlying t = some (.struct fs)) (hz : (P.info? t).bind (·.zero) = some (.agg ⟨zs⟩)) (h1 : (zs.all fun u => u.oneCell') = true) (hm : zs.map .v = zv)
 (hp : fs.toList.map (fun f => (f.offset, (P.info? f.type).map (·.size))) = pl.map (fun p => (p.1, some p.2))) : TB P t zv pl := by
 refine ⟨fs, zs, hu, hz, h1, hm, fun w => ?_⟩;have hl : ∀ (l : List Field) (pl : List (Nat × Nat)), l.map (fun f => (f.offset, (P.info? f.type).map (·.size))) = pl.map (fun p => (p.1, some p.2)) → (l.mapM fun f => (do pure (f.offset, ← sizeOf f.type) : Sem (Nat × Nat))).run P w = .ok pl w := by
  intro l
  induction l with
  | nil => intro pl h; cases pl with
   | nil => simp
   | cons => simp at h
  | cons f l ih =>
   intro pl h
   cases pl with
   | nil => simp at h
   | cons p pl =>
    simp only [List.map_cons, List.cons.injEq, Prod.mk.injEq] at h;obtain ⟨⟨h1, h2⟩, h3⟩ := h;rw [List.mapM_cons];simp only [Sem.run_bind, run_size h2 w, Result.andThen_ok, Sem.run_pure, ih pl h3, h1]
 have h2 := hl fs.toList pl hp;obtain ⟨fl⟩ := fs;have e : (⟨fl⟩ : Array Field) = List.toArray fl := rfl;rw [e, List.mapM_toArray];simp only [Sem.run_map];have h2 : (fl.mapM fun f => (do pure (f.offset, ← sizeOf f.type) : Sem (Nat × Nat))).run P w = .ok pl w := h2;rw [h2];rfl
class TELL (av av' : AV) : Prop where
 h : ∀ (E : Env) (x : Value), VR E av x → VR E av' x
class TELLs (avs avs' : List AV) : Prop where
 h : avs.length = avs'.length ∧ ∀ (E : Env) (j : Nat) (av av' : AV) (x : Value), avs[j]? = some av → avs'[j]? = some av' → VR E av x → VR E av' x
instance tellNil {sz : Nat} : TELL (.v (.slice none 0 0)) (.rd sz []) := ⟨fun E x h => by cases h; exact .rd (fun _ _ => undef) (by simp) (by simp) (by simp) (by simp) (by simp)⟩
instance tellNilM {sz : Nat} {α : Type} {f : α → List AV} : TELL (.v (.slice none 0 0)) (.rd sz (([] : List α).map f)) := tellNil
instance (priority := high) tellRefl {av : AV} : TELL av av := ⟨fun _ _ h => h⟩
instance tellAny {av : AV} : TELL av .any := ⟨fun _ x _ => .any x⟩
instance tellAgg {cs cs' : List AV} [h : TELLs cs cs'] : TELL (.agg cs) (.agg cs') := ⟨fun E x hx => by
 cases hx with
 | agg hl h1 hu =>
  refine .agg (hl.trans h.h.1) h1 fun j av' y hj hy => ?_
  have hlt : j < cs.length := by rw [h.h.1]; exact (List.getElem?_eq_some_iff.1 hj).1
  exact h.h.2 E j _ av' y (List.getElem?_eq_getElem hlt) hj (hu j _ y (List.getElem?_eq_getElem hlt) hy)⟩
instance : TELLs [] [] := ⟨rfl, fun E j av av' x h => by simp at h⟩
instance {a a' : AV} {l l' : List AV} [h : TELL a a'] [h' : TELLs l l'] : TELLs (a :: l) (a' :: l') := ⟨by simp [h'.h.1], fun E j av av' x h1 h2 hx => by
 cases j with
 | zero => simp at h1 h2; subst h1; subst h2; exact h.h E x hx
 | succ j => simp at h1 h2; exact h'.h.2 E j av av' x h1 h2 hx⟩
theorem Gh.tell {base : Cx} {l l' : List AV} {H : List (Option AB)} (t : Tmp) {av : AV} (av' : AV) [g : GL l t av] [te : TELL av av'] [sl : SL l t av' l'] : Gh base ⟨l, H⟩ ⟨l', H⟩ := fun σ a w hr => by
 refine ⟨σ, ⟨hr.1, ⟨?_, fun i y hi => ?_⟩, hr.2.2⟩, Ext.refl _⟩
 · have := hr.2.1.1; rw [← sl.h]; simpa using this
 · have hi : l'[i]? = some y := hi
   rw [← sl.h] at hi
   by_cases hti : t = i
   · subst hti
     rw [List.getElem?_set_self (List.getElem?_eq_some_iff.1 g.h).1] at hi
     obtain rfl := Option.some.inj hi
     obtain ⟨x, h1, h2⟩ := hr.2.1.2 t _ g.h
     exact ⟨x, h1, te.h _ _ h2⟩
   · rw [List.getElem?_set_ne hti] at hi
     exact hr.2.1.2 i y hi
section
variable {P : Program} {base : Cx} {s : St}
def A1 (P : Program) (f : FuncId) (args : List AV) (e : TypeId) (sz : Nat) (rows : List (List AV)) : Prop :=
 (∀ row ∈ rows, ∀ av ∈ row, NoId av) ∧ ∀ n, AC P f (List.replicate n none) args fun r H' => ∃ id ep, r = .own id ep 0 rows.length ∧ H'[id]? = some (some (.row e sz ep rows))
theorem A1.a0 {f : FuncId} {args : List AV} {e : TypeId} {sz : Nat} {rows : List (List AV)} (h : A1 P f args e sz rows) (hm : rows.length ≤ 9223372036854775807) : A0 P f args (fun r => r = .rd sz rows) := by
 intro n base σ w vs h1 h2 h3;refine (h.2 n base σ w vs h1 h2 h3).mono fun e' w' ⟨x, r, H', σ', h4, h5, h6, h7, id, ep, h8, h9⟩ => ?_
 subst h8;have hf := Ext.forget (base := base) (w := w') (H := H') (H' := H'.set id none) (σ := σ') (by simp) (fun i b h => (set_none h).1);have hv := own_rd h5 h9 h7 (by unfold maxLen; omega);rw [List.drop_zero, List.take_of_length_le (Nat.le_refl _)] at hv;exact ⟨x, .rd sz rows, H'.set id none, σ', h4, h5.forget (by simp) (fun i b h => (set_none h).1), h6.trans hf, hv, NoId.rd h.1, rfl⟩
def FinO (P : Program) (base : Cx) (rs : List ResultVar) (e : TypeId) (sz : Nat) (rows : List (List AV)) : Exit → St → Prop := fun ex s' => (ex = .normal ∨ ex = .ret) ∧ ∃ s2, Gh base s' s2 ∧ ∃ id ep t, rs = [.tmp t] ∧ s2.fr[t]? = some (.own id ep 0 rows.length) ∧ s2.H[id]? = some (some (.row e sz ep rows))
theorem A1.body {f : FuncId} {fn : Func} {c : Code} {rs : List ResultVar} {args : List AV} {e : TypeId} {sz : Nat} {rows : List (List AV)} {l : List AV} (n : Nat) [fr : FR args n l] (hno : ∀ row ∈ rows, ∀ av ∈ row, NoId av) (hf : P.funcs[f]? = some fn) (hb : fn.body = some c) (hrs : fn.results = rs.toArray) (hn : fn.ntmps = n)
 (h : ∀ (base : Cx) (n0 : Nat), AW P base c ⟨l, Hn n0 []⟩ (FinO P base rs e sz rows)) : A1 P f args e sz rows := by
 refine ⟨hno, fun n0 => ?_⟩;refine AC.of_body hf hb hrs n hn fun base => ?_
 have hw : Gh base ⟨frame0 args n, List.replicate n0 none⟩ ⟨l, List.replicate n0 none⟩ := by
  have hfl : (frame0 args n).length = n := by have := fr.le; simp [frame0]; omega
  refine Gh.weaken (s := ⟨frame0 args n, List.replicate n0 none⟩) (by rw [hfl]; exact fr.len) fun i av hi => ?_
  rcases fr.h i av hi with h1 | h1
  · exact .inl h1
  · refine .inr ?_
    have hlt := (List.getElem?_eq_some_iff.1 h1).1;show (frame0 args n)[i]? = some av
    unfold frame0;rw [List.getElem?_append_left hlt]; exact h1
 refine AW.ghost hw ?_;have hh := h base n0;have e1 : Hn n0 [] = List.replicate n0 (none : Option AB) := by simp [Hn]
 rw [e1] at hh;refine AW.mono_ghost hh fun ex s1 ⟨he, s2, hg, id, ep, t, h1, h2, h3⟩ => ⟨s2, hg, he, [.own id ep 0 rows.length], ?_, id, ep, rfl, h3⟩
 subst h1;have := ResR.tmp (P := P) (s := s2) (u := t) (rs := []) (avs := []) .nil;rw [List.getD_eq_getElem?_getD, h2] at this;exact this
theorem FinO.ret {rs : List ResultVar} {l l' : List AV} {H : List (Option AB)} {n k ep m : Nat} {L : List (Option AB)} {e : TypeId} {sz : Nat} {rows rows' : List (List AV)} (t : Tmp) (hg : Gh base ⟨l, H⟩ ⟨l', Hn n L⟩) (hrs : rs = [.tmp t]) [g : GL l' t (.own (n + k) ep 0 m)] [gb : GB L k (.row e sz ep rows')] (hr : rows' = rows) (hm : rows.length = m) {ex : Exit} (hex : ex = .normal ∨ ex = .ret) : FinO P base rs e sz rows ex ⟨l, H⟩ := by
 subst hr; subst hm;exact ⟨hex, ⟨l', Hn n L⟩, hg, n + k, ep, t, hrs, g.h, by show (Hn n L)[n + k]? = _; rw [Hn_get]; exact gb.h⟩
theorem HvK.callR {d : Option Tmp} {f : FuncId} {fn : Func} {as : List Operand} {ts : Array TypeId} {ty : TypeId} {pos : String} {af : Array Edge} {gd : Option (Nat × Bool)} {args : List AV} {e : TypeId} {sz : Nat} {rows : List (List AV)} (hf : P.funcs[f]? = some fn) (hname : (fn.name == "runtime.NumGoroutine") = false) (hb : fn.body.isSome = true)
 (ha : as.map (ev s) = args) (hg : ∀ av ∈ args, Gen s.H.length av) (h : A1 P f args e sz rows) :
 HvK P base ⟨d, .call { callee := .value (.func f), args := as.toArray, argTypes := ts }, ty, pos, af, gd⟩ s (fun s' => s' = (⟨s.fr, s.H ++ [some (.row e sz 0 rows)]⟩ : St).put d (.own s.H.length 0 0 rows.length)) := by
 intro σ a w hr Q K hk;unfold Oper.wp;rw [run_call hf hname hb];subst ha
 let n := s.H.length
 let F' : Nat → Prop := Env.mine ⟨w, s.H, σ, base.F⟩
 have hbs : base.b ≤ w.heap.size := hr.1.bs;have hF' : ∀ g, F' g → g < w.heap.size := by
  rintro g (⟨id, b, h1, h2⟩ | h1)
  · exact (blk_lt hr.1 h1 h2).2
  · exact hr.1.far g h1
 have hheap : Heap ⟨w.heap.size, F'⟩ ⟨w, List.replicate n none, σ, F'⟩ := by
  refine ⟨Nat.le_refl _, hF', fun g h => (ours_none g h).elim, fun id b h => (rep_none h).elim, fun id id' b b' g h1 h2 h3 h4 => (rep_none h1).elim⟩
 have hnone : ∀ id, n ≤ id → s.H[id]? = none := fun id h => List.getElem?_eq_none h
 have hrep : ∀ id, n ≤ id → (List.replicate n (none : Option AB))[id]? = none := fun id h => List.getElem?_eq_none (by simpa using h)
 refine (h.2 n ⟨w.heap.size, F'⟩ σ w (as.map a.eval) hheap (by simp) (fun j av x h1 h2 => ?_)).mono ?_
 · refine VR.move (E := ⟨w, s.H, σ, base.F⟩) (E' := ⟨w, List.replicate n none, σ, F'⟩) (n := n) rfl (fun g hm => ?_) (by show s.H.length ≤ (List.replicate n (none : Option AB)).length; simp [n]) (fun id hid => ?_) (fun _ _ => rfl) (args_ok hr as j av x h1 h2) (hg av (List.mem_of_getElem? h1))
   · rcases hm with hm | hm
     · exact (ours_none g hm).elim
     · exact hm
   · show (List.replicate n (none : Option AB))[id]? = s.H[id]?
     rw [hnone id hid, hrep id hid]
 rintro ex w' ⟨x, r, H', σ', h1, h2, h3, h4, id, ep, h5, h6⟩
 subst h1; subst h5;have hkeep : KeepW w w' := ⟨h3.size, fun k hk => h3.keep k hk (ours_none k)⟩;obtain ⟨xs, hown, hrows⟩ := h2.live id _ h6;have hx : x = σ' id := by
  cases h4 with
  | own ho hs =>
   obtain ⟨_, A, c, A', q1, rfl, q3, q4⟩ := (ho.2 _ _ _ _ h6).2 rfl;have q1' : σ' id = .slice A rows.length c := q1;rw [q1', q4 rfl]; simp
 subst hx;have hv : ∀ g, blkOf (σ' id) = some g → w.heap.size ≤ g := fun g hg => (blk_lt h2 h6 hg).1
 have he := Ext.push (base := base) (w := w) (w1 := w') (H := s.H) (σ := σ) (.row e sz 0 rows) (σ' id) h3.os h3.tape h3.output hkeep hv;have hmine : ∀ g, Env.mine ⟨w', s.H ++ [some (.row e sz 0 rows)], pushσ σ s.H.length (σ' id), base.F⟩ g → Env.mine ⟨w', H', σ', F'⟩ g := by
  rintro g (⟨i, b, q1, q2⟩ | q1)
  · have q1 : (s.H ++ [some (.row e sz 0 rows)])[i]? = some (some b) := q1
    have q2 : blkOf (pushσ σ s.H.length (σ' id) i) = some g := q2;unfold pushσ at q2;by_cases hi : i = s.H.length
    · rw [if_pos hi] at q2
      exact .inl ⟨id, _, h6, q2⟩
    · rw [if_neg hi] at q2
      have hlt : i < s.H.length := by have := (List.getElem?_eq_some_iff.1 q1).1; simp at this; omega
      rw [List.getElem?_append_left hlt] at q1;exact .inr (.inl ⟨i, b, q1, q2⟩)
  · exact .inr (.inr q1)
 have hown' : w'.ownsRow base.b e sz (σ' id) rows.length xs := by
  refine ⟨hown.1, ?_⟩;rcases hown.2 with q | ⟨g, cap, cur, q1, q2, q3⟩
  · exact .inl q
  · exact .inr ⟨g, cap, cur, q1, Nat.le_trans hbs q2, q3⟩
 have hH := hr.1.push he hkeep hv (b := .row e sz 0 rows) ⟨xs, by simpa [pushσ] using hown', hrows.1, hrows.2.1, hrows.2.2.1, fun i row j av hi hj => by
  obtain ⟨y, q1, q2⟩ := hrows.2.2.2 i row j av hi hj;exact ⟨y, q1, VR.move0 (E := ⟨w', H', σ', F'⟩) (E' := ⟨w', s.H ++ [some (.row e sz 0 rows)], pushσ σ s.H.length (σ' id), base.F⟩) rfl hmine q2 (h.1 row (List.mem_of_getElem? hi) av (List.mem_of_getElem? hj))⟩⟩
 have hrel : Rel base (pushσ σ s.H.length (σ' id)) ⟨s.fr, s.H ++ [some (.row e sz 0 rows)]⟩ a w' := ⟨hH, hr.2.1.ext he, hr.2.2⟩;have hvr : VR ⟨w', s.H ++ [some (.row e sz 0 rows)], pushσ σ s.H.length (σ' id), base.F⟩ (.own s.H.length 0 0 rows.length) (σ' id) := by
  have hsl : ∃ A c, σ' id = .slice A rows.length c := by
   cases h4 with
   | own ho hs => obtain ⟨_, A, c, A', q1, _⟩ := (ho.2 _ _ _ _ h6).2 rfl; exact ⟨A, c, q1⟩
  obtain ⟨A, c, hA⟩ := hsl;refine .own ⟨by simp, fun e' sz' ep' rows' q1 => ?_⟩ ⟨A, c, hA⟩;simp at q1;obtain ⟨rfl, rfl, rfl, rfl⟩ := q1;refine ⟨Nat.le_refl _, fun _ => ⟨by omega, A, c, A, by simp [pushσ, hA], by simp [hA], fun _ => ?_, fun _ => rfl⟩⟩
  cases A <;> simp [Addr.add]
 exact hk _ _ _ w' (hrel.put d hvr) (by rw [put_H]; exact he) hkeep rfl
end
section
variable {P : Program} {base : Cx} {l l' : List AV} {Q : Exit → St → Prop} {ops : Array Oper} {rest : List Oper} {d : Option Tmp} {t : TypeId} {pos : String} {af : Array Edge} {n k m : Nat} {L L' : List (Option AB)} {e : TypeId} {sz : Nat} {rows : List (List AV)} {ds : List Nat} {rst : OT} {i : Nat}
theorem AO.callR {f : FuncId} {fn : Func} {as : List Operand} {ts : Array TypeId} {args : List AV} (hf : P.funcs[f]? = some fn) (hname : (fn.name == "runtime.NumGoroutine") = false) (hb : fn.body.isSome = true)
 [ha : ARG l as args] [hg : GA (Hn n L).length args] (h : A1 P f args e sz rows) (hm : rows.length = m) [pb : PB L (some (.row e sz 0 rows)) k L'] [hd : DL l d (.own (n + k) 0 0 m) l'] (kk : AO P base ops rest ⟨l', Hn n L'⟩ Q) : AO P base ops (⟨d, .call { callee := .value (.func f), args := as.toArray, argTypes := ts }, t, pos, af, none⟩ :: rest) ⟨l, Hn n L⟩ Q := by
 refine AO.heavy rfl (HvK.callR hf hname hb (ha.h (Hn n L)) hg.h h).hv fun s1 h1 => ?_
 subst h1; subst hm;have e1 : (Hn n L).length = n + k := by rw [Hn_len, pb.k]
 show AO P base ops rest (St.put ⟨l, Hn n L ++ [some (.row e sz 0 rows)]⟩ d (.own (Hn n L).length 0 0 rows.length)) Q
 rw [e1, Hn_push, pb.h, hd.h];exact kk
theorem AZ.callR {f : FuncId} {fn : Func} {as : List Operand} {ts : Array TypeId} {args : List AV} (hi : ops[i]? = some ⟨d, .call { callee := .value (.func f), args := as.toArray, argTypes := ts }, t, pos, af, none⟩) (hf : P.funcs[f]? = some fn) (hname : (fn.name == "runtime.NumGoroutine") = false) (hb : fn.body.isSome = true)
 [ha : ARG l as args] [hg : GA (Hn n L).length args] (h : A1 P f args e sz rows) (hm : rows.length = m) [pb : PB L (some (.row e sz 0 rows)) k L'] [hd : DL l d (.own (n + k) 0 0 m) l'] (kk : AZ P base ops ds rst ⟨l', Hn n L'⟩ Q) : AZ P base ops ds (.one i true rst) ⟨l, Hn n L⟩ Q := by
 refine AZ.heavy hi rfl (HvK.callR hf hname hb (ha.h (Hn n L)) hg.h h) fun s1 h1 => ?_
 subst h1; subst hm;have e1 : (Hn n L).length = n + k := by rw [Hn_len, pb.k]
 show AZ P base ops ds rst (St.put ⟨l, Hn n L ++ [some (.row e sz 0 rows)]⟩ d (.own (Hn n L).length 0 0 rows.length)) Q
 rw [e1, Hn_push, pb.h, hd.h];exact kk
theorem AZi.callR {f : FuncId} {fn : Func} {as : List Operand} {ts : Array TypeId} {args : List AV} (hi : ops[i]? = some ⟨d, .call { callee := .value (.func f), args := as.toArray, argTypes := ts }, t, pos, af, none⟩) (hf : P.funcs[f]? = some fn) (hname : (fn.name == "runtime.NumGoroutine") = false) (hb : fn.body.isSome = true)
 [ha : ARG l as args] [hg : GA (Hn n L).length args] (h : A1 P f args e sz rows) (hm : rows.length = m) [pb : PB L (some (.row e sz 0 rows)) k L'] [hd : DL l d (.own (n + k) 0 0 m) l'] (kk : AZ P base ops ds rst ⟨l', Hn n L'⟩ Q) : AZi P base ops ds i rst ⟨l, Hn n L⟩ Q := by
 refine AZi.heavy hi rfl (HvK.callR hf hname hb (ha.h (Hn n L)) hg.h h) fun s1 h1 => ?_
 subst h1; subst hm;have e1 : (Hn n L).length = n + k := by rw [Hn_len, pb.k]
 show AZ P base ops ds rst (St.put ⟨l, Hn n L ++ [some (.row e sz 0 rows)]⟩ d (.own (Hn n L).length 0 0 rows.length)) Q
 rw [e1, Hn_push, pb.h, hd.h];exact kk
instance rrCell {p : Tmp} {ty bt : TypeId} {rs : List ResultVar} {avs cs : List AV} [g : GL l p (.box (n + k) 0)] [gb : GB L k (.box bt cs)] [tg : TG P ty true sz] [ln : LN cs sz] [h : RR P l (Hn n L) rs avs] : RR P l (Hn n L) (.cell p ty :: rs) (.agg cs :: avs) :=
 ⟨.cell g.h (by show (Hn n L)[n + k]? = _; rw [Hn_get]; exact gb.h) tg.g (by rw [tg.s, ln.h]) h.h⟩
end
instance {l : List Int} : NIr (bys l) := ⟨fun row hr av ha => by
 obtain ⟨x, _, rfl⟩ := List.mem_map.1 hr
 obtain rfl := List.mem_singleton.1 ha
 exact .v _⟩
section
variable {P : Program}
def FinC (P : Program) (base : Cx) (rs : List ResultVar) (R : AV → List (Option AB) → Prop) : Exit → St → Prop := fun ex s' => (ex = .normal ∨ ex = .ret) ∧ ∃ s2, Gh base s' s2 ∧ ∃ avs, ResR P s2 rs avs ∧ R (packA avs) s2.H
theorem AC.body {f : FuncId} {fn : Func} {c : Code} {rs : List ResultVar} {args : List AV} {H : List (Option AB)} {R : AV → List (Option AB) → Prop} {l : List AV} (n : Nat) [fr : FR args n l] (hf : P.funcs[f]? = some fn) (hb : fn.body = some c) (hrs : fn.results = rs.toArray) (hn : fn.ntmps = n)
 (h : ∀ base : Cx, AW P base c ⟨l, H⟩ (FinC P base rs R)) : AC P f H args R := by
 refine AC.of_body hf hb hrs n hn fun base => ?_
 have hw : Gh base ⟨frame0 args n, H⟩ ⟨l, H⟩ := by
  have hfl : (frame0 args n).length = n := by have := fr.le; simp [frame0]; omega
  refine Gh.weaken (s := ⟨frame0 args n, H⟩) (by rw [hfl]; exact fr.len) fun i av hi => ?_
  rcases fr.h i av hi with h1 | h1
  · exact .inl h1
  · refine .inr ?_
    have hlt := (List.getElem?_eq_some_iff.1 h1).1;show (frame0 args n)[i]? = some av
    unfold frame0;rw [List.getElem?_append_left hlt]; exact h1
 refine AW.ghost hw ?_;exact AW.mono_ghost (h base) fun ex s1 ⟨he, s2, hg, avs, h1, h2⟩ => ⟨s2, hg, he, avs, h1, h2⟩
theorem FinC.ret {base : Cx} {rs : List ResultVar} {R : AV → List (Option AB) → Prop} {l l' avs : List AV} {H H' : List (Option AB)} (hg : Gh base ⟨l, H⟩ ⟨l', H'⟩) [rr : RR P l' H' rs avs] (hR : R (packA avs) H') {ex : Exit} (hex : ex = .normal ∨ ex = .ret) : FinC P base rs R ex ⟨l, H⟩ := ⟨hex, _, hg, _, rr.h, hR⟩
variable {base : Cx} {l l' : List AV} {H H2 : List (Option AB)} {Q : Exit → St → Prop} {ops : Array Oper} {rest : List Oper} {d : Option Tmp} {t : TypeId} {pos : String} {af : Array Edge} {av : AV}
theorem AO.callC {f : FuncId} {fn : Func} {as : List Operand} {ts : Array TypeId} {args : List AV} (hf : P.funcs[f]? = some fn) (hname : (fn.name == "runtime.NumGoroutine") = false) (hb : fn.body.isSome = true)
 [ha : ARG l as args] (h : AC P f H args (fun r H' => r = av ∧ H' = H2)) [hd : DL l d av l'] (k : AO P base ops rest ⟨l', H2⟩ Q) : AO P base ops (⟨d, .call { callee := .value (.func f), args := as.toArray, argTypes := ts }, t, pos, af, none⟩ :: rest) ⟨l, H⟩ Q := by
 refine AO.heavy rfl (Hv.call hf hname hb (ha.h H) h) fun s1 ⟨r, H', h1, h2⟩ => ?_
 obtain ⟨h3, h4⟩ := h1;subst h3; subst h4; subst h2;rw [hd.h]; exact k
theorem AW.eqH {c : Code} {H' : List (Option AB)} (h : H = H') (k : AW P base c ⟨l, H'⟩ Q) : AW P base c ⟨l, H⟩ Q := by subst h; exact k
end
@[reducible] def iV (x : Int) : AV := .v (.int .i64 x)
section
variable {c : Bool} {P : Program} {l : List AV} {x y : Operand} {t bt : TypeId} {n kk k i sz : Nat} {L L' : List (Option AB)} {li : List Int} {p : Int}
theorem iV_at {li : List Int} {i : Nat} (h : i < li.length) : (li.map iV)[i]? = some (.v (.int .i64 (li.getD i 0))) := by
 rw [List.getElem?_map, List.getElem?_eq_getElem h, List.getD_eq_getElem?_getD, List.getElem?_eq_getElem h]; rfl
instance loadBoxM [tg : TG P t false sz] [h : EC c l x (.box (n + kk) i)] [hb : GB L kk (.box bt (li.map iV))] : OC c P (.load t x) l (Hn n L) (.v (.int .i64 (li.getD i 0))) (i < li.length) := ⟨fun hc ob => Lt.loadB1 (sz := sz) rfl (h.h hc _) hb.h (iV_at ob)⟩
end
section
variable {P : Program} {base : Cx}
theorem grown_rd {σ : Nat → Value} {a : Act} {w w' : World} {s : St} (hr : Rel base σ s a w) {e : TypeId} {sz : Nat} {rows : List (List AV)} {xs : List Value} {v' : Value} (hc : RowsR ⟨w, s.H, σ, base.F⟩ sz rows xs) (hm : rows.length ≤ maxLen) (hown : w'.ownsRow w.heap.size e sz v' rows.length xs) (hg : w.grownBy w' none) (h0 : 0 < rows.length) (d : Option Tmp) :
 Rel base σ (s.put d (.rd sz rows)) (a.put d v') w' ∧ Ext ⟨w, s.H, σ, base.F⟩ ⟨w', s.H, σ, base.F⟩ := by
 have keep : ∀ k, k < w.heap.size → w'.heap[k]? = w.heap[k]? := fun k hk => hg.block k hk (by simp)
 have he : Ext ⟨w, s.H, σ, base.F⟩ ⟨w', s.H, σ, base.F⟩ :=
  ⟨hg.os, hg.tape, hg.output, hg.size, rfl, fun k h _ => keep k h, fun k h _ => h, Nat.le_refl _, fun id e sz ep rows' h6 _ => ⟨ep, rows', h6, .inr ⟨rfl, rfl, rfl⟩⟩, fun id t cs' h6 _ => ⟨cs', h6, rfl, rfl⟩, fun id es' h6 _ => ⟨es', h6, rfl⟩⟩
 have hH : Heap base ⟨w', s.H, σ, base.F⟩ :=
  ⟨Nat.le_trans hr.1.bs hg.size, fun g h => Nat.lt_of_lt_of_le (hr.1.far g h) hg.size, hr.1.clear, fun id b h6 => (hr.1.live id b h6).keep he rfl fun g hg' => keep g (blk_lt hr.1 h6 hg').2, hr.1.apart⟩
 have hrel : Rel base σ s a w' := ⟨hH, hr.2.1.ext he, hr.2.2⟩;rcases hown.2 with ⟨_, h⟩ | ⟨g, cap, cur, rfl, hbg, hgg, hnc, hcm, _, _⟩
 · omega
 have hlt : g < w'.heap.size := (Array.getElem?_eq_some_iff.1 hgg).1;have hcell := hown.cells (g := g) rfl;have hxs := hc.2.1;have hin : ∀ {i j : Nat} {row : List AV}, rows[i]? = some row → j < row.length → i * sz + j < xs.length := by
  intro i j row hi hj;have h1 := (List.getElem?_eq_some_iff.1 hi).1;rw [hc.1 row (List.mem_of_getElem? hi)] at hj;have : (i + 1) * sz ≤ rows.length * sz := Nat.mul_le_mul_right _ h1;rw [Nat.succ_mul] at this;omega
 refine ⟨hrel.put d (.rd (fun i j => xs.getD (i * sz + j) undef) hnc hcm hc.1 (fun _ => ⟨_, rfl, ?_, hlt, fun i row j av hi hj => ?_⟩) (fun i row j av hi hj => ?_)), he⟩
 · rintro (⟨id, b, h1, h2⟩ | h1)
   · have := (blk_lt hr.1 h1 h2).2
     have hbg : w.heap.size ≤ g := hbg;exact absurd this (Nat.not_lt.2 hbg)
   · have := hr.1.far _ h1
     have hbg : w.heap.size ≤ g := hbg;exact absurd this (Nat.not_lt.2 hbg)
 · have h1 := hin hi (List.getElem?_eq_some_iff.1 hj).1
   have h2 : xs[i * sz + j]? = some (xs.getD (i * sz + j) undef) := by simp [h1]
   exact ⟨hcell _ _ h2, hc.2.2.1 _ (List.mem_of_getElem? h2)⟩
 · obtain ⟨x, h1, h2⟩ := hc.2.2.2 i row j av hi hj
   have : xs.getD (i * sz + j) undef = x := by rw [List.getD_eq_getElem?_getD, h1]; rfl
   rw [this];exact h2.ext he
theorem run_append_none {t e ty : TypeId} {i : TypeInfo} {A B : Option Addr} {n c m : Nat} (ht : P.underlying t = some (.slice e)) (hi : P.info? e = some i) (hm : m = 0) (w : World) :
 (Builtin.append_ #[t, t] ty #[.slice A n n, .slice B m c]).run P w = .ok (.slice A n n) w := by
 subst hm
 cases A <;> cases B <;> simp [Builtin.append_, run_underlying ht, sizeOf, typeInfo, hi, Builtin.lenOf, Builtin.firstCells, storeCells, loadCells, loadCellsFrom]
end
section
variable {P : Program} {base : Cx} {s : St} {R : AV → Prop} {f : FuncId}
theorem HvK.callG {o : Oper} {args : List AV} (hrun : ∀ (σ : Nat → Value) (a : Act) (w : World), Rel base σ s a w → ∃ vs : List Value, (execOp a.eval o).run P w = .ok (.enter f ⟨vs⟩) w ∧ vs.length = args.length ∧ ∀ (j : Nat) (av : AV) (x : Value), args[j]? = some av → vs[j]? = some x → VR ⟨w, s.H, σ, base.F⟩ av x)
 (hg : ∀ av ∈ args, Gen s.H.length av) (h : A0 P f args R) : HvK P base o s (fun s' => ∃ r, R r ∧ s' = s.put o.dst r) := by
 intro σ a w hr Q K hk;unfold Oper.wp;obtain ⟨vs, hrun1, hlen, hvr⟩ := hrun σ a w hr;rw [hrun1]
 let n := s.H.length
 let F' : Nat → Prop := Env.mine ⟨w, s.H, σ, base.F⟩
 have hbs : base.b ≤ w.heap.size := hr.1.bs;have hF' : ∀ g, F' g → g < w.heap.size := by
  rintro g (⟨id, b, h1, h2⟩ | h1)
  · exact (blk_lt hr.1 h1 h2).2
  · exact hr.1.far g h1
 have hheap : Heap ⟨w.heap.size, F'⟩ ⟨w, List.replicate n none, σ, F'⟩ := by
  refine ⟨Nat.le_refl _, hF', fun g h => (ours_none g h).elim, fun id b h => (rep_none h).elim, fun id id' b b' g h1 h2 h3 h4 => (rep_none h1).elim⟩
 have hnone : ∀ id, n ≤ id → s.H[id]? = none := fun id h => List.getElem?_eq_none h
 have hrep : ∀ id, n ≤ id → (List.replicate n (none : Option AB))[id]? = none := fun id h => List.getElem?_eq_none (by simpa using h)
 refine (h n ⟨w.heap.size, F'⟩ σ w vs hheap hlen (fun j av x h1 h2 => ?_)).mono ?_
 · refine VR.move (E := ⟨w, s.H, σ, base.F⟩) (E' := ⟨w, List.replicate n none, σ, F'⟩) (n := n) rfl (fun g hm => ?_) (by show s.H.length ≤ (List.replicate n (none : Option AB)).length; simp [n]) (fun id hid => ?_) (fun _ _ => rfl) (hvr j av x h1 h2) (hg av (List.mem_of_getElem? h1))
   · rcases hm with hm | hm
     · exact (ours_none g hm).elim
     · exact hm
   · show (List.replicate n (none : Option AB))[id]? = s.H[id]?
     rw [hnone id hid, hrep id hid]
 rintro e w' ⟨x, r, H', σ', h1, h2, h3, h4, h5, h6⟩
 subst h1;have hkeep : ∀ k, k < w.heap.size → w'.heap[k]? = w.heap[k]? := fun k hk => h3.keep k hk (ours_none k)
 have hsize : w.heap.size ≤ w'.heap.size := h3.size;have hext : Ext ⟨w, s.H, σ, base.F⟩ ⟨w', s.H, σ, base.F⟩ :=
  ⟨h3.os, h3.tape, h3.output, hsize, rfl, fun k hk _ => hkeep k hk, fun k hk _ => hk, Nat.le_refl _, fun id e sz ep rows' h6 _ => ⟨ep, rows', h6, .inr ⟨rfl, rfl, rfl⟩⟩, fun id t cs' h6 _ => ⟨cs', h6, rfl, rfl⟩, fun id es' h6 _ => ⟨es', h6, rfl⟩⟩
 have hmine : ∀ g, Env.mine ⟨w', s.H, σ, base.F⟩ g → Env.mine ⟨w', H', σ', F'⟩ g := fun g hg => .inr hg
 have hheap2 : Heap base ⟨w', s.H, σ, base.F⟩ :=
  ⟨Nat.le_trans hbs hsize, fun g hf => Nat.lt_of_lt_of_le (hr.1.far g hf) hsize, hr.1.clear, fun id b h6 => (hr.1.live id b h6).keep hext rfl fun g hg => hkeep g (blk_lt hr.1 h6 hg).2, hr.1.apart⟩
 have hrel : Rel base σ s a w' := ⟨hheap2, hr.2.1.ext hext, hr.2.2⟩;exact hk σ _ _ w' (hrel.put o.dst (VR.move0 (E := ⟨w', H', σ', F'⟩) (E' := ⟨w', s.H, σ, base.F⟩) rfl hmine h4 h5)) (by rw [put_H]; exact hext) ⟨hsize, hkeep⟩ ⟨r, h6, rfl⟩
theorem vr_append {E : Env} {avs bvs : List AV} {xs ys : List Value} (hl : xs.length = avs.length) (h : ∀ (j : Nat) (av : AV) (x : Value), avs[j]? = some av → xs[j]? = some x → VR E av x) (h' : ∀ (j : Nat) (av : AV) (x : Value), bvs[j]? = some av → ys[j]? = some x → VR E av x) :
 ∀ (j : Nat) (av : AV) (x : Value), (avs ++ bvs)[j]? = some av → (xs ++ ys)[j]? = some x → VR E av x := by
 intro j av x h1 h2;by_cases hj : j < avs.length
 · rw [List.getElem?_append_left hj] at h1
   rw [List.getElem?_append_left (by omega)] at h2;exact h j av x h1 h2
 · rw [List.getElem?_append_right (by omega)] at h1 h2
   rw [hl] at h2;exact h' _ av x h1 h2
theorem HvK.callF {d : Option Tmp} {fn : Func} {g : Operand} {as : List Operand} {ts : Array TypeId} {ty : TypeId} {pos : String} {af : Array Edge} {gd : Option (Nat × Bool)} {args cs : List AV} (hf : P.funcs[f]? = some fn) (hname : (fn.name == "runtime.NumGoroutine") = false) (hb : fn.body.isSome = true)
 (hg0 : ev s g = .fn f cs) (ha : as.map (ev s) = args) (hg : ∀ av ∈ args ++ cs, Gen s.H.length av) (h : A0 P f (args ++ cs) R) :
 HvK P base ⟨d, .call { callee := .value g, args := as.toArray, argTypes := ts }, ty, pos, af, gd⟩ s (fun s' => ∃ r, R r ∧ s' = s.put d r) := by
 refine HvK.callG (o := ⟨d, .call { callee := .value g, args := as.toArray, argTypes := ts }, ty, pos, af, gd⟩) (args := args ++ cs) (fun σ a w hr => ?_) hg h;have h1 := ev_ok hr g;rw [hg0] at h1;generalize hq : a.eval g = q at h1
 cases h1 with
 | @fn f cs us hl hu =>
  refine ⟨as.map a.eval ++ us, ?_, ?_, ?_⟩
  · have he := run_callFunc hf hname hb (⟨as.map a.eval⟩ ++ ⟨us⟩) w
    unfold execOp;simp [resolve, Deferred.ofValue, invoke, hq, he];simpa using he
  · subst ha; simp [hl]
  · subst ha
    exact vr_append (by simp) (fun j av x h1 h2 => args_ok hr as j av x h1 h2) hu
theorem Pu.makeFunc {as : List Operand} {cs : List AV} (ha : as.map (ev s) = cs) : Pu P (.makeFunc (.func f) #[] as.toArray) s (.fn f cs) := fun d t pos af g base σ a w hr => by
 refine ⟨.func (.func f) #[] ⟨as.map a.eval⟩, ?_, fun w' => ?_⟩
 · subst ha
   exact .fn (by simp) (fun j av x h1 h2 => args_ok hr as j av x h1 h2)
 · simp [execOp, Instr.makeFunc]
theorem own_eptr {σ : Nat → Value} {w : World} {H : List (Option AB)} (hh : Heap base ⟨w, H, σ, base.F⟩) {id off : Nat} {bt : TypeId} {cs : List AV} (hH : H[id]? = some (some (.box bt cs))) {x : Value} (hx : VR ⟨w, H, σ, base.F⟩ (.box id 0) x) :
 VR ⟨w, H.set id none, σ, base.F⟩ (.eptr cs) x := by
 have hf := Ext.forget (base := base) (w := w) (H := H) (H' := H.set id none) (σ := σ) (by simp) (fun i b h => (set_none h).1);obtain ⟨g, us, h1, h2, h3, h4⟩ := hh.live id _ hH;have h1 : σ id = .pointer (some ⟨g, 0, none⟩) := h1;have h3 : w.heap[g]? = some (.cells ⟨us⟩ bt (0, 0)) := h3
 cases hx with
 | box h hs =>
  obtain ⟨a, q1, rfl⟩ := h.2 _ _ hH;have q1 : σ id = .pointer (some a) := q1;rw [h1] at q1;obtain rfl : (⟨g, 0, none⟩ : Addr) = a := by simpa using q1
  have hadd : (⟨g, 0, none⟩ : Addr).add 0 = ⟨g, 0, none⟩ := by simp [Addr.add]
  rw [hadd];have hour : Env.ours ⟨w, H, σ, base.F⟩ g := ⟨id, _, hH, by show blkOf (σ id) = _; rw [h1]; rfl⟩;have hlt : g < w.heap.size := (Array.getElem?_eq_some_iff.1 h3).1;refine .eptr (fun j => us.getD j undef) (fun hm => ?_) hlt (fun j av hj => ?_) (fun j av hj => ?_)
  · rcases hm with ⟨i, b, q2, q3⟩ | q2
    · obtain ⟨q4, q5⟩ := set_none q2
      exact q5 (hh.apart i id b _ g q4 hH q3 (by show blkOf (σ id) = _; rw [h1]; rfl))
    · exact hh.clear g hour q2
  · have hjl : j < us.length := by rw [h4.1]; exact (List.getElem?_eq_some_iff.1 hj).1
    have hu : us[j]? = some (us.getD j undef) := by simp [hjl]
    refine ⟨?_, h4.2.1 _ (List.mem_of_getElem? hu)⟩;rw [add_plain, Nat.zero_add];unfold World.cell?;simp only [h3];simpa using hu
  · have hjl : j < us.length := by rw [h4.1]; exact (List.getElem?_eq_some_iff.1 hj).1
    have hu : us[j]? = some (us.getD j undef) := by simp [hjl]
    exact (h4.2.2 j av _ hj hu).ext hf
theorem Gh.freezeP {l l' : List AV} {n k : Nat} {L L' : List (Option AB)} (t : Tmp) {bt : TypeId} {cs : List AV} [g : GL l t (.box (n + k) 0)] [gb : GB L k (.box bt cs)] [sb : SB L k none L'] [sl : SL l t (.eptr cs) l'] : Gh base ⟨l, Hn n L⟩ ⟨l', Hn n L'⟩ := fun σ a w hr => by
 have hH : (Hn n L)[n + k]? = some (some (.box bt cs)) := by rw [Hn_get]; exact gb.h
 have hset : (Hn n L).set (n + k) none = Hn n L' := by rw [Hn_set, sb.h]
 have he := Ext.forget (base := base) (w := w) (H := Hn n L) (H' := (Hn n L).set (n + k) none) (σ := σ) (by simp) (fun i b h => (set_none h).1)
 have hf := hr.1.forget (H' := (Hn n L).set (n + k) none) (by simp) (fun i b h => (set_none h).1)
 refine ⟨σ, ⟨?_, ⟨?_, fun i av hi => ?_⟩, hr.2.2⟩, ?_⟩
 · show Heap base ⟨w, Hn n L', σ, base.F⟩
   rw [← hset]; exact hf
 · show l'.length = _
   rw [← sl.h]; simpa using hr.2.1.1
 · have hi : l'[i]? = some av := hi
   rw [← sl.h] at hi
   show ∃ x, a.tmps[i]? = some x ∧ VR ⟨w, Hn n L', σ, base.F⟩ av x
   rw [← hset]
   by_cases hti : t = i
   · subst hti
     rw [List.getElem?_set_self (List.getElem?_eq_some_iff.1 g.h).1] at hi
     obtain rfl := Option.some.inj hi
     obtain ⟨x, h1, h2⟩ := hr.2.1.2 t _ g.h
     exact ⟨x, h1, own_eptr (off := 0) hr.1 hH h2⟩
   · rw [List.getElem?_set_ne hti] at hi
     obtain ⟨x, h1, h2⟩ := hr.2.1.2 i av hi
     exact ⟨x, h1, h2.ext he⟩
 · rw [← hset]; exact he
end
section
variable {P : Program} {base : Cx} {l l' : List AV} {H : List (Option AB)} {Q : Exit → St → Prop} {ops : Array Oper} {rest : List Oper} {d : Option Tmp} {t : TypeId} {pos : String} {af : Array Edge} {av : AV} {f : FuncId} {c : Bool} {ds : List Nat} {rst : OT} {i : Nat}
instance {as : List Operand} {cs : List AV} [h : ARGc c l as cs] : PC c P (.makeFunc (.func f) #[] as.toArray) l H (.fn f cs) := ⟨fun hc => Pu.makeFunc (h.h hc H)⟩
instance {n : Nat} {cs : List AV} [h : GA n cs] : G1 n (.fn f cs) := ⟨.fn fun _ av hj => h.h av (List.mem_of_getElem? hj)⟩
theorem ga_append {n : Nat} {a b : List AV} (h : ∀ av ∈ a, Gen n av) (h' : ∀ av ∈ b, Gen n av) : ∀ av ∈ a ++ b, Gen n av := fun av hm => (List.mem_append.1 hm).elim (h av) (h' av)
theorem AO.callF {fn : Func} {g : Operand} {as : List Operand} {ts : Array TypeId} {args cs args' : List AV} [eg : EC true l g (.fn f cs)] [ha : ARG l as args] [hga : GA H.length args] (hgc : ∀ n, ∀ av ∈ cs, Gen n av) (hf : P.funcs[f]? = some fn) (hname : (fn.name == "runtime.NumGoroutine") = false) (hb : fn.body.isSome = true)
 (h : A0 P f args' (fun r => r = av)) (he : args ++ cs = args') [hd : DL l d av l'] (k : AO P base ops rest ⟨l', H⟩ Q) : AO P base ops (⟨d, .call { callee := .value g, args := as.toArray, argTypes := ts }, t, pos, af, none⟩ :: rest) ⟨l, H⟩ Q := by
 subst he;refine AO.heavy rfl (HvK.callF (s := ⟨l, H⟩) hf hname hb (eg.h rfl H) (ha.h H) (ga_append hga.h (hgc _)) h).hv fun s1 ⟨r, h1, h2⟩ => ?_
 subst h1; subst h2; rw [hd.h]; exact k
end
theorem A0.args {P : Program} {f : FuncId} {args args' : List AV} {R : AV → Prop} (h : A0 P f args R) (hl : args'.length = args.length) (ht : ∀ (E : Env) (j : Nat) (av av' : AV) (x : Value), args'[j]? = some av' → args[j]? = some av → VR E av' x → VR E av x) : A0 P f args' R := by
 intro n base σ w vs h1 h2 h3;refine h n base σ w vs h1 (by omega) fun j av x h4 h5 => ?_
 have hj : j < args'.length := by rw [hl]; exact (List.getElem?_eq_some_iff.1 h4).1
 exact ht _ j av args'[j] x (List.getElem?_eq_getElem hj) h4 (h3 j _ x (List.getElem?_eq_getElem hj) h5)
theorem vr_fn0 {E : Env} {f : FuncId} {x : Value} (h : VR E (.v (.func (.func f) #[] #[])) x) : VR E (.fn f []) x := by
 cases h;exact .fn (us := []) rfl (fun j av x h => by simp at h)
@[reducible] def iA (n : Int) : List AV := [.v (.int .i64 n)]
@[reducible] def bA (b : Bool) : List AV := [.v (.bool b)]
class F1 {α : Type} (f : α → List AV) (g : outParam (α → AV)) : Prop where
 h : ∀ x, f x = [g x]
instance : F1 bA (fun b => .v (.bool b)) := ⟨fun _ => rfl⟩
instance : F1 iA (fun n => .v (.int .i64 n)) := ⟨fun _ => rfl⟩
class INV {α : Type} (f : α → List AV) (av : AV) (x : outParam α) : Prop where
 h : f x = [av]
instance {b : Bool} : INV bA (.v (.bool b)) b := ⟨rfl⟩
section
variable {P : Program} {c : Bool} {l : List AV} {x y : Operand} {av : AV} {t e bt : TypeId} {n k kk m ep i sz : Nat} {L L' : List (Option AB)} {α : Type} {f : α → List AV} {g : α → AV} {li : List α} {v : α}
theorem f1_at [Inhabited α] [fg : F1 f g] {i : Nat} (h : i < li.length) : (li.map f)[i]? = some [g (li.getD i default)] := by
 rw [List.getElem?_map, List.getElem?_eq_getElem h, List.getD_eq_getElem?_getD, List.getElem?_eq_getElem h];simp [fg.h]
instance loadRowM [Inhabited α] [tg : TG P t false sz] [h : EC c l x (.optr (n + kk) ep i 0)] {sz' : Nat} [hb : GB L kk (.row bt sz' ep (li.map f))] [fg : F1 f g] : OC c P (.load t x) l (Hn n L) (g (li.getD i default)) (i < li.length) := ⟨fun hc ob => Lt.loadO1 (sz := sz) rfl (h.h hc _) hb.h (f1_at ob) rfl⟩
theorem map_set1 {av : AV} {v : α} [fi : INV f av v] {i : Nat} (hi : i < li.length) (h1 : ∀ x, (f x).length = 1) : (li.map f).set i (layAt ((li.map f).getD i []) 0 [av]) = (li.set i v).map f := by
 have e1 : (li.map f).getD i [] = f li[i] := by simp [hi]
 have h2 := h1 li[i];have : layAt (f li[i]) 0 [av] = f v := by
  rw [fi.h]; unfold layAt;simp [List.drop_of_length_le (Nat.le_of_eq h2)]
 rw [e1, this, List.map_set]
instance (priority := high) storeRowM {gg : Bool} [tg : TG P t gg 1] [h : EC true l x (.optr (n + k) ep i 0)] [gb : GB L k (.row bt 1 ep (li.map f))] [h' : EC true l y av] [fg : F1 f g] [fi : INV f av v] [hv : PVc av [av]] [sb : SB L k (some (.row bt 1 ep ((li.set i v).map f))) L'] : HS P (.store t x y) l (Hn n L) (Hn n L') (i < li.length) := ⟨fun ho base ty pos af g' => by
 have hi : (li.map f)[i]? = some ((li.map f).getD i []) := by simp [ho]
 have hL := sb.h
 rw [← map_set1 (f := f) (av := av) ho (fun x => by rw [fg.h]; rfl)] at hL
 have h1 : ((li.map f).getD i []).length = 1 := by
  have : (li.map f).getD i [] = f li[i] := by simp [ho]
  rw [this, fg.h]; rfl
 exact Hv.storeRN (s := ⟨l, Hn n L⟩) (gg := gg) (ps := [av]) rfl (h.h rfl _) gb.h hi (by rw [h'.h rfl]; exact hv.h) rfl (by simp) hL⟩
theorem rep_bools (p : Nat) : (List.replicate p false).map bA = List.replicate p [AV.v (.bool false)] := by simp
instance (priority := high) mkBools {kl kc : IntKind} {p q : Int} [tu : TU P t (.slice e)] [ti : TI P e (.bool false) 1 1] [h : EC true l x (.v (.int kl p))] [h' : EC true l y (.v (.int kc q))] [pb : PB L (some (.row e 1 0 ((List.replicate p.toNat false).map bA))) k L'] : HM P (.makeSlice t x y) l (Hn n L) (.own (n + k) 0 0 p.toNat) (Hn n L') (0 ≤ p ∧ p ≤ q ∧ q ≤ 281474976710656) := ⟨fun ho base d ty pos af g => by
 have hL := pb.h
 rw [rep_bools] at hL
 exact HvK.makeN (s := ⟨l, Hn n L⟩) (t := t) (e := e) (m := p.toNat) (cap := q.toNat) (z := .bool false) (sz := 1) (bytes := 1) rfl pb.k rfl (by rw [h.h rfl, Int.toNat_of_nonneg ho.1]) (by rw [h'.h rfl, Int.toNat_of_nonneg (by omega)]) (by omega) (by omega) (by omega) hL⟩
end
@[reducible] def sA (s : ByteArray) : List AV := [.v (.string s)]
def idxF {α : Type} (q : α → Bool) (l : List α) : Int := match l.findIdx? q with
 | some i => i
 | none => -1
theorem idxF_ge {α : Type} (q : α → Bool) (l : List α) : decide (idxF q l ≥ 0) = l.any q := by
 unfold idxF
 cases h : l.findIdx? q with
 | none =>
  rw [List.findIdx?_eq_none_iff] at h;have : l.any q = false := by
   rw [List.any_eq_false];intro x hx;have := h x hx;simp [this]
  rw [this]; rfl
 | some i =>
  have h1 := List.findIdx?_eq_some_iff_getElem.1 h;obtain ⟨h2, h3, _⟩ := h1;have : l.any q = true := List.any_eq_true.2 ⟨_, List.getElem_mem h2, h3⟩;rw [this]; simp
theorem idxF_at {α : Type} [Inhabited α] {q : α → Bool} {l : List α} {i : Nat} (hi : i < l.length) (h : ∀ j, j < i → q (l.getD j default) = false) (hq : q (l.getD i default) = true) : idxF q l = i := by
 unfold idxF;have : l.findIdx? q = some i := by
  rw [List.findIdx?_eq_some_iff_getElem];refine ⟨hi, by simpa [hi] using hq, fun j hj => ?_⟩;have := h j hj;simp only [List.getD_eq_getElem?_getD, List.getElem?_eq_getElem (show j < l.length by omega), Option.getD_some] at this;simp [this]
 rw [this]
theorem idxF_none {α : Type} [Inhabited α] {q : α → Bool} {l : List α} (h : ∀ j, j < l.length → q (l.getD j default) = false) : idxF q l = -1 := by
 unfold idxF;have : l.findIdx? q = none := by
  rw [List.findIdx?_eq_none_iff];intro x hx;obtain ⟨j, hj, rfl⟩ := List.getElem_of_mem hx;have := h j hj;simpa [hj] using this
 rw [this]
theorem getD_in {α : Type} [Inhabited α] {l : List α} {i : Nat} (h : i < l.length) : l.getD i default ∈ l := by
 have : l.getD i default = l[i] := by simp [h]
 rw [this]; exact List.getElem_mem h
structure KeyT (P : Program) (kt : TypeId) (K : Value → Prop) : Prop where
 check : ∀ (em : Bool) (x : Value) (w : World), K x → (Instr.checkKey em 10000 kt x).run P w = .ok () w
 find : ∀ (x : Value) (es : List MapEntry) (w : World), K x → (∀ e ∈ es, K e.key) → ∃ r, (Instr.findKey kt x es).run P w = .ok r w ∧
  ((r = none ∧ ∀ e ∈ es, e.key ≠ x) ∨ ∃ j e, r = some (j, e.val) ∧ es[j]? = some e ∧ e.key = x)
 same : ∀ x, K x → Instr.sameBits 10000 x x = true
theorem KeyT.plain {P : Program} {kt : TypeId} {d : TypeDesc} (hd : P.underlying kt = some d) : KeyT P kt (MapKept.IsKey d) where
 check := fun em x w hx => MapKept.run_checkKey hd hx em 9999
 find := fun x es w hx hes => by
  rcases MapKept.findNow_spec hx es 0 hes with ⟨h1, h2⟩ | ⟨j, e, h1, h2, h3⟩
  · exact ⟨none, MapKept.run_findKey hd h1, .inl ⟨rfl, h2⟩⟩
  · refine ⟨_, MapKept.run_findKey hd h1, .inr ⟨j, e, by rw [Nat.zero_add], h2, h3⟩⟩
 same := fun x hx => MapKept.sameBits_self hx 10000
class KF (P : Program) (kt : TypeId) {κ : Type} (kf : κ → Value) : Prop where
 ex : ∃ K, KeyT P kt K ∧ ∀ k, K (kf k)
 inj : ∀ a b, kf a = kf b → a = b
@[reducible] def kS (s : ByteArray) : Value := .string s
@[reducible] def kI (n : Int) : Value := .int .i64 n
instance {P : Program} {kt : TypeId} [tu : TU P kt .string] : KF P kt kS := ⟨⟨_, KeyT.plain tu.h, fun _ => trivial⟩, fun a b h => by injection h⟩
instance {P : Program} {kt : TypeId} [tu : TU P kt (.int .i64)] : KF P kt kI := ⟨⟨_, KeyT.plain tu.h, fun _ => rfl⟩, fun a b h => by injection h⟩
section
variable {κ β : Type} [DecidableEq κ]
def aget : List (κ × β) → κ → Option β
 | [], _ => none
 | p :: l, k => if p.1 = k then some p.2 else aget l k
def aput : List (κ × β) → κ → β → List (κ × β)
 | [], k, v => [(k, v)]
 | p :: l, k, v => if p.1 = k then (k, v) :: l else p :: aput l k v
theorem aget_none {l : List (κ × β)} {k : κ} (h : ∀ p ∈ l, p.1 ≠ k) : aget l k = none := by
 induction l with
 | nil => rfl
 | cons p l ih =>
  unfold aget;rw [if_neg (h p (by simp)), ih fun q hq => h q (by simp [hq])]
theorem aput_none {l : List (κ × β)} {k : κ} {v : β} (h : ∀ p ∈ l, p.1 ≠ k) : aput l k v = l ++ [(k, v)] := by
 induction l with
 | nil => rfl
 | cons p l ih =>
  unfold aput;rw [if_neg (h p (by simp)), ih fun q hq => h q (by simp [hq])]; rfl
theorem aget_at {l : List (κ × β)} {k : κ} {j : Nat} {p : κ × β} (hd : ∀ (i i' : Nat) (q q' : κ × β), l[i]? = some q → l[i']? = some q' → q.1 = q'.1 → i = i') (hj : l[j]? = some p) (hk : p.1 = k) : aget l k = some p.2 := by
 induction l generalizing j with
 | nil => simp at hj
 | cons q l ih =>
  unfold aget
  cases j with
  | zero => simp at hj; subst hj; rw [if_pos hk]
  | succ j =>
   have hne : ¬ q.1 = k := fun h => by
    have := hd 0 (j + 1) q p rfl hj (by rw [h, hk]);omega
   rw [if_neg hne];refine ih (fun i i' a b h1 h2 h3 => ?_) (by simpa using hj);have := hd (i + 1) (i' + 1) a b (by simpa using h1) (by simpa using h2) h3;omega
theorem aput_at {l : List (κ × β)} {k : κ} {v : β} {j : Nat} {p : κ × β} (hd : ∀ (i i' : Nat) (q q' : κ × β), l[i]? = some q → l[i']? = some q' → q.1 = q'.1 → i = i') (hj : l[j]? = some p) (hk : p.1 = k) : aput l k v = l.set j (k, v) := by
 induction l generalizing j with
 | nil => simp at hj
 | cons q l ih =>
  unfold aput
  cases j with
  | zero => simp at hj; subst hj; rw [if_pos hk]; rfl
  | succ j =>
   have hne : ¬ q.1 = k := fun h => by
    have := hd 0 (j + 1) q p rfl hj (by rw [h, hk]);omega
   rw [if_neg hne, List.set_cons_succ, ih (fun i i' a b h1 h2 h3 => ?_) (by simpa using hj)];have := hd (i + 1) (i' + 1) a b (by simpa using h1) (by simpa using h2) h3;omega
theorem aget_aput {l : List (κ × β)} {k k' : κ} {v : β} : aget (aput l k v) k' = if k = k' then some v else aget l k' := by
 induction l with
 | nil => simp [aput, aget]
 | cons p l ih =>
  unfold aput;by_cases h : p.1 = k
  · rw [if_pos h]
    simp only [aget, h]
    split <;> rfl
  · rw [if_neg h]
    simp only [aget, ih];by_cases h1 : p.1 = k'
    · rw [if_pos h1, if_pos h1, if_neg (fun h2 => h (by rw [h1, h2]))]
    · rw [if_neg h1, if_neg h1]
theorem aput_len {l : List (κ × β)} {k : κ} {v : β} : (aput l k v).length = l.length + if (aget l k).isSome then 0 else 1 := by
 induction l with
 | nil => rfl
 | cons p l ih =>
  unfold aput aget;by_cases h : p.1 = k
  · rw [if_pos h, if_pos h]; rfl
  · rw [if_neg h, if_neg h, List.length_cons, ih, List.length_cons]; omega
end
@[reducible] def mE {κ β : Type} (kf : κ → Value) (vf : β → AV) (p : κ × β) : Value × AV := (kf p.1, vf p.2)
section
variable {P : Program} {base : Cx} {s : St} {κ β : Type} [DecidableEq κ] {kf : κ → Value} {vf : β → AV} {l : List (κ × β)}
theorem map_find {E : Env} {kt : TypeId} [kk : KF P kt kf] {ents : Array MapEntry} {clock : Nat} (h : MapR E (l.map (mE kf vf)) ents clock) (k : κ) :
 (∀ (em : Bool) (w : World), (Instr.checkKey em 10000 kt (kf k)).run P w = .ok () w) ∧ Instr.sameBits 10000 (kf k) (kf k) = true ∧
 ((∀ w : World, (Instr.findKey kt (kf k) ents.toList).run P w = .ok none w) ∧ (∀ e ∈ ents.toList, e.key ≠ kf k) ∧ aget l k = none ∧ (∀ v : β, aput l k v = l ++ [(k, v)]) ∨
  ∃ j e v0, (∀ w : World, (Instr.findKey kt (kf k) ents.toList).run P w = .ok (some (j, e.val)) w) ∧ ents[j]? = some e ∧ e.key = kf k ∧ j < l.length ∧ aget l k = some v0 ∧ VR E (vf v0) e.val ∧ (∀ v : β, aput l k v = l.set j (k, v))) := by
 obtain ⟨K, hK, hk⟩ := kk.ex;have hlen : ents.size = l.length := by simpa using h.1
 have hget : ∀ (i : Nat) (p : κ × β) (m : MapEntry), l[i]? = some p → ents[i]? = some m → m.key = kf p.1 ∧ VR E (vf p.2) m.val := fun i p m h1 h2 => h.2.1 i (mE kf vf p) m (by rw [List.getElem?_map, h1]; rfl) h2
 have hkeys : ∀ e ∈ ents.toList, K e.key := by
  intro e he;obtain ⟨i, hi, rfl⟩ := List.getElem_of_mem he;have hi' : i < ents.size := by simpa using hi
  have h1 : ents[i]? = some ents[i] := Array.getElem?_eq_getElem hi';have h2 := hget i l[i] ents[i] (List.getElem?_eq_getElem (by omega)) h1;rw [show ents.toList[i] = ents[i] from rfl, h2.1]; exact hk _
 have hd : ∀ (i i' : Nat) (q q' : κ × β), l[i]? = some q → l[i']? = some q' → q.1 = q'.1 → i = i' := by
  intro i i' q q' h1 h2 h3;have l1 := (List.getElem?_eq_some_iff.1 h1).1;have l2 := (List.getElem?_eq_some_iff.1 h2).1;have e1 : ents[i]? = some ents[i] := Array.getElem?_eq_getElem (by omega);have e2 : ents[i']? = some ents[i'] := Array.getElem?_eq_getElem (by omega);exact h.2.2.2 i i' _ _ e1 e2 (.inr (by rw [(hget i q _ h1 e1).1, (hget i' q' _ h2 e2).1, h3]))
 refine ⟨fun em w => hK.check em _ w (hk k), hK.same _ (hk k), ?_⟩;have hdet : ∀ w w' : World, ∀ r r', (Instr.findKey kt (kf k) ents.toList).run P w = .ok r w → (Instr.findKey kt (kf k) ents.toList).run P w' = .ok r' w' → True := fun _ _ _ _ _ _ => trivial
 by_cases hne : ∀ e ∈ ents.toList, e.key ≠ kf k
 · left
   have hn : ∀ p ∈ l, p.1 ≠ k := by
    intro p hp hpk;obtain ⟨i, hi, rfl⟩ := List.getElem_of_mem hp;have e1 : ents[i]? = some ents[i] := Array.getElem?_eq_getElem (by omega);refine hne ents[i] (Array.getElem_mem_toList _) ?_;rw [(hget i l[i] _ (List.getElem?_eq_getElem hi) e1).1, hpk]
   refine ⟨fun w => ?_, hne, aget_none hn, fun v => aput_none hn⟩;obtain ⟨r, h1, h2⟩ := hK.find (kf k) ents.toList w (hk k) hkeys;rcases h2 with ⟨rfl, _⟩ | ⟨j, e, rfl, h4, h5⟩
   · exact h1
   · exact absurd h5 (hne e (List.mem_of_getElem? h4))
 · right
   have hex : ∃ e ∈ ents.toList, e.key = kf k := Classical.byContradiction fun h => hne fun e he hk => h ⟨e, he, hk⟩
   obtain ⟨e, he, hek⟩ := hex;obtain ⟨j, hj, hje⟩ := List.getElem_of_mem he;have hj' : j < ents.size := by simpa using hj
   have e1 : ents[j]? = some e := by rw [Array.getElem?_eq_getElem hj', ← hje]; rfl
   have hjl : j < l.length := by omega
   have l1 : l[j]? = some l[j] := List.getElem?_eq_getElem hjl;have hg := hget j l[j] e l1 e1;have hkk : (l[j]).1 = k := kk.inj _ _ (by rw [← hg.1, hek]);refine ⟨j, e, (l[j]).2, fun w => ?_, e1, hek, hjl, aget_at hd l1 hkk, hg.2, fun v => aput_at hd l1 hkk⟩;obtain ⟨r, h1, h2⟩ := hK.find (kf k) ents.toList w (hk k) hkeys;rcases h2 with ⟨rfl, h3⟩ | ⟨j', e', rfl, h4, h5⟩
   · exact absurd hek (h3 e he)
   · have h4' : ents[j']? = some e' := by simpa using h4
     have : j' = j := h.2.2.2 j' j e' e h4' e1 (.inr (by rw [h5, hek]));subst this;rw [e1] at h4';obtain rfl := Option.some.inj h4';exact h1
theorem omap_val {σ : Nat → Value} {w : World} {H : List (Option AB)} {F : Nat → Prop} {id : Nat} {es : List (Value × AV)} {x : Value} (h : VR ⟨w, H, σ, F⟩ (.omap id) x) (hH : H[id]? = some (some (.map es))) : x = σ id := by
 cases h with
 | omap h _ => exact (h.2 _ hH).symm
theorem Lt.lookup {t kt et : TypeId} {x y : Operand} {id : Nat} {z : Value} {k : κ} {d : β} (c : Bool) [kk : KF P kt kf] (ht : P.underlying t = some (.map kt et)) (hz : (P.info? et).bind (·.zero) = some z) (hzd : TELL (.v z) (vf d))
 (hx : ev s x = .omap id) (hH : s.H[id]? = some (some (.map (l.map (mE kf vf))))) (hy : ev s y = .v (kf k)) :
 Lt P (.lookup t x y c) s (if c then .tup [vf ((aget l k).getD d), .v (.bool (aget l k).isSome)] else vf ((aget l k).getD d)) := fun d' t' pos af g base σ a w hr => by
 obtain ⟨r, ents, clock, h1, h2, h3, h4⟩ := hr.1.live id _ hH
 have h1 : σ id = .map (some r) := h1
 have h3 : w.heap[r]? = some (.map ents clock) := h3
 have hlt : r < w.heap.size := (Array.getElem?_eq_some_iff.1 h3).1
 have h5 := ev_ok hr x
 rw [hx] at h5
 have hxe : a.eval x = .map (some r) := (omap_val h5 hH).trans h1
 have hye := ev_v hr hy
 have hzero : ∀ w : World, (zeroValue et).run P w = .ok z w := fun w => by
  cases hi : P.info? et with
  | none => rw [hi] at hz; cases hz
  | some i =>
   rw [hi] at hz
   have hz : i.zero = some z := hz
   simp [zeroValue, typeInfo, hi, hz, Result.andThen]
 obtain ⟨q1, q2, q3⟩ := map_find (P := P) (kt := kt) h4 k
 have vr_tup : ∀ {av : AV} {v : Value} {b : Bool}, VR ⟨w, s.H, σ, base.F⟩ av v → VR ⟨w, s.H, σ, base.F⟩ (.tup [av, .v (.bool b)]) (.tuple #[v, .bool b]) := fun hv =>
  .tup (us := [_, _]) rfl (vr_cons hv (vr_cons (.v _) vr_nil))
 rcases q3 with ⟨q3, _, q5, _⟩ | ⟨j, e, v0, q3, q4, q5, q6, q7, q8, _⟩
 · rw [q5]
   refine ⟨if c then .tuple #[z, .bool false] else z, ?_, fun w' hw => ?_⟩
   · cases c
     · exact hzd.h _ _ (.v z)
     · exact vr_tup (hzd.h _ _ (.v z))
   · have h3' : w'.heap[r]? = some (.map ents clock) := (hw.keep r hlt).trans h3
     simp [execOp, Instr.lookup, hxe, hye, run_underlying ht, MapKept.run_getObj_map h3', q1, q3 w', hzero, Result.andThen]
 · rw [q7]
   refine ⟨if c then .tuple #[e.val, .bool true] else e.val, ?_, fun w' hw => ?_⟩
   · cases c
     · exact q8
     · exact vr_tup q8
   · have h3' : w'.heap[r]? = some (.map ents clock) := (hw.keep r hlt).trans h3
     simp [execOp, Instr.lookup, hxe, hye, run_underlying ht, MapKept.run_getObj_map h3', q1, q3 w', hzero, Result.andThen]
theorem HvK.makeMap {d : Option Tmp} {t ty : TypeId} {pos : String} {af : Array Edge} {g : Option (Nat × Bool)} :
 HvK P base ⟨d, .makeMap t none, ty, pos, af, g⟩ s (fun s' => s' = (s.push (.map [])).put d (.omap s.H.length)) := by
 intro σ a w hr Q K hk;unfold Oper.wp;have hrun : (execOp a.eval ⟨d, .makeMap t none, ty, pos, af, g⟩).run P w = .ok (.value (.map (some w.heap.size))) (w.alloc (.map #[] 0)) := by
  simp [execOp, Instr.makeMap, Result.andThen]
 rw [hrun];have hv : ∀ g, blkOf (.map (some w.heap.size)) = some g → w.heap.size ≤ g := fun g hg => by obtain rfl := Option.some.inj hg; exact Nat.le_refl _
 have hkp := keep_alloc w (.map #[] 0);have he := Ext.push (base := base) (w := w) (H := s.H) (σ := σ) (.map []) (.map (some w.heap.size)) (w1 := w.alloc (.map #[] 0)) rfl rfl rfl hkp hv;have hnew : (w.alloc (.map #[] 0)).heap[w.heap.size]? = some (.map #[] 0) := heap_alloc_at w _
 have hH := hr.1.push he hkp hv (b := .map []) ⟨w.heap.size, #[], 0, by simp [pushσ], hr.1.bs, hnew, rfl, fun i p m h => by simp at h, fun i m h => by simp at h, fun i j m m' h => by simp at h⟩;have hrel : Rel base (pushσ σ s.H.length (.map (some w.heap.size))) (s.push (.map [])) a (w.alloc (.map #[] 0)) := ⟨hH, hr.2.1.ext he, hr.2.2⟩
 refine hk _ _ _ _ (hrel.put d (.omap ⟨by simp [St.push], fun es h1 => by simp [pushσ]⟩ ⟨_, rfl⟩)) (by rw [put_H]; exact he) hkp rfl
theorem Hv.mapUpdate {t kt et ty : TypeId} {x y z : Operand} {pos : String} {af : Array Edge} {gd : Option (Nat × Bool)} {id : Nat} {k : κ} {v : β} [kk : KF P kt kf] (ht : P.underlying t = some (.map kt et))
 (hx : ev s x = .omap id) (hH : s.H[id]? = some (some (.map (l.map (mE kf vf))))) (hy : ev s y = .v (kf k)) (hz : ev s z = vf v) :
 Hv P base ⟨none, .mapUpdate t x y z, ty, pos, af, gd⟩ s (fun s' => s' = ⟨s.fr, s.H.set id (some (.map ((aput l k v).map (mE kf vf))))⟩) := by
 intro σ a w hr Q K hk;obtain ⟨r, ents, clock, h1, h2, h3, h4⟩ := hr.1.live id _ hH;have h1 : σ id = .map (some r) := h1;have h3 : w.heap[r]? = some (.map ents clock) := h3;have hlt : r < w.heap.size := (Array.getElem?_eq_some_iff.1 h3).1;have h5 := ev_ok hr x;rw [hx] at h5;have hxe : a.eval x = .map (some r) := (omap_val h5 hH).trans h1;have hye := ev_v hr hy;have hzv := ev_ok hr z;rw [hz] at hzv
 have hlen : ents.size = l.length := by simpa using h4.1
 have hget : ∀ (i : Nat) (p : κ × β) (m : MapEntry), l[i]? = some p → ents[i]? = some m → m.key = kf p.1 ∧ VR ⟨w, s.H, σ, base.F⟩ (vf p.2) m.val := fun i p m h1 h2 => h4.2.1 i (mE kf vf p) m (by rw [List.getElem?_map, h1]; rfl) h2
 obtain ⟨q1, q2, q3⟩ := map_find (P := P) (kt := kt) h4 k;have fin : ∀ (ents' : Array MapEntry) (clock' : Nat), (Instr.mapUpdate t (.map (some r)) (kf k) (a.eval z)).run P w = .ok () (setBlk w r (.map ents' clock')) →
  (Ext ⟨w, s.H, σ, base.F⟩ ⟨setBlk w r (.map ents' clock'), s.H.set id (some (.map ((aput l k v).map (mE kf vf)))), σ, base.F⟩ → MapR ⟨setBlk w r (.map ents' clock'), s.H.set id (some (.map ((aput l k v).map (mE kf vf)))), σ, base.F⟩ ((aput l k v).map (mE kf vf)) ents' clock') → (Oper.wp P ⟨none, .mapUpdate t x y z, ty, pos, af, gd⟩ a w K Q) := by
  intro ents' clock' hrun hm;unfold Oper.wp;have hrun' : (execOp a.eval ⟨none, .mapUpdate t x y z, ty, pos, af, gd⟩).run P w = .ok .skip (setBlk w r (.map ents' clock')) := by
   simp only [execOp, hxe, hye, Sem.run_bind, hrun, Result.andThen_ok, Sem.run_pure]
  rw [hrun'];obtain ⟨h9, h10⟩ := upd_block hr hH (g := r) (by rw [h1]; rfl) (.map ents' clock') (b' := .map ((aput l k v).map (mE kf vf))) trivial (fun he => ⟨r, ents', clock', h1, h2, setBlk_self w _ hlt, hm he⟩);exact hk σ _ _ _ h9 h10 rfl
 rcases q3 with ⟨q3, q4, q5, q6⟩ | ⟨j, e, v0, q3, q4, q5, q6, q7, q8, q9⟩
 · refine fin (ents.push { key := kf k, val := a.eval z, born := clock }) (clock + 1) ?_ fun he => ?_
   · simp [Instr.mapUpdate, run_underlying ht, MapKept.run_getObj_map h3, q1, q3 w, MapKept.run_setObj_map _ h3, Result.andThen, setBlk]
   · rw [q6] at he ⊢
     have key : ∀ (i : Nat) (m : MapEntry), (ents.push { key := kf k, val := a.eval z, born := clock })[i]? = some m → (i < ents.size ∧ ents[i]? = some m) ∨ (i = ents.size ∧ m = { key := kf k, val := a.eval z, born := clock }) := by
      intro i m hm;rw [Array.getElem?_push] at hm;by_cases hi : i = ents.size
      · rw [if_pos hi] at hm; exact .inr ⟨hi, (Option.some.inj hm).symm⟩
      · rw [if_neg hi] at hm; exact .inl ⟨(Array.getElem?_eq_some_iff.1 hm).1, hm⟩
     refine ⟨by simp [hlen], fun i p m hp hm => ?_, fun i m hm => ?_, fun i i' m m' hm hm' hor => ?_⟩
     · rw [List.getElem?_map] at hp
       rcases key i m hm with ⟨hi, hm⟩ | ⟨rfl, rfl⟩
       · rw [List.getElem?_append_left (by omega)] at hp
         cases hli : l[i]? with
         | none => rw [hli] at hp; cases hp
         | some q =>
          rw [hli] at hp;obtain rfl := Option.some.inj hp;exact ⟨(hget i q m hli hm).1, (hget i q m hli hm).2.ext he⟩
       · rw [List.getElem?_append_right (by omega), hlen, Nat.sub_self] at hp
         obtain rfl := Option.some.inj hp;exact ⟨rfl, hzv.ext he⟩
     · rcases key i m hm with ⟨hi, hm⟩ | ⟨rfl, rfl⟩
       · have := h4.2.2.1 i m hm; omega
       · exact Nat.lt_succ_self _
     · rcases key i m hm with ⟨hi, hm⟩ | ⟨rfl, rfl⟩ <;> rcases key i' m' hm' with ⟨hi', hm'⟩ | ⟨rfl, rfl⟩
       · exact h4.2.2.2 i i' m m' hm hm' hor
       · rcases hor with hor | hor
         · have h6 := h4.2.2.1 i m hm
           have hor : m.born = clock := hor;omega
         · exact absurd hor (q4 m (by have := (Array.getElem?_eq_some_iff.1 hm).2; rw [← this]; exact Array.getElem_mem_toList _))
       · rcases hor with hor | hor
         · have h6 := h4.2.2.1 i' m' hm'
           have hor : clock = m'.born := hor;omega
         · exact absurd hor.symm (q4 m' (by have := (Array.getElem?_eq_some_iff.1 hm').2; rw [← this]; exact Array.getElem_mem_toList _))
       · rfl
 · refine fin (ents.modify j fun e => { e with key := kf k, val := a.eval z }) clock ?_ fun he => ?_
   · have hst : ∀ w : World, (Instr.keyThatStays e.key (kf k)).run P w = .ok (kf k) w := fun w => by rw [q5]; simp [Instr.keyThatStays, q2]
     simp [Instr.mapUpdate, run_underlying ht, MapKept.run_getObj_map h3, q1, q3 w, MapKept.run_setObj_map _ h3, Result.andThen, setBlk, q4, hst]
   · rw [q9] at he ⊢
     have key : ∀ (i : Nat) (m : MapEntry), (ents.modify j fun e => { e with key := kf k, val := a.eval z })[i]? = some m → ∃ m0, ents[i]? = some m0 ∧ m.born = m0.born ∧ m.key = m0.key ∧ ((i = j ∧ m.val = a.eval z) ∨ (i ≠ j ∧ m.val = m0.val)) := by
      intro i m hm;rw [Array.getElem?_modify] at hm;by_cases hi : j = i
      · subst hi
        rw [if_pos rfl, q4] at hm;obtain rfl := Option.some.inj hm;exact ⟨e, q4, rfl, q5.symm, .inl ⟨rfl, rfl⟩⟩
      · rw [if_neg hi] at hm
        exact ⟨m, hm, rfl, rfl, .inr ⟨fun h => hi h.symm, rfl⟩⟩
     refine ⟨by simp [hlen], fun i p m hp hm => ?_, fun i m hm => ?_, fun i i' m m' hm hm' hor => ?_⟩
     · obtain ⟨m0, g1, g2, g3, g4⟩ := key i m hm
       rw [List.getElem?_map] at hp;rcases g4 with ⟨rfl, g4⟩ | ⟨g4, g5⟩
       · rw [List.getElem?_set_self q6] at hp
         obtain rfl := Option.some.inj hp;rw [q4] at g1;obtain rfl := Option.some.inj g1;exact ⟨g3.trans q5, by rw [g4]; exact hzv.ext he⟩
       · rw [List.getElem?_set_ne (Ne.symm g4)] at hp
         cases hli : l[i]? with
         | none => rw [hli] at hp; cases hp
         | some q =>
          rw [hli] at hp;obtain rfl := Option.some.inj hp;exact ⟨g3.trans (hget i q m0 hli g1).1, by rw [g5]; exact (hget i q m0 hli g1).2.ext he⟩
     · obtain ⟨m0, g1, g2, _⟩ := key i m hm
       rw [g2]; exact h4.2.2.1 i m0 g1
     · obtain ⟨m0, g1, g2, g3, _⟩ := key i m hm
       obtain ⟨m1, k1, k2, k3, _⟩ := key i' m' hm';exact h4.2.2.2 i i' m0 m1 g1 k1 (by rw [← g2, ← k2, ← g3, ← k3]; exact hor)
end
section
variable {P : Program} {c : Bool} {L L' : List (Option AB)} {l : List AV} {x y z : Operand} {t kt et : TypeId} {n k kk sz bytes : Nat} {κ β : Type} [DecidableEq κ] {kf : κ → Value} {vf : β → AV} {es : List (κ × β)} {key : κ} {v d : β} {zz : Value} {av : AV}
class KV (kf : κ → Value) (x : Value) (k : outParam κ) : Prop where
 h : kf k = x
instance {s : ByteArray} : KV kS (.string s) s := ⟨rfl⟩
instance {n : Int} : KV kI (.int .i64 n) n := ⟨rfl⟩
class EV (vf : β → AV) (av : AV) (v : outParam β) : Prop where
 h : vf v = av
class ZV (vf : β → AV) (z : Value) (d : outParam β) : Prop where
 h : TELL (.v z) (vf d)
@[reducible] def vI (n : Int) : AV := .v (.int .i64 n)
instance {n : Int} : EV vI (.v (.int .i64 n)) n := ⟨rfl⟩
instance : ZV vI (.int .i64 0) 0 := ⟨tellRefl⟩
instance lookup2 [tu : TU P t (.map kt et)] [ti : TI P et zz sz bytes] [kf1 : KF P kt kf] [hx : EC c l x (.omap (n + kk))] [gb : GB L kk (.map (es.map (mE kf vf)))] {xv : Value} [hy : EC c l y (.v xv)] [kv : KV kf xv key] [zv : ZV vf zz d] :
 LC c P (.lookup t x y true) l (Hn n L) (.tup [vf ((aget es key).getD d), .v (.bool (aget es key).isSome)]) := ⟨fun hc => Lt.lookup (s := ⟨l, Hn n L⟩) true tu.h ti.zero zv.h (hx.h hc _) (by show (Hn n L)[n + kk]? = _; rw [Hn_get]; exact gb.h) ((hy.h hc _).trans (by rw [kv.h]))⟩
instance lookup1 [tu : TU P t (.map kt et)] [ti : TI P et zz sz bytes] [kf1 : KF P kt kf] [hx : EC c l x (.omap (n + kk))] [gb : GB L kk (.map (es.map (mE kf vf)))] {xv : Value} [hy : EC c l y (.v xv)] [kv : KV kf xv key] [zv : ZV vf zz d] :
 LC c P (.lookup t x y false) l (Hn n L) (vf ((aget es key).getD d)) := ⟨fun hc => Lt.lookup (s := ⟨l, Hn n L⟩) false tu.h ti.zero zv.h (hx.h hc _) (by show (Hn n L)[n + kk]? = _; rw [Hn_get]; exact gb.h) ((hy.h hc _).trans (by rw [kv.h]))⟩
instance mkMap [pb : PB L (some (.map [])) k L'] : HM P (.makeMap t none) l (Hn n L) (.omap (n + k)) (Hn n L') True := ⟨fun ho base d ty pos af g => by
 have h := HvK.makeMap (P := P) (base := base) (s := ⟨l, Hn n L⟩) (d := d) (t := t) (ty := ty) (pos := pos) (af := af) (g := g)
 have e1 : (Hn n L).length = n + k := by rw [Hn_len, pb.k]
 unfold St.push at h
 rw [e1, Hn_push, pb.h] at h
 exact h⟩
instance putMap [tu : TU P t (.map kt et)] [kf1 : KF P kt kf] [hx : EC true l x (.omap (n + k))] [gb : GB L k (.map (es.map (mE kf vf)))] {xv : Value} [hy : EC true l y (.v xv)] [kv : KV kf xv key] [hz : EC true l z av] [ev1 : EV vf av v] [sb : SB L k (some (.map ((aput es key v).map (mE kf vf)))) L'] :
 HS P (.mapUpdate t x y z) l (Hn n L) (Hn n L') True := ⟨fun ho base ty pos af g => by
 have h := Hv.mapUpdate (P := P) (base := base) (s := ⟨l, Hn n L⟩) (kf := kf) (vf := vf) (l := es) (id := n + k) (k := key) (v := v) (ty := ty) (pos := pos) (af := af) (gd := g) (x := x) (y := y) (z := z) tu.h (hx.h rfl _) (by show (Hn n L)[n + k]? = _; rw [Hn_get]; exact gb.h) ((hy.h rfl _).trans (by rw [kv.h])) ((hz.h rfl _).trans ev1.h.symm)
 have e1 : (Hn n L).set (n + k) (some (AB.map ((aput es key v).map (mE kf vf)))) = Hn n L' := by rw [Hn_set, sb.h]
 rw [e1] at h
 exact h⟩
end
theorem Gh.mapM {L L' : List (Option AB)} {l : List AV} {n : Nat} {κ β : Type} {base : Cx} (k : Nat) (kf : κ → Value) (vf : β → AV) [gb : GB L k (.map [])] [sb : SB L k (some (.map (([] : List (κ × β)).map (mE kf vf)))) L'] : Gh base ⟨l, Hn n L⟩ ⟨l, Hn n L'⟩ := fun σ a w hr => by
 have : L' = L := by
  have h := sb.h;have h2 := gb.h;rw [← h];have hlt := (List.getElem?_eq_some_iff.1 h2).1;have h3 := (List.getElem?_eq_some_iff.1 h2).2;show L.set k (some (.map [])) = L
  rw [← h3];exact List.set_getElem_self hlt
 subst this;exact ⟨σ, hr, Ext.refl _⟩
end Go.Proofs.YtkbbcenjklaglaaGreat.AL
