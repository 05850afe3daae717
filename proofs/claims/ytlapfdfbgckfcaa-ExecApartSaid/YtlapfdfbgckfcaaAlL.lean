/- An intermediate logic over abstract blocks, further rules; no condition. -/
import Derived.Test.YtlapfdfbgckfcaaAlK
import Derived.MapKept
namespace Go.Proofs.Ytlapfdfbgckfcaa.AL
open Go Go.RowKit
set_option linter.unusedVariables false
set_option linter.unusedSimpArgs false
/-! Maps of the call's own. -/
/-- Keys that are compared as values are. -/
structure KeyT (P : Program) (kt : TypeId) (K : Value → Prop) : Prop where
  check : ∀ (em : Bool) (x : Value) (w : World), K x → (Instr.checkKey em 10000 kt x).run P w = .ok () w
  find : ∀ (x : Value) (es : List MapEntry) (w : World), K x → (∀ e ∈ es, K e.key) → ∃ r, (Instr.findKey kt x es).run P w = .ok r w ∧
    ((r = none ∧ ∀ e ∈ es, e.key ≠ x) ∨ ∃ j e, r = some (j, e.val) ∧ es[j]? = some e ∧ e.key = x)
  same : ∀ x, K x → Instr.sameBits 10000 x x = true
theorem KeyT.plain {P : Program} {kt : TypeId} {d : TypeDesc} (hd : P.underlying kt = some d) : KeyT P kt (MapKept.IsKey d) where
  check := fun em x w hx => MapKept.run_checkKey hd hx em 9999
  find := fun x es w hx hes => by
    rcases MapKept.findNow_spec hx es 0 hes with ⟨h1, h2⟩ | ⟨j, e, h1, h2, h3⟩
    · exact ⟨none, MapKept.run_findKey hd h1, .inl ⟨rfl, h2⟩⟩
    · refine ⟨_, MapKept.run_findKey hd h1, .inr ⟨j, e, by rw [Nat.zero_add], h2, h3⟩⟩
  same := fun x hx => MapKept.sameBits_self hx 10000
class KF (P : Program) (kt : TypeId) {κ : Type} (kf : κ → Value) : Prop where
  ex : ∃ K, KeyT P kt K ∧ ∀ k, K (kf k)
  inj : ∀ a b, kf a = kf b → a = b
@[reducible] def kS (s : ByteArray) : Value := .string s
@[reducible] def kI (n : Int) : Value := .int .i64 n
instance {P : Program} {kt : TypeId} [tu : TU P kt .string] : KF P kt kS := ⟨⟨_, KeyT.plain tu.h, fun _ => trivial⟩, fun a b h => by injection h⟩
instance {P : Program} {kt : TypeId} [tu : TU P kt (.int .i64)] : KF P kt kI := ⟨⟨_, KeyT.plain tu.h, fun _ => rfl⟩, fun a b h => by injection h⟩
section
variable {κ β : Type} [DecidableEq κ]
def aget : List (κ × β) → κ → Option β
  | [], _ => none
  | p :: l, k => if p.1 = k then some p.2 else aget l k
def aput : List (κ × β) → κ → β → List (κ × β)
  | [], k, v => [(k, v)]
  | p :: l, k, v => if p.1 = k then (k, v) :: l else p :: aput l k v
theorem aget_none {l : List (κ × β)} {k : κ} (h : ∀ p ∈ l, p.1 ≠ k) : aget l k = none := by
  induction l with
  | nil => rfl
  | cons p l ih =>
    unfold aget
    rw [if_neg (h p (by simp)), ih fun q hq => h q (by simp [hq])]
theorem aput_none {l : List (κ × β)} {k : κ} {v : β} (h : ∀ p ∈ l, p.1 ≠ k) : aput l k v = l ++ [(k, v)] := by
  induction l with
  | nil => rfl
  | cons p l ih =>
    unfold aput
    rw [if_neg (h p (by simp)), ih fun q hq => h q (by simp [hq])]; rfl
theorem aget_at {l : List (κ × β)} {k : κ} {j : Nat} {p : κ × β} (hd : ∀ (i i' : Nat) (q q' : κ × β), l[i]? = some q → l[i']? = some q' → q.1 = q'.1 → i = i') (hj : l[j]? = some p) (hk : p.1 = k) : aget l k = some p.2 := by
  induction l generalizing j with
  | nil => simp at hj
  | cons q l ih =>
    unfold aget
    cases j with
    | zero => simp at hj; subst hj; rw [if_pos hk]
    | succ j =>
      have hne : ¬ q.1 = k := fun h => by
        have := hd 0 (j + 1) q p rfl hj (by rw [h, hk])
        omega
      rw [if_neg hne]
      refine ih (fun i i' a b h1 h2 h3 => ?_) (by simpa using hj)
      have := hd (i + 1) (i' + 1) a b (by simpa using h1) (by simpa using h2) h3
      omega
theorem aput_at {l : List (κ × β)} {k : κ} {v : β} {j : Nat} {p : κ × β} (hd : ∀ (i i' : Nat) (q q' : κ × β), l[i]? = some q → l[i']? = some q' → q.1 = q'.1 → i = i') (hj : l[j]? = some p) (hk : p.1 = k) : aput l k v = l.set j (k, v) := by
  induction l generalizing j with
  | nil => simp at hj
  | cons q l ih =>
    unfold aput
    cases j with
    | zero => simp at hj; subst hj; rw [if_pos hk]; rfl
    | succ j =>
      have hne : ¬ q.1 = k := fun h => by
        have := hd 0 (j + 1) q p rfl hj (by rw [h, hk])
        omega
      rw [if_neg hne, List.set_cons_succ, ih (fun i i' a b h1 h2 h3 => ?_) (by simpa using hj)]
      have := hd (i + 1) (i' + 1) a b (by simpa using h1) (by simpa using h2) h3
      omega
theorem aget_aput {l : List (κ × β)} {k k' : κ} {v : β} : aget (aput l k v) k' = if k = k' then some v else aget l k' := by
  induction l with
  | nil => simp [aput, aget]
  | cons p l ih =>
    unfold aput
    by_cases h : p.1 = k
    · rw [if_pos h]
      simp only [aget, h]
      split <;> rfl
    · rw [if_neg h]
      simp only [aget, ih]
      by_cases h1 : p.1 = k'
      · rw [if_pos h1, if_pos h1, if_neg (fun h2 => h (by rw [h1, h2]))]
      · rw [if_neg h1, if_neg h1]
theorem aput_len {l : List (κ × β)} {k : κ} {v : β} : (aput l k v).length = l.length + if (aget l k).isSome then 0 else 1 := by
  induction l with
  | nil => rfl
  | cons p l ih =>
    unfold aput aget
    by_cases h : p.1 = k
    · rw [if_pos h, if_pos h]; rfl
    · rw [if_neg h, if_neg h, List.length_cons, ih, List.length_cons]; omega
end
@[reducible] def mE {κ β : Type} (kf : κ → Value) (vf : β → AV) (p : κ × β) : Value × AV := (kf p.1, vf p.2)
section
variable {P : Program} {base : Cx} {s : St} {κ β : Type} [DecidableEq κ] {kf : κ → Value} {vf : β → AV} {l : List (κ × β)}
/-- What is found at a key. -/
theorem map_find {E : Env} {kt : TypeId} [kk : KF P kt kf] {ents : Array MapEntry} {clock : Nat} (h : MapR E (l.map (mE kf vf)) ents clock) (k : κ) :
    (∀ (em : Bool) (w : World), (Instr.checkKey em 10000 kt (kf k)).run P w = .ok () w) ∧ Instr.sameBits 10000 (kf k) (kf k) = true ∧
    ((∀ w : World, (Instr.findKey kt (kf k) ents.toList).run P w = .ok none w) ∧ (∀ e ∈ ents.toList, e.key ≠ kf k) ∧ aget l k = none ∧ (∀ v : β, aput l k v = l ++ [(k, v)]) ∨
     ∃ j e v0, (∀ w : World, (Instr.findKey kt (kf k) ents.toList).run P w = .ok (some (j, e.val)) w) ∧ ents[j]? = some e ∧ e.key = kf k ∧ j < l.length ∧ aget l k = some v0 ∧ VR E (vf v0) e.val ∧ (∀ v : β, aput l k v = l.set j (k, v))) := by
  obtain ⟨K, hK, hk⟩ := kk.ex
  have hlen : ents.size = l.length := by simpa using h.1
  have hget : ∀ (i : Nat) (p : κ × β) (m : MapEntry), l[i]? = some p → ents[i]? = some m → m.key = kf p.1 ∧ VR E (vf p.2) m.val := fun i p m h1 h2 => h.2.1 i (mE kf vf p) m (by rw [List.getElem?_map, h1]; rfl) h2
  have hkeys : ∀ e ∈ ents.toList, K e.key := by
    intro e he
    obtain ⟨i, hi, rfl⟩ := List.getElem_of_mem he
    have hi' : i < ents.size := by simpa using hi
    have h1 : ents[i]? = some ents[i] := Array.getElem?_eq_getElem hi'
    have h2 := hget i l[i] ents[i] (List.getElem?_eq_getElem (by omega)) h1
    rw [show ents.toList[i] = ents[i] from rfl, h2.1]; exact hk _
  have hd : ∀ (i i' : Nat) (q q' : κ × β), l[i]? = some q → l[i']? = some q' → q.1 = q'.1 → i = i' := by
    intro i i' q q' h1 h2 h3
    have l1 := (List.getElem?_eq_some_iff.1 h1).1
    have l2 := (List.getElem?_eq_some_iff.1 h2).1
    have e1 : ents[i]? = some ents[i] := Array.getElem?_eq_getElem (by omega)
    have e2 : ents[i']? = some ents[i'] := Array.getElem?_eq_getElem (by omega)
    exact h.2.2.2 i i' _ _ e1 e2 (.inr (by rw [(hget i q _ h1 e1).1, (hget i' q' _ h2 e2).1, h3]))
  refine ⟨fun em w => hK.check em _ w (hk k), hK.same _ (hk k), ?_⟩
  have hdet : ∀ w w' : World, ∀ r r', (Instr.findKey kt (kf k) ents.toList).run P w = .ok r w → (Instr.findKey kt (kf k) ents.toList).run P w' = .ok r' w' → True := fun _ _ _ _ _ _ => trivial
  by_cases hne : ∀ e ∈ ents.toList, e.key ≠ kf k
  · left
    have hn : ∀ p ∈ l, p.1 ≠ k := by
      intro p hp hpk
      obtain ⟨i, hi, rfl⟩ := List.getElem_of_mem hp
      have e1 : ents[i]? = some ents[i] := Array.getElem?_eq_getElem (by omega)
      refine hne ents[i] (Array.getElem_mem_toList _) ?_
      rw [(hget i l[i] _ (List.getElem?_eq_getElem hi) e1).1, hpk]
    refine ⟨fun w => ?_, hne, aget_none hn, fun v => aput_none hn⟩
    obtain ⟨r, h1, h2⟩ := hK.find (kf k) ents.toList w (hk k) hkeys
    rcases h2 with ⟨rfl, _⟩ | ⟨j, e, rfl, h4, h5⟩
    · exact h1
    · exact absurd h5 (hne e (List.mem_of_getElem? h4))
  · right
    have hex : ∃ e ∈ ents.toList, e.key = kf k := Classical.byContradiction fun h => hne fun e he hk => h ⟨e, he, hk⟩
    obtain ⟨e, he, hek⟩ := hex
    obtain ⟨j, hj, hje⟩ := List.getElem_of_mem he
    have hj' : j < ents.size := by simpa using hj
    have e1 : ents[j]? = some e := by rw [Array.getElem?_eq_getElem hj', ← hje]; rfl
    have hjl : j < l.length := by omega
    have l1 : l[j]? = some l[j] := List.getElem?_eq_getElem hjl
    have hg := hget j l[j] e l1 e1
    have hkk : (l[j]).1 = k := kk.inj _ _ (by rw [← hg.1, hek])
    refine ⟨j, e, (l[j]).2, fun w => ?_, e1, hek, hjl, aget_at hd l1 hkk, hg.2, fun v => aput_at hd l1 hkk⟩
    obtain ⟨r, h1, h2⟩ := hK.find (kf k) ents.toList w (hk k) hkeys
    rcases h2 with ⟨rfl, h3⟩ | ⟨j', e', rfl, h4, h5⟩
    · exact absurd hek (h3 e he)
    · have h4' : ents[j']? = some e' := by simpa using h4
      have : j' = j := h.2.2.2 j' j e' e h4' e1 (.inr (by rw [h5, hek]))
      subst this
      rw [e1] at h4'
      obtain rfl := Option.some.inj h4'
      exact h1
theorem omap_val {σ : Nat → Value} {w : World} {H : List (Option AB)} {F : Nat → Prop} {id : Nat} {es : List (Value × AV)} {x : Value} (h : VR ⟨w, H, σ, F⟩ (.omap id) x) (hH : H[id]? = some (some (.map es))) : x = σ id := by
  cases h with
  | omap h _ => exact (h.2 _ hH).symm
/-- A value at a key, and whether it is there. -/
theorem Lt.lookup {t kt et : TypeId} {x y : Operand} {id : Nat} {z : Value} {k : κ} {d : β} (c : Bool) [kk : KF P kt kf] (ht : P.underlying t = some (.map kt et)) (hz : (P.info? et).bind (·.zero) = some z) (hzd : TELL (.v z) (vf d))
    (hx : ev s x = .omap id) (hH : s.H[id]? = some (some (.map (l.map (mE kf vf))))) (hy : ev s y = .v (kf k)) :
    Lt P (.lookup t x y c) s (if c then .tup [vf ((aget l k).getD d), .v (.bool (aget l k).isSome)] else vf ((aget l k).getD d)) := fun d' t' pos af g base σ a w hr => by
  obtain ⟨r, ents, clock, h1, h2, h3, h4⟩ := hr.1.live id _ hH
  have h1 : σ id = .map (some r) := h1
  have h3 : w.heap[r]? = some (.map ents clock) := h3
  have hlt : r < w.heap.size := (Array.getElem?_eq_some_iff.1 h3).1
  have h5 := ev_ok hr x
  rw [hx] at h5
  have hxe : a.eval x = .map (some r) := (omap_val h5 hH).trans h1
  have hye := ev_v hr hy
  have hzero : ∀ w : World, (zeroValue et).run P w = .ok z w := fun w => by
    cases hi : P.info? et with
    | none => rw [hi] at hz; cases hz
    | some i =>
      rw [hi] at hz
      have hz : i.zero = some z := hz
      simp [zeroValue, typeInfo, hi, hz, Result.andThen]
  obtain ⟨q1, q2, q3⟩ := map_find (P := P) (kt := kt) h4 k
  have vr_tup : ∀ {av : AV} {v : Value} {b : Bool}, VR ⟨w, s.H, σ, base.F⟩ av v → VR ⟨w, s.H, σ, base.F⟩ (.tup [av, .v (.bool b)]) (.tuple #[v, .bool b]) := fun hv =>
    .tup (us := [_, _]) rfl (vr_cons hv (vr_cons (.v _) vr_nil))
  rcases q3 with ⟨q3, _, q5, _⟩ | ⟨j, e, v0, q3, q4, q5, q6, q7, q8, _⟩
  · rw [q5]
    refine ⟨if c then .tuple #[z, .bool false] else z, ?_, fun w' hw => ?_⟩
    · cases c
      · exact hzd.h _ _ (.v z)
      · exact vr_tup (hzd.h _ _ (.v z))
    · have h3' : w'.heap[r]? = some (.map ents clock) := (hw.keep r hlt).trans h3
      simp [execOp, Instr.lookup, hxe, hye, run_underlying ht, MapKept.run_getObj_map h3', q1, q3 w', hzero, Result.andThen]
  · rw [q7]
    refine ⟨if c then .tuple #[e.val, .bool true] else e.val, ?_, fun w' hw => ?_⟩
    · cases c
      · exact q8
      · exact vr_tup q8
    · have h3' : w'.heap[r]? = some (.map ents clock) := (hw.keep r hlt).trans h3
      simp [execOp, Instr.lookup, hxe, hye, run_underlying ht, MapKept.run_getObj_map h3', q1, q3 w', hzero, Result.andThen]
theorem Lt.len_map {t kt et : TypeId} {x : Operand} {id : Nat} {es : List (Value × AV)} (ht : P.underlying t = some (.map kt et)) (hx : ev s x = .omap id) (hH : s.H[id]? = some (some (.map es))) :
    Lt P (.call { callee := .builtin .len, args := #[x], argTypes := #[t] }) s (.v (.int .i64 (es.length : Int))) := fun d' t' pos af g base σ a w hr => by
  obtain ⟨r, ents, clock, h1, h2, h3, h4⟩ := hr.1.live id _ hH
  have h1 : σ id = .map (some r) := h1
  have h3 : w.heap[r]? = some (.map ents clock) := h3
  have hlt : r < w.heap.size := (Array.getElem?_eq_some_iff.1 h3).1
  have h5 := ev_ok hr x
  rw [hx] at h5
  have hxe : a.eval x = .map (some r) := (omap_val h5 hH).trans h1
  refine ⟨.int .i64 (es.length : Int), .v _, fun w' hw => ?_⟩
  have h3' : w'.heap[r]? = some (.map ents clock) := (hw.keep r hlt).trans h3
  have h6 : ents.size = es.length := h4.1
  simp [execOp, resolve, invoke, builtin, Builtin.len_, hxe, run_underlying ht, MapKept.run_getObj_map h3', goInt, h6, Result.andThen]
theorem HvK.makeMap {d : Option Tmp} {t ty : TypeId} {pos : String} {af : Array Edge} {g : Option (Nat × Bool)} :
    HvK P base ⟨d, .makeMap t none, ty, pos, af, g⟩ s (fun s' => s' = (s.push (.map [])).put d (.omap s.H.length)) := by
  intro σ a w hr Q K hk
  unfold Oper.wp
  have hrun : (execOp a.eval ⟨d, .makeMap t none, ty, pos, af, g⟩).run P w = .ok (.value (.map (some w.heap.size))) (w.alloc (.map #[] 0)) := by
    simp [execOp, Instr.makeMap, Result.andThen]
  rw [hrun]
  have hv : ∀ g, blkOf (.map (some w.heap.size)) = some g → w.heap.size ≤ g := fun g hg => by obtain rfl := Option.some.inj hg; exact Nat.le_refl _
  have hkp := keep_alloc w (.map #[] 0)
  have he := Ext.push (base := base) (w := w) (H := s.H) (σ := σ) (.map []) (.map (some w.heap.size)) (w1 := w.alloc (.map #[] 0)) rfl rfl rfl hkp hv
  have hnew : (w.alloc (.map #[] 0)).heap[w.heap.size]? = some (.map #[] 0) := heap_alloc_at w _
  have hH := hr.1.push he hkp hv (b := .map []) ⟨w.heap.size, #[], 0, by simp [pushσ], hr.1.bs, hnew, rfl, fun i p m h => by simp at h, fun i m h => by simp at h, fun i j m m' h => by simp at h⟩
  have hrel : Rel base (pushσ σ s.H.length (.map (some w.heap.size))) (s.push (.map [])) a (w.alloc (.map #[] 0)) := ⟨hH, hr.2.1.ext he, hr.2.2⟩
  refine hk _ _ _ _ (hrel.put d (.omap ⟨by simp [St.push], fun es h1 => by simp [pushσ]⟩ ⟨_, rfl⟩)) (by rw [put_H]; exact he) hkp rfl
theorem Hv.mapUpdate {t kt et ty : TypeId} {x y z : Operand} {pos : String} {af : Array Edge} {gd : Option (Nat × Bool)} {id : Nat} {k : κ} {v : β} [kk : KF P kt kf] (ht : P.underlying t = some (.map kt et))
    (hx : ev s x = .omap id) (hH : s.H[id]? = some (some (.map (l.map (mE kf vf))))) (hy : ev s y = .v (kf k)) (hz : ev s z = vf v) :
    Hv P base ⟨none, .mapUpdate t x y z, ty, pos, af, gd⟩ s (fun s' => s' = ⟨s.fr, s.H.set id (some (.map ((aput l k v).map (mE kf vf))))⟩) := by
  intro σ a w hr Q K hk
  obtain ⟨r, ents, clock, h1, h2, h3, h4⟩ := hr.1.live id _ hH
  have h1 : σ id = .map (some r) := h1
  have h3 : w.heap[r]? = some (.map ents clock) := h3
  have hlt : r < w.heap.size := (Array.getElem?_eq_some_iff.1 h3).1
  have h5 := ev_ok hr x
  rw [hx] at h5
  have hxe : a.eval x = .map (some r) := (omap_val h5 hH).trans h1
  have hye := ev_v hr hy
  have hzv := ev_ok hr z
  rw [hz] at hzv
  have hlen : ents.size = l.length := by simpa using h4.1
  have hget : ∀ (i : Nat) (p : κ × β) (m : MapEntry), l[i]? = some p → ents[i]? = some m → m.key = kf p.1 ∧ VR ⟨w, s.H, σ, base.F⟩ (vf p.2) m.val := fun i p m h1 h2 => h4.2.1 i (mE kf vf p) m (by rw [List.getElem?_map, h1]; rfl) h2
  obtain ⟨q1, q2, q3⟩ := map_find (P := P) (kt := kt) h4 k
  have fin : ∀ (ents' : Array MapEntry) (clock' : Nat), (Instr.mapUpdate t (.map (some r)) (kf k) (a.eval z)).run P w = .ok () (setBlk w r (.map ents' clock')) →
      (Ext ⟨w, s.H, σ, base.F⟩ ⟨setBlk w r (.map ents' clock'), s.H.set id (some (.map ((aput l k v).map (mE kf vf)))), σ, base.F⟩ → MapR ⟨setBlk w r (.map ents' clock'), s.H.set id (some (.map ((aput l k v).map (mE kf vf)))), σ, base.F⟩ ((aput l k v).map (mE kf vf)) ents' clock') → (Oper.wp P ⟨none, .mapUpdate t x y z, ty, pos, af, gd⟩ a w K Q) := by
    intro ents' clock' hrun hm
    unfold Oper.wp
    have hrun' : (execOp a.eval ⟨none, .mapUpdate t x y z, ty, pos, af, gd⟩).run P w = .ok .skip (setBlk w r (.map ents' clock')) := by
      simp only [execOp, hxe, hye, Sem.run_bind, hrun, Result.andThen_ok, Sem.run_pure]
    rw [hrun']
    obtain ⟨h9, h10⟩ := upd_block hr hH (g := r) (by rw [h1]; rfl) (.map ents' clock') (b' := .map ((aput l k v).map (mE kf vf))) trivial (fun he => ⟨r, ents', clock', h1, h2, setBlk_self w _ hlt, hm he⟩)
    exact hk σ _ _ _ h9 h10 rfl
  rcases q3 with ⟨q3, q4, q5, q6⟩ | ⟨j, e, v0, q3, q4, q5, q6, q7, q8, q9⟩
  · refine fin (ents.push { key := kf k, val := a.eval z, born := clock }) (clock + 1) ?_ fun he => ?_
    · simp [Instr.mapUpdate, run_underlying ht, MapKept.run_getObj_map h3, q1, q3 w, MapKept.run_setObj_map _ h3, Result.andThen, setBlk]
    · rw [q6] at he ⊢
      have key : ∀ (i : Nat) (m : MapEntry), (ents.push { key := kf k, val := a.eval z, born := clock })[i]? = some m → (i < ents.size ∧ ents[i]? = some m) ∨ (i = ents.size ∧ m = { key := kf k, val := a.eval z, born := clock }) := by
        intro i m hm
        rw [Array.getElem?_push] at hm
        by_cases hi : i = ents.size
        · rw [if_pos hi] at hm; exact .inr ⟨hi, (Option.some.inj hm).symm⟩
        · rw [if_neg hi] at hm; exact .inl ⟨(Array.getElem?_eq_some_iff.1 hm).1, hm⟩
      refine ⟨by simp [hlen], fun i p m hp hm => ?_, fun i m hm => ?_, fun i i' m m' hm hm' hor => ?_⟩
      · rw [List.getElem?_map] at hp
        rcases key i m hm with ⟨hi, hm⟩ | ⟨rfl, rfl⟩
        · rw [List.getElem?_append_left (by omega)] at hp
          cases hli : l[i]? with
          | none => rw [hli] at hp; cases hp
          | some q =>
            rw [hli] at hp
            obtain rfl := Option.some.inj hp
            exact ⟨(hget i q m hli hm).1, (hget i q m hli hm).2.ext he⟩
        · rw [List.getElem?_append_right (by omega), hlen, Nat.sub_self] at hp
          obtain rfl := Option.some.inj hp
          exact ⟨rfl, hzv.ext he⟩
      · rcases key i m hm with ⟨hi, hm⟩ | ⟨rfl, rfl⟩
        · have := h4.2.2.1 i m hm; omega
        · exact Nat.lt_succ_self _
      · rcases key i m hm with ⟨hi, hm⟩ | ⟨rfl, rfl⟩ <;> rcases key i' m' hm' with ⟨hi', hm'⟩ | ⟨rfl, rfl⟩
        · exact h4.2.2.2 i i' m m' hm hm' hor
        · rcases hor with hor | hor
          · have h6 := h4.2.2.1 i m hm
            have hor : m.born = clock := hor
            omega
          · exact absurd hor (q4 m (by have := (Array.getElem?_eq_some_iff.1 hm).2; rw [← this]; exact Array.getElem_mem_toList _))
        · rcases hor with hor | hor
          · have h6 := h4.2.2.1 i' m' hm'
            have hor : clock = m'.born := hor
            omega
          · exact absurd hor.symm (q4 m' (by have := (Array.getElem?_eq_some_iff.1 hm').2; rw [← this]; exact Array.getElem_mem_toList _))
        · rfl
  · refine fin (ents.modify j fun e => { e with key := kf k, val := a.eval z }) clock ?_ fun he => ?_
    · have hst : ∀ w : World, (Instr.keyThatStays e.key (kf k)).run P w = .ok (kf k) w := fun w => by rw [q5]; simp [Instr.keyThatStays, q2]
      simp [Instr.mapUpdate, run_underlying ht, MapKept.run_getObj_map h3, q1, q3 w, MapKept.run_setObj_map _ h3, Result.andThen, setBlk, q4, hst]
    · rw [q9] at he ⊢
      have key : ∀ (i : Nat) (m : MapEntry), (ents.modify j fun e => { e with key := kf k, val := a.eval z })[i]? = some m → ∃ m0, ents[i]? = some m0 ∧ m.born = m0.born ∧ m.key = m0.key ∧ ((i = j ∧ m.val = a.eval z) ∨ (i ≠ j ∧ m.val = m0.val)) := by
        intro i m hm
        rw [Array.getElem?_modify] at hm
        by_cases hi : j = i
        · subst hi
          rw [if_pos rfl, q4] at hm
          obtain rfl := Option.some.inj hm
          exact ⟨e, q4, rfl, q5.symm, .inl ⟨rfl, rfl⟩⟩
        · rw [if_neg hi] at hm
          exact ⟨m, hm, rfl, rfl, .inr ⟨fun h => hi h.symm, rfl⟩⟩
      refine ⟨by simp [hlen], fun i p m hp hm => ?_, fun i m hm => ?_, fun i i' m m' hm hm' hor => ?_⟩
      · obtain ⟨m0, g1, g2, g3, g4⟩ := key i m hm
        rw [List.getElem?_map] at hp
        rcases g4 with ⟨rfl, g4⟩ | ⟨g4, g5⟩
        · rw [List.getElem?_set_self q6] at hp
          obtain rfl := Option.some.inj hp
          rw [q4] at g1
          obtain rfl := Option.some.inj g1
          exact ⟨g3.trans q5, by rw [g4]; exact hzv.ext he⟩
        · rw [List.getElem?_set_ne (Ne.symm g4)] at hp
          cases hli : l[i]? with
          | none => rw [hli] at hp; cases hp
          | some q =>
            rw [hli] at hp
            obtain rfl := Option.some.inj hp
            exact ⟨g3.trans (hget i q m0 hli g1).1, by rw [g5]; exact (hget i q m0 hli g1).2.ext he⟩
      · obtain ⟨m0, g1, g2, _⟩ := key i m hm
        rw [g2]; exact h4.2.2.1 i m0 g1
      · obtain ⟨m0, g1, g2, g3, _⟩ := key i m hm
        obtain ⟨m1, k1, k2, k3, _⟩ := key i' m' hm'
        exact h4.2.2.2 i i' m0 m1 g1 k1 (by rw [← g2, ← k2, ← g3, ← k3]; exact hor)
end
section
variable {P : Program} {c : Bool} {L L' : List (Option AB)} {l : List AV} {x y z : Operand} {t kt et : TypeId} {n k kk sz bytes : Nat} {κ β : Type} [DecidableEq κ] {kf : κ → Value} {vf : β → AV} {es : List (κ × β)} {key : κ} {v d : β} {zz : Value} {av : AV}
/-- Of which key a value is. -/
class KV (kf : κ → Value) (x : Value) (k : outParam κ) : Prop where
  h : kf k = x
instance {s : ByteArray} : KV kS (.string s) s := ⟨rfl⟩
instance {n : Int} : KV kI (.int .i64 n) n := ⟨rfl⟩
/-- Of which element a value is. -/
class EV (vf : β → AV) (av : AV) (v : outParam β) : Prop where
  h : vf v = av
/-- The element that a zero is. -/
class ZV (vf : β → AV) (z : Value) (d : outParam β) : Prop where
  h : TELL (.v z) (vf d)
@[reducible] def vI (n : Int) : AV := .v (.int .i64 n)
instance {n : Int} : EV vI (.v (.int .i64 n)) n := ⟨rfl⟩
instance : ZV vI (.int .i64 0) 0 := ⟨tellRefl⟩
instance lookup2 [tu : TU P t (.map kt et)] [ti : TI P et zz sz bytes] [kf1 : KF P kt kf] [hx : EC c l x (.omap (n + kk))] [gb : GB L kk (.map (es.map (mE kf vf)))] {xv : Value} [hy : EC c l y (.v xv)] [kv : KV kf xv key] [zv : ZV vf zz d] :
    LC c P (.lookup t x y true) l (Hn n L) (.tup [vf ((aget es key).getD d), .v (.bool (aget es key).isSome)]) := ⟨fun hc => Lt.lookup (s := ⟨l, Hn n L⟩) true tu.h ti.zero zv.h (hx.h hc _) (by show (Hn n L)[n + kk]? = _; rw [Hn_get]; exact gb.h) ((hy.h hc _).trans (by rw [kv.h]))⟩
instance lookup1 [tu : TU P t (.map kt et)] [ti : TI P et zz sz bytes] [kf1 : KF P kt kf] [hx : EC c l x (.omap (n + kk))] [gb : GB L kk (.map (es.map (mE kf vf)))] {xv : Value} [hy : EC c l y (.v xv)] [kv : KV kf xv key] [zv : ZV vf zz d] :
    LC c P (.lookup t x y false) l (Hn n L) (vf ((aget es key).getD d)) := ⟨fun hc => Lt.lookup (s := ⟨l, Hn n L⟩) false tu.h ti.zero zv.h (hx.h hc _) (by show (Hn n L)[n + kk]? = _; rw [Hn_get]; exact gb.h) ((hy.h hc _).trans (by rw [kv.h]))⟩
instance lenOMap {es : List (Value × AV)} [tu : TU P t (.map kt et)] [hx : EC c l x (.omap (n + kk))] [gb : GB L kk (.map es)] : LC c P (.call { callee := .builtin .len, args := #[x], argTypes := #[t] }) l (Hn n L) (.v (.int .i64 (es.length : Int))) := ⟨fun hc => Lt.len_map (s := ⟨l, Hn n L⟩) tu.h (hx.h hc _) (by show (Hn n L)[n + kk]? = _; rw [Hn_get]; exact gb.h)⟩
instance mkMap [pb : PB L (some (.map [])) k L'] : HM P (.makeMap t none) l (Hn n L) (.omap (n + k)) (Hn n L') True := ⟨fun ho base d ty pos af g => by
  have h := HvK.makeMap (P := P) (base := base) (s := ⟨l, Hn n L⟩) (d := d) (t := t) (ty := ty) (pos := pos) (af := af) (g := g)
  have e1 : (Hn n L).length = n + k := by rw [Hn_len, pb.k]
  unfold St.push at h
  rw [e1, Hn_push, pb.h] at h
  exact h⟩
instance putMap [tu : TU P t (.map kt et)] [kf1 : KF P kt kf] [hx : EC true l x (.omap (n + k))] [gb : GB L k (.map (es.map (mE kf vf)))] {xv : Value} [hy : EC true l y (.v xv)] [kv : KV kf xv key] [hz : EC true l z av] [ev1 : EV vf av v] [sb : SB L k (some (.map ((aput es key v).map (mE kf vf)))) L'] :
    HS P (.mapUpdate t x y z) l (Hn n L) (Hn n L') True := ⟨fun ho base ty pos af g => by
  have h := Hv.mapUpdate (P := P) (base := base) (s := ⟨l, Hn n L⟩) (kf := kf) (vf := vf) (l := es) (id := n + k) (k := key) (v := v) (ty := ty) (pos := pos) (af := af) (gd := g) (x := x) (y := y) (z := z) tu.h (hx.h rfl _) (by show (Hn n L)[n + k]? = _; rw [Hn_get]; exact gb.h) ((hy.h rfl _).trans (by rw [kv.h])) ((hz.h rfl _).trans ev1.h.symm)
  have e1 : (Hn n L).set (n + k) (some (AB.map ((aput es key v).map (mE kf vf)))) = Hn n L' := by rw [Hn_set, sb.h]
  rw [e1] at h
  exact h⟩
end
/-- A map that has nothing yet, by what its keys and elements will be. -/
theorem Gh.mapM {L L' : List (Option AB)} {l : List AV} {n : Nat} {κ β : Type} {base : Cx} (k : Nat) (kf : κ → Value) (vf : β → AV) [gb : GB L k (.map [])] [sb : SB L k (some (.map (([] : List (κ × β)).map (mE kf vf)))) L'] : Gh base ⟨l, Hn n L⟩ ⟨l, Hn n L'⟩ := fun σ a w hr => by
  have : L' = L := by
    have h := sb.h
    have h2 := gb.h
    rw [← h]
    have hlt := (List.getElem?_eq_some_iff.1 h2).1
    have h3 := (List.getElem?_eq_some_iff.1 h2).2
    show L.set k (some (.map [])) = L
    rw [← h3]
    exact List.set_getElem_self hlt
  subst this
  exact ⟨σ, hr, Ext.refl _⟩

end Go.Proofs.Ytlapfdfbgckfcaa.AL
