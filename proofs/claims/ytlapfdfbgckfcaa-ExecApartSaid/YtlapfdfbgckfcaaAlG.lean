/- An intermediate logic over abstract blocks, further rules; no condition. -/
import Derived.Test.YtlapfdfbgckfcaaAlF
import Derived.Laws.StructEq
namespace Go.Proofs.Ytlapfdfbgckfcaa.AL
open Go Go.RowKit
set_option linter.unusedVariables false
set_option linter.unusedSimpArgs false
/-! Structs that are held against each other; rows of any make that are written no more. -/
section
/-- The fields of a struct, for ==. -/
class SFL (P : Program) (t : TypeId) (fl : outParam (List Field)) : Prop where
  h : ∃ fs : Array Field, P.underlying t = some (.struct fs) ∧ fs.toList = fl ∧ P.stoodInHeld t = false ∧ (fl.all fun f => !(f.name == "_")) = true ∧ P.eqGuardType P.depth t = false
class EQF (P : Program) (fs : List Field) (cs cs' : List AV) (b : outParam Bool) : Prop where
  h : (fs.all fun f => !(f.name == "_")) = true → ∀ (xs ys : List Value), (∀ (j : Nat) (x : Value), cs[j]? = some (.v x) → xs[j]? = some x) → (∀ (j : Nat) (x : Value), cs'[j]? = some (.v x) → ys[j]? = some x) → ∀ d w, (Op.eqFields (d + 1) ⟨xs⟩ ⟨ys⟩ fs).run P w = .ok b w
instance {P : Program} {cs cs' : List AV} : EQF P [] cs cs' true := ⟨fun _ _ _ _ _ d w => by simp [Op.eqFields]⟩
theorem eqf_step {P : Program} {d : Nat} {xs ys : Array Value} {f : Field} {fs : List Field} {a b : Value} {r s : Bool} {w : World} (hn : (f.name == "_") = false) (ha : (part f.type xs f.offset).run P w = .ok a w) (hb : (part f.type ys f.offset).run P w = .ok b w) (he : (Op.equalIn d f.type a b).run P w = .ok r w) (hr : (Op.eqFields d xs ys fs).run P w = .ok s w) : (Op.eqFields d xs ys (f :: fs)).run P w = .ok (r && s) w := by
  have hn' : ¬ f.name = "_" := by simpa using hn
  unfold Op.eqFields
  simp only [ne_eq, hn', not_false_eq_true, if_true, Sem.run_bind, ha, hb, he, Result.andThen_ok]
  cases r
  · simp
  · simpa using hr
theorem run_part1 {P : Program} {t : TypeId} {xs : List Value} {off : Nat} {x : Value} (hg : aggB P t = some false) (h : xs[off]? = some x) (w : World) : (part t ⟨xs⟩ off).run P w = .ok x w := by
  unfold part
  simp [run_isAgg hg, h]
variable {P : Program} {cs cs' : List AV} {b : Bool} {fs : List Field} {nm tag pk : String} {ty off bo : Nat} {em : Bool}
instance eqfInt {k : IntKind} {p q : Int} [tu : TU P ty (.int k)] [tg : TG P ty false 1] [g : GL cs off (.v (.int k p))] [g' : GL cs' off (.v (.int k q))] [h : EQF P fs cs cs' b] : EQF P (⟨nm, ty, off, em, tag, pk, bo⟩ :: fs) cs cs' (decide (p = q) && b) := ⟨fun hn xs ys hx hy d w => by
  simp only [List.all_cons, Bool.and_eq_true, Bool.not_eq_true'] at hn
  refine eqf_step hn.1 (run_part1 tg.g (hx _ _ g.h) w) (run_part1 tg.g (hy _ _ g'.h) w) ?_ (h.h hn.2 xs ys hx hy d w)
  simp only [Op.equalIn, Sem.run_bind, run_underlying tu.h, Result.andThen_ok]
  have : (p == q) = decide (p = q) := by by_cases h : p = q <;> simp [h]
  simp [this]⟩
instance eqfStr {p q : ByteArray} [tu : TU P ty .string] [tg : TG P ty false 1] [g : GL cs off (.v (.string p))] [g' : GL cs' off (.v (.string q))] [h : EQF P fs cs cs' b] : EQF P (⟨nm, ty, off, em, tag, pk, bo⟩ :: fs) cs cs' (decide (p.toList = q.toList) && b) := ⟨fun hn xs ys hx hy d w => by
  simp only [List.all_cons, Bool.and_eq_true, Bool.not_eq_true'] at hn
  refine eqf_step hn.1 (run_part1 tg.g (hx _ _ g.h) w) (run_part1 tg.g (hy _ _ g'.h) w) ?_ (h.h hn.2 xs ys hx hy d w)
  simp only [Op.equalIn, Sem.run_bind, run_underlying tu.h, Result.andThen_ok]
  have : (p.toList == q.toList) = decide (p.toList = q.toList) := by by_cases h : p.toList = q.toList <;> simp [h]
  simp [beq_toListBytes, this]⟩
instance eqfBool {p q : Bool} [tu : TU P ty .bool] [tg : TG P ty false 1] [g : GL cs off (.v (.bool p))] [g' : GL cs' off (.v (.bool q))] [h : EQF P fs cs cs' b] : EQF P (⟨nm, ty, off, em, tag, pk, bo⟩ :: fs) cs cs' ((p == q) && b) := ⟨fun hn xs ys hx hy d w => by
  simp only [List.all_cons, Bool.and_eq_true, Bool.not_eq_true'] at hn
  refine eqf_step hn.1 (run_part1 tg.g (hx _ _ g.h) w) (run_part1 tg.g (hy _ _ g'.h) w) ?_ (h.h hn.2 xs ys hx hy d w)
  simp only [Op.equalIn, Sem.run_bind, run_underlying tu.h, Result.andThen_ok]
  simp⟩
theorem agg_ev {base : Cx} {σ : Nat → Value} {s : St} {a : Act} {w : World} (hr : Rel base σ s a w) {x : Operand} (h : ev s x = .agg cs) : ∃ us : List Value, a.eval x = .agg ⟨us⟩ ∧ ∀ (j : Nat) (y : Value), cs[j]? = some (.v y) → us[j]? = some y := by
  have h1 := ev_ok hr x
  rw [h] at h1
  generalize a.eval x = v at h1
  cases h1 with
  | agg hl h1c hu =>
    rename_i us
    refine ⟨us, rfl, fun j y hj => ?_⟩
    have hlt : j < us.length := by rw [hl]; exact (List.getElem?_eq_some_iff.1 hj).1
    have h2 := hu j (.v y) us[j] hj (List.getElem?_eq_getElem hlt)
    cases h2
    exact List.getElem?_eq_getElem hlt
theorem run_eqAgg {t : TypeId} {fl : List Field} [sf : SFL P t fl] {us vs : List Value} (he : ∀ d w, (Op.eqFields (d + 1) ⟨us⟩ ⟨vs⟩ fl).run P w = .ok b w) (w : World) : (Op.equal t (.agg ⟨us⟩) (.agg ⟨vs⟩)).run P w = .ok b w := by
  obtain ⟨fs, h1, h2, h3, h4, h5⟩ := sf.h
  unfold Op.equal Op.maxDepth
  have hf : P.fieldsOf t = fs := by simp [Program.fieldsOf, h1]
  rw [run_equalIn_struct (P := P) w 9999 t ⟨us⟩ ⟨vs⟩ (by rw [hf]; exact h1) h3, hf, h2]
  exact he 9998 w
theorem Pu.eqlA {s : St} {xt yt : TypeId} {x y : Operand} {fl : List Field} [sf : SFL P xt fl] (hx : ev s x = .agg cs) (hy : ev s y = .agg cs') [h : EQF P fl cs cs' b] : Pu P (.binOp .eql xt x y yt) s (.v (.bool b)) :=
  Pu.of fun base σ a w hr d t pos af g w' => by
    obtain ⟨us, h1, h2⟩ := agg_ev hr hx
    obtain ⟨vs, h3, h4⟩ := agg_ev hr hy
    obtain ⟨fs, q1, q2, q3, q4, q5⟩ := sf.h
    have he := run_eqAgg (P := P) (t := xt) (fun d w => h.h q4 us vs h2 h4 d w) w'
    unfold execOp
    simp only [h1, h3, Sem.run_bind, eqGuard]
    simp [q5, binOp, he]
theorem Pu.neqA {s : St} {xt yt : TypeId} {x y : Operand} {fl : List Field} [sf : SFL P xt fl] (hx : ev s x = .agg cs) (hy : ev s y = .agg cs') [h : EQF P fl cs cs' b] : Pu P (.binOp .neq xt x y yt) s (.v (.bool (!b))) :=
  Pu.of fun base σ a w hr d t pos af g w' => by
    obtain ⟨us, h1, h2⟩ := agg_ev hr hx
    obtain ⟨vs, h3, h4⟩ := agg_ev hr hy
    obtain ⟨fs, q1, q2, q3, q4, q5⟩ := sf.h
    have he := run_eqAgg (P := P) (t := xt) (fun d w => h.h q4 us vs h2 h4 d w) w'
    unfold execOp
    simp only [h1, h3, Sem.run_bind, eqGuard]
    simp [q5, binOp, he]
variable {c : Bool} {l : List AV} {H : List (Option AB)} {x y : Operand} {t t' : TypeId} {fl : List Field}
instance [h : EC c l x (.agg cs)] [h' : EC c l y (.agg cs')] [sf : SFL P t fl] [e : EQF P fl cs cs' b] : PC c P (.binOp .eql t x y t') l H (.v (.bool b)) := ⟨fun hc => Pu.eqlA (h.h hc H) (h'.h hc H)⟩
instance [h : EC c l x (.agg cs)] [h' : EC c l y (.agg cs')] [sf : SFL P t fl] [e : EQF P fl cs cs' b] : PC c P (.binOp .neq t x y t') l H (.v (.bool (!b))) := ⟨fun hc => Pu.neqA (h.h hc H) (h'.h hc H)⟩
end
section
variable {base : Cx} {l l' : List AV} {H : List (Option AB)} {n k ep m : Nat} {L L' : List (Option AB)} {e : TypeId} {sz : Nat} {α : Type} {f : α → List AV} {li : List α}
theorem Gh.freezeM (t : Tmp) (f : α → List AV) (li : List α) {rows : List (List AV)} [g : GL l t (.own (n + k) ep 0 m)] [gb : GB L k (.row e sz ep rows)] [sb : SB L k none L'] [sl : SL l t (.rd sz (li.map f)) l'] (hr : rows = li.map f) (hl : li.length = m) (hm : li.length ≤ 9223372036854775807) : Gh base ⟨l, Hn n L⟩ ⟨l', Hn n L'⟩ := by
  subst hr
  have h1 := Gh.freezeN (base := base) (s := ⟨l, Hn n L⟩) t (rows' := li.map f) rfl (g.ev _) gb.h (by simpa using hm) (by rw [List.drop_zero, List.take_of_length_le (by simp; omega)]) sb.h
  unfold St.wH St.put at h1
  simp only [sl.h] at h1
  exact h1
theorem Gh.nilM (t : Tmp) (sz : Nat) (f : α → List AV) [g : GL l t (.v (.slice none 0 0))] [sl : SL l t (.rd sz (([] : List α).map f)) l'] : Gh base ⟨l, H⟩ ⟨l', H⟩ := by
  have h1 := Gh.nilrd (base := base) (s := ⟨l, H⟩) t sz (g.ev _)
  unfold St.put at h1
  have := sl.h
  simp only [List.map_nil] at this
  simp only [this] at h1
  exact h1
/-- A nil slice is a row of the call's own that has nothing yet. -/
theorem Gh.adoptM (t : Tmp) (e : TypeId) (sz : Nat) [g : GL l t (.v (.slice none 0 0))] [pb : PB L (some (.row e sz 0 [])) k L'] [sl : SL l t (.own (n + k) 0 0 0) l'] : Gh base ⟨l, Hn n L⟩ ⟨l', Hn n L'⟩ := by
  have h1 := Gh.adopt (base := base) (s := ⟨l, Hn n L⟩) t e sz g.h
  have hlen : (Hn n L).length = n + k := by rw [Hn_len, pb.k]
  simp only [hlen, sl.h, Hn_push, pb.h] at h1
  exact h1
end
theorem tb_of {P : Program} {t : TypeId} {fs : Array Field} {zs : List Value} {zv : List AV} {pl : List (Nat × Nat)} (hu : P.underlying t = some (.struct fs)) (hz : (P.info? t).bind (·.zero) = some (.agg ⟨zs⟩)) (h1 : (zs.all fun u => u.oneCell') = true) (hm : zs.map .v = zv)
    (hp : fs.toList.map (fun f => (f.offset, (P.info? f.type).map (·.size))) = pl.map (fun p => (p.1, some p.2))) : TB P t zv pl := by
  refine ⟨fs, zs, hu, hz, h1, hm, fun w => ?_⟩
  have hl : ∀ (l : List Field) (pl : List (Nat × Nat)), l.map (fun f => (f.offset, (P.info? f.type).map (·.size))) = pl.map (fun p => (p.1, some p.2)) → (l.mapM fun f => (do pure (f.offset, ← sizeOf f.type) : Sem (Nat × Nat))).run P w = .ok pl w := by
    intro l
    induction l with
    | nil => intro pl h; cases pl with
      | nil => simp
      | cons => simp at h
    | cons f l ih =>
      intro pl h
      cases pl with
      | nil => simp at h
      | cons p pl =>
        simp only [List.map_cons, List.cons.injEq, Prod.mk.injEq] at h
        obtain ⟨⟨h1, h2⟩, h3⟩ := h
        rw [List.mapM_cons]
        simp only [Sem.run_bind, run_size h2 w, Result.andThen_ok, Sem.run_pure, ih pl h3, h1]
  have h2 := hl fs.toList pl hp
  obtain ⟨fl⟩ := fs
  have e : (⟨fl⟩ : Array Field) = List.toArray fl := rfl
  rw [e, List.mapM_toArray]
  simp only [Sem.run_map]
  have h2 : (fl.mapM fun f => (do pure (f.offset, ← sizeOf f.type) : Sem (Nat × Nat))).run P w = .ok pl w := h2
  rw [h2]
  rfl

/-! A slice of bytes that is turned into one: the block bears a mark behind its cells. -/
theorem VR.cells {w w' : World} {H : List (Option AB)} {σ : Nat → Value} {F : Nat → Prop} (hs : w.heap.size ≤ w'.heap.size) (hc : ∀ a v, w.cell? a = some v → w'.cell? a = some v) {av : AV} {x : Value} (h : VR ⟨w, H, σ, F⟩ av x) : VR ⟨w', H, σ, F⟩ av x := by
  generalize hE : (⟨w, H, σ, F⟩ : Env) = E at h
  induction h with
  | any x => exact .any x
  | v x => exact .v x
  | rd u hcc hm hz hA hu ih =>
    subst hE
    refine .rd u hcc hm hz (fun h0 => ?_) (fun i row j av hi hj => ih i row j av hi hj)
    obtain ⟨ad, rfl, hn, hl, hcell⟩ := hA h0
    exact ⟨ad, rfl, hn, Nat.lt_of_lt_of_le hl hs, fun i row j av hi hj => ⟨hc _ _ (hcell i row j av hi hj).1, (hcell i row j av hi hj).2⟩⟩
  | own h hs' => subst hE; exact .own h hs'
  | eptr u hb hl hA hu ih => subst hE; exact .eptr u hb (Nat.lt_of_lt_of_le hl hs) (fun j av hj => ⟨hc _ _ (hA j av hj).1, (hA j av hj).2⟩) (fun j av hj => ih j av hj)
  | optr h hs' => subst hE; exact .optr h hs'
  | box h hs' => subst hE; exact .box h hs'
  | agg hl h1 hu ih => subst hE; exact .agg hl h1 (fun j av x hj hx => ih j av x hj hx)
  | tup hl hu ih => subst hE; exact .tup hl (fun j av x hj hx => ih j av x hj hx)
  | fn hl hu ih => subst hE; exact .fn hl (fun j av x hj hx => ih j av x hj hx)
  | omap h hs' => subst hE; exact .omap h hs'
  | bsl h hs' => subst hE; exact .bsl h hs'
theorem setBlk_cells {w : World} {g : Nat} {cur : Array Value} {e : TypeId} {f f' : Nat × Nat} (h : w.heap[g]? = some (.cells cur e f)) {a : Addr} {v : Value} (hv : w.cell? a = some v) : (setBlk w g (.cells cur e f')).cell? a = some v := by
  have hlt := (Array.getElem?_eq_some_iff.1 h).1
  unfold World.cell? at hv ⊢
  by_cases hg : g = a.block
  · subst hg
    rw [setBlk_self w _ hlt]
    rw [h] at hv
    exact hv
  · rw [setBlk_ne w _ hg]; exact hv
section
variable {P : Program} {base : Cx} {s : St}
theorem Hv.convOwn {d : Option Tmp} {t e ty : TypeId} {x : Operand} {pos : String} {af : Array Edge} {gd : Option (Nat × Bool)} {id ep m : Nat} {li : List Int} (hu : P.underlying t = some (.slice e)) (he : P.underlying e = some (.int .u8)) (hx : ev s x = .own id ep 0 m) (hH : s.H[id]? = some (some (.row e 1 ep (bys li)))) (hm : li.length = m) (h0 : 0 < m) (hb : li.length ≤ maxLen) :
    Hv P base ⟨d, .convert t t x, ty, pos, af, gd⟩ s (fun s' => s' = (⟨s.fr, s.H.set id none⟩ : St).put d (.rd 1 (bys li))) := by
  intro σ a w hr Q K hk
  have hv := ev_ok hr x
  rw [hx] at hv
  have hrd := own_rd hr.1 hH hv (by rw [bys_length]; exact hb)
  rw [List.drop_zero, List.take_of_length_le (by rw [bys_length]; omega)] at hrd
  obtain ⟨xs, hown, hrows⟩ := hr.1.live id _ hH
  generalize hq : a.eval x = q at hv hrd
  cases hv with
  | own h hs =>
    obtain ⟨_, A, c, A', h2, rfl, h3, h4⟩ := (h.2 _ _ _ _ hH).2 rfl
    have hA := h4 rfl
    subst hA
    rcases hown.2 with ⟨h6, h7⟩ | ⟨g, cap, cur, h6, h7, h8, h9, h10, h11, h12⟩
    · rw [bys_length] at h7; omega
    · have h5 : Value.slice A' (bys li).length c = .slice (some ⟨g, 0, none⟩) (bys li).length cap := h2.symm.trans h6
      injection h5 with h5 _ h5c
      subst h5 h5c
      have hlt := (Array.getElem?_eq_some_iff.1 h8).1
      let w' := setBlk w g (.cells cur e (cur.size, cur.size + 1))
      have hfr : w.freeze { block := g, off := cur.size } 1 = w' := by
        unfold World.freeze
        rw [if_neg (by decide)]
        show ({ w with heap := _ } : World) = { w with heap := _ }
        congr 1
        rw [modify_at _ _ _ _ h8]
        simp
      have hrun : (execOp a.eval ⟨d, .convert t t x, ty, pos, af, gd⟩).run P w = .ok (.value (.slice (some ⟨g, 0, none⟩) m c)) w' := by
        have hsh : w.shape? g = some (e, cur.size) := by unfold World.shape?; rw [h8]
        unfold execOp
        simp [hq, convert, run_underlying hu, run_underlying he, markStringish, hsh, hfr]
      have hours : Env.ours ⟨w, s.H, σ, base.F⟩ g := ⟨id, _, hH, by show blkOf (σ id) = some g; have h6' : σ id = _ := h6; rw [h6']; rfl⟩
      have hext : Ext ⟨w, s.H, σ, base.F⟩ ⟨w', s.H.set id none, σ, base.F⟩ :=
        ⟨rfl, rfl, rfl, by show w.heap.size ≤ w'.heap.size; rw [setBlk_size]; exact Nat.le_refl _, rfl, fun k hk hn => setBlk_ne w _ (fun h => by subst h; exact hn hours), fun k ⟨i, b, h1, h2⟩ _ => ⟨i, b, (set_none h1).1, h2⟩, by simp,
          fun i e sz ep rows' h1 _ => ⟨ep, rows', (set_none h1).1, .inr ⟨rfl, rfl, rfl⟩⟩, fun i t cs' h1 _ => ⟨cs', (set_none h1).1, rfl, rfl⟩, fun i es' h1 _ => ⟨es', (set_none h1).1, rfl⟩⟩
      have hheap : Heap base ⟨w', s.H.set id none, σ, base.F⟩ := by
        refine ⟨?_, fun g' hf => ?_, fun g' ⟨i, b, h1, h2⟩ => hr.1.clear g' ⟨i, b, (set_none h1).1, h2⟩, fun i b h1 => ?_, fun i i' b b' g' q1 q2 q3 q4 => hr.1.apart i i' b b' g' (set_none q1).1 (set_none q2).1 q3 q4⟩
        · show base.b ≤ w'.heap.size; rw [setBlk_size]; exact hr.1.bs
        · show g' < w'.heap.size; rw [setBlk_size]; exact hr.1.far g' hf
        · obtain ⟨h1, hne⟩ := set_none h1
          refine (hr.1.live i b h1).keep hext rfl fun g' hg' => setBlk_ne w _ fun hgg => ?_
          subst hgg
          exact hne (hr.1.apart i id b _ g h1 hH hg' (by show blkOf (σ id) = some g; have h6' : σ id = _ := h6; rw [h6']; rfl))
      unfold Oper.wp
      rw [hrun]
      have hrel : Rel base σ ⟨s.fr, s.H.set id none⟩ a w' := ⟨hheap, ⟨hr.2.1.1, fun i av hi => by
        obtain ⟨y, q1, q2⟩ := hr.2.1.2 i av hi
        exact ⟨y, q1, q2.ext hext⟩⟩, hr.2.2⟩
      exact hk σ _ _ w' (hrel.put d (hrd.cells (by rw [setBlk_size]; exact Nat.le_refl _) fun a v hv => setBlk_cells h8 hv)) (by rw [put_H]; exact hext) rfl
end
section
variable {P : Program} {base : Cx} {l l' : List AV} {Q : Exit → St → Prop} {rest : List Oper} {ops : Array Oper} {d : Option Tmp} {t e ty : TypeId} {pos : String} {af : Array Edge} {x : Operand} {n k ep m : Nat} {L L' : List (Option AB)} {li : List Int}
theorem AO.conv [tu : TU P t (.slice e)] [te : TU P e (.int .u8)] [h : EC true l x (.own (n + k) ep 0 m)] [gb : GB L k (.row e 1 ep (bys li))] [sb : SB L k none L'] [hd : DL l d (.rd 1 (bys li)) l'] (hm : li.length = m) (h0 : 0 < m) (hb : li.length ≤ 9223372036854775807) (kk : AO P base ops rest ⟨l', Hn n L'⟩ Q) : AO P base ops (⟨d, .convert t t x, ty, pos, af, none⟩ :: rest) ⟨l, Hn n L⟩ Q := by
  refine AO.heavy rfl (Hv.convOwn tu.h te.h (h.h rfl _) (by show (Hn n L)[n + k]? = _; rw [Hn_get]; exact gb.h) hm h0 (by unfold maxLen; omega)) fun s1 h1 => ?_
  subst h1
  have e1 : (Hn n L).set (n + k) none = Hn n L' := by rw [Hn_set, sb.h]
  show AO P base ops rest (St.put ⟨l, (Hn n L).set (n + k) none⟩ d (.rd 1 (bys li))) Q
  rw [e1, hd.h]
  exact kk
end
/-! The same, told otherwise. -/
class TELL (av av' : AV) : Prop where
  h : ∀ (E : Env) (x : Value), VR E av x → VR E av' x
class TELLs (avs avs' : List AV) : Prop where
  h : avs.length = avs'.length ∧ ∀ (E : Env) (j : Nat) (av av' : AV) (x : Value), avs[j]? = some av → avs'[j]? = some av' → VR E av x → VR E av' x
instance tellNil {sz : Nat} : TELL (.v (.slice none 0 0)) (.rd sz []) := ⟨fun E x h => by cases h; exact .rd (fun _ _ => undef) (by simp) (by simp) (by simp) (by simp) (by simp)⟩
instance tellNilM {sz : Nat} {α : Type} {f : α → List AV} : TELL (.v (.slice none 0 0)) (.rd sz (([] : List α).map f)) := tellNil
instance (priority := high) tellRefl {av : AV} : TELL av av := ⟨fun _ _ h => h⟩
instance tellAny {av : AV} : TELL av .any := ⟨fun _ x _ => .any x⟩
instance tellAgg {cs cs' : List AV} [h : TELLs cs cs'] : TELL (.agg cs) (.agg cs') := ⟨fun E x hx => by
  cases hx with
  | agg hl h1 hu =>
    refine .agg (hl.trans h.h.1) h1 fun j av' y hj hy => ?_
    have hlt : j < cs.length := by rw [h.h.1]; exact (List.getElem?_eq_some_iff.1 hj).1
    exact h.h.2 E j _ av' y (List.getElem?_eq_getElem hlt) hj (hu j _ y (List.getElem?_eq_getElem hlt) hy)⟩
instance : TELLs [] [] := ⟨rfl, fun E j av av' x h => by simp at h⟩
instance {a a' : AV} {l l' : List AV} [h : TELL a a'] [h' : TELLs l l'] : TELLs (a :: l) (a' :: l') := ⟨by simp [h'.h.1], fun E j av av' x h1 h2 hx => by
  cases j with
  | zero => simp at h1 h2; subst h1; subst h2; exact h.h E x hx
  | succ j => simp at h1 h2; exact h'.h.2 E j av av' x h1 h2 hx⟩
theorem Gh.tell {base : Cx} {l l' : List AV} {H : List (Option AB)} (t : Tmp) {av : AV} (av' : AV) [g : GL l t av] [te : TELL av av'] [sl : SL l t av' l'] : Gh base ⟨l, H⟩ ⟨l', H⟩ := fun σ a w hr => by
  refine ⟨σ, ⟨hr.1, ⟨?_, fun i y hi => ?_⟩, hr.2.2⟩, Ext.refl _⟩
  · have := hr.2.1.1; rw [← sl.h]; simpa using this
  · have hi : l'[i]? = some y := hi
    rw [← sl.h] at hi
    by_cases hti : t = i
    · subst hti
      rw [List.getElem?_set_self (List.getElem?_eq_some_iff.1 g.h).1] at hi
      obtain rfl := Option.some.inj hi
      obtain ⟨x, h1, h2⟩ := hr.2.1.2 t _ g.h
      exact ⟨x, h1, te.h _ _ h2⟩
    · rw [List.getElem?_set_ne hti] at hi
      exact hr.2.1.2 i y hi

end Go.Proofs.Ytlapfdfbgckfcaa.AL
