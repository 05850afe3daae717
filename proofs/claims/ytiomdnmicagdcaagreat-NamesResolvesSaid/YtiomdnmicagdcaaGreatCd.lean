/- A part of the proof: rules of an own logic over blocks, and what functions of the program compute, each by its own contract; the conditions stand with each. -/
import Derived.Test.YtiomdnmicagdcaaGreatCc
namespace Go.Proofs.YtiomdnmicagdcaaGreat.AL
open Go Go.RowKit
set_option linter.unusedVariables false
set_option linter.unusedSimpArgs false
section
variable {P : Program} {base : Cx} {l l' : List AV} {H : List (Option AB)} {Q : Exit → St → Prop} {os : List Oper} {rest : OT} {d : Option Tmp} {op : Op} {t : TypeId} {pos : String} {af : Array Edge} {i j u : Nat} {b want : Bool} {ds : List Nat} {av : AV} {ob : Prop}
theorem AZ.sk {hv : Bool} (hi : os.toArray[i]? = some ⟨d, op, t, pos, af, some (j, want)⟩) [ho : DO os j u] [hg : GL l u (.v (.bool b))] (hb : b = !want) [hd : DL l d (.v undef) l'] (k : AZ P base os.toArray ds rest ⟨l', H⟩ Q) : AZ P base os.toArray ds (.one i hv rest) ⟨l, H⟩ Q := by
  subst hb
  exact AZ.gxs hi (.inl hg) (hd.h H) k
theorem AZ.gkc (hi : os.toArray[i]? = some ⟨d, op, t, pos, af, some (j, want)⟩) [ho : DO os j u] [hg : GL l u (.v (.bool b))] (hb : b = want) [hp : LC true P op l H av] [hd : DL l d av l'] (k : AZ P base os.toArray ds rest ⟨l', H⟩ Q) : AZ P base os.toArray ds (.one i false rest) ⟨l, H⟩ Q :=
  AZ.light hi (wanted_some (s := ⟨l, H⟩) (by simpa using ho.h) (hg.ev H) |>.trans (by rw [hb]; simp)) (hp.h rfl) (by rw [hd.h]; exact k)
theorem AZ.gkL {f : FuncId} {fn : Func} {as : List Operand} {ts : Array TypeId} {args : List AV} {H2 : List (Option AB)} (hi : os.toArray[i]? = some ⟨d, .call { callee := .value (.func f), args := as.toArray, argTypes := ts }, t, pos, af, some (j, want)⟩) (hs : ds.contains i = true) (hf : P.funcs[f]? = some fn) (hname : (fn.name == "runtime.NumGoroutine") = false) (hb : fn.body.isSome = true)
    [ho : DO os j u] [hg : GL l u (.v (.bool b))] (hbw : b = want) [ha : ARG l as args] (h : AC P f H args (fun r H' => r = av ∧ H' = H2)) [hd : DL l d av l'] (kk : AZ P base os.toArray ds rest ⟨l', H2⟩ Q) : AZ P base os.toArray ds (.one i true rest) ⟨l, H⟩ Q := by
  refine AZ.last hi hs (wanted_some (s := ⟨l, H⟩) (by simpa using ho.h) (hg.ev _) |>.trans (by rw [hbw]; simp)) (Hv.call (s := ⟨l, H⟩) hf hname hb (ha.h H) h) fun s1 ⟨r, H', h1, h2⟩ => ?_
  obtain ⟨h3, h4⟩ := h1
  subst h3; subst h4; subst h2
  rw [hd.h]; exact kk
end
end Go.Proofs.YtiomdnmicagdcaaGreat.AL
namespace Go.Proofs.YtiomdnmicagdcaaGreat.AL
open Go Go.RowKit
set_option linter.unusedVariables false
set_option linter.unusedSimpArgs false
section
variable {P : Program} {base : Cx} {l l' : List AV} {Q : Exit → St → Prop} {ops : Array Oper} {rest : OT} {d : Option Tmp} {t ty bt : TypeId} {pos : String} {af : Array Edge} {x y : Operand} {n kk ep i off sz sz' ix : Nat} {L L' : List (Option AB)} {rows : List (List AV)} {ps : List AV} {av0 : AV} {gg : Bool} {ds : List Nat}
theorem AZ.stR (rows' : List (List AV)) (hi' : ops[ix]? = some ⟨none, .store t x y, ty, pos, af, none⟩) (hds : ds.contains ix = true) [tg : TG P t gg sz'] [h : EC true l x (.optr (n + kk) ep i off)] [gb : GB L kk (.row bt sz ep rows)] [h' : EC true l y av0] [hv : PVc av0 ps] [hn : LN ps sz'] (hi : i < rows.length ∧ off + sz' ≤ sz) (hr : rows.set i (layAt (rows.getD i []) off ps) = rows') [sb : SB L kk (some (.row bt sz ep rows')) L'] (k : AZ P base ops ds rest ⟨l, Hn n L'⟩ Q) : AZ P base ops ds (.one ix true rest) ⟨l, Hn n L⟩ Q := by
  subst hr
  have hs : HS P (.store t x y) l (Hn n L) (Hn n L') (i < rows.length ∧ off + sz' ≤ sz) := inferInstance
  exact AZ.last hi' hds rfl (hs.h hi base ty pos af none) fun s1 h1 => by subst h1; exact k
end
end Go.Proofs.YtiomdnmicagdcaaGreat.AL
namespace Go.Proofs.YtiomdnmicagdcaaGreat.AL
open Go Go.RowKit
set_option linter.unusedVariables false
set_option linter.unusedSimpArgs false
class PlainV (av : AV) : Prop where
  h : ∀ (E E' : Env) (x : Value), VR E av x → VR E' av x
class PlainVs (cs : List AV) : Prop where
  h : ∀ (E E' : Env) (j : Nat) (av : AV) (x : Value), cs[j]? = some av → VR E av x → VR E' av x
instance pvV {x : Value} : PlainV (.v x) := ⟨fun E E' y h => by cases h; exact .v _⟩
instance pvNil : PlainVs [] := ⟨fun E E' j av x h => by simp at h⟩
instance pvCons {a : AV} {cs : List AV} [h : PlainV a] [h' : PlainVs cs] : PlainVs (a :: cs) := ⟨fun E E' j av x hj hx => by
  cases j with
  | zero => obtain rfl := Option.some.inj hj; exact h.h E E' x hx
  | succ j => exact h'.h E E' j av x hj hx⟩
instance pvTup {cs : List AV} [h : PlainVs cs] : PlainV (.tup cs) := ⟨fun E E' y hy => by
  cases hy with
  | tup hl hu => exact .tup hl fun j av x hj hx => h.h E E' j av x hj (hu j av x hj hx)⟩
/-- The same arguments, but that the row's are shown as a row that is only read. -/
def Shows (id ep sz : Nat) (rows : List (List AV)) : List AV → List AV → Prop
  | [], [] => True
  | a :: as, b :: bs => (a = b ∨ ∃ off m, a = .own id ep off m ∧ b = .rd sz ((rows.drop off).take m)) ∧ Shows id ep sz rows as bs
  | _, _ => False
theorem showOwn {id sz ep m : Nat} {rows rows' : List (List AV)} (h : rows.length = m) (hr : rows = rows') : AV.own id ep 0 m = .rd sz rows' ∨ ∃ off m', AV.own id ep 0 m = .own id ep off m' ∧ (.rd sz rows' : AV) = .rd sz ((rows.drop off).take m') :=
  .inr ⟨0, m, rfl, by rw [List.drop_zero, ← h, List.take_length, hr]⟩
theorem Shows.at_ {id ep sz : Nat} {rows : List (List AV)} : ∀ {as bs : List AV}, Shows id ep sz rows as bs → as.length = bs.length ∧ ∀ (j : Nat) (b : AV), bs[j]? = some b → ∃ a, as[j]? = some a ∧ (a = b ∨ ∃ off m, a = .own id ep off m ∧ b = .rd sz ((rows.drop off).take m)) := by
  intro as
  induction as with
  | nil =>
    intro bs h
    cases bs with
    | nil => exact ⟨rfl, fun j b h => by simp at h⟩
    | cons b bs => exact h.elim
  | cons a as ih =>
    intro bs h
    cases bs with
    | nil => exact h.elim
    | cons b bs =>
      obtain ⟨h1, h2⟩ := ih h.2
      refine ⟨by simp [h1], fun j c hj => ?_⟩
      cases j with
      | zero => obtain rfl := Option.some.inj hj; exact ⟨a, rfl, h.1⟩
      | succ j => exact h2 j c hj
section
variable {P : Program} {base : Cx} {s : St}
theorem HvK.callO {d : Option Tmp} {f : FuncId} {fn : Func} {as : List Operand} {ts : Array TypeId} {ty : TypeId} {pos : String} {af : Array Edge} {gd : Option (Nat × Bool)} {args bs : List AV} {av : AV} {id : Nat} {e : TypeId} {sz ep : Nat} {rows : List (List AV)} (hf : P.funcs[f]? = some fn) (hname : (fn.name == "runtime.NumGoroutine") = false) (hb : fn.body.isSome = true)
    (ha : as.map (ev s) = args) (hs : Shows id ep sz rows args bs) (hg : ∀ av ∈ bs, Gen s.H.length av) (hH : s.H[id]? = some (some (.row e sz ep rows))) (hm : rows.length ≤ 9223372036854775807) (h : A0 P f bs (fun r => r = av)) [pr : PlainV av] :
    HvK P base ⟨d, .call { callee := .value (.func f), args := as.toArray, argTypes := ts }, ty, pos, af, gd⟩ s (fun s' => s' = s.put d av) := by
  intro σ a w hr Q K hk
  unfold Oper.wp
  rw [run_call hf hname hb]
  let n := s.H.length
  obtain ⟨hl, hsa⟩ := hs.at_
  let E1 : Env := ⟨w, s.H.set id none, σ, base.F⟩
  let F' : Nat → Prop := fun g => E1.mine g
  have hbs : base.b ≤ w.heap.size := hr.1.bs
  have hfg := Ext.forget (base := base) (w := w) (H := s.H) (H' := s.H.set id none) (σ := σ) (by simp) (fun i b h => (set_none h).1)
  have hF' : ∀ g, F' g → g < w.heap.size := by
    rintro g (⟨i, b, h1, h2⟩ | h1)
    · exact (blk_lt hr.1 (set_none h1).1 h2).2
    · exact hr.1.far g h1
  have hheap : Heap ⟨w.heap.size, F'⟩ ⟨w, List.replicate n none, σ, F'⟩ := by
    refine ⟨Nat.le_refl _, hF', fun g h => (ours_none g h).elim, fun id b h => (rep_none h).elim, fun id id' b b' g h1 h2 h3 h4 => (rep_none h1).elim⟩
  have hmv : ∀ (av : AV) (x : Value), Gen n av → VR E1 av x → VR ⟨w, List.replicate n none, σ, F'⟩ av x := fun av x hgn hv => by
    refine VR.move (E := E1) (E' := ⟨w, List.replicate n none, σ, F'⟩) (n := n) rfl (fun g hm => ?_) (by show (s.H.set id none).length ≤ (List.replicate n (none : Option AB)).length; simp [n]) (fun i hid => ?_) (fun _ _ => rfl) hv hgn
    · rcases hm with hm | hm
      · exact (ours_none g hm).elim
      · exact hm
    · show (List.replicate n (none : Option AB))[i]? = (s.H.set id none)[i]?
      have hid : s.H.length ≤ i := hid
      rw [List.getElem?_eq_none (by simp; exact hid), List.getElem?_eq_none (by simp [n]; exact hid)]
  have hlen : as.length = bs.length := by rw [← hl, ← ha, List.length_map]
  refine (h n ⟨w.heap.size, F'⟩ σ w (as.map a.eval) hheap (by simpa using hlen) (fun j av x h1 h2 => ?_)).mono ?_
  · obtain ⟨av0, h3, h4⟩ := hsa j av h1
    have h5 := args_ok hr as j av0 x (by rw [ha]; exact h3) h2
    refine hmv av x (hg av (List.mem_of_getElem? h1)) ?_
    rcases h4 with rfl | ⟨off, m, rfl, rfl⟩
    · exact h5.ext hfg
    · exact own_rd hr.1 hH h5 (by unfold maxLen; omega)
  rintro e' w' ⟨x, r, H', σ', h1, h2, h3, h4, h5, h6⟩
  subst h1
  subst h6
  have hkeep : ∀ k, k < w.heap.size → w'.heap[k]? = w.heap[k]? := fun k hk => h3.keep k hk (ours_none k)
  have hsize : w.heap.size ≤ w'.heap.size := h3.size
  have hext : Ext ⟨w, s.H, σ, base.F⟩ ⟨w', s.H, σ, base.F⟩ :=
    ⟨h3.os, h3.tape, h3.output, hsize, rfl, fun k hk _ => hkeep k hk, fun k hk _ => hk, Nat.le_refl _, fun id e sz ep rows' h6 _ => ⟨ep, rows', h6, .inr ⟨rfl, rfl, rfl⟩⟩, fun id t cs' h6 _ => ⟨cs', h6, rfl, rfl⟩, fun id es' h6 _ => ⟨es', h6, rfl⟩⟩
  have hheap2 : Heap base ⟨w', s.H, σ, base.F⟩ :=
    ⟨Nat.le_trans hbs hsize, fun g hf => Nat.lt_of_lt_of_le (hr.1.far g hf) hsize, hr.1.clear, fun id b h6 => (hr.1.live id b h6).keep hext rfl fun g hg => hkeep g (blk_lt hr.1 h6 hg).2, hr.1.apart⟩
  have hrel : Rel base σ s a w' := ⟨hheap2, hr.2.1.ext hext, hr.2.2⟩
  exact hk σ _ _ w' (hrel.put d (pr.h ⟨w', H', σ', F'⟩ ⟨w', s.H, σ, base.F⟩ x h4)) (by rw [put_H]; exact hext) ⟨hsize, hkeep⟩ rfl
end
section
variable {P : Program} {base : Cx} {l l' : List AV} {Q : Exit → St → Prop} {os : List Oper} {as : List Operand} {ops : Array Oper} {rest : List Oper} {d : Option Tmp} {t : TypeId} {pos : String} {af : Array Edge} {av : AV} {f : FuncId} {fn : Func} {ts : Array TypeId} {args : List AV} {n i j u sz ep : Nat} {L : List (Option AB)} {bt : TypeId} {rows : List (List AV)} {want c : Bool} {ds : List Nat} {rst : OT}
theorem AZ.callO (k : Nat) (bs : List AV) (hi : ops[i]? = some ⟨d, .call { callee := .value (.func f), args := as.toArray, argTypes := ts }, t, pos, af, none⟩) (hf : P.funcs[f]? = some fn) (hname : (fn.name == "runtime.NumGoroutine") = false) (hb : fn.body.isSome = true)
    [ha : ARG l as args] [gb : GB L k (.row bt sz ep rows)] (hs : Shows (n + k) ep sz rows args bs) [hga : GA (Hn n L).length bs] (hm : rows.length ≤ 9223372036854775807) (h : A0 P f bs (fun r => r = av)) [pr : PlainV av] [hd : DL l d av l'] (kk : AZ P base ops ds rst ⟨l', Hn n L⟩ Q) : AZ P base ops ds (.one i true rst) ⟨l, Hn n L⟩ Q := by
  refine AZ.heavy hi rfl (HvK.callO (s := ⟨l, Hn n L⟩) hf hname hb (ha.h (Hn n L)) hs hga.h (by show (Hn n L)[n + k]? = _; rw [Hn_get]; exact gb.h) hm h) fun s1 h1 => ?_
  subst h1; rw [hd.h]; exact kk
end
end Go.Proofs.YtiomdnmicagdcaaGreat.AL
namespace Go.Proofs.YtiomdnmicagdcaaGreat.AL
open Go Go.RowKit
set_option linter.unusedVariables false
set_option linter.unusedSimpArgs false
section
variable {P : Program} {base : Cx} {s : St}
/-- The world behind a change of a row of the call's own, in place or not. -/
theorem regrown {σ : Nat → Value} {a : Act} {w w' : World} (hr : Rel base σ s a w) {id sz ep : Nat} {e : TypeId} {rows rows3 : List (List AV)} {xs3 : List Value} {v' : Value} (hH : s.H[id]? = some (some (.row e sz ep rows)))
    (hrows3 : RowsR ⟨w, s.H, σ, base.F⟩ sz rows3 xs3) (hown' : w'.ownsRow base.b e sz v' rows3.length xs3) (hg : w.grownBy w' (σ id).ownBlock) (hat : v'.ownBlock = (σ id).ownBlock ∨ v'.ownBlock = some w.heap.size) (d : Option Tmp) :
    ∃ σ', Rel base σ' ((⟨s.fr, s.H.set id (some (.row e sz (ep + 1) rows3))⟩ : St).put d (.own id (ep + 1) 0 rows3.length)) (a.put d v') w' ∧ Ext ⟨w, s.H, σ, base.F⟩ ⟨w', s.H.set id (some (.row e sz (ep + 1) rows3)), σ', base.F⟩ := by
  have hid : id < s.H.length := (List.getElem?_eq_some_iff.1 hH).1
  have own_blk : ∀ {x : Value} {n : Nat} {ys : List Value} {W : World}, W.ownsRow base.b e sz x n ys → blkOf x = x.ownBlock := by
    intro x n ys W h
    rcases h.2 with ⟨rfl, _⟩ | ⟨g, cap, cur, rfl, _⟩ <;> rfl
  have hσo : blkOf (σ id) = (σ id).ownBlock := by
    obtain ⟨ys, h1, _⟩ := hr.1.live id _ hH
    exact own_blk h1
  have hvo : blkOf v' = v'.ownBlock := own_blk hown'
  let σ' : Nat → Value := fun i => if i = id then v' else σ i
  have hself : (s.H.set id (some (.row e sz (ep + 1) rows3)))[id]? = some (some (.row e sz (ep + 1) rows3)) := by rw [List.getElem?_set_self hid]
  have get : ∀ {i : Nat} {x : AB}, (s.H.set id (some (.row e sz (ep + 1) rows3)))[i]? = some (some x) → (i = id ∧ x = .row e sz (ep + 1) rows3) ∨ (i ≠ id ∧ s.H[i]? = some (some x)) := by
    intro i x hi
    by_cases he : id = i
    · subst he
      rw [hself] at hi
      simp only [Option.some.injEq] at hi
      exact .inl ⟨rfl, hi.symm⟩
    · rw [List.getElem?_set_ne he] at hi
      exact .inr ⟨Ne.symm he, hi⟩
  have hblk : ∀ g, blkOf v' = some g → g < w.heap.size → blkOf (σ id) = some g := by
    intro g hg' hlt
    rw [hvo] at hg'
    rcases hat with h | h
    · rw [hσo, ← h]; exact hg'
    · rw [h] at hg'
      obtain rfl := Option.some.inj hg'
      omega
  have he : Ext ⟨w, s.H, σ, base.F⟩ ⟨w', s.H.set id (some (.row e sz (ep + 1) rows3)), σ', base.F⟩ := by
    refine ⟨hg.os, hg.tape, hg.output, hg.size, rfl, fun k hk hm => hg.block k hk fun h => hm ⟨id, _, hH, by rw [hσo]; exact h.symm⟩, fun k hm hlt => ?_, by simp, fun i e' sz' ep' rows' h1 _ => ?_, fun i t cs' h1 _ => ?_, fun i es' h1 _ => ?_⟩
    · obtain ⟨i, x, h1, h2⟩ := hm
      rcases get h1 with ⟨rfl, rfl⟩ | ⟨hne, h3⟩
      · exact ⟨_, _, hH, hblk k (by simpa [σ'] using h2) hlt⟩
      · exact ⟨i, x, h3, by simpa [σ', hne] using h2⟩
    · rcases get h1 with ⟨rfl, h2⟩ | ⟨hne, h3⟩
      · simp only [AB.row.injEq] at h2
        obtain ⟨rfl, rfl, rfl, rfl⟩ := h2
        exact ⟨ep, rows, hH, .inl (Nat.lt_succ_self _)⟩
      · exact ⟨ep', rows', h3, .inr ⟨rfl, by simp [σ', hne], rfl⟩⟩
    · rcases get h1 with ⟨rfl, h2⟩ | ⟨hne, h3⟩
      · cases h2
      · exact ⟨cs', h3, by simp [σ', hne], rfl⟩
    · rcases get h1 with ⟨rfl, h2⟩ | ⟨hne, h3⟩
      · cases h2
      · exact ⟨es', h3, by simp [σ', hne]⟩
  have hbs : base.b ≤ w.heap.size := hr.1.bs
  have hrel : Rel base σ' ⟨s.fr, s.H.set id (some (.row e sz (ep + 1) rows3))⟩ a w' := by
    refine ⟨⟨Nat.le_trans hbs hg.size, fun k hk => Nat.lt_of_lt_of_le (hr.1.far k hk) hg.size, fun k hk hf => hr.1.clear k (he.fresh' k hk (hr.1.far k hf)) hf, fun i x hi => ?_, fun i i' x x' k h1 h2 h3 h4 => ?_⟩, hr.2.1.ext he, hr.2.2⟩
    · rcases get hi with ⟨rfl, rfl⟩ | ⟨hne, h3⟩
      · exact ⟨xs3, by simpa [σ'] using hown', hrows3.ext he⟩
      · refine (hr.1.live i x h3).keep he (by simp [σ', hne]) fun k hk => ?_
        refine hg.block k (blk_lt hr.1 h3 hk).2 fun h => hne ?_
        exact hr.1.apart i id x _ k h3 hH hk (by show blkOf (σ id) = _; rw [hσo]; exact h.symm)
    · rcases get h1 with ⟨rfl, rfl⟩ | ⟨hne, h5⟩ <;> rcases get h2 with ⟨rfl, rfl⟩ | ⟨hne', h6⟩
      · rfl
      · have h3' : blkOf v' = some k := by simpa [σ'] using h3
        have h4' : blkOf (σ i') = some k := by simpa [σ', hne'] using h4
        have hlt := (blk_lt hr.1 h6 h4').2
        exact hr.1.apart _ _ _ _ k hH h6 (hblk k h3' hlt) h4'
      · have h3' : blkOf (σ i) = some k := by simpa [σ', hne] using h3
        have h4' : blkOf v' = some k := by simpa [σ'] using h4
        have hlt := (blk_lt hr.1 h5 h3').2
        exact hr.1.apart _ _ _ _ k h5 hH h3' (hblk k h4' hlt)
      · exact hr.1.apart _ _ _ _ k h5 h6 (by simpa [σ', hne] using h3) (by simpa [σ', hne'] using h4)
  refine ⟨σ', ?_, he⟩
  refine hrel.put d (.own ⟨by simpa using hid, fun e' sz' ep' rows' h1 => ?_⟩ ?_)
  · rw [hself] at h1
    simp only [Option.some.injEq, AB.row.injEq] at h1
    obtain ⟨rfl, rfl, rfl, rfl⟩ := h1
    refine ⟨Nat.le_refl _, fun _ => ⟨by omega, ?_⟩⟩
    rcases hown'.2 with ⟨rfl, h0⟩ | ⟨g, cap, cur, rfl, _⟩
    · have h0' : rows3.length = 0 := by simpa using h0
      exact ⟨none, 0, none, by simp [σ', h0'], by simp [h0'], fun h => by omega, fun _ => rfl⟩
    · exact ⟨some ⟨g, 0, none⟩, cap, some ⟨g, 0, none⟩, by simp [σ'], by simp, fun _ => by simp [Addr.add], fun _ => rfl⟩
  · rcases hown'.2 with ⟨rfl, h0⟩ | ⟨g, cap, cur, rfl, _⟩
    · have h0' : rows3.length = 0 := by simpa using h0
      exact ⟨none, 0, by rw [h0']⟩
    · exact ⟨some ⟨g, 0, none⟩, cap, by simp⟩
end
theorem RowsR.takeI {E : Env} {sz : Nat} {rows : List (List AV)} {xs : List Value} (h : RowsR E sz rows xs) {i : Nat} (hi : i ≤ rows.length) : RowsR E sz (rows.take i) (xs.take (i * sz)) := by
  have hm := Nat.mul_le_mul_right sz hi
  refine ⟨fun row hr => h.1 row (List.mem_of_mem_take hr), by rw [List.length_take, List.length_take, h.2.1, Nat.min_eq_left hi]; omega, fun x hx => h.2.2.1 x (List.mem_of_mem_take hx), fun k row j av hk hj => ?_⟩
  rw [List.getElem?_take] at hk
  split at hk
  · rename_i hlt
    obtain ⟨x, h1, h2⟩ := h.2.2.2 k row j av hk hj
    have hjl : j < sz := by have := (List.getElem?_eq_some_iff.1 hj).1; rw [h.1 row (List.mem_of_getElem? hk)] at this; exact this
    have hb : (k + 1) * sz ≤ i * sz := Nat.mul_le_mul_right sz hlt
    rw [Nat.add_mul, Nat.one_mul] at hb
    exact ⟨x, by rw [List.getElem?_take, if_pos (by omega)]; exact h1, h2⟩
  · cases hk
theorem RowsR.dropI {E : Env} {sz : Nat} {rows : List (List AV)} {xs : List Value} (h : RowsR E sz rows xs) {i : Nat} (hi : i ≤ rows.length) : RowsR E sz (rows.drop i) (xs.drop (i * sz)) := by
  refine ⟨fun row hr => h.1 row (List.mem_of_mem_drop hr), by rw [List.length_drop, List.length_drop, h.2.1, Nat.sub_mul], fun x hx => h.2.2.1 x (List.mem_of_mem_drop hx), fun k row j av hk hj => ?_⟩
  rw [List.getElem?_drop] at hk
  obtain ⟨x, h1, h2⟩ := h.2.2.2 (i + k) row j av hk hj
  exact ⟨x, by rw [List.getElem?_drop, ← Nat.add_assoc, ← Nat.add_mul]; exact h1, h2⟩
end Go.Proofs.YtiomdnmicagdcaaGreat.AL
namespace Go.Proofs.YtiomdnmicagdcaaGreat.AL
open Go Go.RowKit
set_option linter.unusedVariables false
set_option linter.unusedSimpArgs false
def bLt (a b : List UInt8) : Bool := Op.bytesLess a b
theorem bLt_irrefl : ∀ a : List UInt8, bLt a a = false := by
  intro a
  induction a with
  | nil => rfl
  | cons x a ih =>
    unfold bLt at ih ⊢
    rw [Op.bytesLess, ih]
    simp
theorem bLt_trans : ∀ a b c : List UInt8, bLt a b = true → bLt b c = true → bLt a c = true := by
  intro a
  induction a with
  | nil =>
    intro b c h1 h2
    cases c with
    | nil => unfold bLt at h2; cases b <;> simp [Op.bytesLess] at h2
    | cons z c => rfl
  | cons x a ih =>
    intro b c h1 h2
    cases b with
    | nil => unfold bLt at h1; simp [Op.bytesLess] at h1
    | cons y b =>
      cases c with
      | nil => unfold bLt at h2; simp [Op.bytesLess] at h2
      | cons z c =>
        unfold bLt at h1 h2 ih ⊢
        simp only [Op.bytesLess, Bool.or_eq_true, Bool.and_eq_true, decide_eq_true_eq, beq_iff_eq] at h1 h2 ⊢
        rcases h1 with h1 | ⟨rfl, h1⟩
        · rcases h2 with h2 | ⟨rfl, h2⟩
          · exact .inl (UInt8.lt_trans h1 h2)
          · exact .inl h1
        · rcases h2 with h2 | ⟨rfl, h2⟩
          · exact .inl h2
          · exact .inr ⟨rfl, ih _ _ h1 h2⟩
theorem bLt_tri : ∀ a b : List UInt8, bLt a b = false → bLt b a = false → a = b := by
  intro a
  induction a with
  | nil =>
    intro b h1 h2
    cases b with
    | nil => rfl
    | cons y b => unfold bLt at h1; simp [Op.bytesLess] at h1
  | cons x a ih =>
    intro b h1 h2
    cases b with
    | nil => unfold bLt at h2; simp [Op.bytesLess] at h2
    | cons y b =>
      unfold bLt at h1 h2 ih
      simp only [Op.bytesLess, Bool.or_eq_false_iff, Bool.and_eq_false_iff, decide_eq_false_iff_not, beq_eq_false_iff_ne] at h1 h2
      have hxy : x = y := by
        apply UInt8.toNat_inj.1
        have e1 : ¬ x.toNat < y.toNat := h1.1
        have e2 : ¬ y.toNat < x.toNat := h2.1
        omega
      subst hxy
      rw [ih b (h1.2.resolve_left (fun h => h rfl)) (h2.2.resolve_left (fun h => h rfl))]
def sLt (a b : ByteArray) : Bool := bLt a.toList b.toList
theorem sLt_irrefl (a : ByteArray) : sLt a a = false := bLt_irrefl _
theorem sLt_trans {a b c : ByteArray} (h : sLt a b = true) (h' : sLt b c = true) : sLt a c = true := bLt_trans _ _ _ h h'
theorem sLt_tri {a b : ByteArray} (h : sLt a b = false) (h' : sLt b a = false) : a.toList = b.toList := bLt_tri _ _ h h'
theorem sLt_asym {a b : ByteArray} (h : sLt a b = true) : sLt b a = false := by
  cases h' : sLt b a with
  | false => rfl
  | true => have := sLt_trans h h'; rw [sLt_irrefl] at this; cases this
theorem sLt_gtr (a b : ByteArray) : (!(Op.bytesLess a.toList b.toList || a.toList == b.toList)) = sLt b a := by
  have e : Op.bytesLess a.toList b.toList = sLt a b := rfl
  rw [e]
  cases h : sLt a b with
  | true => rw [sLt_asym h]; rfl
  | false =>
    cases h' : sLt b a with
    | true =>
      have : (a.toList == b.toList) = false := by
        rw [beq_eq_false_iff_ne]
        intro he
        have : sLt b a = sLt a a := by unfold sLt; rw [he]
        rw [h', sLt_irrefl] at this
        cases this
      rw [this]; rfl
    | false => rw [sLt_tri h h']; simp
section
variable {P : Program} {base : Cx} {l l' : List AV} {H : List (Option AB)} {Q : Exit → St → Prop} {os : List Oper} {rest : List Oper} {d : Option Tmp} {t t' ty : TypeId} {pos : String} {af : Array Edge} {av : AV} {f : FuncId} {c want : Bool} {j u : Nat} {x y : Operand} {a b : ByteArray}
instance sLssI [h : EC c l x (.v (.string a))] [h' : EC c l y (.v (.string b))] : PC c P (.binOp .lss t x y t') l H (.v (.bool (sLt a b))) := ⟨fun hc => Pu.bin (h.h hc H) (h'.h hc H) fun w => by simp [eqGuard, binOp, Op.stringOp, sLt, bLt]⟩
instance sGtrI [h : EC c l x (.v (.string a))] [h' : EC c l y (.v (.string b))] : PC c P (.binOp .gtr t x y t') l H (.v (.bool (sLt b a))) := ⟨fun hc => Pu.bin (h.h hc H) (h'.h hc H) fun w => by rw [← sLt_gtr]; simp [eqGuard, binOp, Op.stringOp]⟩
theorem AO.gxcallF {fn : Func} {g : Operand} {as : List Operand} {ts : Array TypeId} {args cs args' : List AV} [ho : DO os j u] [gx : GX l u want c] [eg : EC c l g (.fn f cs)] [ha : ARGc c l as args] [hga : GA H.length args] (hgc : ∀ n, ∀ av ∈ cs, Gen n av) (hf : P.funcs[f]? = some fn) (hname : (fn.name == "runtime.NumGoroutine") = false) (hb : fn.body.isSome = true)
    (h : c = true → A0 P f args' (fun r => r = av)) (he : args ++ cs = args') [hd : DL l d (cv c av) l'] (k : AO P base os.toArray rest ⟨l', H⟩ Q) : AO P base os.toArray (⟨d, .call { callee := .value g, args := as.toArray, argTypes := ts }, t, pos, af, some (j, want)⟩ :: rest) ⟨l, H⟩ Q := by
  subst he
  refine AO.gxw (c := c) rfl (hd.h H) (fun hcc => ?_) k
  intro σ a w hr Q' K hk
  exact HvK.callF (s := ⟨l, H⟩) hf hname hb (eg.h hcc H) (ha.h hcc H) (ga_append hga.h (hgc _)) (h hcc) σ a w hr Q' K fun σ' s' a' w' h1 h2 h3 ⟨r, h4, h5⟩ => hk σ' s' a' w' h1 h2 (by subst h4; exact h5)
end
/-- A function value that has captured nothing. -/
theorem A0.fn0 {P : Program} {f g : FuncId} {pre : List AV} {R : AV → Prop} (h : A0 P f (pre ++ [.fn g []]) R) : A0 P f (pre ++ [.v (.func (.func g) #[] #[])]) R :=
  h.args (by simp) fun E j av av' x h1 h2 hv => by
    by_cases hj : j < pre.length
    · rw [List.getElem?_append_left hj] at h1 h2
      rw [h1] at h2
      obtain rfl := Option.some.inj h2
      exact hv
    · rw [List.getElem?_append_right (by omega)] at h1 h2
      cases hk : j - pre.length with
      | zero =>
        rw [hk] at h1 h2
        obtain rfl := Option.some.inj h1
        obtain rfl := Option.some.inj h2
        exact vr_fn0 hv
      | succ k => rw [hk] at h1; simp at h1
end Go.Proofs.YtiomdnmicagdcaaGreat.AL
namespace Go.Proofs.YtiomdnmicagdcaaGreat.AL
open Go Go.RowKit
set_option linter.unusedVariables false
set_option linter.unusedSimpArgs false
section
variable {P : Program} {base : Cx} {l l' : List AV} {H : List (Option AB)} {Q : Exit → St → Prop} {ops : Array Oper} {rest : OT} {d : Option Tmp} {t : TypeId} {pos : String} {af : Array Edge} {i : Nat} {ds : List Nat} {av : AV}
theorem AZ.callL {f : FuncId} {fn : Func} {as : List Operand} {ts : Array TypeId} {args : List AV} {H2 : List (Option AB)} (hi : ops[i]? = some ⟨d, .call { callee := .value (.func f), args := as.toArray, argTypes := ts }, t, pos, af, none⟩) (hs : ds.contains i = true) (hf : P.funcs[f]? = some fn) (hname : (fn.name == "runtime.NumGoroutine") = false) (hb : fn.body.isSome = true)
    [ha : ARG l as args] (h : AC P f H args (fun r H' => r = av ∧ H' = H2)) [hd : DL l d av l'] (kk : AZ P base ops ds rest ⟨l', H2⟩ Q) : AZ P base ops ds (.one i true rest) ⟨l, H⟩ Q := by
  refine AZ.last hi hs rfl (Hv.call (s := ⟨l, H⟩) hf hname hb (ha.h H) h) fun s1 ⟨r, H', h1, h2⟩ => ?_
  obtain ⟨h3, h4⟩ := h1
  subst h3; subst h4; subst h2
  rw [hd.h]; exact kk
end
section
variable {P : Program} {base : Cx} {l l' : List AV} {H : List (Option AB)} {Q : Exit → St → Prop} {ops : Array Oper} {rest : OT} {d : Option Tmp} {t : TypeId} {pos : String} {af : Array Edge} {i : Nat} {ds : List Nat} {av : AV} {x y z : Operand} {b : Bool}
theorem AZ.pt (hi : ops[i]? = some ⟨d, .pick x y z, t, pos, af, none⟩) [h : EC true l x (.v (.bool b))] (hb : b = true) [h1 : EC true l y av] [hd : DL l d av l'] (k : AZ P base ops ds rest ⟨l', H⟩ Q) : AZ P base ops ds (.one i false rest) ⟨l, H⟩ Q :=
  AZ.light hi rfl (Pu.pick (h.h rfl H) (pickT_ hb (h1.h rfl H))).lt (by rw [hd.h]; exact k)
theorem AZ.pf (hi : ops[i]? = some ⟨d, .pick x y z, t, pos, af, none⟩) [h : EC true l x (.v (.bool b))] (hb : b = false) [h1 : EC true l z av] [hd : DL l d av l'] (k : AZ P base ops ds rest ⟨l', H⟩ Q) : AZ P base ops ds (.one i false rest) ⟨l, H⟩ Q :=
  AZ.light hi rfl (Pu.pick (h.h rfl H) (pickF_ hb (h1.h rfl H))).lt (by rw [hd.h]; exact k)
end
end Go.Proofs.YtiomdnmicagdcaaGreat.AL
