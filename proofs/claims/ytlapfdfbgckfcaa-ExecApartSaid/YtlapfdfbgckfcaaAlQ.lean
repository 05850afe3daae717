/- An intermediate logic over abstract blocks, further rules; no condition. -/
import Derived.Test.YtlapfdfbgckfcaaAlP
namespace Go.Proofs.Ytlapfdfbgckfcaa.AL
open Go Go.RowKit
set_option linter.unusedVariables false
set_option linter.unusedSimpArgs false
/-! Ghost steps ahead of an end; guards that are known, made away with; calls that leave one of several states. -/
section
variable {P : Program} {base : Cx} {s s1 : St} {Q : Exit → St → Prop}
theorem Gh.pre {X : St → Prop} (h : Gh base s s1) (k : ∃ s2, Gh base s1 s2 ∧ X s2) : ∃ s2, Gh base s s2 ∧ X s2 := by
  obtain ⟨s2, h1, h2⟩ := k
  exact ⟨s2, h.trans h1, h2⟩
variable {l l' : List AV} {H : List (Option AB)} {os : List Oper} {ops : Array Oper} {rest : List Oper} {d : Option Tmp} {op : Op} {t : TypeId} {pos : String} {af : Array Edge} {j u : Nat} {b want : Bool}
theorem execOp_guard {ρ : Operand → Value} {g : Option (Nat × Bool)} : execOp ρ ⟨d, op, t, pos, af, g⟩ = execOp ρ ⟨d, op, t, pos, af, none⟩ := by unfold execOp; rfl
theorem AO.gk [ho : DO os j u] [hg : GL l u (.v (.bool b))] (hb : b = want) (k : AO P base os.toArray (⟨d, op, t, pos, af, none⟩ :: rest) ⟨l, H⟩ Q) : AO P base os.toArray (⟨d, op, t, pos, af, some (j, want)⟩ :: rest) ⟨l, H⟩ Q := by
  intro σ a w hr K hk
  have h := k σ a w hr K hk
  have hw := wanted_ok (ops := os.toArray) hr (o := ⟨d, op, t, pos, af, some (j, want)⟩) (b := true) (by rw [wanted_some (s := ⟨l, H⟩) (by simpa using ho.h) (hg.ev H), hb]; simp)
  unfold wpList at h ⊢
  rw [hw, if_pos rfl]
  rw [show Region.wanted (⟨d, op, t, pos, af, none⟩ : Oper) (yielded os.toArray a.tmps) = true from rfl, if_pos rfl] at h
  rcases h with h | h
  · refine .inl ?_
    unfold Oper.wp at h ⊢
    rw [execOp_guard]
    exact h
  · refine .inr ⟨?_, h.2⟩
    have h1 := h.1
    unfold Oper.asks at h1 ⊢
    rw [execOp_guard]
    exact h1
/-- A call that leaves one of several states, told by x. -/
theorem AO.callE {α : Type} {av : α → AV} {H2 : α → List (Option AB)} {p : α → Prop} {lx : α → List AV} {f : FuncId} {fn : Func} {as : List Operand} {ts : Array TypeId} {args : List AV} (hf : P.funcs[f]? = some fn) (hname : (fn.name == "runtime.NumGoroutine") = false) (hb : fn.body.isSome = true)
    [ha : ARG l as args] (h : AC P f H args (fun r H' => ∃ x, r = av x ∧ H' = H2 x ∧ p x)) [hd : ∀ x, DL l d (av x) (lx x)] (k : ∀ x, p x → AO P base ops rest ⟨lx x, H2 x⟩ Q) : AO P base ops (⟨d, .call { callee := .value (.func f), args := as.toArray, argTypes := ts }, t, pos, af, none⟩ :: rest) ⟨l, H⟩ Q := by
  refine AO.heavy rfl (Hv.call hf hname hb (ha.h H) h) fun s1 ⟨r, H', h1, h2⟩ => ?_
  obtain ⟨x, h3, h4, h5⟩ := h1
  subst h3; subst h4; subst h2
  rw [(hd x).h]; exact k x h5
end
/-! A box of which the cells are told otherwise. -/
section
variable {P : Program} {base : Cx} {s : St}
theorem set_some {H : List (Option AB)} {id i : Nat} {b c : AB} (h : (H.set id (some c))[i]? = some (some b)) : (i = id ∧ b = c) ∨ (i ≠ id ∧ H[i]? = some (some b)) := by
  by_cases he : id = i
  · subst he
    by_cases hl : id < H.length
    · rw [List.getElem?_set_self hl] at h; exact .inl ⟨rfl, (Option.some.inj (Option.some.inj h)).symm⟩
    · rw [List.getElem?_eq_none (by simp; omega)] at h; cases h
  · rw [List.getElem?_set_ne he] at h
    exact .inr ⟨Ne.symm he, h⟩
theorem Rel.reBox {σ : Nat → Value} {a : Act} {w : World} {id : Nat} {t : TypeId} {cs cs' : List AV} (hr : Rel base σ s a w) (hH : s.H[id]? = some (some (.box t cs))) (hl : cs'.length = cs.length)
    (hc : ∀ (j : Nat) (av av' : AV) (x : Value), cs[j]? = some av → cs'[j]? = some av' → VR ⟨w, s.H.set id (some (.box t cs')), σ, base.F⟩ av x → VR ⟨w, s.H.set id (some (.box t cs')), σ, base.F⟩ av' x) :
    Rel base σ ⟨s.fr, s.H.set id (some (.box t cs'))⟩ a w ∧ Ext ⟨w, s.H, σ, base.F⟩ ⟨w, s.H.set id (some (.box t cs')), σ, base.F⟩ := by
  have hours : ∀ k, Env.ours ⟨w, s.H.set id (some (.box t cs')), σ, base.F⟩ k → Env.ours ⟨w, s.H, σ, base.F⟩ k := by
    rintro k ⟨i, b, h1, h2⟩
    rcases set_some h1 with ⟨rfl, _⟩ | ⟨_, h3⟩
    · exact ⟨i, _, hH, h2⟩
    · exact ⟨i, b, h3, h2⟩
  have he : Ext ⟨w, s.H, σ, base.F⟩ ⟨w, s.H.set id (some (.box t cs')), σ, base.F⟩ := by
    refine ⟨rfl, rfl, rfl, Nat.le_refl _, rfl, fun k _ _ => rfl, fun k h _ => hours k h, by simp, fun i e sz ep rows' h1 _ => ?_, fun i t2 cs2 h1 _ => ?_, fun i es' h1 _ => ?_⟩
    · rcases set_some h1 with ⟨_, h3⟩ | ⟨_, h3⟩
      · cases h3
      · exact ⟨ep, rows', h3, .inr ⟨rfl, rfl, rfl⟩⟩
    · rcases set_some h1 with ⟨rfl, h3⟩ | ⟨_, h3⟩
      · cases h3; exact ⟨cs, hH, rfl, hl⟩
      · exact ⟨cs2, h3, rfl, rfl⟩
    · rcases set_some h1 with ⟨_, h3⟩ | ⟨_, h3⟩
      · cases h3
      · exact ⟨es', h3, rfl⟩
  refine ⟨⟨⟨hr.1.bs, hr.1.far, fun g h => hr.1.clear g (hours g h), fun i b h1 => ?_, fun i i' b b' g h1 h2 h3 h4 => ?_⟩, hr.2.1.ext he, hr.2.2⟩, he⟩
  · rcases set_some h1 with ⟨rfl, rfl⟩ | ⟨_, h3⟩
    · obtain ⟨g, us, q1, q2, q3, q4⟩ := hr.1.live i _ hH
      refine ⟨g, us, q1, q2, q3, q4.1.trans hl.symm, q4.2.1, fun j av' x hj hx => ?_⟩
      have hlt : j < cs.length := by rw [← hl]; exact (List.getElem?_eq_some_iff.1 hj).1
      exact hc j _ av' x (List.getElem?_eq_getElem hlt) hj ((q4.2.2 j _ x (List.getElem?_eq_getElem hlt) hx).ext he)
    · exact (hr.1.live i b h3).keep he rfl fun _ _ => rfl
  · rcases set_some h1 with ⟨rfl, _⟩ | ⟨_, k1⟩ <;> rcases set_some h2 with ⟨rfl, _⟩ | ⟨_, k2⟩
    · rfl
    · exact hr.1.apart i i' _ _ g hH k2 h3 h4
    · exact hr.1.apart i i' _ _ g k1 hH h3 h4
    · exact hr.1.apart i i' _ _ g k1 k2 h3 h4
instance tellNilB : TELL (.v (.slice none 0 0)) (.rd 1 (bys [])) := tellNil
theorem Gh.tellC {n : Nat} {L L' : List (Option AB)} {l : List AV} {bt : TypeId} {cs : List AV} (k : Nat) (cs' : List AV) [gb : GB L k (.box bt cs)] [te : TELLs cs cs'] [sb : SB L k (some (.box bt cs')) L'] : Gh base ⟨l, Hn n L⟩ ⟨l, Hn n L'⟩ := fun σ a w hr => by
  have hH : (Hn n L)[n + k]? = some (some (.box bt cs)) := by rw [Hn_get]; exact gb.h
  have h := Rel.reBox (cs' := cs') hr hH te.h.1.symm (fun j av av' x h1 h2 h3 => te.h.2 _ j av av' x h1 h2 h3)
  have e1 : (Hn n L).set (n + k) (some (AB.box bt cs')) = Hn n L' := by rw [Hn_set, sb.h]
  simp only [e1] at h
  exact ⟨σ, h.1, h.2⟩
/-- A nil slice in a box is a row of the call's own that has nothing. -/
theorem Gh.adoptC {n m : Nat} {L L' L'' : List (Option AB)} {l : List AV} {bt : TypeId} {cs cs' : List AV} (k j : Nat) (e : TypeId) (sz : Nat) [gb : GB L k (.box bt cs)] (hj : cs[j]? = some (.v (.slice none 0 0))) [pb : PB L (some (.row e sz 0 [])) m L'] [sl : SL cs j (.own (n + m) 0 0 0) cs'] [sb : SB L' k (some (.box bt cs')) L''] : Gh base ⟨l, Hn n L⟩ ⟨l, Hn n L''⟩ := fun σ a w hr => by
  obtain rfl := sl.h
  have hv : ∀ g, blkOf (.slice none 0 0) = some g → w.heap.size ≤ g := fun g hg => by cases hg
  have he := Ext.push (base := base) (w := w) (w1 := w) (H := Hn n L) (σ := σ) (.row e sz 0 []) (.slice none 0 0) rfl rfl rfl (KeepW.refl w) hv
  have hHp := hr.1.push he (KeepW.refl w) hv (b := .row e sz 0 []) ⟨[], ⟨by simp, .inl ⟨by simp [pushσ], rfl⟩⟩, RowsR.nil _ _⟩
  have e0 : (Hn n L).length = n + m := by rw [Hn_len, pb.k]
  have hr1 : Rel base (pushσ σ (Hn n L).length (.slice none 0 0)) ⟨l, Hn n L ++ [some (.row e sz 0 [])]⟩ a w := ⟨hHp, hr.2.1.ext he, hr.2.2⟩
  have hk : k < L.length := (List.getElem?_eq_some_iff.1 gb.h).1
  have hH : (Hn n L ++ [some (AB.row e sz 0 [])])[n + k]? = some (some (.box bt cs)) := by
    rw [List.getElem?_append_left (by rw [Hn_len]; omega), Hn_get]; exact gb.h
  have hm : m = L.length := pb.k.symm
  have h := Rel.reBox (s := ⟨l, Hn n L ++ [some (.row e sz 0 [])]⟩) (id := n + k) (cs' := cs.set j (.own (n + m) 0 0 0)) hr1 hH (by simp) (fun i av av' x h1 h2 h3 => by
    by_cases hji : j = i
    · subst hji
      rw [List.getElem?_set_self (List.getElem?_eq_some_iff.1 hj).1] at h2
      obtain rfl := Option.some.inj h2
      rw [hj] at h1
      obtain rfl := Option.some.inj h1
      cases h3
      refine .own ⟨?_, fun e' sz' ep' rows' h4 => ?_⟩ ⟨none, 0, rfl⟩
      · show n + m < ((Hn n L ++ [some (AB.row e sz 0 [])]).set (n + k) _).length
        rw [List.length_set, List.length_append, e0]; simp
      · have h4 : ((Hn n L ++ [some (AB.row e sz 0 [])]).set (n + k) _)[n + m]? = some (some (.row e' sz' ep' rows')) := h4
        rw [List.getElem?_set_ne (by omega), List.getElem?_append_right (by omega), e0, Nat.sub_self] at h4
        simp at h4
        obtain ⟨rfl, rfl, rfl, rfl⟩ := h4
        exact ⟨Nat.le_refl _, fun _ => ⟨by simp, none, 0, none, by simp [pushσ, e0], by simp, by simp, by simp⟩⟩
    · rw [List.getElem?_set_ne hji] at h2
      rw [h1] at h2
      obtain rfl := Option.some.inj h2
      exact h3)
  have e1 : (Hn n L ++ [some (AB.row e sz 0 [])]).set (n + k) (some (AB.box bt (cs.set j (.own (n + m) 0 0 0)))) = Hn n L'' := by
    rw [Hn_push, pb.h, Hn_set, sb.h]
  have e1' := e1
  rw [Hn_push, pb.h] at e1'
  simp only [e1] at h
  exact ⟨_, h.1, he.trans h.2⟩
end

end Go.Proofs.Ytlapfdfbgckfcaa.AL
