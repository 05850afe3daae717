/- An intermediate logic over abstract blocks, further rules; no condition. -/
import Derived.Test.YtlapfdfbgckfcaaAlM
namespace Go.Proofs.Ytlapfdfbgckfcaa.AL
open Go Go.RowKit
set_option linter.unusedVariables false
set_option linter.unusedSimpArgs false
/-! Arrays in memory, and slices of them. -/
section
variable {P : Program} {s : St}
/-- An array's slice. -/
theorem Pu.slice_arr {t e : TypeId} {x : Operand} {id off n sz : Nat} {bt : TypeId} {cs : List AV} (hu : P.underlying t = some (.array n e)) (hs : (P.info? e).map (·.size) = some sz) (hx : ev s x = .box id off) (hH : s.H[id]? = some (some (.box bt cs))) (hl : off + n ≤ cs.length) :
    Pu P (.slice t x none none none) s (.bsl id off n) := fun d t' pos af g base σ a w hr => by
  have h3 := ev_ok hr x
  rw [hx] at h3
  generalize hq : a.eval x = q at h3
  cases h3 with
  | box h hs' =>
    obtain ⟨ad, h1, rfl⟩ := h.2 _ _ hH
    refine ⟨.slice (some (ad.add off)) n n, .bsl ⟨h.1, fun t2 cs2 h4 => ?_⟩ ⟨_, _, rfl⟩, fun w' => ?_⟩
    · have h4' := (hH.symm.trans h4)
      obtain ⟨rfl, rfl⟩ := AB.box.inj (Option.some.inj (Option.some.inj h4'))
      exact ⟨ad, h1, hl, n, Nat.le_refl _, rfl⟩
    · simp only [execOp, hq, Option.map_none, Sem.run_bind]
      unfold Instr.sliceAt
      simp [run_underlying hu, Instr.sureAddr, Instr.sliceBounds, run_size hs, Result.andThen, Addr.add]
/-- An element of an array. -/
theorem Pu.index_arr {t e : TypeId} {x ix : Operand} {id off n sz : Nat} {k : IntKind} {i : Int} {bt : TypeId} {cs : List AV} (hu : P.underlying t = some (.array n e)) (hs : (P.info? e).map (·.size) = some sz) (hx : ev s x = .box id off) (hH : s.H[id]? = some (some (.box bt cs))) (hi : ev s ix = .v (.int k i)) (h0 : 0 ≤ i) (h1 : i < n) :
    Pu P (.indexAddr t x ix) s (.box id (off + i.toNat * sz)) := fun d t' pos af g base σ a w hr => by
  have h3 := ev_ok hr x
  rw [hx] at h3
  have hie := ev_v hr hi
  generalize hq : a.eval x = q at h3
  cases h3 with
  | box h hs' =>
    obtain ⟨ad, h2, rfl⟩ := h.2 _ _ hH
    refine ⟨.pointer (some ((ad.add off).add (i.toNat * sz))), .box ⟨h.1, fun t2 cs2 h4 => ?_⟩ ⟨_, rfl⟩, fun w' => ?_⟩
    · have h4' := (hH.symm.trans h4)
      obtain ⟨rfl, rfl⟩ := AB.box.inj (Option.some.inj (Option.some.inj h4'))
      exact ⟨ad, h2, by rw [add_add]⟩
    · simp only [execOp, hq, hie, Sem.run_bind]
      unfold Instr.indexAt
      simp [run_underlying hu, Instr.sureAddr, asIntOf, run_size hs, Result.andThen, h0, h1]
/-- An element of a slice of an array. -/
theorem Pu.index_bsl {t e : TypeId} {x ix : Operand} {id off n : Nat} {k : IntKind} {i : Int} {bt : TypeId} {cs : List AV} (hu : P.underlying t = some (.slice e)) (hs : (P.info? e).map (·.size) = some 1) (hx : ev s x = .bsl id off n) (hH : s.H[id]? = some (some (.box bt cs))) (hi : ev s ix = .v (.int k i)) (h0 : 0 ≤ i) (h1 : i < n) :
    Pu P (.indexAddr t x ix) s (.box id (off + i.toNat)) := fun d t' pos af g base σ a w hr => by
  have h3 := ev_ok hr x
  rw [hx] at h3
  have hie := ev_v hr hi
  generalize hq : a.eval x = q at h3
  cases h3 with
  | bsl h hs' =>
    obtain ⟨ad, h2, hl, c, hc, rfl⟩ := h.2 _ _ hH
    refine ⟨.pointer (some ((ad.add off).add i.toNat)), .box ⟨h.1, fun t2 cs2 h4 => ?_⟩ ⟨_, rfl⟩, fun w' => ?_⟩
    · have h4' := (hH.symm.trans h4)
      obtain ⟨rfl, rfl⟩ := AB.box.inj (Option.some.inj (Option.some.inj h4'))
      exact ⟨ad, h2, by rw [add_add]⟩
    · have := run_indexAt (P := P) (ad := ad.add off) (len := n) (c := c) (k := k) (i := i) hu hs h0 h1 w'
      rw [Nat.mul_one] at this
      simp only [execOp, hq, hie, Sem.run_bind, this, Result.andThen_ok, Sem.run_pure]
theorem Pu.len_bsl {x : Operand} {t e : TypeId} {id off n : Nat} (ht : P.underlying t = some (.slice e)) (hx : ev s x = .bsl id off n) : Pu P (.call { callee := .builtin .len, args := #[x], argTypes := #[t] }) s (.v (.int .i64 (n : Int))) :=
  Pu.call_len fun base σ a w hr w' => by
    have h3 := ev_ok hr x
    rw [hx] at h3
    generalize hq : a.eval x = q at h3
    cases h3 with
    | bsl h hs' =>
      obtain ⟨A, c, rfl⟩ := hs'
      simp [Builtin.len_, run_underlying ht, goInt, Result.andThen]
end
section
variable {P : Program} {c : Bool} {l : List AV} {x y : Operand} {t e bt : TypeId} {n kk off m sz : Nat} {k : IntKind} {p : Int} {L : List (Option AB)} {cs : List AV} {g : Bool}
class LNle (n : Nat) (cs : List AV) : Prop where
  h : n ≤ cs.length
instance sliceArr [tu : TU P t (.array m e)] [tg : TG P e g sz] [h : EC c l x (.box (n + kk) off)] [hb : GB L kk (.box bt cs)] : OC c P (.slice t x none none none) l (Hn n L) (.bsl (n + kk) off m) (off + m ≤ cs.length) := ⟨fun hc ob => (Pu.slice_arr (s := ⟨l, Hn n L⟩) tu.h (TG.s (g := g)) (h.h hc _) (by show (Hn n L)[n + kk]? = _; rw [Hn_get]; exact hb.h) ob).lt⟩
instance indexArr [tu : TU P t (.array m e)] [tg : TG P e g sz] [h : EC c l x (.box (n + kk) off)] [hb : GB L kk (.box bt cs)] [h' : EC c l y (.v (.int k p))] : OC c P (.indexAddr t x y) l (Hn n L) (.box (n + kk) (off + p.toNat * sz)) (0 ≤ p ∧ p < m) := ⟨fun hc ob => (Pu.index_arr (s := ⟨l, Hn n L⟩) tu.h (TG.s (g := g)) (h.h hc _) (by show (Hn n L)[n + kk]? = _; rw [Hn_get]; exact hb.h) (h'.h hc _) ob.1 ob.2).lt⟩
instance indexBsl [tu : TU P t (.slice e)] [tg : TG P e g 1] [h : EC c l x (.bsl (n + kk) off m)] [hb : GB L kk (.box bt cs)] [h' : EC c l y (.v (.int k p))] : OC c P (.indexAddr t x y) l (Hn n L) (.box (n + kk) (off + p.toNat)) (0 ≤ p ∧ p < m) := ⟨fun hc ob => (Pu.index_bsl (s := ⟨l, Hn n L⟩) tu.h (TG.s (g := g)) (h.h hc _) (by show (Hn n L)[n + kk]? = _; rw [Hn_get]; exact hb.h) (h'.h hc _) ob.1 ob.2).lt⟩
instance lenBsl {H : List (Option AB)} [tu : TU P t (.slice e)] [h : EC c l x (.bsl (n + kk) off m)] : LC c P (.call { callee := .builtin .len, args := #[x], argTypes := #[t] }) l H (.v (.int .i64 (m : Int))) := ⟨fun hc => (Pu.len_bsl (s := ⟨l, H⟩) tu.h (h.h hc _)).lt⟩
end

end Go.Proofs.Ytlapfdfbgckfcaa.AL
