/- An intermediate logic over abstract blocks, further rules; no condition. -/
import Derived.Test.YtlapfdfbgckfcaaAlH
namespace Go.Proofs.Ytlapfdfbgckfcaa.AL
open Go Go.RowKit
set_option linter.unusedVariables false
set_option linter.unusedSimpArgs false
/-! Calls that are handed blocks of the caller's own; boxes of numbers, by a number's place. -/
section
variable {P : Program}
def FinC (P : Program) (base : Cx) (rs : List ResultVar) (R : AV → List (Option AB) → Prop) : Exit → St → Prop := fun ex s' => (ex = .normal ∨ ex = .ret) ∧ ∃ s2, Gh base s' s2 ∧ ∃ avs, ResR P s2 rs avs ∧ R (packA avs) s2.H
theorem AC.body {f : FuncId} {fn : Func} {c : Code} {rs : List ResultVar} {args : List AV} {H : List (Option AB)} {R : AV → List (Option AB) → Prop} {l : List AV} (n : Nat) [fr : FR args n l] (hf : P.funcs[f]? = some fn) (hb : fn.body = some c) (hrs : fn.results = rs.toArray) (hn : fn.ntmps = n)
    (h : ∀ base : Cx, AW P base c ⟨l, H⟩ (FinC P base rs R)) : AC P f H args R := by
  refine AC.of_body hf hb hrs n hn fun base => ?_
  have hw : Gh base ⟨frame0 args n, H⟩ ⟨l, H⟩ := by
    have hfl : (frame0 args n).length = n := by have := fr.le; simp [frame0]; omega
    refine Gh.weaken (s := ⟨frame0 args n, H⟩) (by rw [hfl]; exact fr.len) fun i av hi => ?_
    rcases fr.h i av hi with h1 | h1
    · exact .inl h1
    · refine .inr ?_
      have hlt := (List.getElem?_eq_some_iff.1 h1).1
      show (frame0 args n)[i]? = some av
      unfold frame0
      rw [List.getElem?_append_left hlt]; exact h1
  refine AW.ghost hw ?_
  exact AW.mono_ghost (h base) fun ex s1 ⟨he, s2, hg, avs, h1, h2⟩ => ⟨s2, hg, he, avs, h1, h2⟩
theorem FinC.ret {base : Cx} {rs : List ResultVar} {R : AV → List (Option AB) → Prop} {l l' avs : List AV} {H H' : List (Option AB)} (hg : Gh base ⟨l, H⟩ ⟨l', H'⟩) [rr : RR P l' H' rs avs] (hR : R (packA avs) H') {ex : Exit} (hex : ex = .normal ∨ ex = .ret) : FinC P base rs R ex ⟨l, H⟩ := ⟨hex, _, hg, _, rr.h, hR⟩
variable {base : Cx} {l l' : List AV} {H H2 : List (Option AB)} {Q : Exit → St → Prop} {ops : Array Oper} {rest : List Oper} {d : Option Tmp} {t : TypeId} {pos : String} {af : Array Edge} {av : AV}
/-- A call that is handed blocks of the caller's own. -/
theorem AO.callC {f : FuncId} {fn : Func} {as : List Operand} {ts : Array TypeId} {args : List AV} (hf : P.funcs[f]? = some fn) (hname : (fn.name == "runtime.NumGoroutine") = false) (hb : fn.body.isSome = true)
    [ha : ARG l as args] (h : AC P f H args (fun r H' => r = av ∧ H' = H2)) [hd : DL l d av l'] (k : AO P base ops rest ⟨l', H2⟩ Q) : AO P base ops (⟨d, .call { callee := .value (.func f), args := as.toArray, argTypes := ts }, t, pos, af, none⟩ :: rest) ⟨l, H⟩ Q := by
  refine AO.heavy rfl (Hv.call hf hname hb (ha.h H) h) fun s1 ⟨r, H', h1, h2⟩ => ?_
  obtain ⟨h3, h4⟩ := h1
  subst h3; subst h4; subst h2
  rw [hd.h]; exact k
theorem AW.eqH {c : Code} {H' : List (Option AB)} (h : H = H') (k : AW P base c ⟨l, H'⟩ Q) : AW P base c ⟨l, H⟩ Q := by subst h; exact k
end
@[reducible] def iV (x : Int) : AV := .v (.int .i64 x)
section
variable {c : Bool} {P : Program} {l : List AV} {x y : Operand} {t bt : TypeId} {n kk k i sz : Nat} {L L' : List (Option AB)} {li : List Int} {p : Int}
theorem iV_at {li : List Int} {i : Nat} (h : i < li.length) : (li.map iV)[i]? = some (.v (.int .i64 (li.getD i 0))) := by
  rw [List.getElem?_map, List.getElem?_eq_getElem h, List.getD_eq_getElem?_getD, List.getElem?_eq_getElem h]; rfl
instance loadBoxM [tg : TG P t false sz] [h : EC c l x (.box (n + kk) i)] [hb : GB L kk (.box bt (li.map iV))] : OC c P (.load t x) l (Hn n L) (.v (.int .i64 (li.getD i 0))) (i < li.length) := ⟨fun hc ob => Lt.loadB1 (sz := sz) rfl (h.h hc _) hb.h (iV_at ob)⟩
theorem layAt_iV (h : i < li.length) : layAt (li.map iV) i [.v (.int .i64 p)] = (li.set i p).map iV := by
  unfold layAt
  rw [List.map_set]
  simp [List.set_eq_take_append_cons_drop, h]
instance (priority := high) storeBoxM {gg : Bool} [tg : TG P t gg 1] [h : EC true l x (.box (n + k) i)] [gb : GB L k (.box bt (li.map iV))] [h' : EC true l y (.v (.int .i64 p))] [sb : SB L k (some (.box bt ((li.set i p).map iV))) L'] : HS P (.store t x y) l (Hn n L) (Hn n L') (i < li.length) := ⟨fun ho base ty pos af g => by
  have hs := sb.h
  rw [← layAt_iV ho] at hs
  exact Hv.storeN (s := ⟨l, Hn n L⟩) (gg := gg) rfl (h.h rfl _) gb.h (by rw [h'.h rfl]; rfl) rfl (by simp; omega) hs⟩
end

end Go.Proofs.Ytlapfdfbgckfcaa.AL
