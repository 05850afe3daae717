/- An intermediate logic over abstract blocks, further rules; no condition. -/
import Derived.Test.YtlapfdfbgckfcaaAlN
namespace Go.Proofs.Ytlapfdfbgckfcaa.AL
open Go Go.RowKit
set_option linter.unusedVariables false
set_option linter.unusedSimpArgs false
/-! Errors: an interface that holds a number, or nothing. -/
def ifV (t : TypeId) (c : Int) : Value := if c = 0 then .nilIface else .iface t (.int .i64 c)
theorem ifV_nil (t : TypeId) : ifV t 0 = .nilIface := rfl
theorem ifV_of {t : TypeId} {c : Int} (h : c ≠ 0) : ifV t c = .iface t (.int .i64 c) := by unfold ifV; rw [if_neg h]
class TCMP (P : Program) (t : TypeId) : Prop where
  h : (P.info? t).map (·.comparable) = some true
section
variable {P : Program} {s : St} {t tc : TypeId} {x y : Operand} {a b : Int} {ms : Array (String × TypeId)}
theorem Pu.mkIf {d : TypeDesc} {v : Value} (hu : P.underlying t = some d) (hd : (match d with | .interface _ => false | _ => true) = true) (hx : ev s x = .v v) : Pu P (.makeInterface t x) s (.v (.iface t v)) := fun d' t' pos af g base σ a w hr => by
  refine ⟨_, .v _, fun w' => ?_⟩
  rw [show execOp a.eval ⟨d', .makeInterface t x, t', pos, af, g⟩ = (do pure (Next.value (← Instr.makeInterface t (a.eval x)))) from rfl, ev_v hr hx]
  unfold Instr.makeInterface
  cases d <;> simp_all [run_underlying hu, Result.andThen]
theorem run_eqIf {u : TypeDesc} (hu : P.underlying t = some u) (hi : (match u with | .interface _ => true | _ => false) = true) (hc : P.underlying tc = some (.int .i64)) (hp : (P.info? tc).map (·.comparable) = some true) (hb : b ≠ 0) (w : World) :
    (Op.equal t (ifV tc a) (.iface tc (.int .i64 b))).run P w = .ok (decide (a = b)) w := by
  obtain ⟨i, h1, h2⟩ : ∃ i, P.info? tc = some i ∧ i.comparable = true := by
    cases hq : P.info? tc with
    | none => rw [hq] at hp; cases hp
    | some i => rw [hq] at hp; exact ⟨i, rfl, by simpa using hp⟩
  cases u with
  | interface ms =>
    unfold Op.equal Op.maxDepth ifV
    by_cases h : a = 0
    · subst h
      rw [if_pos rfl, decide_eq_false (Ne.symm hb)]
      unfold Op.equalIn
      simp [run_underlying hu, Result.andThen]
    · rw [if_neg h]
      unfold Op.equalIn
      simp only [Sem.run_bind, run_underlying hu, Result.andThen_ok]
      simp only [ne_eq, not_true_eq_false, if_false, Sem.run_bind, typeInfo, run_program, Result.andThen_ok, h1, Sem.run_pure, h2, Bool.not_true, Bool.false_eq_true]
      unfold Op.equalIn
      simp [run_underlying hc, Result.andThen]
      rw [Bool.eq_iff_iff, beq_iff_eq, decide_eq_true_eq]
  | _ => simp at hi
theorem run_eqNil {u : TypeDesc} (hu : P.underlying t = some u) (hi : (match u with | .interface _ => true | _ => false) = true) (w : World) :
    (Op.equal t (ifV tc a) .nilIface).run P w = .ok (decide (a = 0)) w := by
  cases u with
  | interface ms =>
    unfold Op.equal Op.maxDepth ifV
    unfold Op.equalIn
    by_cases h : a = 0
    · rw [if_pos h, decide_eq_true h]
      simp [run_underlying hu, Result.andThen]
    · rw [if_neg h, decide_eq_false h]
      simp [run_underlying hu, Result.andThen]
  | _ => simp at hi
theorem Pu.eqIf {yt : TypeId} {u : TypeDesc} (hu : P.underlying t = some u) (hi : (match u with | .interface _ => true | _ => false) = true) (hc : P.underlying tc = some (.int .i64)) (hp : (P.info? tc).map (·.comparable) = some true) (hb : b ≠ 0) (hx : ev s x = .v (ifV tc a)) (hy : ev s y = .v (.iface tc (.int .i64 b))) :
    Pu P (.binOp .eql t x y yt) s (.v (.bool (decide (a = b)))) :=
  Pu.bin hx hy fun w => by
    have h := run_eqIf (a := a) hu hi hc hp hb w
    have hg : (eqGuard .eql t x y (ifV tc a) (.iface tc (.int .i64 b))).run P w = .ok () w := by
      unfold ifV; by_cases ha : a = 0 <;> simp [ha, eqGuard]
    simp [Sem.run_bind, hg, binOp, h, Result.andThen]
theorem Pu.neIf {yt : TypeId} {u : TypeDesc} (hu : P.underlying t = some u) (hi : (match u with | .interface _ => true | _ => false) = true) (hc : P.underlying tc = some (.int .i64)) (hp : (P.info? tc).map (·.comparable) = some true) (hb : b ≠ 0) (hx : ev s x = .v (ifV tc a)) (hy : ev s y = .v (.iface tc (.int .i64 b))) :
    Pu P (.binOp .neq t x y yt) s (.v (.bool (decide (a ≠ b)))) :=
  Pu.bin hx hy fun w => by
    have h := run_eqIf (a := a) hu hi hc hp hb w
    have hg : (eqGuard .neq t x y (ifV tc a) (.iface tc (.int .i64 b))).run P w = .ok () w := by
      unfold ifV; by_cases ha : a = 0 <;> simp [ha, eqGuard]
    simp [Sem.run_bind, hg, binOp, h, Result.andThen]
theorem Pu.eqNil {yt : TypeId} {u : TypeDesc} (hu : P.underlying t = some u) (hi : (match u with | .interface _ => true | _ => false) = true) (hx : ev s x = .v (ifV tc a)) :
    Pu P (.binOp .eql t x (.const .nilIface) yt) s (.v (.bool (decide (a = 0)))) :=
  Pu.bin (y := .const .nilIface) hx rfl fun w => by
    have h := run_eqNil (tc := tc) (a := a) hu hi w
    have hg : (eqGuard .eql t x (.const .nilIface) (ifV tc a) .nilIface).run P w = .ok () w := by
      unfold ifV; by_cases ha : a = 0 <;> simp [ha, eqGuard]
    simp [Sem.run_bind, hg, binOp, h, Result.andThen]
theorem Pu.neNil {yt : TypeId} {u : TypeDesc} (hu : P.underlying t = some u) (hi : (match u with | .interface _ => true | _ => false) = true) (hx : ev s x = .v (ifV tc a)) :
    Pu P (.binOp .neq t x (.const .nilIface) yt) s (.v (.bool (decide (a ≠ 0)))) :=
  Pu.bin (y := .const .nilIface) hx rfl fun w => by
    have h := run_eqNil (tc := tc) (a := a) hu hi w
    have hg : (eqGuard .neq t x (.const .nilIface) (ifV tc a) .nilIface).run P w = .ok () w := by
      unfold ifV; by_cases ha : a = 0 <;> simp [ha, eqGuard]
    simp [Sem.run_bind, hg, binOp, h, Result.andThen]
variable {c : Bool} {l : List AV} {H : List (Option AB)} {yt : TypeId}
instance mkIfS {f : Array Field} [tu : TU P t (.struct f)] {v : Value} [h : EC c l x (.v v)] : PC c P (.makeInterface t x) l H (.v (.iface t v)) := ⟨fun hc => Pu.mkIf tu.h rfl (h.h hc H)⟩
instance mkIfI {k : IntKind} [tu : TU P t (.int k)] {v : Value} [h : EC c l x (.v v)] : PC c P (.makeInterface t x) l H (.v (.iface t v)) := ⟨fun hc => Pu.mkIf tu.h rfl (h.h hc H)⟩
instance eqIfN [tu : TU P t (.interface ms)] [h : EC c l x (.v (ifV tc a))] : PC c P (.binOp .eql t x (.const .nilIface) yt) l H (.v (.bool (decide (a = 0)))) := ⟨fun hc => Pu.eqNil tu.h rfl (h.h hc H)⟩
instance neIfN [tu : TU P t (.interface ms)] [h : EC c l x (.v (ifV tc a))] : PC c P (.binOp .neq t x (.const .nilIface) yt) l H (.v (.bool (decide (a ≠ 0)))) := ⟨fun hc => Pu.neNil tu.h rfl (h.h hc H)⟩
instance eqIfC [tu : TU P t (.interface ms)] [tv : TU P tc (.int .i64)] [tp : TCMP P tc] [h : EC c l x (.v (ifV tc a))] [h' : EC c l y (.v (.iface tc (.int .i64 b)))] : OC c P (.binOp .eql t x y yt) l H (.v (.bool (decide (a = b)))) (b ≠ 0) := ⟨fun hc hb => (Pu.eqIf tu.h rfl tv.h tp.h hb (h.h hc H) (h'.h hc H)).lt⟩
instance neIfC [tu : TU P t (.interface ms)] [tv : TU P tc (.int .i64)] [tp : TCMP P tc] [h : EC c l x (.v (ifV tc a))] [h' : EC c l y (.v (.iface tc (.int .i64 b)))] : OC c P (.binOp .neq t x y yt) l H (.v (.bool (decide (a ≠ b)))) (b ≠ 0) := ⟨fun hc hb => (Pu.neIf tu.h rfl tv.h tp.h hb (h.h hc H) (h'.h hc H)).lt⟩
end

end Go.Proofs.Ytlapfdfbgckfcaa.AL
