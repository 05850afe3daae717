/- An intermediate logic over abstract blocks, further rules; no condition. -/
import Derived.Test.YtlapfdfbgckfcaaAlO
namespace Go.Proofs.Ytlapfdfbgckfcaa.AL
open Go Go.RowKit
set_option linter.unusedVariables false
set_option linter.unusedSimpArgs false
/-! Quotient and remainder of a number that may be negative, by 8 -/
section
variable {c : Bool} {P : Program} {l : List AV} {H : List (Option AB)} {x : Operand} {p : Int} {t t' : TypeId}
theorem Pu.quoT {s : St} {xt yt : TypeId} {x y : Operand} {k : IntKind} {p q : Int} (hx : ev s x = .v (.int k p)) (hy : ev s y = .v (.int k q)) (h1 : 0 < q) : Pu P (.binOp .quo xt x y yt) s (.v (.int k (k.wrap (p.tdiv q)))) :=
  Pu.bin hx hy fun w => by simp [eqGuard, binOp, Op.intDiv, show ¬ q = 0 by omega]
theorem Pu.remT {s : St} {xt yt : TypeId} {x y : Operand} {k : IntKind} {p q : Int} (hx : ev s x = .v (.int k p)) (hy : ev s y = .v (.int k q)) (h1 : 0 < q) : Pu P (.binOp .rem xt x y yt) s (.v (.int k (p.tmod q))) :=
  Pu.bin hx hy fun w => by simp [eqGuard, binOp, Op.intDiv, show ¬ q = 0 by omega]
instance [h : EC c l x (.v (.int .i64 p))] : PW c P (.binOp .quo t x (.const (.int .i64 8)) t') l H (.v (.int .i64 (IntKind.i64.wrap (p.tdiv 8)))) := ⟨fun hc => (Pu.quoT (h.h hc H) rfl (by decide)).lt⟩
instance [h : EC c l x (.v (.int .i64 p))] : PW c P (.binOp .rem t x (.const (.int .i64 8)) t') l H (.v (.int .i64 (p.tmod 8))) := ⟨fun hc => (Pu.remT (h.h hc H) rfl (by decide)).lt⟩
end

end Go.Proofs.Ytlapfdfbgckfcaa.AL
