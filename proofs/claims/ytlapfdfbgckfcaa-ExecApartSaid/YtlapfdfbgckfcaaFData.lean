/- What functions of the program compute, each by its own contract; the conditions stand with each. -/
import Derived.Test.YtlapfdfbgckfcaaAlK
import Derived.Test.YtlapfdfbgckfcaaAlTy
import Derived.Test.YtlapfdfbgckfcaaFLe
import Derived.KernelRfl
namespace Go.Proofs.Ytlapfdfbgckfcaa.AL
open Go Go.RowKit Go.Proofs.Ytlapfdfbgckfcaa.Base
set_option linter.unusedVariables false
set_option linter.unusedSimpArgs false
set_option maxRecDepth 4000
set_option synthInstance.maxSize 1000
set_option synthInstance.maxHeartbeats 200000

structure RelD where
  off : Int
  typ : Int
  sym : Int
  add : Int
  deriving Inhabited, DecidableEq
structure SecD where
  name : ByteArray
  typ : Int
  flags : Int
  align : Int
  ent : Int
  link : Int
  size : Int
  data : List Int
  rels : List RelD
  deriving Inhabited
structure SymD where
  name : ByteArray
  bind : Int
  typ : Int
  sec : Int
  val : Int
  size : Int
  deriving Inhabited
structure GrpD where
  sym : Int
  mem : List Int
  deriving Inhabited
structure ObjD where
  secs : List SecD
  syms : List SymD
  groups : List GrpD
  hasSig : Bool
  sig : List Int
  deriving Inhabited
@[reducible] def relA (r : RelD) : List AV := [.v (.int .i64 r.off), .v (.int .i64 r.typ), .v (.int .i64 r.sym), .v (.int .i64 r.add)]
@[reducible] def secA (s : SecD) : List AV := [.v (.string s.name), .v (.int .i64 s.typ), .v (.int .i64 s.flags), .v (.int .i64 s.align), .v (.int .i64 s.ent), .v (.int .i64 s.link), .v (.int .i64 s.size), .rd 1 (bys s.data), .rd 4 (s.rels.map relA)]
@[reducible] def symA (s : SymD) : List AV := [.v (.string s.name), .v (.int .i64 s.bind), .v (.int .i64 s.typ), .v (.int .i64 s.sec), .v (.int .i64 s.val), .v (.int .i64 s.size)]
@[reducible] def grpA (g : GrpD) : List AV := [.v (.int .i64 g.sym), .rd 1 (g.mem.map iA)]
@[reducible] def objA (o : ObjD) : List AV := [.rd 9 (o.secs.map secA), .rd 6 (o.syms.map symA), .rd 2 (o.groups.map grpA), .v (.bool o.hasSig), .rd 1 (o.sig.map iA)]
@[reducible] def pcA (p : Int × Int) : List AV := [.v (.int .i64 p.1), .v (.int .i64 p.2)]
def I64 (x : Int) : Prop := -9223372036854775808 ≤ x ∧ x ≤ 9223372036854775807
instance (x : Int) : Decidable (I64 x) := by unfold I64; infer_instance
theorem drop_getD {α : Type} [Inhabited α] {l : List α} {i : Nat} (h : i < l.length) : l.drop i = l.getD i default :: l.drop (i + 1) := by
  rw [List.drop_eq_getElem_cons h]; simp [h]
theorem wi64' {x : Int} (h : -9223372036854775808 ≤ x ∧ x ≤ 9223372036854775807) : IntKind.i64.wrap x = x := by rw [wi64_eq]; exact w64 h.1 h.2
theorem drop_getD0 {l : List Int} {i : Nat} (h : i < l.length) : l.drop i = l.getD i 0 :: l.drop (i + 1) := by
  rw [List.drop_eq_getElem_cons h]; simp [h]
def RelD.ok (r : RelD) : Prop := I64 r.off ∧ I64 r.typ ∧ I64 r.sym ∧ I64 r.add
def SecD.ok (s : SecD) : Prop := s.name.size ≤ maxLen ∧ I64 s.typ ∧ I64 s.flags ∧ I64 s.align ∧ I64 s.ent ∧ I64 s.link ∧ I64 s.size ∧ s.data.length ≤ maxLen ∧ Bytes s.data ∧ s.rels.length ≤ maxLen ∧ ∀ r ∈ s.rels, r.ok
def SymD.ok (s : SymD) : Prop := s.name.size ≤ maxLen ∧ I64 s.bind ∧ I64 s.typ ∧ I64 s.sec ∧ I64 s.val ∧ I64 s.size
def GrpD.ok (g : GrpD) : Prop := I64 g.sym ∧ g.mem.length ≤ maxLen ∧ ∀ x ∈ g.mem, I64 x
def ObjD.ok (o : ObjD) : Prop := o.secs.length ≤ maxLen ∧ (∀ s ∈ o.secs, s.ok) ∧ o.syms.length ≤ maxLen ∧ (∀ s ∈ o.syms, s.ok) ∧ o.groups.length ≤ maxLen ∧ (∀ g ∈ o.groups, g.ok) ∧ o.sig.length ≤ maxLen ∧ ∀ x ∈ o.sig, I64 x
theorem maxLen_eq : maxLen = 9223372036854775807 := by unfold maxLen; rfl


end Go.Proofs.Ytlapfdfbgckfcaa.AL
