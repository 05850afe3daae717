/-
  No cell of these rows narrows 'for every input' (looked for: loops, veiled, ifaces, maps, wideKeys, modest, calm, conditions, laid).
  DERIVED. THE GIVEN ROWS OF THIS SEAT. 7 by the template 'for every input the law returns true; each argument reads behind the call as it read before'; 0 by the template 'total and deterministic' (their statements: YtlapfdfbgckfcaaTotals.lean).
  GIVEN WITH THE SEED: the statements are not yours to turn. If you find one false, say at which input.
  Laid BY PROGRAM, IN A SANDBOX (cutbox-rows.mjs): the forced cells as the released guide's own fill.sh prints them over the translation 3c716bac87c67c50… (all of the seat's roots in one cut). By AI agents, Wed Nov 11 2026. No macro, syntax, notation, axiom, sorry.
-/
import Derived.Test.YtlapfdfbgckfcaaChecked
import GoSem.Claim
import GoSem.ClaimJoined
import GoSem.ClaimMapViews
import Derived.JoinedTies
import Derived.KernelRfl
namespace Go.Proofs.Ytlapfdfbgckfcaa
/- THE CELL 'sum', in the pinned program and in every row, IS THE sha256 OF THE DUMP (.gsa) THAT YtlapfdfbgckfcaaProg.lean LOADS. Nothing in Lean hashes anything: it is a label: what it is worth is what the hold of that sum in a sandbox is worth. -/
noncomputable def Try.pinned : Pinned := { name := "ytlapfdfbgckfcaa", sum := "3c716bac87c67c5051da249242cb5c12b9c7ccb4e9b37da7d96bbfd8c01e2a14", checked := Try.checked }
namespace Rows
def none {H : Type} : Left H := { results := [], args := [] }

/-- 'fishplatelaw19.ExecApart': WHATEVER THE INPUT: true; the input reads as it did. -/
def execApartSpec : ChangeSpec := { name := "execApart", fn := fun _ => fun
  | [d1, d2, d3, d4, d5] => { results := [.lit (.bool true)], args := [d1, d2, d3, d4, d5] }
  | _ => none }
def execApartRow : OpenClaim := { program := "ytlapfdfbgckfcaa", sum := "3c716bac87c67c5051da249242cb5c12b9c7ccb4e9b37da7d96bbfd8c01e2a14", func := "fishplate/fishplatelaw19.ExecApart", spec := "execApart", plainKeys := false, apart := false }
def ExecApartSaid : Prop := execApartRow.holds Try.pinned (OpenSpec.ofChange execApartSpec)

/-- ITS FALSE NEIGHBOUR: 'it returns false'. Refute it at one input. -/
def execApartWrong : ChangeSpec := { name := "execApart", fn := fun _ => fun
  | [d1, d2, d3, d4, d5] => { results := [.lit (.bool false)], args := [d1, d2, d3, d4, d5] }
  | _ => none }
def ExecApartWrongFalsely : Prop := execApartRow.holds Try.pinned (OpenSpec.ofChange execApartWrong)

/-- 'fishplatelaw21.InsnTells': WHATEVER THE INPUT: true; the input reads as it did. -/
def insnTellsSpec : ChangeSpec := { name := "insnTells", fn := fun _ => fun
  | [d1, d2] => { results := [.lit (.bool true)], args := [d1, d2] }
  | _ => none }
def insnTellsRow : OpenClaim := { program := "ytlapfdfbgckfcaa", sum := "3c716bac87c67c5051da249242cb5c12b9c7ccb4e9b37da7d96bbfd8c01e2a14", func := "fishplate/fishplatelaw21.InsnTells", spec := "insnTells", plainKeys := false, apart := false }
def InsnTellsSaid : Prop := insnTellsRow.holds Try.pinned (OpenSpec.ofChange insnTellsSpec)

/-- ITS FALSE NEIGHBOUR: 'it returns false'. Refute it at one input. -/
def insnTellsWrong : ChangeSpec := { name := "insnTells", fn := fun _ => fun
  | [d1, d2] => { results := [.lit (.bool false)], args := [d1, d2] }
  | _ => none }
def InsnTellsWrongFalsely : Prop := insnTellsRow.holds Try.pinned (OpenSpec.ofChange insnTellsWrong)

/-- 'fishplatelaw21.InsnBack': WHATEVER THE INPUT: true; the input reads as it did. -/
def insnBackSpec : ChangeSpec := { name := "insnBack", fn := fun _ => fun
  | [d1, d2, d3, d4] => { results := [.lit (.bool true)], args := [d1, d2, d3, d4] }
  | _ => none }
def insnBackRow : OpenClaim := { program := "ytlapfdfbgckfcaa", sum := "3c716bac87c67c5051da249242cb5c12b9c7ccb4e9b37da7d96bbfd8c01e2a14", func := "fishplate/fishplatelaw21.InsnBack", spec := "insnBack", plainKeys := false, apart := false }
def InsnBackSaid : Prop := insnBackRow.holds Try.pinned (OpenSpec.ofChange insnBackSpec)

/-- ITS FALSE NEIGHBOUR: 'it returns false'. Refute it at one input. -/
def insnBackWrong : ChangeSpec := { name := "insnBack", fn := fun _ => fun
  | [d1, d2, d3, d4] => { results := [.lit (.bool false)], args := [d1, d2, d3, d4] }
  | _ => none }
def InsnBackWrongFalsely : Prop := insnBackRow.holds Try.pinned (OpenSpec.ofChange insnBackWrong)

/-- 'fishplatelaw08.ObjPuts': WHATEVER THE INPUT: true; the input reads as it did. -/
def objPutsSpec : ChangeSpec := { name := "objPuts", fn := fun _ => fun
  | [d] => { results := [.lit (.bool true)], args := [d] }
  | _ => none }
def objPutsRow : OpenClaim := { program := "ytlapfdfbgckfcaa", sum := "3c716bac87c67c5051da249242cb5c12b9c7ccb4e9b37da7d96bbfd8c01e2a14", func := "fishplate/fishplatelaw08.ObjPuts", spec := "objPuts", inPlace := ["internal/bytealg.IndexByteString", "internal/bytealg.IndexByte"], unfollowed := true, recurses := true, plainKeys := false, apart := false }
def ObjPutsSaid : Prop := objPutsRow.holds Try.pinned (OpenSpec.ofChange objPutsSpec)

/-- ITS FALSE NEIGHBOUR: 'it returns false'. Refute it at one input. -/
def objPutsWrong : ChangeSpec := { name := "objPuts", fn := fun _ => fun
  | [d] => { results := [.lit (.bool false)], args := [d] }
  | _ => none }
def ObjPutsWrongFalsely : Prop := objPutsRow.holds Try.pinned (OpenSpec.ofChange objPutsWrong)

/-- 'fishplatelaw08.ObjBack': WHATEVER THE INPUT: true; the input reads as it did. -/
def objBackSpec : ChangeSpec := { name := "objBack", fn := fun _ => fun
  | [d] => { results := [.lit (.bool true)], args := [d] }
  | _ => none }
def objBackRow : OpenClaim := { program := "ytlapfdfbgckfcaa", sum := "3c716bac87c67c5051da249242cb5c12b9c7ccb4e9b37da7d96bbfd8c01e2a14", func := "fishplate/fishplatelaw08.ObjBack", spec := "objBack", inPlace := ["internal/bytealg.IndexByteString", "internal/bytealg.IndexByte"], unfollowed := true, recurses := true, plainKeys := false, apart := false }
def ObjBackSaid : Prop := objBackRow.holds Try.pinned (OpenSpec.ofChange objBackSpec)

/-- ITS FALSE NEIGHBOUR: 'it returns false'. Refute it at one input. -/
def objBackWrong : ChangeSpec := { name := "objBack", fn := fun _ => fun
  | [d] => { results := [.lit (.bool false)], args := [d] }
  | _ => none }
def ObjBackWrongFalsely : Prop := objBackRow.holds Try.pinned (OpenSpec.ofChange objBackWrong)

/-- 'fishplatelaw08.ObjAgain': WHATEVER THE INPUT: true; the input reads as it did. -/
def objAgainSpec : ChangeSpec := { name := "objAgain", fn := fun _ => fun
  | [d] => { results := [.lit (.bool true)], args := [d] }
  | _ => none }
def objAgainRow : OpenClaim := { program := "ytlapfdfbgckfcaa", sum := "3c716bac87c67c5051da249242cb5c12b9c7ccb4e9b37da7d96bbfd8c01e2a14", func := "fishplate/fishplatelaw08.ObjAgain", spec := "objAgain", inPlace := ["internal/bytealg.IndexByteString", "internal/bytealg.IndexByte"], unfollowed := true, recurses := true, plainKeys := false, apart := false }
def ObjAgainSaid : Prop := objAgainRow.holds Try.pinned (OpenSpec.ofChange objAgainSpec)

/-- ITS FALSE NEIGHBOUR: 'it returns false'. Refute it at one input. -/
def objAgainWrong : ChangeSpec := { name := "objAgain", fn := fun _ => fun
  | [d] => { results := [.lit (.bool false)], args := [d] }
  | _ => none }
def ObjAgainWrongFalsely : Prop := objAgainRow.holds Try.pinned (OpenSpec.ofChange objAgainWrong)

/-- 'fishplatelaw12.GraphWhole': WHATEVER THE INPUT: true; the input reads as it did. -/
def graphWholeSpec : ChangeSpec := { name := "graphWhole", fn := fun _ => fun
  | [d1, d2] => { results := [.lit (.bool true)], args := [d1, d2] }
  | _ => none }
def graphWholeRow : OpenClaim := { program := "ytlapfdfbgckfcaa", sum := "3c716bac87c67c5051da249242cb5c12b9c7ccb4e9b37da7d96bbfd8c01e2a14", func := "fishplate/fishplatelaw12.GraphWhole", spec := "graphWhole", inPlace := ["internal/bytealg.IndexByteString", "slices.overlaps[fishplate/names.Def]"], unfollowed := true, recurses := true, plainKeys := false, apart := false }
def GraphWholeSaid : Prop := graphWholeRow.holds Try.pinned (OpenSpec.ofChange graphWholeSpec)

/-- ITS FALSE NEIGHBOUR: 'it returns false'. Refute it at one input. -/
def graphWholeWrong : ChangeSpec := { name := "graphWhole", fn := fun _ => fun
  | [d1, d2] => { results := [.lit (.bool false)], args := [d1, d2] }
  | _ => none }
def GraphWholeWrongFalsely : Prop := graphWholeRow.holds Try.pinned (OpenSpec.ofChange graphWholeWrong)

/- THE SECOND FORM. 'bulk': how many values and letters a reading holds, each counted each time it is reached (what is shared counts as often as it is met; a slice's spare places count too). A statement '..UptoSaid' is the law's where the arguments, and the package variables that the reading takes, are together of bulk at most 1048576: NARROWER than '..Said'. Prove '..Said' where nothing that the law and all that it calls make is longer than what came in: it says more and counts as full. Else prove '..UptoSaid'. A law counts once. -/
mutual
def uptoBulk {H : Type} : DataW H → Nat
  | .lit (.string bytes) => bytes.length + 1
  | .lit _ => 1
  | .nil => 1
  | .ptr d => uptoBulk d + 1
  | .slice elems spare => uptoBulkAll elems + uptoBulkAll spare + 1
  | .agg parts => uptoBulkAll parts + 1
  | .iface _ d => uptoBulk d + 1
  | .map entries => uptoBulkEntries entries + 1
  | .held _ => 1
def uptoBulkAll {H : Type} : List (DataW H) → Nat
  | [] => 0
  | d :: r => uptoBulk d + uptoBulkAll r
def uptoBulkEntries {H : Type} : List (Lit × DataW H) → Nat
  | [] => 0
  | x :: r => uptoBulkEntry x + uptoBulkEntries r
def uptoBulkEntry {H : Type} : Lit × DataW H → Nat
  | (.string bytes, d) => bytes.length + uptoBulk d + 1
  | (_, d) => uptoBulk d + 1
 end
def uptoSmall : (H : Type) → List (DataW H) → Bool := fun _ ds => decide (uptoBulkAll ds ≤ 1048576)
def OpenSpec.upto (s : _root_.Go.ChangeSpec) : _root_.Go.OpenSpec := { _root_.Go.OpenSpec.ofChange s with cond := some uptoSmall }

/-- 'fishplatelaw19.ExecApart', WHERE WHAT IT READS IS OF BULK AT MOST 1048576: true; the input reads as it did. -/
def execApartUptoRow : OpenClaim := { program := "ytlapfdfbgckfcaa", sum := "3c716bac87c67c5051da249242cb5c12b9c7ccb4e9b37da7d96bbfd8c01e2a14", func := "fishplate/fishplatelaw19.ExecApart", spec := "execApart", plainKeys := false, apart := false, narrowed := true }
def ExecApartUptoSaid : Prop := execApartUptoRow.holds Try.pinned (OpenSpec.upto execApartSpec)

/-- 'fishplatelaw21.InsnTells', WHERE WHAT IT READS IS OF BULK AT MOST 1048576: true; the input reads as it did. -/
def insnTellsUptoRow : OpenClaim := { program := "ytlapfdfbgckfcaa", sum := "3c716bac87c67c5051da249242cb5c12b9c7ccb4e9b37da7d96bbfd8c01e2a14", func := "fishplate/fishplatelaw21.InsnTells", spec := "insnTells", plainKeys := false, apart := false, narrowed := true }
def InsnTellsUptoSaid : Prop := insnTellsUptoRow.holds Try.pinned (OpenSpec.upto insnTellsSpec)

/-- 'fishplatelaw21.InsnBack', WHERE WHAT IT READS IS OF BULK AT MOST 1048576: true; the input reads as it did. -/
def insnBackUptoRow : OpenClaim := { program := "ytlapfdfbgckfcaa", sum := "3c716bac87c67c5051da249242cb5c12b9c7ccb4e9b37da7d96bbfd8c01e2a14", func := "fishplate/fishplatelaw21.InsnBack", spec := "insnBack", plainKeys := false, apart := false, narrowed := true }
def InsnBackUptoSaid : Prop := insnBackUptoRow.holds Try.pinned (OpenSpec.upto insnBackSpec)

/-- 'fishplatelaw08.ObjPuts', WHERE WHAT IT READS IS OF BULK AT MOST 1048576: true; the input reads as it did. -/
def objPutsUptoRow : OpenClaim := { program := "ytlapfdfbgckfcaa", sum := "3c716bac87c67c5051da249242cb5c12b9c7ccb4e9b37da7d96bbfd8c01e2a14", func := "fishplate/fishplatelaw08.ObjPuts", spec := "objPuts", inPlace := ["internal/bytealg.IndexByteString", "internal/bytealg.IndexByte"], unfollowed := true, recurses := true, plainKeys := false, apart := false, narrowed := true }
def ObjPutsUptoSaid : Prop := objPutsUptoRow.holds Try.pinned (OpenSpec.upto objPutsSpec)

/-- 'fishplatelaw08.ObjBack', WHERE WHAT IT READS IS OF BULK AT MOST 1048576: true; the input reads as it did. -/
def objBackUptoRow : OpenClaim := { program := "ytlapfdfbgckfcaa", sum := "3c716bac87c67c5051da249242cb5c12b9c7ccb4e9b37da7d96bbfd8c01e2a14", func := "fishplate/fishplatelaw08.ObjBack", spec := "objBack", inPlace := ["internal/bytealg.IndexByteString", "internal/bytealg.IndexByte"], unfollowed := true, recurses := true, plainKeys := false, apart := false, narrowed := true }
def ObjBackUptoSaid : Prop := objBackUptoRow.holds Try.pinned (OpenSpec.upto objBackSpec)

/-- 'fishplatelaw08.ObjAgain', WHERE WHAT IT READS IS OF BULK AT MOST 1048576: true; the input reads as it did. -/
def objAgainUptoRow : OpenClaim := { program := "ytlapfdfbgckfcaa", sum := "3c716bac87c67c5051da249242cb5c12b9c7ccb4e9b37da7d96bbfd8c01e2a14", func := "fishplate/fishplatelaw08.ObjAgain", spec := "objAgain", inPlace := ["internal/bytealg.IndexByteString", "internal/bytealg.IndexByte"], unfollowed := true, recurses := true, plainKeys := false, apart := false, narrowed := true }
def ObjAgainUptoSaid : Prop := objAgainUptoRow.holds Try.pinned (OpenSpec.upto objAgainSpec)

/-- 'fishplatelaw12.GraphWhole', WHERE WHAT IT READS IS OF BULK AT MOST 1048576: true; the input reads as it did. -/
def graphWholeUptoRow : OpenClaim := { program := "ytlapfdfbgckfcaa", sum := "3c716bac87c67c5051da249242cb5c12b9c7ccb4e9b37da7d96bbfd8c01e2a14", func := "fishplate/fishplatelaw12.GraphWhole", spec := "graphWhole", inPlace := ["internal/bytealg.IndexByteString", "slices.overlaps[fishplate/names.Def]"], unfollowed := true, recurses := true, plainKeys := false, apart := false, narrowed := true }
def GraphWholeUptoSaid : Prop := graphWholeUptoRow.holds Try.pinned (OpenSpec.upto graphWholeSpec)

end Rows
end Go.Proofs.Ytlapfdfbgckfcaa
