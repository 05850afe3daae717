/-
  No cell of these rows narrows 'for every input' (looked for: loops, veiled, ifaces, maps, wideKeys, modest, calm, conditions, laid).
  DERIVED. THE GIVEN ROWS OF THIS SEAT. 18 by the template 'for every input the law returns true; each argument reads behind the call as it read before'; 0 by the template 'total and deterministic' (their statements: YtbaibjhkmajplaaTotals.lean).
  GIVEN WITH THE SEED: the statements are not yours to turn. If you find one false, say at which input.
  Laid BY PROGRAM, IN A SANDBOX (cutbox-rows.mjs): the forced cells as the released guide's own fill.sh prints them over the translation 8b95e9a94fc0874d… (all of the seat's roots in one cut). By AI agents, Wed Nov 11 2026. No macro, syntax, notation, axiom, sorry.
-/
import Derived.Test.YtbaibjhkmajplaaChecked
import GoSem.Claim
import GoSem.ClaimJoined
import GoSem.ClaimMapViews
import Derived.JoinedTies
import Derived.KernelRfl
namespace Go.Proofs.Ytbaibjhkmajplaa
/- THE CELL 'sum', in the pinned program and in every row, IS THE sha256 OF THE DUMP (.gsa) THAT YtbaibjhkmajplaaProg.lean LOADS. Nothing in Lean hashes anything: it is a label: what it is worth is what the hold of that sum in a sandbox is worth. -/
noncomputable def Try.pinned : Pinned := { name := "ytbaibjhkmajplaa", sum := "8b95e9a94fc0874d1fccc8e0906ba3ef9b44183fc4b4384a939b3e5f1bfe7010", checked := Try.checked }
namespace Rows
def none {H : Type} : Left H := { results := [], args := [] }

/-- 'fishplatelaw11.PieceTells': WHATEVER THE INPUT: true; the input reads as it did. -/
def pieceTellsSpec : ChangeSpec := { name := "pieceTells", fn := fun _ => fun
  | [d1, d2] => { results := [.lit (.bool true)], args := [d1, d2] }
  | _ => none }
def pieceTellsRow : OpenClaim := { program := "ytbaibjhkmajplaa", sum := "8b95e9a94fc0874d1fccc8e0906ba3ef9b44183fc4b4384a939b3e5f1bfe7010", func := "fishplate/fishplatelaw11.PieceTells", spec := "pieceTells", apart := false }
def PieceTellsSaid : Prop := pieceTellsRow.holds Try.pinned (OpenSpec.ofChange pieceTellsSpec)

/-- ITS FALSE NEIGHBOUR: 'it returns false'. Refute it at one input. -/
def pieceTellsWrong : ChangeSpec := { name := "pieceTells", fn := fun _ => fun
  | [d1, d2] => { results := [.lit (.bool false)], args := [d1, d2] }
  | _ => none }
def PieceTellsWrongFalsely : Prop := pieceTellsRow.holds Try.pinned (OpenSpec.ofChange pieceTellsWrong)

/-- 'fishplatelaw11.PieceAll': WHATEVER THE INPUT: true; the input reads as it did. -/
def pieceAllSpec : ChangeSpec := { name := "pieceAll", fn := fun _ => fun
  | [d1, d2] => { results := [.lit (.bool true)], args := [d1, d2] }
  | _ => none }
def pieceAllRow : OpenClaim := { program := "ytbaibjhkmajplaa", sum := "8b95e9a94fc0874d1fccc8e0906ba3ef9b44183fc4b4384a939b3e5f1bfe7010", func := "fishplate/fishplatelaw11.PieceAll", spec := "pieceAll", apart := false }
def PieceAllSaid : Prop := pieceAllRow.holds Try.pinned (OpenSpec.ofChange pieceAllSpec)

/-- ITS FALSE NEIGHBOUR: 'it returns false'. Refute it at one input. -/
def pieceAllWrong : ChangeSpec := { name := "pieceAll", fn := fun _ => fun
  | [d1, d2] => { results := [.lit (.bool false)], args := [d1, d2] }
  | _ => none }
def PieceAllWrongFalsely : Prop := pieceAllRow.holds Try.pinned (OpenSpec.ofChange pieceAllWrong)

/-- 'fishplatelaw01.LeTells': WHATEVER THE INPUT: true; the input reads as it did. -/
def leTellsSpec : ChangeSpec := { name := "leTells", fn := fun _ => fun
  | [d1, d2, d3, d4] => { results := [.lit (.bool true)], args := [d1, d2, d3, d4] }
  | _ => none }
def leTellsRow : OpenClaim := { program := "ytbaibjhkmajplaa", sum := "8b95e9a94fc0874d1fccc8e0906ba3ef9b44183fc4b4384a939b3e5f1bfe7010", func := "fishplate/fishplatelaw01.LeTells", spec := "leTells", apart := false }
def LeTellsSaid : Prop := leTellsRow.holds Try.pinned (OpenSpec.ofChange leTellsSpec)

/-- ITS FALSE NEIGHBOUR: 'it returns false'. Refute it at one input. -/
def leTellsWrong : ChangeSpec := { name := "leTells", fn := fun _ => fun
  | [d1, d2, d3, d4] => { results := [.lit (.bool false)], args := [d1, d2, d3, d4] }
  | _ => none }
def LeTellsWrongFalsely : Prop := leTellsRow.holds Try.pinned (OpenSpec.ofChange leTellsWrong)

/-- 'fishplatelaw01.LeBack': WHATEVER THE INPUT: true; the input reads as it did. -/
def leBackSpec : ChangeSpec := { name := "leBack", fn := fun _ => fun
  | [d1, d2, d3, d4, d5] => { results := [.lit (.bool true)], args := [d1, d2, d3, d4, d5] }
  | _ => none }
def leBackRow : OpenClaim := { program := "ytbaibjhkmajplaa", sum := "8b95e9a94fc0874d1fccc8e0906ba3ef9b44183fc4b4384a939b3e5f1bfe7010", func := "fishplate/fishplatelaw01.LeBack", spec := "leBack", apart := false }
def LeBackSaid : Prop := leBackRow.holds Try.pinned (OpenSpec.ofChange leBackSpec)

/-- ITS FALSE NEIGHBOUR: 'it returns false'. Refute it at one input. -/
def leBackWrong : ChangeSpec := { name := "leBack", fn := fun _ => fun
  | [d1, d2, d3, d4, d5] => { results := [.lit (.bool false)], args := [d1, d2, d3, d4, d5] }
  | _ => none }
def LeBackWrongFalsely : Prop := leBackRow.holds Try.pinned (OpenSpec.ofChange leBackWrong)

/-- 'fishplatelaw09.GlobTells': WHATEVER THE INPUT: true; the input reads as it did. -/
def globTellsSpec : ChangeSpec := { name := "globTells", fn := fun _ => fun
  | [d1, d2, d3] => { results := [.lit (.bool true)], args := [d1, d2, d3] }
  | _ => none }
def globTellsRow : OpenClaim := { program := "ytbaibjhkmajplaa", sum := "8b95e9a94fc0874d1fccc8e0906ba3ef9b44183fc4b4384a939b3e5f1bfe7010", func := "fishplate/fishplatelaw09.GlobTells", spec := "globTells", unfollowed := true, recurses := true, apart := false }
def GlobTellsSaid : Prop := globTellsRow.holds Try.pinned (OpenSpec.ofChange globTellsSpec)

/-- ITS FALSE NEIGHBOUR: 'it returns false'. Refute it at one input. -/
def globTellsWrong : ChangeSpec := { name := "globTells", fn := fun _ => fun
  | [d1, d2, d3] => { results := [.lit (.bool false)], args := [d1, d2, d3] }
  | _ => none }
def GlobTellsWrongFalsely : Prop := globTellsRow.holds Try.pinned (OpenSpec.ofChange globTellsWrong)

/-- 'fishplatelaw09.GlobParts': WHATEVER THE INPUT: true; the input reads as it did. -/
def globPartsSpec : ChangeSpec := { name := "globParts", fn := fun _ => fun
  | [d1, d2, d3, d4] => { results := [.lit (.bool true)], args := [d1, d2, d3, d4] }
  | _ => none }
def globPartsRow : OpenClaim := { program := "ytbaibjhkmajplaa", sum := "8b95e9a94fc0874d1fccc8e0906ba3ef9b44183fc4b4384a939b3e5f1bfe7010", func := "fishplate/fishplatelaw09.GlobParts", spec := "globParts", unfollowed := true, recurses := true, apart := false }
def GlobPartsSaid : Prop := globPartsRow.holds Try.pinned (OpenSpec.ofChange globPartsSpec)

/-- ITS FALSE NEIGHBOUR: 'it returns false'. Refute it at one input. -/
def globPartsWrong : ChangeSpec := { name := "globParts", fn := fun _ => fun
  | [d1, d2, d3, d4] => { results := [.lit (.bool false)], args := [d1, d2, d3, d4] }
  | _ => none }
def GlobPartsWrongFalsely : Prop := globPartsRow.holds Try.pinned (OpenSpec.ofChange globPartsWrong)

/-- 'fishplatelaw03.StrtabTells': WHATEVER THE INPUT: true; the input reads as it did. -/
def strtabTellsSpec : ChangeSpec := { name := "strtabTells", fn := fun _ => fun
  | [d1, d2, d3, d4] => { results := [.lit (.bool true)], args := [d1, d2, d3, d4] }
  | _ => none }
def strtabTellsRow : OpenClaim := { program := "ytbaibjhkmajplaa", sum := "8b95e9a94fc0874d1fccc8e0906ba3ef9b44183fc4b4384a939b3e5f1bfe7010", func := "fishplate/fishplatelaw03.StrtabTells", spec := "strtabTells", inPlace := ["internal/bytealg.IndexByte", "internal/bytealg.IndexByteString"], apart := false }
def StrtabTellsSaid : Prop := strtabTellsRow.holds Try.pinned (OpenSpec.ofChange strtabTellsSpec)

/-- ITS FALSE NEIGHBOUR: 'it returns false'. Refute it at one input. -/
def strtabTellsWrong : ChangeSpec := { name := "strtabTells", fn := fun _ => fun
  | [d1, d2, d3, d4] => { results := [.lit (.bool false)], args := [d1, d2, d3, d4] }
  | _ => none }
def StrtabTellsWrongFalsely : Prop := strtabTellsRow.holds Try.pinned (OpenSpec.ofChange strtabTellsWrong)

/-- 'fishplatelaw03.StrtabBack': WHATEVER THE INPUT: true; the input reads as it did. -/
def strtabBackSpec : ChangeSpec := { name := "strtabBack", fn := fun _ => fun
  | [d] => { results := [.lit (.bool true)], args := [d] }
  | _ => none }
def strtabBackRow : OpenClaim := { program := "ytbaibjhkmajplaa", sum := "8b95e9a94fc0874d1fccc8e0906ba3ef9b44183fc4b4384a939b3e5f1bfe7010", func := "fishplate/fishplatelaw03.StrtabBack", spec := "strtabBack", inPlace := ["internal/bytealg.IndexByte", "internal/bytealg.IndexByteString"], apart := false }
def StrtabBackSaid : Prop := strtabBackRow.holds Try.pinned (OpenSpec.ofChange strtabBackSpec)

/-- ITS FALSE NEIGHBOUR: 'it returns false'. Refute it at one input. -/
def strtabBackWrong : ChangeSpec := { name := "strtabBack", fn := fun _ => fun
  | [d] => { results := [.lit (.bool false)], args := [d] }
  | _ => none }
def StrtabBackWrongFalsely : Prop := strtabBackRow.holds Try.pinned (OpenSpec.ofChange strtabBackWrong)

/-- 'fishplatelaw02.UlebTells': WHATEVER THE INPUT: true; the input reads as it did. -/
def ulebTellsSpec : ChangeSpec := { name := "ulebTells", fn := fun _ => fun
  | [d1, d2, d3] => { results := [.lit (.bool true)], args := [d1, d2, d3] }
  | _ => none }
def ulebTellsRow : OpenClaim := { program := "ytbaibjhkmajplaa", sum := "8b95e9a94fc0874d1fccc8e0906ba3ef9b44183fc4b4384a939b3e5f1bfe7010", func := "fishplate/fishplatelaw02.UlebTells", spec := "ulebTells", recurses := true, apart := false }
def UlebTellsSaid : Prop := ulebTellsRow.holds Try.pinned (OpenSpec.ofChange ulebTellsSpec)

/-- ITS FALSE NEIGHBOUR: 'it returns false'. Refute it at one input. -/
def ulebTellsWrong : ChangeSpec := { name := "ulebTells", fn := fun _ => fun
  | [d1, d2, d3] => { results := [.lit (.bool false)], args := [d1, d2, d3] }
  | _ => none }
def UlebTellsWrongFalsely : Prop := ulebTellsRow.holds Try.pinned (OpenSpec.ofChange ulebTellsWrong)

/-- 'fishplatelaw02.UlebBack': WHATEVER THE INPUT: true; the input reads as it did. -/
def ulebBackSpec : ChangeSpec := { name := "ulebBack", fn := fun _ => fun
  | [d1, d2] => { results := [.lit (.bool true)], args := [d1, d2] }
  | _ => none }
def ulebBackRow : OpenClaim := { program := "ytbaibjhkmajplaa", sum := "8b95e9a94fc0874d1fccc8e0906ba3ef9b44183fc4b4384a939b3e5f1bfe7010", func := "fishplate/fishplatelaw02.UlebBack", spec := "ulebBack", apart := false }
def UlebBackSaid : Prop := ulebBackRow.holds Try.pinned (OpenSpec.ofChange ulebBackSpec)

/-- ITS FALSE NEIGHBOUR: 'it returns false'. Refute it at one input. -/
def ulebBackWrong : ChangeSpec := { name := "ulebBack", fn := fun _ => fun
  | [d1, d2] => { results := [.lit (.bool false)], args := [d1, d2] }
  | _ => none }
def UlebBackWrongFalsely : Prop := ulebBackRow.holds Try.pinned (OpenSpec.ofChange ulebBackWrong)

/-- 'fishplatelaw06.SymTells': WHATEVER THE INPUT: true; the input reads as it did. -/
def symTellsSpec : ChangeSpec := { name := "symTells", fn := fun _ => fun
  | [d1, d2, d3] => { results := [.lit (.bool true)], args := [d1, d2, d3] }
  | _ => none }
def symTellsRow : OpenClaim := { program := "ytbaibjhkmajplaa", sum := "8b95e9a94fc0874d1fccc8e0906ba3ef9b44183fc4b4384a939b3e5f1bfe7010", func := "fishplate/fishplatelaw06.SymTells", spec := "symTells", apart := false }
def SymTellsSaid : Prop := symTellsRow.holds Try.pinned (OpenSpec.ofChange symTellsSpec)

/-- ITS FALSE NEIGHBOUR: 'it returns false'. Refute it at one input. -/
def symTellsWrong : ChangeSpec := { name := "symTells", fn := fun _ => fun
  | [d1, d2, d3] => { results := [.lit (.bool false)], args := [d1, d2, d3] }
  | _ => none }
def SymTellsWrongFalsely : Prop := symTellsRow.holds Try.pinned (OpenSpec.ofChange symTellsWrong)

/-- 'fishplatelaw06.SymBack': WHATEVER THE INPUT: true; the input reads as it did. -/
def symBackSpec : ChangeSpec := { name := "symBack", fn := fun _ => fun
  | [d1, d2, d3] => { results := [.lit (.bool true)], args := [d1, d2, d3] }
  | _ => none }
def symBackRow : OpenClaim := { program := "ytbaibjhkmajplaa", sum := "8b95e9a94fc0874d1fccc8e0906ba3ef9b44183fc4b4384a939b3e5f1bfe7010", func := "fishplate/fishplatelaw06.SymBack", spec := "symBack", apart := false }
def SymBackSaid : Prop := symBackRow.holds Try.pinned (OpenSpec.ofChange symBackSpec)

/-- ITS FALSE NEIGHBOUR: 'it returns false'. Refute it at one input. -/
def symBackWrong : ChangeSpec := { name := "symBack", fn := fun _ => fun
  | [d1, d2, d3] => { results := [.lit (.bool false)], args := [d1, d2, d3] }
  | _ => none }
def SymBackWrongFalsely : Prop := symBackRow.holds Try.pinned (OpenSpec.ofChange symBackWrong)

/-- 'fishplatelaw05.ShdrTells': WHATEVER THE INPUT: true; the input reads as it did. -/
def shdrTellsSpec : ChangeSpec := { name := "shdrTells", fn := fun _ => fun
  | [d1, d2, d3] => { results := [.lit (.bool true)], args := [d1, d2, d3] }
  | _ => none }
def shdrTellsRow : OpenClaim := { program := "ytbaibjhkmajplaa", sum := "8b95e9a94fc0874d1fccc8e0906ba3ef9b44183fc4b4384a939b3e5f1bfe7010", func := "fishplate/fishplatelaw05.ShdrTells", spec := "shdrTells", apart := false }
def ShdrTellsSaid : Prop := shdrTellsRow.holds Try.pinned (OpenSpec.ofChange shdrTellsSpec)

/-- ITS FALSE NEIGHBOUR: 'it returns false'. Refute it at one input. -/
def shdrTellsWrong : ChangeSpec := { name := "shdrTells", fn := fun _ => fun
  | [d1, d2, d3] => { results := [.lit (.bool false)], args := [d1, d2, d3] }
  | _ => none }
def ShdrTellsWrongFalsely : Prop := shdrTellsRow.holds Try.pinned (OpenSpec.ofChange shdrTellsWrong)

/-- 'fishplatelaw05.ShdrBack': WHATEVER THE INPUT: true; the input reads as it did. -/
def shdrBackSpec : ChangeSpec := { name := "shdrBack", fn := fun _ => fun
  | [d1, d2, d3] => { results := [.lit (.bool true)], args := [d1, d2, d3] }
  | _ => none }
def shdrBackRow : OpenClaim := { program := "ytbaibjhkmajplaa", sum := "8b95e9a94fc0874d1fccc8e0906ba3ef9b44183fc4b4384a939b3e5f1bfe7010", func := "fishplate/fishplatelaw05.ShdrBack", spec := "shdrBack", apart := false }
def ShdrBackSaid : Prop := shdrBackRow.holds Try.pinned (OpenSpec.ofChange shdrBackSpec)

/-- ITS FALSE NEIGHBOUR: 'it returns false'. Refute it at one input. -/
def shdrBackWrong : ChangeSpec := { name := "shdrBack", fn := fun _ => fun
  | [d1, d2, d3] => { results := [.lit (.bool false)], args := [d1, d2, d3] }
  | _ => none }
def ShdrBackWrongFalsely : Prop := shdrBackRow.holds Try.pinned (OpenSpec.ofChange shdrBackWrong)

/-- 'fishplatelaw07.RelaTells': WHATEVER THE INPUT: true; the input reads as it did. -/
def relaTellsSpec : ChangeSpec := { name := "relaTells", fn := fun _ => fun
  | [d1, d2, d3] => { results := [.lit (.bool true)], args := [d1, d2, d3] }
  | _ => none }
def relaTellsRow : OpenClaim := { program := "ytbaibjhkmajplaa", sum := "8b95e9a94fc0874d1fccc8e0906ba3ef9b44183fc4b4384a939b3e5f1bfe7010", func := "fishplate/fishplatelaw07.RelaTells", spec := "relaTells", apart := false }
def RelaTellsSaid : Prop := relaTellsRow.holds Try.pinned (OpenSpec.ofChange relaTellsSpec)

/-- ITS FALSE NEIGHBOUR: 'it returns false'. Refute it at one input. -/
def relaTellsWrong : ChangeSpec := { name := "relaTells", fn := fun _ => fun
  | [d1, d2, d3] => { results := [.lit (.bool false)], args := [d1, d2, d3] }
  | _ => none }
def RelaTellsWrongFalsely : Prop := relaTellsRow.holds Try.pinned (OpenSpec.ofChange relaTellsWrong)

/-- 'fishplatelaw07.RelaBack': WHATEVER THE INPUT: true; the input reads as it did. -/
def relaBackSpec : ChangeSpec := { name := "relaBack", fn := fun _ => fun
  | [d1, d2, d3] => { results := [.lit (.bool true)], args := [d1, d2, d3] }
  | _ => none }
def relaBackRow : OpenClaim := { program := "ytbaibjhkmajplaa", sum := "8b95e9a94fc0874d1fccc8e0906ba3ef9b44183fc4b4384a939b3e5f1bfe7010", func := "fishplate/fishplatelaw07.RelaBack", spec := "relaBack", apart := false }
def RelaBackSaid : Prop := relaBackRow.holds Try.pinned (OpenSpec.ofChange relaBackSpec)

/-- ITS FALSE NEIGHBOUR: 'it returns false'. Refute it at one input. -/
def relaBackWrong : ChangeSpec := { name := "relaBack", fn := fun _ => fun
  | [d1, d2, d3] => { results := [.lit (.bool false)], args := [d1, d2, d3] }
  | _ => none }
def RelaBackWrongFalsely : Prop := relaBackRow.holds Try.pinned (OpenSpec.ofChange relaBackWrong)

/-- 'fishplatelaw04.EhdrTells': WHATEVER THE INPUT: true; the input reads as it did. -/
def ehdrTellsSpec : ChangeSpec := { name := "ehdrTells", fn := fun _ => fun
  | [d1, d2, d3, d4] => { results := [.lit (.bool true)], args := [d1, d2, d3, d4] }
  | _ => none }
def ehdrTellsRow : OpenClaim := { program := "ytbaibjhkmajplaa", sum := "8b95e9a94fc0874d1fccc8e0906ba3ef9b44183fc4b4384a939b3e5f1bfe7010", func := "fishplate/fishplatelaw04.EhdrTells", spec := "ehdrTells", apart := false }
def EhdrTellsSaid : Prop := ehdrTellsRow.holds Try.pinned (OpenSpec.ofChange ehdrTellsSpec)

/-- ITS FALSE NEIGHBOUR: 'it returns false'. Refute it at one input. -/
def ehdrTellsWrong : ChangeSpec := { name := "ehdrTells", fn := fun _ => fun
  | [d1, d2, d3, d4] => { results := [.lit (.bool false)], args := [d1, d2, d3, d4] }
  | _ => none }
def EhdrTellsWrongFalsely : Prop := ehdrTellsRow.holds Try.pinned (OpenSpec.ofChange ehdrTellsWrong)

/-- 'fishplatelaw04.EhdrBack': WHATEVER THE INPUT: true; the input reads as it did. -/
def ehdrBackSpec : ChangeSpec := { name := "ehdrBack", fn := fun _ => fun
  | [d1, d2, d3, d4, d5, d6] => { results := [.lit (.bool true)], args := [d1, d2, d3, d4, d5, d6] }
  | _ => none }
def ehdrBackRow : OpenClaim := { program := "ytbaibjhkmajplaa", sum := "8b95e9a94fc0874d1fccc8e0906ba3ef9b44183fc4b4384a939b3e5f1bfe7010", func := "fishplate/fishplatelaw04.EhdrBack", spec := "ehdrBack", apart := false }
def EhdrBackSaid : Prop := ehdrBackRow.holds Try.pinned (OpenSpec.ofChange ehdrBackSpec)

/-- ITS FALSE NEIGHBOUR: 'it returns false'. Refute it at one input. -/
def ehdrBackWrong : ChangeSpec := { name := "ehdrBack", fn := fun _ => fun
  | [d1, d2, d3, d4, d5, d6] => { results := [.lit (.bool false)], args := [d1, d2, d3, d4, d5, d6] }
  | _ => none }
def EhdrBackWrongFalsely : Prop := ehdrBackRow.holds Try.pinned (OpenSpec.ofChange ehdrBackWrong)

/- THE SECOND FORM. 'bulk': how many values and letters a reading holds, each counted each time it is reached (what is shared counts as often as it is met; a slice's spare places count too). A statement '..UptoSaid' is the law's where the arguments, and the package variables that the reading takes, are together of bulk at most 1048576: NARROWER than '..Said'. Prove '..Said' where nothing that the law and all that it calls make is longer than what came in: it says more and counts as full. Else prove '..UptoSaid'. A law counts once. -/
mutual
def uptoBulk {H : Type} : DataW H → Nat
  | .lit (.string bytes) => bytes.length + 1
  | .lit _ => 1
  | .nil => 1
  | .ptr d => uptoBulk d + 1
  | .slice elems spare => uptoBulkAll elems + uptoBulkAll spare + 1
  | .agg parts => uptoBulkAll parts + 1
  | .iface _ d => uptoBulk d + 1
  | .map entries => uptoBulkEntries entries + 1
  | .held _ => 1
def uptoBulkAll {H : Type} : List (DataW H) → Nat
  | [] => 0
  | d :: r => uptoBulk d + uptoBulkAll r
def uptoBulkEntries {H : Type} : List (Lit × DataW H) → Nat
  | [] => 0
  | x :: r => uptoBulkEntry x + uptoBulkEntries r
def uptoBulkEntry {H : Type} : Lit × DataW H → Nat
  | (.string bytes, d) => bytes.length + uptoBulk d + 1
  | (_, d) => uptoBulk d + 1
 end
def uptoSmall : (H : Type) → List (DataW H) → Bool := fun _ ds => decide (uptoBulkAll ds ≤ 1048576)
def OpenSpec.upto (s : _root_.Go.ChangeSpec) : _root_.Go.OpenSpec := { _root_.Go.OpenSpec.ofChange s with cond := some uptoSmall }

/-- 'fishplatelaw11.PieceTells', WHERE WHAT IT READS IS OF BULK AT MOST 1048576: true; the input reads as it did. -/
def pieceTellsUptoRow : OpenClaim := { program := "ytbaibjhkmajplaa", sum := "8b95e9a94fc0874d1fccc8e0906ba3ef9b44183fc4b4384a939b3e5f1bfe7010", func := "fishplate/fishplatelaw11.PieceTells", spec := "pieceTells", apart := false, narrowed := true }
def PieceTellsUptoSaid : Prop := pieceTellsUptoRow.holds Try.pinned (OpenSpec.upto pieceTellsSpec)

/-- 'fishplatelaw11.PieceAll', WHERE WHAT IT READS IS OF BULK AT MOST 1048576: true; the input reads as it did. -/
def pieceAllUptoRow : OpenClaim := { program := "ytbaibjhkmajplaa", sum := "8b95e9a94fc0874d1fccc8e0906ba3ef9b44183fc4b4384a939b3e5f1bfe7010", func := "fishplate/fishplatelaw11.PieceAll", spec := "pieceAll", apart := false, narrowed := true }
def PieceAllUptoSaid : Prop := pieceAllUptoRow.holds Try.pinned (OpenSpec.upto pieceAllSpec)

/-- 'fishplatelaw01.LeTells', WHERE WHAT IT READS IS OF BULK AT MOST 1048576: true; the input reads as it did. -/
def leTellsUptoRow : OpenClaim := { program := "ytbaibjhkmajplaa", sum := "8b95e9a94fc0874d1fccc8e0906ba3ef9b44183fc4b4384a939b3e5f1bfe7010", func := "fishplate/fishplatelaw01.LeTells", spec := "leTells", apart := false, narrowed := true }
def LeTellsUptoSaid : Prop := leTellsUptoRow.holds Try.pinned (OpenSpec.upto leTellsSpec)

/-- 'fishplatelaw01.LeBack', WHERE WHAT IT READS IS OF BULK AT MOST 1048576: true; the input reads as it did. -/
def leBackUptoRow : OpenClaim := { program := "ytbaibjhkmajplaa", sum := "8b95e9a94fc0874d1fccc8e0906ba3ef9b44183fc4b4384a939b3e5f1bfe7010", func := "fishplate/fishplatelaw01.LeBack", spec := "leBack", apart := false, narrowed := true }
def LeBackUptoSaid : Prop := leBackUptoRow.holds Try.pinned (OpenSpec.upto leBackSpec)

/-- 'fishplatelaw09.GlobTells', WHERE WHAT IT READS IS OF BULK AT MOST 1048576: true; the input reads as it did. -/
def globTellsUptoRow : OpenClaim := { program := "ytbaibjhkmajplaa", sum := "8b95e9a94fc0874d1fccc8e0906ba3ef9b44183fc4b4384a939b3e5f1bfe7010", func := "fishplate/fishplatelaw09.GlobTells", spec := "globTells", unfollowed := true, recurses := true, apart := false, narrowed := true }
def GlobTellsUptoSaid : Prop := globTellsUptoRow.holds Try.pinned (OpenSpec.upto globTellsSpec)

/-- 'fishplatelaw09.GlobParts', WHERE WHAT IT READS IS OF BULK AT MOST 1048576: true; the input reads as it did. -/
def globPartsUptoRow : OpenClaim := { program := "ytbaibjhkmajplaa", sum := "8b95e9a94fc0874d1fccc8e0906ba3ef9b44183fc4b4384a939b3e5f1bfe7010", func := "fishplate/fishplatelaw09.GlobParts", spec := "globParts", unfollowed := true, recurses := true, apart := false, narrowed := true }
def GlobPartsUptoSaid : Prop := globPartsUptoRow.holds Try.pinned (OpenSpec.upto globPartsSpec)

/-- 'fishplatelaw03.StrtabTells', WHERE WHAT IT READS IS OF BULK AT MOST 1048576: true; the input reads as it did. -/
def strtabTellsUptoRow : OpenClaim := { program := "ytbaibjhkmajplaa", sum := "8b95e9a94fc0874d1fccc8e0906ba3ef9b44183fc4b4384a939b3e5f1bfe7010", func := "fishplate/fishplatelaw03.StrtabTells", spec := "strtabTells", inPlace := ["internal/bytealg.IndexByte", "internal/bytealg.IndexByteString"], apart := false, narrowed := true }
def StrtabTellsUptoSaid : Prop := strtabTellsUptoRow.holds Try.pinned (OpenSpec.upto strtabTellsSpec)

/-- 'fishplatelaw03.StrtabBack', WHERE WHAT IT READS IS OF BULK AT MOST 1048576: true; the input reads as it did. -/
def strtabBackUptoRow : OpenClaim := { program := "ytbaibjhkmajplaa", sum := "8b95e9a94fc0874d1fccc8e0906ba3ef9b44183fc4b4384a939b3e5f1bfe7010", func := "fishplate/fishplatelaw03.StrtabBack", spec := "strtabBack", inPlace := ["internal/bytealg.IndexByte", "internal/bytealg.IndexByteString"], apart := false, narrowed := true }
def StrtabBackUptoSaid : Prop := strtabBackUptoRow.holds Try.pinned (OpenSpec.upto strtabBackSpec)

/-- 'fishplatelaw02.UlebTells', WHERE WHAT IT READS IS OF BULK AT MOST 1048576: true; the input reads as it did. -/
def ulebTellsUptoRow : OpenClaim := { program := "ytbaibjhkmajplaa", sum := "8b95e9a94fc0874d1fccc8e0906ba3ef9b44183fc4b4384a939b3e5f1bfe7010", func := "fishplate/fishplatelaw02.UlebTells", spec := "ulebTells", recurses := true, apart := false, narrowed := true }
def UlebTellsUptoSaid : Prop := ulebTellsUptoRow.holds Try.pinned (OpenSpec.upto ulebTellsSpec)

/-- 'fishplatelaw02.UlebBack', WHERE WHAT IT READS IS OF BULK AT MOST 1048576: true; the input reads as it did. -/
def ulebBackUptoRow : OpenClaim := { program := "ytbaibjhkmajplaa", sum := "8b95e9a94fc0874d1fccc8e0906ba3ef9b44183fc4b4384a939b3e5f1bfe7010", func := "fishplate/fishplatelaw02.UlebBack", spec := "ulebBack", apart := false, narrowed := true }
def UlebBackUptoSaid : Prop := ulebBackUptoRow.holds Try.pinned (OpenSpec.upto ulebBackSpec)

/-- 'fishplatelaw06.SymTells', WHERE WHAT IT READS IS OF BULK AT MOST 1048576: true; the input reads as it did. -/
def symTellsUptoRow : OpenClaim := { program := "ytbaibjhkmajplaa", sum := "8b95e9a94fc0874d1fccc8e0906ba3ef9b44183fc4b4384a939b3e5f1bfe7010", func := "fishplate/fishplatelaw06.SymTells", spec := "symTells", apart := false, narrowed := true }
def SymTellsUptoSaid : Prop := symTellsUptoRow.holds Try.pinned (OpenSpec.upto symTellsSpec)

/-- 'fishplatelaw06.SymBack', WHERE WHAT IT READS IS OF BULK AT MOST 1048576: true; the input reads as it did. -/
def symBackUptoRow : OpenClaim := { program := "ytbaibjhkmajplaa", sum := "8b95e9a94fc0874d1fccc8e0906ba3ef9b44183fc4b4384a939b3e5f1bfe7010", func := "fishplate/fishplatelaw06.SymBack", spec := "symBack", apart := false, narrowed := true }
def SymBackUptoSaid : Prop := symBackUptoRow.holds Try.pinned (OpenSpec.upto symBackSpec)

/-- 'fishplatelaw05.ShdrTells', WHERE WHAT IT READS IS OF BULK AT MOST 1048576: true; the input reads as it did. -/
def shdrTellsUptoRow : OpenClaim := { program := "ytbaibjhkmajplaa", sum := "8b95e9a94fc0874d1fccc8e0906ba3ef9b44183fc4b4384a939b3e5f1bfe7010", func := "fishplate/fishplatelaw05.ShdrTells", spec := "shdrTells", apart := false, narrowed := true }
def ShdrTellsUptoSaid : Prop := shdrTellsUptoRow.holds Try.pinned (OpenSpec.upto shdrTellsSpec)

/-- 'fishplatelaw05.ShdrBack', WHERE WHAT IT READS IS OF BULK AT MOST 1048576: true; the input reads as it did. -/
def shdrBackUptoRow : OpenClaim := { program := "ytbaibjhkmajplaa", sum := "8b95e9a94fc0874d1fccc8e0906ba3ef9b44183fc4b4384a939b3e5f1bfe7010", func := "fishplate/fishplatelaw05.ShdrBack", spec := "shdrBack", apart := false, narrowed := true }
def ShdrBackUptoSaid : Prop := shdrBackUptoRow.holds Try.pinned (OpenSpec.upto shdrBackSpec)

/-- 'fishplatelaw07.RelaTells', WHERE WHAT IT READS IS OF BULK AT MOST 1048576: true; the input reads as it did. -/
def relaTellsUptoRow : OpenClaim := { program := "ytbaibjhkmajplaa", sum := "8b95e9a94fc0874d1fccc8e0906ba3ef9b44183fc4b4384a939b3e5f1bfe7010", func := "fishplate/fishplatelaw07.RelaTells", spec := "relaTells", apart := false, narrowed := true }
def RelaTellsUptoSaid : Prop := relaTellsUptoRow.holds Try.pinned (OpenSpec.upto relaTellsSpec)

/-- 'fishplatelaw07.RelaBack', WHERE WHAT IT READS IS OF BULK AT MOST 1048576: true; the input reads as it did. -/
def relaBackUptoRow : OpenClaim := { program := "ytbaibjhkmajplaa", sum := "8b95e9a94fc0874d1fccc8e0906ba3ef9b44183fc4b4384a939b3e5f1bfe7010", func := "fishplate/fishplatelaw07.RelaBack", spec := "relaBack", apart := false, narrowed := true }
def RelaBackUptoSaid : Prop := relaBackUptoRow.holds Try.pinned (OpenSpec.upto relaBackSpec)

/-- 'fishplatelaw04.EhdrTells', WHERE WHAT IT READS IS OF BULK AT MOST 1048576: true; the input reads as it did. -/
def ehdrTellsUptoRow : OpenClaim := { program := "ytbaibjhkmajplaa", sum := "8b95e9a94fc0874d1fccc8e0906ba3ef9b44183fc4b4384a939b3e5f1bfe7010", func := "fishplate/fishplatelaw04.EhdrTells", spec := "ehdrTells", apart := false, narrowed := true }
def EhdrTellsUptoSaid : Prop := ehdrTellsUptoRow.holds Try.pinned (OpenSpec.upto ehdrTellsSpec)

/-- 'fishplatelaw04.EhdrBack', WHERE WHAT IT READS IS OF BULK AT MOST 1048576: true; the input reads as it did. -/
def ehdrBackUptoRow : OpenClaim := { program := "ytbaibjhkmajplaa", sum := "8b95e9a94fc0874d1fccc8e0906ba3ef9b44183fc4b4384a939b3e5f1bfe7010", func := "fishplate/fishplatelaw04.EhdrBack", spec := "ehdrBack", apart := false, narrowed := true }
def EhdrBackUptoSaid : Prop := ehdrBackUptoRow.holds Try.pinned (OpenSpec.upto ehdrBackSpec)

end Rows
end Go.Proofs.Ytbaibjhkmajplaa
