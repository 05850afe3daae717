/- The types of the program, as instances; no condition. -/
import Derived.Test.YtlapfdfbgckfcaaAlG
import Derived.Test.YtlapfdfbgckfcaaProg
import Derived.KernelRfl
namespace Go.Proofs.Ytlapfdfbgckfcaa.AL
open Go Go.RowKit
set_option linter.unusedVariables false
@[reducible] def fl7 : List Field := [⟨"x", 2, 0, false, "", "runtime", 0⟩, ⟨"y", 3, 1, false, "", "runtime", 8⟩, ⟨"signed", 4, 2, false, "", "runtime", 16⟩, ⟨"code", 6, 3, false, "", "runtime", 17⟩]
def fs7 : Array Field := #[{ name := "x", type := 2, offset := 0, embedded := false, tag := "", pkgPath := "runtime", byteOffset := 0 }, { name := "y", type := 3, offset := 1, embedded := false, tag := "", pkgPath := "runtime", byteOffset := 8 }, { name := "signed", type := 4, offset := 2, embedded := false, tag := "", pkgPath := "runtime", byteOffset := 16 }, { name := "code", type := 6, offset := 3, embedded := false, tag := "", pkgPath := "runtime", byteOffset := 17 }]
@[reducible] def fl13 : List Field := [⟨"msg", 9, 0, false, "", "runtime", 0⟩, ⟨"addr", 12, 1, false, "", "runtime", 16⟩]
def fs13 : Array Field := #[{ name := "msg", type := 9, offset := 0, embedded := false, tag := "", pkgPath := "runtime", byteOffset := 0 }, { name := "addr", type := 12, offset := 1, embedded := false, tag := "", pkgPath := "runtime", byteOffset := 16 }]
def fs18 : Array Field := #[{ name := "typ", type := 17, offset := 0, embedded := false, tag := "", pkgPath := "internal/runtime/maps", byteOffset := 0 }]
def fs25 : Array Field := #[{ name := "Entry", type := 3, offset := 0, embedded := false, tag := "", pkgPath := "", byteOffset := 0 }, { name := "Segs", type := 24, offset := 1, embedded := false, tag := "", pkgPath := "", byteOffset := 8 }]
def fs31 : Array Field := #[{ name := "Addr", type := 3, offset := 0, embedded := false, tag := "", pkgPath := "", byteOffset := 0 }, { name := "Size", type := 3, offset := 1, embedded := false, tag := "", pkgPath := "", byteOffset := 8 }, { name := "Flags", type := 3, offset := 2, embedded := false, tag := "", pkgPath := "", byteOffset := 16 }, { name := "Data", type := 22, offset := 3, embedded := false, tag := "", pkgPath := "", byteOffset := 24 }]
@[reducible] def fl35 : List Field := [⟨"Op", 3, 0, false, "", "", 0⟩, ⟨"R", 3, 1, false, "", "", 8⟩, ⟨"M", 3, 2, false, "", "", 16⟩, ⟨"Len", 3, 3, false, "", "", 24⟩, ⟨"Field", 3, 4, false, "", "", 32⟩, ⟨"Width", 3, 5, false, "", "", 40⟩, ⟨"Imm", 3, 6, false, "", "", 48⟩]
def fs35 : Array Field := #[{ name := "Op", type := 3, offset := 0, embedded := false, tag := "", pkgPath := "", byteOffset := 0 }, { name := "R", type := 3, offset := 1, embedded := false, tag := "", pkgPath := "", byteOffset := 8 }, { name := "M", type := 3, offset := 2, embedded := false, tag := "", pkgPath := "", byteOffset := 16 }, { name := "Len", type := 3, offset := 3, embedded := false, tag := "", pkgPath := "", byteOffset := 24 }, { name := "Field", type := 3, offset := 4, embedded := false, tag := "", pkgPath := "", byteOffset := 32 }, { name := "Width", type := 3, offset := 5, embedded := false, tag := "", pkgPath := "", byteOffset := 40 }, { name := "Imm", type := 3, offset := 6, embedded := false, tag := "", pkgPath := "", byteOffset := 48 }]
def fs51 : Array Field := #[{ name := "Secs", type := 47, offset := 0, embedded := false, tag := "", pkgPath := "", byteOffset := 0 }, { name := "Syms", type := 48, offset := 1, embedded := false, tag := "", pkgPath := "", byteOffset := 24 }, { name := "Groups", type := 49, offset := 2, embedded := false, tag := "", pkgPath := "", byteOffset := 48 }, { name := "HasSig", type := 4, offset := 3, embedded := false, tag := "", pkgPath := "", byteOffset := 72 }, { name := "Sig", type := 50, offset := 4, embedded := false, tag := "", pkgPath := "", byteOffset := 80 }]
def fs66 : Array Field := #[{ name := "Nodes", type := 64, offset := 0, embedded := false, tag := "", pkgPath := "", byteOffset := 0 }, { name := "To", type := 3, offset := 1, embedded := false, tag := "", pkgPath := "", byteOffset := 24 }, { name := "At", type := 3, offset := 2, embedded := false, tag := "", pkgPath := "", byteOffset := 32 }, { name := "Names", type := 65, offset := 3, embedded := false, tag := "", pkgPath := "", byteOffset := 40 }]
def fs71 : Array Field := #[{ name := "Obj", type := 3, offset := 0, embedded := false, tag := "", pkgPath := "", byteOffset := 0 }, { name := "Sec", type := 3, offset := 1, embedded := false, tag := "", pkgPath := "", byteOffset := 8 }, { name := "Pos", type := 3, offset := 2, embedded := false, tag := "", pkgPath := "", byteOffset := 16 }, { name := "Name", type := 9, offset := 3, embedded := false, tag := "", pkgPath := "", byteOffset := 24 }, { name := "Type", type := 3, offset := 4, embedded := false, tag := "", pkgPath := "", byteOffset := 40 }, { name := "Flags", type := 3, offset := 5, embedded := false, tag := "", pkgPath := "", byteOffset := 48 }, { name := "Align", type := 3, offset := 6, embedded := false, tag := "", pkgPath := "", byteOffset := 56 }, { name := "Ent", type := 3, offset := 7, embedded := false, tag := "", pkgPath := "", byteOffset := 64 }, { name := "Size", type := 3, offset := 8, embedded := false, tag := "", pkgPath := "", byteOffset := 72 }, { name := "Data", type := 22, offset := 9, embedded := false, tag := "", pkgPath := "", byteOffset := 80 }, { name := "Edges", type := 70, offset := 10, embedded := false, tag := "", pkgPath := "", byteOffset := 104 }, { name := "Unique", type := 4, offset := 11, embedded := false, tag := "", pkgPath := "", byteOffset := 128 }, { name := "Group", type := 3, offset := 12, embedded := false, tag := "", pkgPath := "", byteOffset := 136 }, { name := "Link", type := 3, offset := 13, embedded := false, tag := "", pkgPath := "", byteOffset := 144 }]
def fs74 : Array Field := #[{ name := "Name", type := 9, offset := 0, embedded := false, tag := "", pkgPath := "", byteOffset := 0 }, { name := "Type", type := 3, offset := 1, embedded := false, tag := "", pkgPath := "", byteOffset := 16 }, { name := "Flags", type := 3, offset := 2, embedded := false, tag := "", pkgPath := "", byteOffset := 24 }, { name := "Align", type := 3, offset := 3, embedded := false, tag := "", pkgPath := "", byteOffset := 32 }, { name := "Ent", type := 3, offset := 4, embedded := false, tag := "", pkgPath := "", byteOffset := 40 }, { name := "Link", type := 3, offset := 5, embedded := false, tag := "", pkgPath := "", byteOffset := 48 }, { name := "Size", type := 3, offset := 6, embedded := false, tag := "", pkgPath := "", byteOffset := 56 }, { name := "Data", type := 22, offset := 7, embedded := false, tag := "", pkgPath := "", byteOffset := 64 }, { name := "Rels", type := 73, offset := 8, embedded := false, tag := "", pkgPath := "", byteOffset := 88 }]
@[reducible] def fl77 : List Field := [⟨"Off", 3, 0, false, "", "", 0⟩, ⟨"Type", 3, 1, false, "", "", 8⟩, ⟨"Add", 3, 2, false, "", "", 16⟩, ⟨"To", 3, 3, false, "", "", 24⟩, ⟨"At", 3, 4, false, "", "", 32⟩]
def fs77 : Array Field := #[{ name := "Off", type := 3, offset := 0, embedded := false, tag := "", pkgPath := "", byteOffset := 0 }, { name := "Type", type := 3, offset := 1, embedded := false, tag := "", pkgPath := "", byteOffset := 8 }, { name := "Add", type := 3, offset := 2, embedded := false, tag := "", pkgPath := "", byteOffset := 16 }, { name := "To", type := 3, offset := 3, embedded := false, tag := "", pkgPath := "", byteOffset := 24 }, { name := "At", type := 3, offset := 4, embedded := false, tag := "", pkgPath := "", byteOffset := 32 }]
@[reducible] def fl79 : List Field := [⟨"Off", 3, 0, false, "", "", 0⟩, ⟨"Type", 3, 1, false, "", "", 8⟩, ⟨"Sym", 3, 2, false, "", "", 16⟩, ⟨"Add", 3, 3, false, "", "", 24⟩]
def fs79 : Array Field := #[{ name := "Off", type := 3, offset := 0, embedded := false, tag := "", pkgPath := "", byteOffset := 0 }, { name := "Type", type := 3, offset := 1, embedded := false, tag := "", pkgPath := "", byteOffset := 8 }, { name := "Sym", type := 3, offset := 2, embedded := false, tag := "", pkgPath := "", byteOffset := 16 }, { name := "Add", type := 3, offset := 3, embedded := false, tag := "", pkgPath := "", byteOffset := 24 }]
@[reducible] def fl81 : List Field := [⟨"Name", 9, 0, false, "", "", 0⟩, ⟨"To", 3, 1, false, "", "", 16⟩, ⟨"At", 3, 2, false, "", "", 24⟩]
def fs81 : Array Field := #[{ name := "Name", type := 9, offset := 0, embedded := false, tag := "", pkgPath := "", byteOffset := 0 }, { name := "To", type := 3, offset := 1, embedded := false, tag := "", pkgPath := "", byteOffset := 16 }, { name := "At", type := 3, offset := 2, embedded := false, tag := "", pkgPath := "", byteOffset := 24 }]
@[reducible] def fl86 : List Field := [⟨"Addr", 3, 0, false, "", "", 0⟩, ⟨"Off", 3, 1, false, "", "", 8⟩, ⟨"Size", 3, 2, false, "", "", 16⟩, ⟨"Align", 3, 3, false, "", "", 24⟩]
def fs86 : Array Field := #[{ name := "Addr", type := 3, offset := 0, embedded := false, tag := "", pkgPath := "", byteOffset := 0 }, { name := "Off", type := 3, offset := 1, embedded := false, tag := "", pkgPath := "", byteOffset := 8 }, { name := "Size", type := 3, offset := 2, embedded := false, tag := "", pkgPath := "", byteOffset := 16 }, { name := "Align", type := 3, offset := 3, embedded := false, tag := "", pkgPath := "", byteOffset := 24 }]
def fs89 : Array Field := #[{ name := "Addr", type := 50, offset := 0, embedded := false, tag := "", pkgPath := "", byteOffset := 0 }, { name := "Outs", type := 88, offset := 1, embedded := false, tag := "", pkgPath := "", byteOffset := 24 }, { name := "Entry", type := 3, offset := 33, embedded := false, tag := "", pkgPath := "", byteOffset := 280 }, { name := "End", type := 3, offset := 34, embedded := false, tag := "", pkgPath := "", byteOffset := 288 }]
def fs99 : Array Field := #[{ name := "op", type := 3, offset := 0, embedded := false, tag := "", pkgPath := "fishplate/insn", byteOffset := 0 }, { name := "head", type := 22, offset := 1, embedded := false, tag := "", pkgPath := "fishplate/insn", byteOffset := 8 }, { name := "low", type := 3, offset := 2, embedded := false, tag := "", pkgPath := "fishplate/insn", byteOffset := 32 }, { name := "r", type := 4, offset := 3, embedded := false, tag := "", pkgPath := "fishplate/insn", byteOffset := 40 }, { name := "m", type := 4, offset := 4, embedded := false, tag := "", pkgPath := "fishplate/insn", byteOffset := 41 }, { name := "width", type := 3, offset := 5, embedded := false, tag := "", pkgPath := "fishplate/insn", byteOffset := 48 }]
@[reducible] def fl104 : List Field := [⟨"Name", 9, 0, false, "", "", 0⟩, ⟨"Bind", 3, 1, false, "", "", 16⟩, ⟨"Type", 3, 2, false, "", "", 24⟩, ⟨"Sec", 3, 3, false, "", "", 32⟩, ⟨"Value", 3, 4, false, "", "", 40⟩, ⟨"Size", 3, 5, false, "", "", 48⟩]
def fs104 : Array Field := #[{ name := "Name", type := 9, offset := 0, embedded := false, tag := "", pkgPath := "", byteOffset := 0 }, { name := "Bind", type := 3, offset := 1, embedded := false, tag := "", pkgPath := "", byteOffset := 16 }, { name := "Type", type := 3, offset := 2, embedded := false, tag := "", pkgPath := "", byteOffset := 24 }, { name := "Sec", type := 3, offset := 3, embedded := false, tag := "", pkgPath := "", byteOffset := 32 }, { name := "Value", type := 3, offset := 4, embedded := false, tag := "", pkgPath := "", byteOffset := 40 }, { name := "Size", type := 3, offset := 5, embedded := false, tag := "", pkgPath := "", byteOffset := 48 }]
def fs106 : Array Field := #[{ name := "Sym", type := 3, offset := 0, embedded := false, tag := "", pkgPath := "", byteOffset := 0 }, { name := "Members", type := 50, offset := 1, embedded := false, tag := "", pkgPath := "", byteOffset := 8 }]
@[reducible] def fl108 : List Field := [⟨"Name", 3, 0, false, "", "", 0⟩, ⟨"Type", 3, 1, false, "", "", 8⟩, ⟨"Flags", 3, 2, false, "", "", 16⟩, ⟨"Addr", 3, 3, false, "", "", 24⟩, ⟨"Off", 3, 4, false, "", "", 32⟩, ⟨"Size", 3, 5, false, "", "", 40⟩, ⟨"Link", 3, 6, false, "", "", 48⟩, ⟨"Info", 3, 7, false, "", "", 56⟩, ⟨"Align", 3, 8, false, "", "", 64⟩, ⟨"Ent", 3, 9, false, "", "", 72⟩]
def fs108 : Array Field := #[{ name := "Name", type := 3, offset := 0, embedded := false, tag := "", pkgPath := "", byteOffset := 0 }, { name := "Type", type := 3, offset := 1, embedded := false, tag := "", pkgPath := "", byteOffset := 8 }, { name := "Flags", type := 3, offset := 2, embedded := false, tag := "", pkgPath := "", byteOffset := 16 }, { name := "Addr", type := 3, offset := 3, embedded := false, tag := "", pkgPath := "", byteOffset := 24 }, { name := "Off", type := 3, offset := 4, embedded := false, tag := "", pkgPath := "", byteOffset := 32 }, { name := "Size", type := 3, offset := 5, embedded := false, tag := "", pkgPath := "", byteOffset := 40 }, { name := "Link", type := 3, offset := 6, embedded := false, tag := "", pkgPath := "", byteOffset := 48 }, { name := "Info", type := 3, offset := 7, embedded := false, tag := "", pkgPath := "", byteOffset := 56 }, { name := "Align", type := 3, offset := 8, embedded := false, tag := "", pkgPath := "", byteOffset := 64 }, { name := "Ent", type := 3, offset := 9, embedded := false, tag := "", pkgPath := "", byteOffset := 72 }]
def fs110 : Array Field := #[{ name := "H", type := 109, offset := 0, embedded := false, tag := "", pkgPath := "", byteOffset := 0 }, { name := "Name", type := 9, offset := 10, embedded := false, tag := "", pkgPath := "", byteOffset := 80 }, { name := "B", type := 22, offset := 11, embedded := false, tag := "", pkgPath := "", byteOffset := 96 }]
def fs122 : Array Field := #[{ name := "b", type := 22, offset := 0, embedded := false, tag := "", pkgPath := "fishplate/obj", byteOffset := 0 }, { name := "heads", type := 121, offset := 1, embedded := false, tag := "", pkgPath := "fishplate/obj", byteOffset := 24 }, { name := "number", type := 120, offset := 2, embedded := false, tag := "", pkgPath := "fishplate/obj", byteOffset := 48 }, { name := "table", type := 3, offset := 3, embedded := false, tag := "", pkgPath := "fishplate/obj", byteOffset := 56 }, { name := "o", type := 52, offset := 4, embedded := false, tag := "", pkgPath := "fishplate/obj", byteOffset := 64 }]
def fs129 : Array Field := #[{ name := "Dropped", type := 127, offset := 0, embedded := false, tag := "", pkgPath := "", byteOffset := 0 }, { name := "Defs", type := 128, offset := 1, embedded := false, tag := "", pkgPath := "", byteOffset := 24 }]
def fs136 : Array Field := #[{ name := "l", type := 62, offset := 0, embedded := false, tag := "", pkgPath := "fishplate/graph", byteOffset := 0 }, { name := "table", type := 130, offset := 1, embedded := false, tag := "", pkgPath := "fishplate/graph", byteOffset := 24 }, { name := "nodes", type := 64, offset := 3, embedded := false, tag := "", pkgPath := "fishplate/graph", byteOffset := 72 }, { name := "pieces", type := 134, offset := 4, embedded := false, tag := "", pkgPath := "fishplate/graph", byteOffset := 96 }, { name := "begin", type := 135, offset := 5, embedded := false, tag := "", pkgPath := "fishplate/graph", byteOffset := 104 }, { name := "unique", type := 135, offset := 6, embedded := false, tag := "", pkgPath := "fishplate/graph", byteOffset := 112 }]
@[reducible] def fl146 : List Field := [⟨"Flags", 3, 0, false, "", "", 0⟩, ⟨"Off", 3, 1, false, "", "", 8⟩, ⟨"Addr", 3, 2, false, "", "", 16⟩, ⟨"File", 3, 3, false, "", "", 24⟩, ⟨"Size", 3, 4, false, "", "", 32⟩]
def fs146 : Array Field := #[{ name := "Flags", type := 3, offset := 0, embedded := false, tag := "", pkgPath := "", byteOffset := 0 }, { name := "Off", type := 3, offset := 1, embedded := false, tag := "", pkgPath := "", byteOffset := 8 }, { name := "Addr", type := 3, offset := 2, embedded := false, tag := "", pkgPath := "", byteOffset := 16 }, { name := "File", type := 3, offset := 3, embedded := false, tag := "", pkgPath := "", byteOffset := 24 }, { name := "Size", type := 3, offset := 4, embedded := false, tag := "", pkgPath := "", byteOffset := 32 }]
@[reducible] def fl151 : List Field := [⟨"at", 3, 0, false, "", "fishplate/exec", 0⟩, ⟨"n", 3, 1, false, "", "fishplate/exec", 8⟩, ⟨"v", 92, 2, false, "", "fishplate/exec", 16⟩]
def fs151 : Array Field := #[{ name := "at", type := 3, offset := 0, embedded := false, tag := "", pkgPath := "fishplate/exec", byteOffset := 0 }, { name := "n", type := 3, offset := 1, embedded := false, tag := "", pkgPath := "fishplate/exec", byteOffset := 8 }, { name := "v", type := 92, offset := 2, embedded := false, tag := "", pkgPath := "fishplate/exec", byteOffset := 16 }]
def fs166 : Array Field := #[{ name := "h", type := 165, offset := 0, embedded := false, tag := "", pkgPath := "fishplate/obj", byteOffset := 0 }, { name := "name", type := 9, offset := 10, embedded := false, tag := "", pkgPath := "fishplate/obj", byteOffset := 80 }, { name := "b", type := 22, offset := 11, embedded := false, tag := "", pkgPath := "fishplate/obj", byteOffset := 96 }]
@[reducible] def fl170 : List Field := [⟨"At", 3, 0, false, "", "", 0⟩, ⟨"Many", 3, 1, false, "", "", 8⟩, ⟨"Names", 3, 2, false, "", "", 16⟩]
def fs170 : Array Field := #[{ name := "At", type := 3, offset := 0, embedded := false, tag := "", pkgPath := "", byteOffset := 0 }, { name := "Many", type := 3, offset := 1, embedded := false, tag := "", pkgPath := "", byteOffset := 8 }, { name := "Names", type := 3, offset := 2, embedded := false, tag := "", pkgPath := "", byteOffset := 16 }]
@[reducible] def fl175 : List Field := [⟨"Name", 3, 0, false, "", "", 0⟩, ⟨"Bind", 3, 1, false, "", "", 8⟩, ⟨"Type", 3, 2, false, "", "", 16⟩, ⟨"Index", 3, 3, false, "", "", 24⟩, ⟨"Value", 3, 4, false, "", "", 32⟩, ⟨"Size", 3, 5, false, "", "", 40⟩]
def fs175 : Array Field := #[{ name := "Name", type := 3, offset := 0, embedded := false, tag := "", pkgPath := "", byteOffset := 0 }, { name := "Bind", type := 3, offset := 1, embedded := false, tag := "", pkgPath := "", byteOffset := 8 }, { name := "Type", type := 3, offset := 2, embedded := false, tag := "", pkgPath := "", byteOffset := 16 }, { name := "Index", type := 3, offset := 3, embedded := false, tag := "", pkgPath := "", byteOffset := 24 }, { name := "Value", type := 3, offset := 4, embedded := false, tag := "", pkgPath := "", byteOffset := 32 }, { name := "Size", type := 3, offset := 5, embedded := false, tag := "", pkgPath := "", byteOffset := 40 }]
@[reducible] def fl196 : List Field := [⟨"Name", 9, 0, false, "", "", 0⟩, ⟨"Obj", 3, 1, false, "", "", 16⟩, ⟨"Sym", 3, 2, false, "", "", 24⟩]
def fs196 : Array Field := #[{ name := "Name", type := 9, offset := 0, embedded := false, tag := "", pkgPath := "", byteOffset := 0 }, { name := "Obj", type := 3, offset := 1, embedded := false, tag := "", pkgPath := "", byteOffset := 16 }, { name := "Sym", type := 3, offset := 2, embedded := false, tag := "", pkgPath := "", byteOffset := 24 }]
@[reducible] def fl201 : List Field := [⟨"obj", 3, 0, false, "", "fishplate/graph", 0⟩, ⟨"sec", 3, 1, false, "", "fishplate/graph", 8⟩]
def fs201 : Array Field := #[{ name := "obj", type := 3, offset := 0, embedded := false, tag := "", pkgPath := "fishplate/graph", byteOffset := 0 }, { name := "sec", type := 3, offset := 1, embedded := false, tag := "", pkgPath := "fishplate/graph", byteOffset := 8 }]
@[reducible] def fl203 : List Field := [⟨"Obj", 3, 0, false, "", "", 0⟩, ⟨"Sec", 3, 1, false, "", "", 8⟩, ⟨"At", 3, 2, false, "", "", 16⟩]
def fs203 : Array Field := #[{ name := "Obj", type := 3, offset := 0, embedded := false, tag := "", pkgPath := "", byteOffset := 0 }, { name := "Sec", type := 3, offset := 1, embedded := false, tag := "", pkgPath := "", byteOffset := 8 }, { name := "At", type := 3, offset := 2, embedded := false, tag := "", pkgPath := "", byteOffset := 16 }]
@[reducible] def fl245 : List Field := [⟨"At", 3, 0, false, "", "", 0⟩, ⟨"Size", 3, 1, false, "", "", 8⟩]
def fs245 : Array Field := #[{ name := "At", type := 3, offset := 0, embedded := false, tag := "", pkgPath := "", byteOffset := 0 }, { name := "Size", type := 3, offset := 1, embedded := false, tag := "", pkgPath := "", byteOffset := 8 }]
@[reducible] def fl250 : List Field := [⟨"v", 92, 0, false, "", "fishplate/ehdr", 0⟩, ⟨"n", 3, 1, false, "", "fishplate/ehdr", 8⟩]
def fs250 : Array Field := #[{ name := "v", type := 92, offset := 0, embedded := false, tag := "", pkgPath := "fishplate/ehdr", byteOffset := 0 }, { name := "n", type := 3, offset := 1, embedded := false, tag := "", pkgPath := "fishplate/ehdr", byteOffset := 8 }]
def fs261 : Array Field := #[{ name := "_interface", type := 17, offset := 0, embedded := false, tag := "", pkgPath := "runtime", byteOffset := 0 }, { name := "concrete", type := 17, offset := 1, embedded := false, tag := "", pkgPath := "runtime", byteOffset := 8 }, { name := "asserted", type := 17, offset := 2, embedded := false, tag := "", pkgPath := "runtime", byteOffset := 16 }, { name := "missingMethod", type := 9, offset := 3, embedded := false, tag := "", pkgPath := "runtime", byteOffset := 24 }]
def fs264 : Array Field := #[{ name := "_", type := 263, offset := 0, embedded := false, tag := "", pkgPath := "runtime", byteOffset := 0 }]
def fs274 : Array Field := #[{ name := "Size_", type := 12, offset := 0, embedded := false, tag := "", pkgPath := "", byteOffset := 0 }, { name := "PtrBytes", type := 12, offset := 1, embedded := false, tag := "", pkgPath := "", byteOffset := 8 }, { name := "Hash", type := 267, offset := 2, embedded := false, tag := "", pkgPath := "", byteOffset := 16 }, { name := "TFlag", type := 268, offset := 3, embedded := false, tag := "", pkgPath := "", byteOffset := 20 }, { name := "Align_", type := 5, offset := 4, embedded := false, tag := "", pkgPath := "", byteOffset := 21 }, { name := "FieldAlign_", type := 5, offset := 5, embedded := false, tag := "", pkgPath := "", byteOffset := 22 }, { name := "Kind_", type := 269, offset := 6, embedded := false, tag := "", pkgPath := "", byteOffset := 23 }, { name := "Equal", type := 270, offset := 7, embedded := false, tag := "", pkgPath := "", byteOffset := 24 }, { name := "GCData", type := 271, offset := 8, embedded := false, tag := "", pkgPath := "", byteOffset := 32 }, { name := "Str", type := 272, offset := 9, embedded := false, tag := "", pkgPath := "", byteOffset := 40 }, { name := "PtrToThis", type := 273, offset := 10, embedded := false, tag := "", pkgPath := "", byteOffset := 44 }]
instance : TU Try.prog 0 (.tuple #[]) := ⟨by kernel_rfl⟩
instance : TI Try.prog 0 (.tuple #[]) 1 0 := ⟨by kernel_rfl⟩
instance : TG Try.prog 0 false 1 := ⟨by kernel_rfl, by kernel_rfl⟩
instance : TU Try.prog 2 (.int .i64) := ⟨by kernel_rfl⟩
instance : TI Try.prog 2 (.int .i64 0) 1 8 := ⟨by kernel_rfl⟩
instance : TG Try.prog 2 false 1 := ⟨by kernel_rfl, by kernel_rfl⟩
instance : TU Try.prog 3 (.int .i64) := ⟨by kernel_rfl⟩
instance : TI Try.prog 3 (.int .i64 0) 1 8 := ⟨by kernel_rfl⟩
instance : TG Try.prog 3 false 1 := ⟨by kernel_rfl, by kernel_rfl⟩
instance : TU Try.prog 4 .bool := ⟨by kernel_rfl⟩
instance : TI Try.prog 4 (.bool false) 1 1 := ⟨by kernel_rfl⟩
instance : TG Try.prog 4 false 1 := ⟨by kernel_rfl, by kernel_rfl⟩
instance : TU Try.prog 5 (.int .u8) := ⟨by kernel_rfl⟩
instance : TI Try.prog 5 (.int .u8 0) 1 1 := ⟨by kernel_rfl⟩
instance : TG Try.prog 5 false 1 := ⟨by kernel_rfl, by kernel_rfl⟩
instance : TU Try.prog 6 (.int .u8) := ⟨by kernel_rfl⟩
instance : TI Try.prog 6 (.int .u8 0) 1 1 := ⟨by kernel_rfl⟩
instance : TG Try.prog 6 false 1 := ⟨by kernel_rfl, by kernel_rfl⟩
instance : TU Try.prog 7 (.struct fs7) := ⟨by kernel_rfl⟩
instance : TI Try.prog 7 (.agg #[.int .i64 0, .int .i64 0, .bool false, .int .u8 0]) 4 24 := ⟨by kernel_rfl⟩
instance : TG Try.prog 7 true 4 := ⟨by kernel_rfl, by kernel_rfl⟩
instance : TB Try.prog 7 [.v (.int .i64 0), .v (.int .i64 0), .v (.bool false), .v (.int .u8 0)] [(0, 1), (1, 1), (2, 1), (3, 1)] := tb_of (fs := fs7) (zs := [.int .i64 0, .int .i64 0, .bool false, .int .u8 0]) (by kernel_rfl) (by kernel_rfl) (by kernel_rfl) rfl (by kernel_rfl)
instance : TF Try.prog 7 0 0 1 false := ⟨⟨fs7, _, by kernel_rfl, rfl, rfl, by kernel_rfl, by decide, by kernel_rfl⟩⟩
instance : TF Try.prog 7 1 1 1 false := ⟨⟨fs7, _, by kernel_rfl, rfl, rfl, by kernel_rfl, by decide, by kernel_rfl⟩⟩
instance : TF Try.prog 7 2 2 1 false := ⟨⟨fs7, _, by kernel_rfl, rfl, rfl, by kernel_rfl, by decide, by kernel_rfl⟩⟩
instance : TF Try.prog 7 3 3 1 false := ⟨⟨fs7, _, by kernel_rfl, rfl, rfl, by kernel_rfl, by decide, by kernel_rfl⟩⟩
instance : TU Try.prog 8 (.struct fs7) := ⟨by kernel_rfl⟩
instance : TI Try.prog 8 (.agg #[.int .i64 0, .int .i64 0, .bool false, .int .u8 0]) 4 24 := ⟨by kernel_rfl⟩
instance : TG Try.prog 8 true 4 := ⟨by kernel_rfl, by kernel_rfl⟩
instance : TB Try.prog 8 [.v (.int .i64 0), .v (.int .i64 0), .v (.bool false), .v (.int .u8 0)] [(0, 1), (1, 1), (2, 1), (3, 1)] := tb_of (fs := fs7) (zs := [.int .i64 0, .int .i64 0, .bool false, .int .u8 0]) (by kernel_rfl) (by kernel_rfl) (by kernel_rfl) rfl (by kernel_rfl)
instance : TF Try.prog 8 0 0 1 false := ⟨⟨fs7, _, by kernel_rfl, rfl, rfl, by kernel_rfl, by decide, by kernel_rfl⟩⟩
instance : TF Try.prog 8 1 1 1 false := ⟨⟨fs7, _, by kernel_rfl, rfl, rfl, by kernel_rfl, by decide, by kernel_rfl⟩⟩
instance : TF Try.prog 8 2 2 1 false := ⟨⟨fs7, _, by kernel_rfl, rfl, rfl, by kernel_rfl, by decide, by kernel_rfl⟩⟩
instance : TF Try.prog 8 3 3 1 false := ⟨⟨fs7, _, by kernel_rfl, rfl, rfl, by kernel_rfl, by decide, by kernel_rfl⟩⟩
instance : TU Try.prog 9 .string := ⟨by kernel_rfl⟩
instance : TI Try.prog 9 (.string { data := #[] }) 1 16 := ⟨by kernel_rfl⟩
instance : TG Try.prog 9 false 1 := ⟨by kernel_rfl, by kernel_rfl⟩
instance : TU Try.prog 10 .string := ⟨by kernel_rfl⟩
instance : TI Try.prog 10 (.string { data := #[] }) 1 16 := ⟨by kernel_rfl⟩
instance : TG Try.prog 10 false 1 := ⟨by kernel_rfl, by kernel_rfl⟩
instance : TU Try.prog 11 .string := ⟨by kernel_rfl⟩
instance : TI Try.prog 11 (.string { data := #[] }) 1 16 := ⟨by kernel_rfl⟩
instance : TG Try.prog 11 false 1 := ⟨by kernel_rfl, by kernel_rfl⟩
instance : TU Try.prog 12 (.int .u64) := ⟨by kernel_rfl⟩
instance : TI Try.prog 12 (.int .u64 0) 1 8 := ⟨by kernel_rfl⟩
instance : TG Try.prog 12 false 1 := ⟨by kernel_rfl, by kernel_rfl⟩
instance : TU Try.prog 13 (.struct fs13) := ⟨by kernel_rfl⟩
instance : TI Try.prog 13 (.agg #[.string { data := #[] }, .int .u64 0]) 2 24 := ⟨by kernel_rfl⟩
instance : TG Try.prog 13 true 2 := ⟨by kernel_rfl, by kernel_rfl⟩
instance : TB Try.prog 13 [.v (.string { data := #[] }), .v (.int .u64 0)] [(0, 1), (1, 1)] := tb_of (fs := fs13) (zs := [.string { data := #[] }, .int .u64 0]) (by kernel_rfl) (by kernel_rfl) (by kernel_rfl) rfl (by kernel_rfl)
instance : TF Try.prog 13 0 0 1 false := ⟨⟨fs13, _, by kernel_rfl, rfl, rfl, by kernel_rfl, by decide, by kernel_rfl⟩⟩
instance : TF Try.prog 13 1 1 1 false := ⟨⟨fs13, _, by kernel_rfl, rfl, rfl, by kernel_rfl, by decide, by kernel_rfl⟩⟩
instance : TU Try.prog 14 (.struct fs13) := ⟨by kernel_rfl⟩
instance : TI Try.prog 14 (.agg #[.string { data := #[] }, .int .u64 0]) 2 24 := ⟨by kernel_rfl⟩
instance : TG Try.prog 14 true 2 := ⟨by kernel_rfl, by kernel_rfl⟩
instance : TB Try.prog 14 [.v (.string { data := #[] }), .v (.int .u64 0)] [(0, 1), (1, 1)] := tb_of (fs := fs13) (zs := [.string { data := #[] }, .int .u64 0]) (by kernel_rfl) (by kernel_rfl) (by kernel_rfl) rfl (by kernel_rfl)
instance : TF Try.prog 14 0 0 1 false := ⟨⟨fs13, _, by kernel_rfl, rfl, rfl, by kernel_rfl, by decide, by kernel_rfl⟩⟩
instance : TF Try.prog 14 1 1 1 false := ⟨⟨fs13, _, by kernel_rfl, rfl, rfl, by kernel_rfl, by decide, by kernel_rfl⟩⟩
instance : TU Try.prog 15 (.pointer 262) := ⟨by kernel_rfl⟩
instance : TI Try.prog 15 (.pointer none) 1 8 := ⟨by kernel_rfl⟩
instance : TG Try.prog 15 false 1 := ⟨by kernel_rfl, by kernel_rfl⟩
instance : TU Try.prog 16 (.pointer 265) := ⟨by kernel_rfl⟩
instance : TI Try.prog 16 (.pointer none) 1 8 := ⟨by kernel_rfl⟩
instance : TG Try.prog 16 false 1 := ⟨by kernel_rfl, by kernel_rfl⟩
instance : TU Try.prog 17 (.pointer 275) := ⟨by kernel_rfl⟩
instance : TI Try.prog 17 (.pointer none) 1 8 := ⟨by kernel_rfl⟩
instance : TG Try.prog 17 false 1 := ⟨by kernel_rfl, by kernel_rfl⟩
instance : TU Try.prog 18 (.struct fs18) := ⟨by kernel_rfl⟩
instance : TI Try.prog 18 (.agg #[.pointer none]) 1 8 := ⟨by kernel_rfl⟩
instance : TG Try.prog 18 true 1 := ⟨by kernel_rfl, by kernel_rfl⟩
instance : TB Try.prog 18 [.v (.pointer none)] [(0, 1)] := tb_of (fs := fs18) (zs := [.pointer none]) (by kernel_rfl) (by kernel_rfl) (by kernel_rfl) rfl (by kernel_rfl)
instance : TF Try.prog 18 0 0 1 false := ⟨⟨fs18, _, by kernel_rfl, rfl, rfl, by kernel_rfl, by decide, by kernel_rfl⟩⟩
instance : TU Try.prog 19 (.struct fs18) := ⟨by kernel_rfl⟩
instance : TI Try.prog 19 (.agg #[.pointer none]) 1 8 := ⟨by kernel_rfl⟩
instance : TG Try.prog 19 true 1 := ⟨by kernel_rfl, by kernel_rfl⟩
instance : TB Try.prog 19 [.v (.pointer none)] [(0, 1)] := tb_of (fs := fs18) (zs := [.pointer none]) (by kernel_rfl) (by kernel_rfl) (by kernel_rfl) rfl (by kernel_rfl)
instance : TF Try.prog 19 0 0 1 false := ⟨⟨fs18, _, by kernel_rfl, rfl, rfl, by kernel_rfl, by decide, by kernel_rfl⟩⟩
instance : TU Try.prog 21 (.int .i32) := ⟨by kernel_rfl⟩
instance : TI Try.prog 21 (.int .i32 0) 1 4 := ⟨by kernel_rfl⟩
instance : TG Try.prog 21 false 1 := ⟨by kernel_rfl, by kernel_rfl⟩
instance : TU Try.prog 22 (.slice 5) := ⟨by kernel_rfl⟩
instance : TI Try.prog 22 (.slice none 0 0) 1 24 := ⟨by kernel_rfl⟩
instance : TG Try.prog 22 false 1 := ⟨by kernel_rfl, by kernel_rfl⟩
instance : TU Try.prog 24 (.slice 32) := ⟨by kernel_rfl⟩
instance : TI Try.prog 24 (.slice none 0 0) 1 24 := ⟨by kernel_rfl⟩
instance : TG Try.prog 24 false 1 := ⟨by kernel_rfl, by kernel_rfl⟩
instance : TU Try.prog 25 (.struct fs25) := ⟨by kernel_rfl⟩
instance : TI Try.prog 25 (.agg #[.int .i64 0, .slice none 0 0]) 2 32 := ⟨by kernel_rfl⟩
instance : TG Try.prog 25 true 2 := ⟨by kernel_rfl, by kernel_rfl⟩
instance : TB Try.prog 25 [.v (.int .i64 0), .v (.slice none 0 0)] [(0, 1), (1, 1)] := tb_of (fs := fs25) (zs := [.int .i64 0, .slice none 0 0]) (by kernel_rfl) (by kernel_rfl) (by kernel_rfl) rfl (by kernel_rfl)
instance : TF Try.prog 25 0 0 1 false := ⟨⟨fs25, _, by kernel_rfl, rfl, rfl, by kernel_rfl, by decide, by kernel_rfl⟩⟩
instance : TF Try.prog 25 1 1 1 false := ⟨⟨fs25, _, by kernel_rfl, rfl, rfl, by kernel_rfl, by decide, by kernel_rfl⟩⟩
instance : TU Try.prog 26 (.struct fs25) := ⟨by kernel_rfl⟩
instance : TI Try.prog 26 (.agg #[.int .i64 0, .slice none 0 0]) 2 32 := ⟨by kernel_rfl⟩
instance : TG Try.prog 26 true 2 := ⟨by kernel_rfl, by kernel_rfl⟩
instance : TB Try.prog 26 [.v (.int .i64 0), .v (.slice none 0 0)] [(0, 1), (1, 1)] := tb_of (fs := fs25) (zs := [.int .i64 0, .slice none 0 0]) (by kernel_rfl) (by kernel_rfl) (by kernel_rfl) rfl (by kernel_rfl)
instance : TF Try.prog 26 0 0 1 false := ⟨⟨fs25, _, by kernel_rfl, rfl, rfl, by kernel_rfl, by decide, by kernel_rfl⟩⟩
instance : TF Try.prog 26 1 1 1 false := ⟨⟨fs25, _, by kernel_rfl, rfl, rfl, by kernel_rfl, by decide, by kernel_rfl⟩⟩
instance : TU Try.prog 29 (.tuple #[26, 28]) := ⟨by kernel_rfl⟩
instance : TI Try.prog 29 (.tuple #[.agg #[.int .i64 0, .slice none 0 0], .nilIface]) 1 0 := ⟨by kernel_rfl⟩
instance : TG Try.prog 29 false 1 := ⟨by kernel_rfl, by kernel_rfl⟩
instance : TU Try.prog 31 (.struct fs31) := ⟨by kernel_rfl⟩
instance : TI Try.prog 31 (.agg #[.int .i64 0, .int .i64 0, .int .i64 0, .slice none 0 0]) 4 48 := ⟨by kernel_rfl⟩
instance : TG Try.prog 31 true 4 := ⟨by kernel_rfl, by kernel_rfl⟩
instance : TB Try.prog 31 [.v (.int .i64 0), .v (.int .i64 0), .v (.int .i64 0), .v (.slice none 0 0)] [(0, 1), (1, 1), (2, 1), (3, 1)] := tb_of (fs := fs31) (zs := [.int .i64 0, .int .i64 0, .int .i64 0, .slice none 0 0]) (by kernel_rfl) (by kernel_rfl) (by kernel_rfl) rfl (by kernel_rfl)
instance : TF Try.prog 31 0 0 1 false := ⟨⟨fs31, _, by kernel_rfl, rfl, rfl, by kernel_rfl, by decide, by kernel_rfl⟩⟩
instance : TF Try.prog 31 1 1 1 false := ⟨⟨fs31, _, by kernel_rfl, rfl, rfl, by kernel_rfl, by decide, by kernel_rfl⟩⟩
instance : TF Try.prog 31 2 2 1 false := ⟨⟨fs31, _, by kernel_rfl, rfl, rfl, by kernel_rfl, by decide, by kernel_rfl⟩⟩
instance : TF Try.prog 31 3 3 1 false := ⟨⟨fs31, _, by kernel_rfl, rfl, rfl, by kernel_rfl, by decide, by kernel_rfl⟩⟩
instance : TU Try.prog 32 (.struct fs31) := ⟨by kernel_rfl⟩
instance : TI Try.prog 32 (.agg #[.int .i64 0, .int .i64 0, .int .i64 0, .slice none 0 0]) 4 48 := ⟨by kernel_rfl⟩
instance : TG Try.prog 32 true 4 := ⟨by kernel_rfl, by kernel_rfl⟩
instance : TB Try.prog 32 [.v (.int .i64 0), .v (.int .i64 0), .v (.int .i64 0), .v (.slice none 0 0)] [(0, 1), (1, 1), (2, 1), (3, 1)] := tb_of (fs := fs31) (zs := [.int .i64 0, .int .i64 0, .int .i64 0, .slice none 0 0]) (by kernel_rfl) (by kernel_rfl) (by kernel_rfl) rfl (by kernel_rfl)
instance : TF Try.prog 32 0 0 1 false := ⟨⟨fs31, _, by kernel_rfl, rfl, rfl, by kernel_rfl, by decide, by kernel_rfl⟩⟩
instance : TF Try.prog 32 1 1 1 false := ⟨⟨fs31, _, by kernel_rfl, rfl, rfl, by kernel_rfl, by decide, by kernel_rfl⟩⟩
instance : TF Try.prog 32 2 2 1 false := ⟨⟨fs31, _, by kernel_rfl, rfl, rfl, by kernel_rfl, by decide, by kernel_rfl⟩⟩
instance : TF Try.prog 32 3 3 1 false := ⟨⟨fs31, _, by kernel_rfl, rfl, rfl, by kernel_rfl, by decide, by kernel_rfl⟩⟩
instance : TU Try.prog 33 (.int .i64) := ⟨by kernel_rfl⟩
instance : TI Try.prog 33 (.int .i64 0) 1 8 := ⟨by kernel_rfl⟩
instance : TG Try.prog 33 false 1 := ⟨by kernel_rfl, by kernel_rfl⟩
instance : TU Try.prog 35 (.struct fs35) := ⟨by kernel_rfl⟩
instance : TI Try.prog 35 (.agg #[.int .i64 0, .int .i64 0, .int .i64 0, .int .i64 0, .int .i64 0, .int .i64 0, .int .i64 0]) 7 56 := ⟨by kernel_rfl⟩
instance : TG Try.prog 35 true 7 := ⟨by kernel_rfl, by kernel_rfl⟩
instance : TB Try.prog 35 [.v (.int .i64 0), .v (.int .i64 0), .v (.int .i64 0), .v (.int .i64 0), .v (.int .i64 0), .v (.int .i64 0), .v (.int .i64 0)] [(0, 1), (1, 1), (2, 1), (3, 1), (4, 1), (5, 1), (6, 1)] := tb_of (fs := fs35) (zs := [.int .i64 0, .int .i64 0, .int .i64 0, .int .i64 0, .int .i64 0, .int .i64 0, .int .i64 0]) (by kernel_rfl) (by kernel_rfl) (by kernel_rfl) rfl (by kernel_rfl)
instance : TF Try.prog 35 0 0 1 false := ⟨⟨fs35, _, by kernel_rfl, rfl, rfl, by kernel_rfl, by decide, by kernel_rfl⟩⟩
instance : TF Try.prog 35 1 1 1 false := ⟨⟨fs35, _, by kernel_rfl, rfl, rfl, by kernel_rfl, by decide, by kernel_rfl⟩⟩
instance : TF Try.prog 35 2 2 1 false := ⟨⟨fs35, _, by kernel_rfl, rfl, rfl, by kernel_rfl, by decide, by kernel_rfl⟩⟩
instance : TF Try.prog 35 3 3 1 false := ⟨⟨fs35, _, by kernel_rfl, rfl, rfl, by kernel_rfl, by decide, by kernel_rfl⟩⟩
instance : TF Try.prog 35 4 4 1 false := ⟨⟨fs35, _, by kernel_rfl, rfl, rfl, by kernel_rfl, by decide, by kernel_rfl⟩⟩
instance : TF Try.prog 35 5 5 1 false := ⟨⟨fs35, _, by kernel_rfl, rfl, rfl, by kernel_rfl, by decide, by kernel_rfl⟩⟩
instance : TF Try.prog 35 6 6 1 false := ⟨⟨fs35, _, by kernel_rfl, rfl, rfl, by kernel_rfl, by decide, by kernel_rfl⟩⟩
instance : TU Try.prog 36 (.struct fs35) := ⟨by kernel_rfl⟩
instance : TI Try.prog 36 (.agg #[.int .i64 0, .int .i64 0, .int .i64 0, .int .i64 0, .int .i64 0, .int .i64 0, .int .i64 0]) 7 56 := ⟨by kernel_rfl⟩
instance : TG Try.prog 36 true 7 := ⟨by kernel_rfl, by kernel_rfl⟩
instance : SFL Try.prog 36 fl35 := ⟨fs35, by kernel_rfl, rfl, by kernel_rfl, by kernel_rfl, by kernel_rfl⟩
instance : TB Try.prog 36 [.v (.int .i64 0), .v (.int .i64 0), .v (.int .i64 0), .v (.int .i64 0), .v (.int .i64 0), .v (.int .i64 0), .v (.int .i64 0)] [(0, 1), (1, 1), (2, 1), (3, 1), (4, 1), (5, 1), (6, 1)] := tb_of (fs := fs35) (zs := [.int .i64 0, .int .i64 0, .int .i64 0, .int .i64 0, .int .i64 0, .int .i64 0, .int .i64 0]) (by kernel_rfl) (by kernel_rfl) (by kernel_rfl) rfl (by kernel_rfl)
instance : TF Try.prog 36 0 0 1 false := ⟨⟨fs35, _, by kernel_rfl, rfl, rfl, by kernel_rfl, by decide, by kernel_rfl⟩⟩
instance : TF Try.prog 36 1 1 1 false := ⟨⟨fs35, _, by kernel_rfl, rfl, rfl, by kernel_rfl, by decide, by kernel_rfl⟩⟩
instance : TF Try.prog 36 2 2 1 false := ⟨⟨fs35, _, by kernel_rfl, rfl, rfl, by kernel_rfl, by decide, by kernel_rfl⟩⟩
instance : TF Try.prog 36 3 3 1 false := ⟨⟨fs35, _, by kernel_rfl, rfl, rfl, by kernel_rfl, by decide, by kernel_rfl⟩⟩
instance : TF Try.prog 36 4 4 1 false := ⟨⟨fs35, _, by kernel_rfl, rfl, rfl, by kernel_rfl, by decide, by kernel_rfl⟩⟩
instance : TF Try.prog 36 5 5 1 false := ⟨⟨fs35, _, by kernel_rfl, rfl, rfl, by kernel_rfl, by decide, by kernel_rfl⟩⟩
instance : TF Try.prog 36 6 6 1 false := ⟨⟨fs35, _, by kernel_rfl, rfl, rfl, by kernel_rfl, by decide, by kernel_rfl⟩⟩
instance : TU Try.prog 37 (.tuple #[36, 4]) := ⟨by kernel_rfl⟩
instance : TI Try.prog 37 (.tuple #[.agg #[.int .i64 0, .int .i64 0, .int .i64 0, .int .i64 0, .int .i64 0, .int .i64 0, .int .i64 0], .bool false]) 1 0 := ⟨by kernel_rfl⟩
instance : TG Try.prog 37 false 1 := ⟨by kernel_rfl, by kernel_rfl⟩
instance : TU Try.prog 39 (.struct fs35) := ⟨by kernel_rfl⟩
instance : TI Try.prog 39 (.agg #[.int .i64 0, .int .i64 0, .int .i64 0, .int .i64 0, .int .i64 0, .int .i64 0, .int .i64 0]) 7 56 := ⟨by kernel_rfl⟩
instance : TG Try.prog 39 true 7 := ⟨by kernel_rfl, by kernel_rfl⟩
instance : SFL Try.prog 39 fl35 := ⟨fs35, by kernel_rfl, rfl, by kernel_rfl, by kernel_rfl, by kernel_rfl⟩
instance : TB Try.prog 39 [.v (.int .i64 0), .v (.int .i64 0), .v (.int .i64 0), .v (.int .i64 0), .v (.int .i64 0), .v (.int .i64 0), .v (.int .i64 0)] [(0, 1), (1, 1), (2, 1), (3, 1), (4, 1), (5, 1), (6, 1)] := tb_of (fs := fs35) (zs := [.int .i64 0, .int .i64 0, .int .i64 0, .int .i64 0, .int .i64 0, .int .i64 0, .int .i64 0]) (by kernel_rfl) (by kernel_rfl) (by kernel_rfl) rfl (by kernel_rfl)
instance : TF Try.prog 39 0 0 1 false := ⟨⟨fs35, _, by kernel_rfl, rfl, rfl, by kernel_rfl, by decide, by kernel_rfl⟩⟩
instance : TF Try.prog 39 1 1 1 false := ⟨⟨fs35, _, by kernel_rfl, rfl, rfl, by kernel_rfl, by decide, by kernel_rfl⟩⟩
instance : TF Try.prog 39 2 2 1 false := ⟨⟨fs35, _, by kernel_rfl, rfl, rfl, by kernel_rfl, by decide, by kernel_rfl⟩⟩
instance : TF Try.prog 39 3 3 1 false := ⟨⟨fs35, _, by kernel_rfl, rfl, rfl, by kernel_rfl, by decide, by kernel_rfl⟩⟩
instance : TF Try.prog 39 4 4 1 false := ⟨⟨fs35, _, by kernel_rfl, rfl, rfl, by kernel_rfl, by decide, by kernel_rfl⟩⟩
instance : TF Try.prog 39 5 5 1 false := ⟨⟨fs35, _, by kernel_rfl, rfl, rfl, by kernel_rfl, by decide, by kernel_rfl⟩⟩
instance : TF Try.prog 39 6 6 1 false := ⟨⟨fs35, _, by kernel_rfl, rfl, rfl, by kernel_rfl, by decide, by kernel_rfl⟩⟩
instance : TU Try.prog 40 (.tuple #[39, 4]) := ⟨by kernel_rfl⟩
instance : TI Try.prog 40 (.tuple #[.agg #[.int .i64 0, .int .i64 0, .int .i64 0, .int .i64 0, .int .i64 0, .int .i64 0, .int .i64 0], .bool false]) 1 0 := ⟨by kernel_rfl⟩
instance : TG Try.prog 40 false 1 := ⟨by kernel_rfl, by kernel_rfl⟩
instance : TU Try.prog 47 (.slice 75) := ⟨by kernel_rfl⟩
instance : TI Try.prog 47 (.slice none 0 0) 1 24 := ⟨by kernel_rfl⟩
instance : TG Try.prog 47 false 1 := ⟨by kernel_rfl, by kernel_rfl⟩
instance : TU Try.prog 48 (.slice 105) := ⟨by kernel_rfl⟩
instance : TI Try.prog 48 (.slice none 0 0) 1 24 := ⟨by kernel_rfl⟩
instance : TG Try.prog 48 false 1 := ⟨by kernel_rfl, by kernel_rfl⟩
instance : TU Try.prog 49 (.slice 107) := ⟨by kernel_rfl⟩
instance : TI Try.prog 49 (.slice none 0 0) 1 24 := ⟨by kernel_rfl⟩
instance : TG Try.prog 49 false 1 := ⟨by kernel_rfl, by kernel_rfl⟩
instance : TU Try.prog 50 (.slice 3) := ⟨by kernel_rfl⟩
instance : TI Try.prog 50 (.slice none 0 0) 1 24 := ⟨by kernel_rfl⟩
instance : TG Try.prog 50 false 1 := ⟨by kernel_rfl, by kernel_rfl⟩
instance : TU Try.prog 51 (.struct fs51) := ⟨by kernel_rfl⟩
instance : TI Try.prog 51 (.agg #[.slice none 0 0, .slice none 0 0, .slice none 0 0, .bool false, .slice none 0 0]) 5 104 := ⟨by kernel_rfl⟩
instance : TG Try.prog 51 true 5 := ⟨by kernel_rfl, by kernel_rfl⟩
instance : TB Try.prog 51 [.v (.slice none 0 0), .v (.slice none 0 0), .v (.slice none 0 0), .v (.bool false), .v (.slice none 0 0)] [(0, 1), (1, 1), (2, 1), (3, 1), (4, 1)] := tb_of (fs := fs51) (zs := [.slice none 0 0, .slice none 0 0, .slice none 0 0, .bool false, .slice none 0 0]) (by kernel_rfl) (by kernel_rfl) (by kernel_rfl) rfl (by kernel_rfl)
instance : TF Try.prog 51 0 0 1 false := ⟨⟨fs51, _, by kernel_rfl, rfl, rfl, by kernel_rfl, by decide, by kernel_rfl⟩⟩
instance : TF Try.prog 51 1 1 1 false := ⟨⟨fs51, _, by kernel_rfl, rfl, rfl, by kernel_rfl, by decide, by kernel_rfl⟩⟩
instance : TF Try.prog 51 2 2 1 false := ⟨⟨fs51, _, by kernel_rfl, rfl, rfl, by kernel_rfl, by decide, by kernel_rfl⟩⟩
instance : TF Try.prog 51 3 3 1 false := ⟨⟨fs51, _, by kernel_rfl, rfl, rfl, by kernel_rfl, by decide, by kernel_rfl⟩⟩
instance : TF Try.prog 51 4 4 1 false := ⟨⟨fs51, _, by kernel_rfl, rfl, rfl, by kernel_rfl, by decide, by kernel_rfl⟩⟩
instance : TU Try.prog 52 (.struct fs51) := ⟨by kernel_rfl⟩
instance : TI Try.prog 52 (.agg #[.slice none 0 0, .slice none 0 0, .slice none 0 0, .bool false, .slice none 0 0]) 5 104 := ⟨by kernel_rfl⟩
instance : TG Try.prog 52 true 5 := ⟨by kernel_rfl, by kernel_rfl⟩
instance : TB Try.prog 52 [.v (.slice none 0 0), .v (.slice none 0 0), .v (.slice none 0 0), .v (.bool false), .v (.slice none 0 0)] [(0, 1), (1, 1), (2, 1), (3, 1), (4, 1)] := tb_of (fs := fs51) (zs := [.slice none 0 0, .slice none 0 0, .slice none 0 0, .bool false, .slice none 0 0]) (by kernel_rfl) (by kernel_rfl) (by kernel_rfl) rfl (by kernel_rfl)
instance : TF Try.prog 52 0 0 1 false := ⟨⟨fs51, _, by kernel_rfl, rfl, rfl, by kernel_rfl, by decide, by kernel_rfl⟩⟩
instance : TF Try.prog 52 1 1 1 false := ⟨⟨fs51, _, by kernel_rfl, rfl, rfl, by kernel_rfl, by decide, by kernel_rfl⟩⟩
instance : TF Try.prog 52 2 2 1 false := ⟨⟨fs51, _, by kernel_rfl, rfl, rfl, by kernel_rfl, by decide, by kernel_rfl⟩⟩
instance : TF Try.prog 52 3 3 1 false := ⟨⟨fs51, _, by kernel_rfl, rfl, rfl, by kernel_rfl, by decide, by kernel_rfl⟩⟩
instance : TF Try.prog 52 4 4 1 false := ⟨⟨fs51, _, by kernel_rfl, rfl, rfl, by kernel_rfl, by decide, by kernel_rfl⟩⟩
instance : TU Try.prog 55 (.tuple #[22, 28]) := ⟨by kernel_rfl⟩
instance : TI Try.prog 55 (.tuple #[.slice none 0 0, .nilIface]) 1 0 := ⟨by kernel_rfl⟩
instance : TG Try.prog 55 false 1 := ⟨by kernel_rfl, by kernel_rfl⟩
instance : TU Try.prog 58 (.tuple #[52, 28]) := ⟨by kernel_rfl⟩
instance : TI Try.prog 58 (.tuple #[.agg #[.slice none 0 0, .slice none 0 0, .slice none 0 0, .bool false, .slice none 0 0], .nilIface]) 1 0 := ⟨by kernel_rfl⟩
instance : TG Try.prog 58 false 1 := ⟨by kernel_rfl, by kernel_rfl⟩
instance : TU Try.prog 62 (.slice 52) := ⟨by kernel_rfl⟩
instance : TI Try.prog 62 (.slice none 0 0) 1 24 := ⟨by kernel_rfl⟩
instance : TG Try.prog 62 false 1 := ⟨by kernel_rfl, by kernel_rfl⟩
instance : TU Try.prog 64 (.slice 72) := ⟨by kernel_rfl⟩
instance : TI Try.prog 64 (.slice none 0 0) 1 24 := ⟨by kernel_rfl⟩
instance : TG Try.prog 64 false 1 := ⟨by kernel_rfl, by kernel_rfl⟩
instance : TU Try.prog 65 (.slice 82) := ⟨by kernel_rfl⟩
instance : TI Try.prog 65 (.slice none 0 0) 1 24 := ⟨by kernel_rfl⟩
instance : TG Try.prog 65 false 1 := ⟨by kernel_rfl, by kernel_rfl⟩
instance : TU Try.prog 66 (.struct fs66) := ⟨by kernel_rfl⟩
instance : TI Try.prog 66 (.agg #[.slice none 0 0, .int .i64 0, .int .i64 0, .slice none 0 0]) 4 64 := ⟨by kernel_rfl⟩
instance : TG Try.prog 66 true 4 := ⟨by kernel_rfl, by kernel_rfl⟩
instance : TB Try.prog 66 [.v (.slice none 0 0), .v (.int .i64 0), .v (.int .i64 0), .v (.slice none 0 0)] [(0, 1), (1, 1), (2, 1), (3, 1)] := tb_of (fs := fs66) (zs := [.slice none 0 0, .int .i64 0, .int .i64 0, .slice none 0 0]) (by kernel_rfl) (by kernel_rfl) (by kernel_rfl) rfl (by kernel_rfl)
instance : TF Try.prog 66 0 0 1 false := ⟨⟨fs66, _, by kernel_rfl, rfl, rfl, by kernel_rfl, by decide, by kernel_rfl⟩⟩
instance : TF Try.prog 66 1 1 1 false := ⟨⟨fs66, _, by kernel_rfl, rfl, rfl, by kernel_rfl, by decide, by kernel_rfl⟩⟩
instance : TF Try.prog 66 2 2 1 false := ⟨⟨fs66, _, by kernel_rfl, rfl, rfl, by kernel_rfl, by decide, by kernel_rfl⟩⟩
instance : TF Try.prog 66 3 3 1 false := ⟨⟨fs66, _, by kernel_rfl, rfl, rfl, by kernel_rfl, by decide, by kernel_rfl⟩⟩
instance : TU Try.prog 67 (.struct fs66) := ⟨by kernel_rfl⟩
instance : TI Try.prog 67 (.agg #[.slice none 0 0, .int .i64 0, .int .i64 0, .slice none 0 0]) 4 64 := ⟨by kernel_rfl⟩
instance : TG Try.prog 67 true 4 := ⟨by kernel_rfl, by kernel_rfl⟩
instance : TB Try.prog 67 [.v (.slice none 0 0), .v (.int .i64 0), .v (.int .i64 0), .v (.slice none 0 0)] [(0, 1), (1, 1), (2, 1), (3, 1)] := tb_of (fs := fs66) (zs := [.slice none 0 0, .int .i64 0, .int .i64 0, .slice none 0 0]) (by kernel_rfl) (by kernel_rfl) (by kernel_rfl) rfl (by kernel_rfl)
instance : TF Try.prog 67 0 0 1 false := ⟨⟨fs66, _, by kernel_rfl, rfl, rfl, by kernel_rfl, by decide, by kernel_rfl⟩⟩
instance : TF Try.prog 67 1 1 1 false := ⟨⟨fs66, _, by kernel_rfl, rfl, rfl, by kernel_rfl, by decide, by kernel_rfl⟩⟩
instance : TF Try.prog 67 2 2 1 false := ⟨⟨fs66, _, by kernel_rfl, rfl, rfl, by kernel_rfl, by decide, by kernel_rfl⟩⟩
instance : TF Try.prog 67 3 3 1 false := ⟨⟨fs66, _, by kernel_rfl, rfl, rfl, by kernel_rfl, by decide, by kernel_rfl⟩⟩
instance : TU Try.prog 68 (.tuple #[67, 28]) := ⟨by kernel_rfl⟩
instance : TI Try.prog 68 (.tuple #[.agg #[.slice none 0 0, .int .i64 0, .int .i64 0, .slice none 0 0], .nilIface]) 1 0 := ⟨by kernel_rfl⟩
instance : TG Try.prog 68 false 1 := ⟨by kernel_rfl, by kernel_rfl⟩
instance : TU Try.prog 70 (.slice 78) := ⟨by kernel_rfl⟩
instance : TI Try.prog 70 (.slice none 0 0) 1 24 := ⟨by kernel_rfl⟩
instance : TG Try.prog 70 false 1 := ⟨by kernel_rfl, by kernel_rfl⟩
instance : TU Try.prog 71 (.struct fs71) := ⟨by kernel_rfl⟩
instance : TI Try.prog 71 (.agg #[.int .i64 0, .int .i64 0, .int .i64 0, .string { data := #[] }, .int .i64 0, .int .i64 0, .int .i64 0, .int .i64 0, .int .i64 0, .slice none 0 0, .slice none 0 0, .bool false, .int .i64 0, .int .i64 0]) 14 152 := ⟨by kernel_rfl⟩
instance : TG Try.prog 71 true 14 := ⟨by kernel_rfl, by kernel_rfl⟩
instance : TB Try.prog 71 [.v (.int .i64 0), .v (.int .i64 0), .v (.int .i64 0), .v (.string { data := #[] }), .v (.int .i64 0), .v (.int .i64 0), .v (.int .i64 0), .v (.int .i64 0), .v (.int .i64 0), .v (.slice none 0 0), .v (.slice none 0 0), .v (.bool false), .v (.int .i64 0), .v (.int .i64 0)] [(0, 1), (1, 1), (2, 1), (3, 1), (4, 1), (5, 1), (6, 1), (7, 1), (8, 1), (9, 1), (10, 1), (11, 1), (12, 1), (13, 1)] := tb_of (fs := fs71) (zs := [.int .i64 0, .int .i64 0, .int .i64 0, .string { data := #[] }, .int .i64 0, .int .i64 0, .int .i64 0, .int .i64 0, .int .i64 0, .slice none 0 0, .slice none 0 0, .bool false, .int .i64 0, .int .i64 0]) (by kernel_rfl) (by kernel_rfl) (by kernel_rfl) rfl (by kernel_rfl)
instance : TF Try.prog 71 0 0 1 false := ⟨⟨fs71, _, by kernel_rfl, rfl, rfl, by kernel_rfl, by decide, by kernel_rfl⟩⟩
instance : TF Try.prog 71 1 1 1 false := ⟨⟨fs71, _, by kernel_rfl, rfl, rfl, by kernel_rfl, by decide, by kernel_rfl⟩⟩
instance : TF Try.prog 71 2 2 1 false := ⟨⟨fs71, _, by kernel_rfl, rfl, rfl, by kernel_rfl, by decide, by kernel_rfl⟩⟩
instance : TF Try.prog 71 3 3 1 false := ⟨⟨fs71, _, by kernel_rfl, rfl, rfl, by kernel_rfl, by decide, by kernel_rfl⟩⟩
instance : TF Try.prog 71 4 4 1 false := ⟨⟨fs71, _, by kernel_rfl, rfl, rfl, by kernel_rfl, by decide, by kernel_rfl⟩⟩
instance : TF Try.prog 71 5 5 1 false := ⟨⟨fs71, _, by kernel_rfl, rfl, rfl, by kernel_rfl, by decide, by kernel_rfl⟩⟩
instance : TF Try.prog 71 6 6 1 false := ⟨⟨fs71, _, by kernel_rfl, rfl, rfl, by kernel_rfl, by decide, by kernel_rfl⟩⟩
instance : TF Try.prog 71 7 7 1 false := ⟨⟨fs71, _, by kernel_rfl, rfl, rfl, by kernel_rfl, by decide, by kernel_rfl⟩⟩
instance : TF Try.prog 71 8 8 1 false := ⟨⟨fs71, _, by kernel_rfl, rfl, rfl, by kernel_rfl, by decide, by kernel_rfl⟩⟩
instance : TF Try.prog 71 9 9 1 false := ⟨⟨fs71, _, by kernel_rfl, rfl, rfl, by kernel_rfl, by decide, by kernel_rfl⟩⟩
instance : TF Try.prog 71 10 10 1 false := ⟨⟨fs71, _, by kernel_rfl, rfl, rfl, by kernel_rfl, by decide, by kernel_rfl⟩⟩
instance : TF Try.prog 71 11 11 1 false := ⟨⟨fs71, _, by kernel_rfl, rfl, rfl, by kernel_rfl, by decide, by kernel_rfl⟩⟩
instance : TF Try.prog 71 12 12 1 false := ⟨⟨fs71, _, by kernel_rfl, rfl, rfl, by kernel_rfl, by decide, by kernel_rfl⟩⟩
instance : TF Try.prog 71 13 13 1 false := ⟨⟨fs71, _, by kernel_rfl, rfl, rfl, by kernel_rfl, by decide, by kernel_rfl⟩⟩
instance : TU Try.prog 72 (.struct fs71) := ⟨by kernel_rfl⟩
instance : TI Try.prog 72 (.agg #[.int .i64 0, .int .i64 0, .int .i64 0, .string { data := #[] }, .int .i64 0, .int .i64 0, .int .i64 0, .int .i64 0, .int .i64 0, .slice none 0 0, .slice none 0 0, .bool false, .int .i64 0, .int .i64 0]) 14 152 := ⟨by kernel_rfl⟩
instance : TG Try.prog 72 true 14 := ⟨by kernel_rfl, by kernel_rfl⟩
instance : TB Try.prog 72 [.v (.int .i64 0), .v (.int .i64 0), .v (.int .i64 0), .v (.string { data := #[] }), .v (.int .i64 0), .v (.int .i64 0), .v (.int .i64 0), .v (.int .i64 0), .v (.int .i64 0), .v (.slice none 0 0), .v (.slice none 0 0), .v (.bool false), .v (.int .i64 0), .v (.int .i64 0)] [(0, 1), (1, 1), (2, 1), (3, 1), (4, 1), (5, 1), (6, 1), (7, 1), (8, 1), (9, 1), (10, 1), (11, 1), (12, 1), (13, 1)] := tb_of (fs := fs71) (zs := [.int .i64 0, .int .i64 0, .int .i64 0, .string { data := #[] }, .int .i64 0, .int .i64 0, .int .i64 0, .int .i64 0, .int .i64 0, .slice none 0 0, .slice none 0 0, .bool false, .int .i64 0, .int .i64 0]) (by kernel_rfl) (by kernel_rfl) (by kernel_rfl) rfl (by kernel_rfl)
instance : TF Try.prog 72 0 0 1 false := ⟨⟨fs71, _, by kernel_rfl, rfl, rfl, by kernel_rfl, by decide, by kernel_rfl⟩⟩
instance : TF Try.prog 72 1 1 1 false := ⟨⟨fs71, _, by kernel_rfl, rfl, rfl, by kernel_rfl, by decide, by kernel_rfl⟩⟩
instance : TF Try.prog 72 2 2 1 false := ⟨⟨fs71, _, by kernel_rfl, rfl, rfl, by kernel_rfl, by decide, by kernel_rfl⟩⟩
instance : TF Try.prog 72 3 3 1 false := ⟨⟨fs71, _, by kernel_rfl, rfl, rfl, by kernel_rfl, by decide, by kernel_rfl⟩⟩
instance : TF Try.prog 72 4 4 1 false := ⟨⟨fs71, _, by kernel_rfl, rfl, rfl, by kernel_rfl, by decide, by kernel_rfl⟩⟩
instance : TF Try.prog 72 5 5 1 false := ⟨⟨fs71, _, by kernel_rfl, rfl, rfl, by kernel_rfl, by decide, by kernel_rfl⟩⟩
instance : TF Try.prog 72 6 6 1 false := ⟨⟨fs71, _, by kernel_rfl, rfl, rfl, by kernel_rfl, by decide, by kernel_rfl⟩⟩
instance : TF Try.prog 72 7 7 1 false := ⟨⟨fs71, _, by kernel_rfl, rfl, rfl, by kernel_rfl, by decide, by kernel_rfl⟩⟩
instance : TF Try.prog 72 8 8 1 false := ⟨⟨fs71, _, by kernel_rfl, rfl, rfl, by kernel_rfl, by decide, by kernel_rfl⟩⟩
instance : TF Try.prog 72 9 9 1 false := ⟨⟨fs71, _, by kernel_rfl, rfl, rfl, by kernel_rfl, by decide, by kernel_rfl⟩⟩
instance : TF Try.prog 72 10 10 1 false := ⟨⟨fs71, _, by kernel_rfl, rfl, rfl, by kernel_rfl, by decide, by kernel_rfl⟩⟩
instance : TF Try.prog 72 11 11 1 false := ⟨⟨fs71, _, by kernel_rfl, rfl, rfl, by kernel_rfl, by decide, by kernel_rfl⟩⟩
instance : TF Try.prog 72 12 12 1 false := ⟨⟨fs71, _, by kernel_rfl, rfl, rfl, by kernel_rfl, by decide, by kernel_rfl⟩⟩
instance : TF Try.prog 72 13 13 1 false := ⟨⟨fs71, _, by kernel_rfl, rfl, rfl, by kernel_rfl, by decide, by kernel_rfl⟩⟩
instance : TU Try.prog 73 (.slice 80) := ⟨by kernel_rfl⟩
instance : TI Try.prog 73 (.slice none 0 0) 1 24 := ⟨by kernel_rfl⟩
instance : TG Try.prog 73 false 1 := ⟨by kernel_rfl, by kernel_rfl⟩
instance : TU Try.prog 74 (.struct fs74) := ⟨by kernel_rfl⟩
instance : TI Try.prog 74 (.agg #[.string { data := #[] }, .int .i64 0, .int .i64 0, .int .i64 0, .int .i64 0, .int .i64 0, .int .i64 0, .slice none 0 0, .slice none 0 0]) 9 112 := ⟨by kernel_rfl⟩
instance : TG Try.prog 74 true 9 := ⟨by kernel_rfl, by kernel_rfl⟩
instance : TB Try.prog 74 [.v (.string { data := #[] }), .v (.int .i64 0), .v (.int .i64 0), .v (.int .i64 0), .v (.int .i64 0), .v (.int .i64 0), .v (.int .i64 0), .v (.slice none 0 0), .v (.slice none 0 0)] [(0, 1), (1, 1), (2, 1), (3, 1), (4, 1), (5, 1), (6, 1), (7, 1), (8, 1)] := tb_of (fs := fs74) (zs := [.string { data := #[] }, .int .i64 0, .int .i64 0, .int .i64 0, .int .i64 0, .int .i64 0, .int .i64 0, .slice none 0 0, .slice none 0 0]) (by kernel_rfl) (by kernel_rfl) (by kernel_rfl) rfl (by kernel_rfl)
instance : TF Try.prog 74 0 0 1 false := ⟨⟨fs74, _, by kernel_rfl, rfl, rfl, by kernel_rfl, by decide, by kernel_rfl⟩⟩
instance : TF Try.prog 74 1 1 1 false := ⟨⟨fs74, _, by kernel_rfl, rfl, rfl, by kernel_rfl, by decide, by kernel_rfl⟩⟩
instance : TF Try.prog 74 2 2 1 false := ⟨⟨fs74, _, by kernel_rfl, rfl, rfl, by kernel_rfl, by decide, by kernel_rfl⟩⟩
instance : TF Try.prog 74 3 3 1 false := ⟨⟨fs74, _, by kernel_rfl, rfl, rfl, by kernel_rfl, by decide, by kernel_rfl⟩⟩
instance : TF Try.prog 74 4 4 1 false := ⟨⟨fs74, _, by kernel_rfl, rfl, rfl, by kernel_rfl, by decide, by kernel_rfl⟩⟩
instance : TF Try.prog 74 5 5 1 false := ⟨⟨fs74, _, by kernel_rfl, rfl, rfl, by kernel_rfl, by decide, by kernel_rfl⟩⟩
instance : TF Try.prog 74 6 6 1 false := ⟨⟨fs74, _, by kernel_rfl, rfl, rfl, by kernel_rfl, by decide, by kernel_rfl⟩⟩
instance : TF Try.prog 74 7 7 1 false := ⟨⟨fs74, _, by kernel_rfl, rfl, rfl, by kernel_rfl, by decide, by kernel_rfl⟩⟩
instance : TF Try.prog 74 8 8 1 false := ⟨⟨fs74, _, by kernel_rfl, rfl, rfl, by kernel_rfl, by decide, by kernel_rfl⟩⟩
instance : TU Try.prog 75 (.struct fs74) := ⟨by kernel_rfl⟩
instance : TI Try.prog 75 (.agg #[.string { data := #[] }, .int .i64 0, .int .i64 0, .int .i64 0, .int .i64 0, .int .i64 0, .int .i64 0, .slice none 0 0, .slice none 0 0]) 9 112 := ⟨by kernel_rfl⟩
instance : TG Try.prog 75 true 9 := ⟨by kernel_rfl, by kernel_rfl⟩
instance : TB Try.prog 75 [.v (.string { data := #[] }), .v (.int .i64 0), .v (.int .i64 0), .v (.int .i64 0), .v (.int .i64 0), .v (.int .i64 0), .v (.int .i64 0), .v (.slice none 0 0), .v (.slice none 0 0)] [(0, 1), (1, 1), (2, 1), (3, 1), (4, 1), (5, 1), (6, 1), (7, 1), (8, 1)] := tb_of (fs := fs74) (zs := [.string { data := #[] }, .int .i64 0, .int .i64 0, .int .i64 0, .int .i64 0, .int .i64 0, .int .i64 0, .slice none 0 0, .slice none 0 0]) (by kernel_rfl) (by kernel_rfl) (by kernel_rfl) rfl (by kernel_rfl)
instance : TF Try.prog 75 0 0 1 false := ⟨⟨fs74, _, by kernel_rfl, rfl, rfl, by kernel_rfl, by decide, by kernel_rfl⟩⟩
instance : TF Try.prog 75 1 1 1 false := ⟨⟨fs74, _, by kernel_rfl, rfl, rfl, by kernel_rfl, by decide, by kernel_rfl⟩⟩
instance : TF Try.prog 75 2 2 1 false := ⟨⟨fs74, _, by kernel_rfl, rfl, rfl, by kernel_rfl, by decide, by kernel_rfl⟩⟩
instance : TF Try.prog 75 3 3 1 false := ⟨⟨fs74, _, by kernel_rfl, rfl, rfl, by kernel_rfl, by decide, by kernel_rfl⟩⟩
instance : TF Try.prog 75 4 4 1 false := ⟨⟨fs74, _, by kernel_rfl, rfl, rfl, by kernel_rfl, by decide, by kernel_rfl⟩⟩
instance : TF Try.prog 75 5 5 1 false := ⟨⟨fs74, _, by kernel_rfl, rfl, rfl, by kernel_rfl, by decide, by kernel_rfl⟩⟩
instance : TF Try.prog 75 6 6 1 false := ⟨⟨fs74, _, by kernel_rfl, rfl, rfl, by kernel_rfl, by decide, by kernel_rfl⟩⟩
instance : TF Try.prog 75 7 7 1 false := ⟨⟨fs74, _, by kernel_rfl, rfl, rfl, by kernel_rfl, by decide, by kernel_rfl⟩⟩
instance : TF Try.prog 75 8 8 1 false := ⟨⟨fs74, _, by kernel_rfl, rfl, rfl, by kernel_rfl, by decide, by kernel_rfl⟩⟩
instance : TU Try.prog 77 (.struct fs77) := ⟨by kernel_rfl⟩
instance : TI Try.prog 77 (.agg #[.int .i64 0, .int .i64 0, .int .i64 0, .int .i64 0, .int .i64 0]) 5 40 := ⟨by kernel_rfl⟩
instance : TG Try.prog 77 true 5 := ⟨by kernel_rfl, by kernel_rfl⟩
instance : TB Try.prog 77 [.v (.int .i64 0), .v (.int .i64 0), .v (.int .i64 0), .v (.int .i64 0), .v (.int .i64 0)] [(0, 1), (1, 1), (2, 1), (3, 1), (4, 1)] := tb_of (fs := fs77) (zs := [.int .i64 0, .int .i64 0, .int .i64 0, .int .i64 0, .int .i64 0]) (by kernel_rfl) (by kernel_rfl) (by kernel_rfl) rfl (by kernel_rfl)
instance : TF Try.prog 77 0 0 1 false := ⟨⟨fs77, _, by kernel_rfl, rfl, rfl, by kernel_rfl, by decide, by kernel_rfl⟩⟩
instance : TF Try.prog 77 1 1 1 false := ⟨⟨fs77, _, by kernel_rfl, rfl, rfl, by kernel_rfl, by decide, by kernel_rfl⟩⟩
instance : TF Try.prog 77 2 2 1 false := ⟨⟨fs77, _, by kernel_rfl, rfl, rfl, by kernel_rfl, by decide, by kernel_rfl⟩⟩
instance : TF Try.prog 77 3 3 1 false := ⟨⟨fs77, _, by kernel_rfl, rfl, rfl, by kernel_rfl, by decide, by kernel_rfl⟩⟩
instance : TF Try.prog 77 4 4 1 false := ⟨⟨fs77, _, by kernel_rfl, rfl, rfl, by kernel_rfl, by decide, by kernel_rfl⟩⟩
instance : TU Try.prog 78 (.struct fs77) := ⟨by kernel_rfl⟩
instance : TI Try.prog 78 (.agg #[.int .i64 0, .int .i64 0, .int .i64 0, .int .i64 0, .int .i64 0]) 5 40 := ⟨by kernel_rfl⟩
instance : TG Try.prog 78 true 5 := ⟨by kernel_rfl, by kernel_rfl⟩
instance : SFL Try.prog 78 fl77 := ⟨fs77, by kernel_rfl, rfl, by kernel_rfl, by kernel_rfl, by kernel_rfl⟩
instance : TB Try.prog 78 [.v (.int .i64 0), .v (.int .i64 0), .v (.int .i64 0), .v (.int .i64 0), .v (.int .i64 0)] [(0, 1), (1, 1), (2, 1), (3, 1), (4, 1)] := tb_of (fs := fs77) (zs := [.int .i64 0, .int .i64 0, .int .i64 0, .int .i64 0, .int .i64 0]) (by kernel_rfl) (by kernel_rfl) (by kernel_rfl) rfl (by kernel_rfl)
instance : TF Try.prog 78 0 0 1 false := ⟨⟨fs77, _, by kernel_rfl, rfl, rfl, by kernel_rfl, by decide, by kernel_rfl⟩⟩
instance : TF Try.prog 78 1 1 1 false := ⟨⟨fs77, _, by kernel_rfl, rfl, rfl, by kernel_rfl, by decide, by kernel_rfl⟩⟩
instance : TF Try.prog 78 2 2 1 false := ⟨⟨fs77, _, by kernel_rfl, rfl, rfl, by kernel_rfl, by decide, by kernel_rfl⟩⟩
instance : TF Try.prog 78 3 3 1 false := ⟨⟨fs77, _, by kernel_rfl, rfl, rfl, by kernel_rfl, by decide, by kernel_rfl⟩⟩
instance : TF Try.prog 78 4 4 1 false := ⟨⟨fs77, _, by kernel_rfl, rfl, rfl, by kernel_rfl, by decide, by kernel_rfl⟩⟩
instance : TU Try.prog 79 (.struct fs79) := ⟨by kernel_rfl⟩
instance : TI Try.prog 79 (.agg #[.int .i64 0, .int .i64 0, .int .i64 0, .int .i64 0]) 4 32 := ⟨by kernel_rfl⟩
instance : TG Try.prog 79 true 4 := ⟨by kernel_rfl, by kernel_rfl⟩
instance : TB Try.prog 79 [.v (.int .i64 0), .v (.int .i64 0), .v (.int .i64 0), .v (.int .i64 0)] [(0, 1), (1, 1), (2, 1), (3, 1)] := tb_of (fs := fs79) (zs := [.int .i64 0, .int .i64 0, .int .i64 0, .int .i64 0]) (by kernel_rfl) (by kernel_rfl) (by kernel_rfl) rfl (by kernel_rfl)
instance : TF Try.prog 79 0 0 1 false := ⟨⟨fs79, _, by kernel_rfl, rfl, rfl, by kernel_rfl, by decide, by kernel_rfl⟩⟩
instance : TF Try.prog 79 1 1 1 false := ⟨⟨fs79, _, by kernel_rfl, rfl, rfl, by kernel_rfl, by decide, by kernel_rfl⟩⟩
instance : TF Try.prog 79 2 2 1 false := ⟨⟨fs79, _, by kernel_rfl, rfl, rfl, by kernel_rfl, by decide, by kernel_rfl⟩⟩
instance : TF Try.prog 79 3 3 1 false := ⟨⟨fs79, _, by kernel_rfl, rfl, rfl, by kernel_rfl, by decide, by kernel_rfl⟩⟩
instance : TU Try.prog 80 (.struct fs79) := ⟨by kernel_rfl⟩
instance : TI Try.prog 80 (.agg #[.int .i64 0, .int .i64 0, .int .i64 0, .int .i64 0]) 4 32 := ⟨by kernel_rfl⟩
instance : TG Try.prog 80 true 4 := ⟨by kernel_rfl, by kernel_rfl⟩
instance : SFL Try.prog 80 fl79 := ⟨fs79, by kernel_rfl, rfl, by kernel_rfl, by kernel_rfl, by kernel_rfl⟩
instance : TB Try.prog 80 [.v (.int .i64 0), .v (.int .i64 0), .v (.int .i64 0), .v (.int .i64 0)] [(0, 1), (1, 1), (2, 1), (3, 1)] := tb_of (fs := fs79) (zs := [.int .i64 0, .int .i64 0, .int .i64 0, .int .i64 0]) (by kernel_rfl) (by kernel_rfl) (by kernel_rfl) rfl (by kernel_rfl)
instance : TF Try.prog 80 0 0 1 false := ⟨⟨fs79, _, by kernel_rfl, rfl, rfl, by kernel_rfl, by decide, by kernel_rfl⟩⟩
instance : TF Try.prog 80 1 1 1 false := ⟨⟨fs79, _, by kernel_rfl, rfl, rfl, by kernel_rfl, by decide, by kernel_rfl⟩⟩
instance : TF Try.prog 80 2 2 1 false := ⟨⟨fs79, _, by kernel_rfl, rfl, rfl, by kernel_rfl, by decide, by kernel_rfl⟩⟩
instance : TF Try.prog 80 3 3 1 false := ⟨⟨fs79, _, by kernel_rfl, rfl, rfl, by kernel_rfl, by decide, by kernel_rfl⟩⟩
instance : TU Try.prog 81 (.struct fs81) := ⟨by kernel_rfl⟩
instance : TI Try.prog 81 (.agg #[.string { data := #[] }, .int .i64 0, .int .i64 0]) 3 32 := ⟨by kernel_rfl⟩
instance : TG Try.prog 81 true 3 := ⟨by kernel_rfl, by kernel_rfl⟩
instance : TB Try.prog 81 [.v (.string { data := #[] }), .v (.int .i64 0), .v (.int .i64 0)] [(0, 1), (1, 1), (2, 1)] := tb_of (fs := fs81) (zs := [.string { data := #[] }, .int .i64 0, .int .i64 0]) (by kernel_rfl) (by kernel_rfl) (by kernel_rfl) rfl (by kernel_rfl)
instance : TF Try.prog 81 0 0 1 false := ⟨⟨fs81, _, by kernel_rfl, rfl, rfl, by kernel_rfl, by decide, by kernel_rfl⟩⟩
instance : TF Try.prog 81 1 1 1 false := ⟨⟨fs81, _, by kernel_rfl, rfl, rfl, by kernel_rfl, by decide, by kernel_rfl⟩⟩
instance : TF Try.prog 81 2 2 1 false := ⟨⟨fs81, _, by kernel_rfl, rfl, rfl, by kernel_rfl, by decide, by kernel_rfl⟩⟩
instance : TU Try.prog 82 (.struct fs81) := ⟨by kernel_rfl⟩
instance : TI Try.prog 82 (.agg #[.string { data := #[] }, .int .i64 0, .int .i64 0]) 3 32 := ⟨by kernel_rfl⟩
instance : TG Try.prog 82 true 3 := ⟨by kernel_rfl, by kernel_rfl⟩
instance : TB Try.prog 82 [.v (.string { data := #[] }), .v (.int .i64 0), .v (.int .i64 0)] [(0, 1), (1, 1), (2, 1)] := tb_of (fs := fs81) (zs := [.string { data := #[] }, .int .i64 0, .int .i64 0]) (by kernel_rfl) (by kernel_rfl) (by kernel_rfl) rfl (by kernel_rfl)
instance : TF Try.prog 82 0 0 1 false := ⟨⟨fs81, _, by kernel_rfl, rfl, rfl, by kernel_rfl, by decide, by kernel_rfl⟩⟩
instance : TF Try.prog 82 1 1 1 false := ⟨⟨fs81, _, by kernel_rfl, rfl, rfl, by kernel_rfl, by decide, by kernel_rfl⟩⟩
instance : TF Try.prog 82 2 2 1 false := ⟨⟨fs81, _, by kernel_rfl, rfl, rfl, by kernel_rfl, by decide, by kernel_rfl⟩⟩
instance : TU Try.prog 84 (.tuple #[22, 3]) := ⟨by kernel_rfl⟩
instance : TI Try.prog 84 (.tuple #[.slice none 0 0, .int .i64 0]) 1 0 := ⟨by kernel_rfl⟩
instance : TG Try.prog 84 false 1 := ⟨by kernel_rfl, by kernel_rfl⟩
instance : TU Try.prog 86 (.struct fs86) := ⟨by kernel_rfl⟩
instance : TI Try.prog 86 (.agg #[.int .i64 0, .int .i64 0, .int .i64 0, .int .i64 0]) 4 32 := ⟨by kernel_rfl⟩
instance : TG Try.prog 86 true 4 := ⟨by kernel_rfl, by kernel_rfl⟩
instance : TB Try.prog 86 [.v (.int .i64 0), .v (.int .i64 0), .v (.int .i64 0), .v (.int .i64 0)] [(0, 1), (1, 1), (2, 1), (3, 1)] := tb_of (fs := fs86) (zs := [.int .i64 0, .int .i64 0, .int .i64 0, .int .i64 0]) (by kernel_rfl) (by kernel_rfl) (by kernel_rfl) rfl (by kernel_rfl)
instance : TF Try.prog 86 0 0 1 false := ⟨⟨fs86, _, by kernel_rfl, rfl, rfl, by kernel_rfl, by decide, by kernel_rfl⟩⟩
instance : TF Try.prog 86 1 1 1 false := ⟨⟨fs86, _, by kernel_rfl, rfl, rfl, by kernel_rfl, by decide, by kernel_rfl⟩⟩
instance : TF Try.prog 86 2 2 1 false := ⟨⟨fs86, _, by kernel_rfl, rfl, rfl, by kernel_rfl, by decide, by kernel_rfl⟩⟩
instance : TF Try.prog 86 3 3 1 false := ⟨⟨fs86, _, by kernel_rfl, rfl, rfl, by kernel_rfl, by decide, by kernel_rfl⟩⟩
instance : TU Try.prog 87 (.struct fs86) := ⟨by kernel_rfl⟩
instance : TI Try.prog 87 (.agg #[.int .i64 0, .int .i64 0, .int .i64 0, .int .i64 0]) 4 32 := ⟨by kernel_rfl⟩
instance : TG Try.prog 87 true 4 := ⟨by kernel_rfl, by kernel_rfl⟩
instance : TB Try.prog 87 [.v (.int .i64 0), .v (.int .i64 0), .v (.int .i64 0), .v (.int .i64 0)] [(0, 1), (1, 1), (2, 1), (3, 1)] := tb_of (fs := fs86) (zs := [.int .i64 0, .int .i64 0, .int .i64 0, .int .i64 0]) (by kernel_rfl) (by kernel_rfl) (by kernel_rfl) rfl (by kernel_rfl)
instance : TF Try.prog 87 0 0 1 false := ⟨⟨fs86, _, by kernel_rfl, rfl, rfl, by kernel_rfl, by decide, by kernel_rfl⟩⟩
instance : TF Try.prog 87 1 1 1 false := ⟨⟨fs86, _, by kernel_rfl, rfl, rfl, by kernel_rfl, by decide, by kernel_rfl⟩⟩
instance : TF Try.prog 87 2 2 1 false := ⟨⟨fs86, _, by kernel_rfl, rfl, rfl, by kernel_rfl, by decide, by kernel_rfl⟩⟩
instance : TF Try.prog 87 3 3 1 false := ⟨⟨fs86, _, by kernel_rfl, rfl, rfl, by kernel_rfl, by decide, by kernel_rfl⟩⟩
instance : TU Try.prog 88 (.array 8 87) := ⟨by kernel_rfl⟩
instance : TI Try.prog 88 (.agg #[.int .i64 0, .int .i64 0, .int .i64 0, .int .i64 0, .int .i64 0, .int .i64 0, .int .i64 0, .int .i64 0, .int .i64 0, .int .i64 0, .int .i64 0, .int .i64 0, .int .i64 0, .int .i64 0, .int .i64 0, .int .i64 0, .int .i64 0, .int .i64 0, .int .i64 0, .int .i64 0, .int .i64 0, .int .i64 0, .int .i64 0, .int .i64 0, .int .i64 0, .int .i64 0, .int .i64 0, .int .i64 0, .int .i64 0, .int .i64 0, .int .i64 0, .int .i64 0]) 32 256 := ⟨by kernel_rfl⟩
instance : TG Try.prog 88 true 32 := ⟨by kernel_rfl, by kernel_rfl⟩
instance : TU Try.prog 89 (.struct fs89) := ⟨by kernel_rfl⟩
instance : TI Try.prog 89 (.agg #[.slice none 0 0, .int .i64 0, .int .i64 0, .int .i64 0, .int .i64 0, .int .i64 0, .int .i64 0, .int .i64 0, .int .i64 0, .int .i64 0, .int .i64 0, .int .i64 0, .int .i64 0, .int .i64 0, .int .i64 0, .int .i64 0, .int .i64 0, .int .i64 0, .int .i64 0, .int .i64 0, .int .i64 0, .int .i64 0, .int .i64 0, .int .i64 0, .int .i64 0, .int .i64 0, .int .i64 0, .int .i64 0, .int .i64 0, .int .i64 0, .int .i64 0, .int .i64 0, .int .i64 0, .int .i64 0, .int .i64 0]) 35 296 := ⟨by kernel_rfl⟩
instance : TG Try.prog 89 true 35 := ⟨by kernel_rfl, by kernel_rfl⟩
instance : TB Try.prog 89 [.v (.slice none 0 0), .v (.int .i64 0), .v (.int .i64 0), .v (.int .i64 0), .v (.int .i64 0), .v (.int .i64 0), .v (.int .i64 0), .v (.int .i64 0), .v (.int .i64 0), .v (.int .i64 0), .v (.int .i64 0), .v (.int .i64 0), .v (.int .i64 0), .v (.int .i64 0), .v (.int .i64 0), .v (.int .i64 0), .v (.int .i64 0), .v (.int .i64 0), .v (.int .i64 0), .v (.int .i64 0), .v (.int .i64 0), .v (.int .i64 0), .v (.int .i64 0), .v (.int .i64 0), .v (.int .i64 0), .v (.int .i64 0), .v (.int .i64 0), .v (.int .i64 0), .v (.int .i64 0), .v (.int .i64 0), .v (.int .i64 0), .v (.int .i64 0), .v (.int .i64 0), .v (.int .i64 0), .v (.int .i64 0)] [(0, 1), (1, 32), (33, 1), (34, 1)] := tb_of (fs := fs89) (zs := [.slice none 0 0, .int .i64 0, .int .i64 0, .int .i64 0, .int .i64 0, .int .i64 0, .int .i64 0, .int .i64 0, .int .i64 0, .int .i64 0, .int .i64 0, .int .i64 0, .int .i64 0, .int .i64 0, .int .i64 0, .int .i64 0, .int .i64 0, .int .i64 0, .int .i64 0, .int .i64 0, .int .i64 0, .int .i64 0, .int .i64 0, .int .i64 0, .int .i64 0, .int .i64 0, .int .i64 0, .int .i64 0, .int .i64 0, .int .i64 0, .int .i64 0, .int .i64 0, .int .i64 0, .int .i64 0, .int .i64 0]) (by kernel_rfl) (by kernel_rfl) (by kernel_rfl) rfl (by kernel_rfl)
instance : TF Try.prog 89 0 0 1 false := ⟨⟨fs89, _, by kernel_rfl, rfl, rfl, by kernel_rfl, by decide, by kernel_rfl⟩⟩
instance : TF Try.prog 89 1 1 32 true := ⟨⟨fs89, _, by kernel_rfl, rfl, rfl, by kernel_rfl, by decide, by kernel_rfl⟩⟩
instance : TF Try.prog 89 2 33 1 false := ⟨⟨fs89, _, by kernel_rfl, rfl, rfl, by kernel_rfl, by decide, by kernel_rfl⟩⟩
instance : TF Try.prog 89 3 34 1 false := ⟨⟨fs89, _, by kernel_rfl, rfl, rfl, by kernel_rfl, by decide, by kernel_rfl⟩⟩
instance : TU Try.prog 90 (.struct fs89) := ⟨by kernel_rfl⟩
instance : TI Try.prog 90 (.agg #[.slice none 0 0, .int .i64 0, .int .i64 0, .int .i64 0, .int .i64 0, .int .i64 0, .int .i64 0, .int .i64 0, .int .i64 0, .int .i64 0, .int .i64 0, .int .i64 0, .int .i64 0, .int .i64 0, .int .i64 0, .int .i64 0, .int .i64 0, .int .i64 0, .int .i64 0, .int .i64 0, .int .i64 0, .int .i64 0, .int .i64 0, .int .i64 0, .int .i64 0, .int .i64 0, .int .i64 0, .int .i64 0, .int .i64 0, .int .i64 0, .int .i64 0, .int .i64 0, .int .i64 0, .int .i64 0, .int .i64 0]) 35 296 := ⟨by kernel_rfl⟩
instance : TG Try.prog 90 true 35 := ⟨by kernel_rfl, by kernel_rfl⟩
instance : TB Try.prog 90 [.v (.slice none 0 0), .v (.int .i64 0), .v (.int .i64 0), .v (.int .i64 0), .v (.int .i64 0), .v (.int .i64 0), .v (.int .i64 0), .v (.int .i64 0), .v (.int .i64 0), .v (.int .i64 0), .v (.int .i64 0), .v (.int .i64 0), .v (.int .i64 0), .v (.int .i64 0), .v (.int .i64 0), .v (.int .i64 0), .v (.int .i64 0), .v (.int .i64 0), .v (.int .i64 0), .v (.int .i64 0), .v (.int .i64 0), .v (.int .i64 0), .v (.int .i64 0), .v (.int .i64 0), .v (.int .i64 0), .v (.int .i64 0), .v (.int .i64 0), .v (.int .i64 0), .v (.int .i64 0), .v (.int .i64 0), .v (.int .i64 0), .v (.int .i64 0), .v (.int .i64 0), .v (.int .i64 0), .v (.int .i64 0)] [(0, 1), (1, 32), (33, 1), (34, 1)] := tb_of (fs := fs89) (zs := [.slice none 0 0, .int .i64 0, .int .i64 0, .int .i64 0, .int .i64 0, .int .i64 0, .int .i64 0, .int .i64 0, .int .i64 0, .int .i64 0, .int .i64 0, .int .i64 0, .int .i64 0, .int .i64 0, .int .i64 0, .int .i64 0, .int .i64 0, .int .i64 0, .int .i64 0, .int .i64 0, .int .i64 0, .int .i64 0, .int .i64 0, .int .i64 0, .int .i64 0, .int .i64 0, .int .i64 0, .int .i64 0, .int .i64 0, .int .i64 0, .int .i64 0, .int .i64 0, .int .i64 0, .int .i64 0, .int .i64 0]) (by kernel_rfl) (by kernel_rfl) (by kernel_rfl) rfl (by kernel_rfl)
instance : TF Try.prog 90 0 0 1 false := ⟨⟨fs89, _, by kernel_rfl, rfl, rfl, by kernel_rfl, by decide, by kernel_rfl⟩⟩
instance : TF Try.prog 90 1 1 32 true := ⟨⟨fs89, _, by kernel_rfl, rfl, rfl, by kernel_rfl, by decide, by kernel_rfl⟩⟩
instance : TF Try.prog 90 2 33 1 false := ⟨⟨fs89, _, by kernel_rfl, rfl, rfl, by kernel_rfl, by decide, by kernel_rfl⟩⟩
instance : TF Try.prog 90 3 34 1 false := ⟨⟨fs89, _, by kernel_rfl, rfl, rfl, by kernel_rfl, by decide, by kernel_rfl⟩⟩
instance : TU Try.prog 92 (.int .u64) := ⟨by kernel_rfl⟩
instance : TI Try.prog 92 (.int .u64 0) 1 8 := ⟨by kernel_rfl⟩
instance : TG Try.prog 92 false 1 := ⟨by kernel_rfl, by kernel_rfl⟩
instance : TU Try.prog 93 (.tuple #[92, 4]) := ⟨by kernel_rfl⟩
instance : TI Try.prog 93 (.tuple #[.int .u64 0, .bool false]) 1 0 := ⟨by kernel_rfl⟩
instance : TG Try.prog 93 false 1 := ⟨by kernel_rfl, by kernel_rfl⟩
instance : TU Try.prog 95 (.tuple #[32, 4]) := ⟨by kernel_rfl⟩
instance : TI Try.prog 95 (.tuple #[.agg #[.int .i64 0, .int .i64 0, .int .i64 0, .slice none 0 0], .bool false]) 1 0 := ⟨by kernel_rfl⟩
instance : TG Try.prog 95 false 1 := ⟨by kernel_rfl, by kernel_rfl⟩
instance : TU Try.prog 97 (.slice 100) := ⟨by kernel_rfl⟩
instance : TI Try.prog 97 (.slice none 0 0) 1 24 := ⟨by kernel_rfl⟩
instance : TG Try.prog 97 false 1 := ⟨by kernel_rfl, by kernel_rfl⟩
instance : TU Try.prog 99 (.struct fs99) := ⟨by kernel_rfl⟩
instance : TI Try.prog 99 (.agg #[.int .i64 0, .slice none 0 0, .int .i64 0, .bool false, .bool false, .int .i64 0]) 6 56 := ⟨by kernel_rfl⟩
instance : TG Try.prog 99 true 6 := ⟨by kernel_rfl, by kernel_rfl⟩
instance : TB Try.prog 99 [.v (.int .i64 0), .v (.slice none 0 0), .v (.int .i64 0), .v (.bool false), .v (.bool false), .v (.int .i64 0)] [(0, 1), (1, 1), (2, 1), (3, 1), (4, 1), (5, 1)] := tb_of (fs := fs99) (zs := [.int .i64 0, .slice none 0 0, .int .i64 0, .bool false, .bool false, .int .i64 0]) (by kernel_rfl) (by kernel_rfl) (by kernel_rfl) rfl (by kernel_rfl)
instance : TF Try.prog 99 0 0 1 false := ⟨⟨fs99, _, by kernel_rfl, rfl, rfl, by kernel_rfl, by decide, by kernel_rfl⟩⟩
instance : TF Try.prog 99 1 1 1 false := ⟨⟨fs99, _, by kernel_rfl, rfl, rfl, by kernel_rfl, by decide, by kernel_rfl⟩⟩
instance : TF Try.prog 99 2 2 1 false := ⟨⟨fs99, _, by kernel_rfl, rfl, rfl, by kernel_rfl, by decide, by kernel_rfl⟩⟩
instance : TF Try.prog 99 3 3 1 false := ⟨⟨fs99, _, by kernel_rfl, rfl, rfl, by kernel_rfl, by decide, by kernel_rfl⟩⟩
instance : TF Try.prog 99 4 4 1 false := ⟨⟨fs99, _, by kernel_rfl, rfl, rfl, by kernel_rfl, by decide, by kernel_rfl⟩⟩
instance : TF Try.prog 99 5 5 1 false := ⟨⟨fs99, _, by kernel_rfl, rfl, rfl, by kernel_rfl, by decide, by kernel_rfl⟩⟩
instance : TU Try.prog 100 (.struct fs99) := ⟨by kernel_rfl⟩
instance : TI Try.prog 100 (.agg #[.int .i64 0, .slice none 0 0, .int .i64 0, .bool false, .bool false, .int .i64 0]) 6 56 := ⟨by kernel_rfl⟩
instance : TG Try.prog 100 true 6 := ⟨by kernel_rfl, by kernel_rfl⟩
instance : TB Try.prog 100 [.v (.int .i64 0), .v (.slice none 0 0), .v (.int .i64 0), .v (.bool false), .v (.bool false), .v (.int .i64 0)] [(0, 1), (1, 1), (2, 1), (3, 1), (4, 1), (5, 1)] := tb_of (fs := fs99) (zs := [.int .i64 0, .slice none 0 0, .int .i64 0, .bool false, .bool false, .int .i64 0]) (by kernel_rfl) (by kernel_rfl) (by kernel_rfl) rfl (by kernel_rfl)
instance : TF Try.prog 100 0 0 1 false := ⟨⟨fs99, _, by kernel_rfl, rfl, rfl, by kernel_rfl, by decide, by kernel_rfl⟩⟩
instance : TF Try.prog 100 1 1 1 false := ⟨⟨fs99, _, by kernel_rfl, rfl, rfl, by kernel_rfl, by decide, by kernel_rfl⟩⟩
instance : TF Try.prog 100 2 2 1 false := ⟨⟨fs99, _, by kernel_rfl, rfl, rfl, by kernel_rfl, by decide, by kernel_rfl⟩⟩
instance : TF Try.prog 100 3 3 1 false := ⟨⟨fs99, _, by kernel_rfl, rfl, rfl, by kernel_rfl, by decide, by kernel_rfl⟩⟩
instance : TF Try.prog 100 4 4 1 false := ⟨⟨fs99, _, by kernel_rfl, rfl, rfl, by kernel_rfl, by decide, by kernel_rfl⟩⟩
instance : TF Try.prog 100 5 5 1 false := ⟨⟨fs99, _, by kernel_rfl, rfl, rfl, by kernel_rfl, by decide, by kernel_rfl⟩⟩
instance : TU Try.prog 104 (.struct fs104) := ⟨by kernel_rfl⟩
instance : TI Try.prog 104 (.agg #[.string { data := #[] }, .int .i64 0, .int .i64 0, .int .i64 0, .int .i64 0, .int .i64 0]) 6 56 := ⟨by kernel_rfl⟩
instance : TG Try.prog 104 true 6 := ⟨by kernel_rfl, by kernel_rfl⟩
instance : TB Try.prog 104 [.v (.string { data := #[] }), .v (.int .i64 0), .v (.int .i64 0), .v (.int .i64 0), .v (.int .i64 0), .v (.int .i64 0)] [(0, 1), (1, 1), (2, 1), (3, 1), (4, 1), (5, 1)] := tb_of (fs := fs104) (zs := [.string { data := #[] }, .int .i64 0, .int .i64 0, .int .i64 0, .int .i64 0, .int .i64 0]) (by kernel_rfl) (by kernel_rfl) (by kernel_rfl) rfl (by kernel_rfl)
instance : TF Try.prog 104 0 0 1 false := ⟨⟨fs104, _, by kernel_rfl, rfl, rfl, by kernel_rfl, by decide, by kernel_rfl⟩⟩
instance : TF Try.prog 104 1 1 1 false := ⟨⟨fs104, _, by kernel_rfl, rfl, rfl, by kernel_rfl, by decide, by kernel_rfl⟩⟩
instance : TF Try.prog 104 2 2 1 false := ⟨⟨fs104, _, by kernel_rfl, rfl, rfl, by kernel_rfl, by decide, by kernel_rfl⟩⟩
instance : TF Try.prog 104 3 3 1 false := ⟨⟨fs104, _, by kernel_rfl, rfl, rfl, by kernel_rfl, by decide, by kernel_rfl⟩⟩
instance : TF Try.prog 104 4 4 1 false := ⟨⟨fs104, _, by kernel_rfl, rfl, rfl, by kernel_rfl, by decide, by kernel_rfl⟩⟩
instance : TF Try.prog 104 5 5 1 false := ⟨⟨fs104, _, by kernel_rfl, rfl, rfl, by kernel_rfl, by decide, by kernel_rfl⟩⟩
instance : TU Try.prog 105 (.struct fs104) := ⟨by kernel_rfl⟩
instance : TI Try.prog 105 (.agg #[.string { data := #[] }, .int .i64 0, .int .i64 0, .int .i64 0, .int .i64 0, .int .i64 0]) 6 56 := ⟨by kernel_rfl⟩
instance : TG Try.prog 105 true 6 := ⟨by kernel_rfl, by kernel_rfl⟩
instance : SFL Try.prog 105 fl104 := ⟨fs104, by kernel_rfl, rfl, by kernel_rfl, by kernel_rfl, by kernel_rfl⟩
instance : TB Try.prog 105 [.v (.string { data := #[] }), .v (.int .i64 0), .v (.int .i64 0), .v (.int .i64 0), .v (.int .i64 0), .v (.int .i64 0)] [(0, 1), (1, 1), (2, 1), (3, 1), (4, 1), (5, 1)] := tb_of (fs := fs104) (zs := [.string { data := #[] }, .int .i64 0, .int .i64 0, .int .i64 0, .int .i64 0, .int .i64 0]) (by kernel_rfl) (by kernel_rfl) (by kernel_rfl) rfl (by kernel_rfl)
instance : TF Try.prog 105 0 0 1 false := ⟨⟨fs104, _, by kernel_rfl, rfl, rfl, by kernel_rfl, by decide, by kernel_rfl⟩⟩
instance : TF Try.prog 105 1 1 1 false := ⟨⟨fs104, _, by kernel_rfl, rfl, rfl, by kernel_rfl, by decide, by kernel_rfl⟩⟩
instance : TF Try.prog 105 2 2 1 false := ⟨⟨fs104, _, by kernel_rfl, rfl, rfl, by kernel_rfl, by decide, by kernel_rfl⟩⟩
instance : TF Try.prog 105 3 3 1 false := ⟨⟨fs104, _, by kernel_rfl, rfl, rfl, by kernel_rfl, by decide, by kernel_rfl⟩⟩
instance : TF Try.prog 105 4 4 1 false := ⟨⟨fs104, _, by kernel_rfl, rfl, rfl, by kernel_rfl, by decide, by kernel_rfl⟩⟩
instance : TF Try.prog 105 5 5 1 false := ⟨⟨fs104, _, by kernel_rfl, rfl, rfl, by kernel_rfl, by decide, by kernel_rfl⟩⟩
instance : TU Try.prog 106 (.struct fs106) := ⟨by kernel_rfl⟩
instance : TI Try.prog 106 (.agg #[.int .i64 0, .slice none 0 0]) 2 32 := ⟨by kernel_rfl⟩
instance : TG Try.prog 106 true 2 := ⟨by kernel_rfl, by kernel_rfl⟩
instance : TB Try.prog 106 [.v (.int .i64 0), .v (.slice none 0 0)] [(0, 1), (1, 1)] := tb_of (fs := fs106) (zs := [.int .i64 0, .slice none 0 0]) (by kernel_rfl) (by kernel_rfl) (by kernel_rfl) rfl (by kernel_rfl)
instance : TF Try.prog 106 0 0 1 false := ⟨⟨fs106, _, by kernel_rfl, rfl, rfl, by kernel_rfl, by decide, by kernel_rfl⟩⟩
instance : TF Try.prog 106 1 1 1 false := ⟨⟨fs106, _, by kernel_rfl, rfl, rfl, by kernel_rfl, by decide, by kernel_rfl⟩⟩
instance : TU Try.prog 107 (.struct fs106) := ⟨by kernel_rfl⟩
instance : TI Try.prog 107 (.agg #[.int .i64 0, .slice none 0 0]) 2 32 := ⟨by kernel_rfl⟩
instance : TG Try.prog 107 true 2 := ⟨by kernel_rfl, by kernel_rfl⟩
instance : TB Try.prog 107 [.v (.int .i64 0), .v (.slice none 0 0)] [(0, 1), (1, 1)] := tb_of (fs := fs106) (zs := [.int .i64 0, .slice none 0 0]) (by kernel_rfl) (by kernel_rfl) (by kernel_rfl) rfl (by kernel_rfl)
instance : TF Try.prog 107 0 0 1 false := ⟨⟨fs106, _, by kernel_rfl, rfl, rfl, by kernel_rfl, by decide, by kernel_rfl⟩⟩
instance : TF Try.prog 107 1 1 1 false := ⟨⟨fs106, _, by kernel_rfl, rfl, rfl, by kernel_rfl, by decide, by kernel_rfl⟩⟩
instance : TU Try.prog 108 (.struct fs108) := ⟨by kernel_rfl⟩
instance : TI Try.prog 108 (.agg #[.int .i64 0, .int .i64 0, .int .i64 0, .int .i64 0, .int .i64 0, .int .i64 0, .int .i64 0, .int .i64 0, .int .i64 0, .int .i64 0]) 10 80 := ⟨by kernel_rfl⟩
instance : TG Try.prog 108 true 10 := ⟨by kernel_rfl, by kernel_rfl⟩
instance : TB Try.prog 108 [.v (.int .i64 0), .v (.int .i64 0), .v (.int .i64 0), .v (.int .i64 0), .v (.int .i64 0), .v (.int .i64 0), .v (.int .i64 0), .v (.int .i64 0), .v (.int .i64 0), .v (.int .i64 0)] [(0, 1), (1, 1), (2, 1), (3, 1), (4, 1), (5, 1), (6, 1), (7, 1), (8, 1), (9, 1)] := tb_of (fs := fs108) (zs := [.int .i64 0, .int .i64 0, .int .i64 0, .int .i64 0, .int .i64 0, .int .i64 0, .int .i64 0, .int .i64 0, .int .i64 0, .int .i64 0]) (by kernel_rfl) (by kernel_rfl) (by kernel_rfl) rfl (by kernel_rfl)
instance : TF Try.prog 108 0 0 1 false := ⟨⟨fs108, _, by kernel_rfl, rfl, rfl, by kernel_rfl, by decide, by kernel_rfl⟩⟩
instance : TF Try.prog 108 1 1 1 false := ⟨⟨fs108, _, by kernel_rfl, rfl, rfl, by kernel_rfl, by decide, by kernel_rfl⟩⟩
instance : TF Try.prog 108 2 2 1 false := ⟨⟨fs108, _, by kernel_rfl, rfl, rfl, by kernel_rfl, by decide, by kernel_rfl⟩⟩
instance : TF Try.prog 108 3 3 1 false := ⟨⟨fs108, _, by kernel_rfl, rfl, rfl, by kernel_rfl, by decide, by kernel_rfl⟩⟩
instance : TF Try.prog 108 4 4 1 false := ⟨⟨fs108, _, by kernel_rfl, rfl, rfl, by kernel_rfl, by decide, by kernel_rfl⟩⟩
instance : TF Try.prog 108 5 5 1 false := ⟨⟨fs108, _, by kernel_rfl, rfl, rfl, by kernel_rfl, by decide, by kernel_rfl⟩⟩
instance : TF Try.prog 108 6 6 1 false := ⟨⟨fs108, _, by kernel_rfl, rfl, rfl, by kernel_rfl, by decide, by kernel_rfl⟩⟩
instance : TF Try.prog 108 7 7 1 false := ⟨⟨fs108, _, by kernel_rfl, rfl, rfl, by kernel_rfl, by decide, by kernel_rfl⟩⟩
instance : TF Try.prog 108 8 8 1 false := ⟨⟨fs108, _, by kernel_rfl, rfl, rfl, by kernel_rfl, by decide, by kernel_rfl⟩⟩
instance : TF Try.prog 108 9 9 1 false := ⟨⟨fs108, _, by kernel_rfl, rfl, rfl, by kernel_rfl, by decide, by kernel_rfl⟩⟩
instance : TU Try.prog 109 (.struct fs108) := ⟨by kernel_rfl⟩
instance : TI Try.prog 109 (.agg #[.int .i64 0, .int .i64 0, .int .i64 0, .int .i64 0, .int .i64 0, .int .i64 0, .int .i64 0, .int .i64 0, .int .i64 0, .int .i64 0]) 10 80 := ⟨by kernel_rfl⟩
instance : TG Try.prog 109 true 10 := ⟨by kernel_rfl, by kernel_rfl⟩
instance : TB Try.prog 109 [.v (.int .i64 0), .v (.int .i64 0), .v (.int .i64 0), .v (.int .i64 0), .v (.int .i64 0), .v (.int .i64 0), .v (.int .i64 0), .v (.int .i64 0), .v (.int .i64 0), .v (.int .i64 0)] [(0, 1), (1, 1), (2, 1), (3, 1), (4, 1), (5, 1), (6, 1), (7, 1), (8, 1), (9, 1)] := tb_of (fs := fs108) (zs := [.int .i64 0, .int .i64 0, .int .i64 0, .int .i64 0, .int .i64 0, .int .i64 0, .int .i64 0, .int .i64 0, .int .i64 0, .int .i64 0]) (by kernel_rfl) (by kernel_rfl) (by kernel_rfl) rfl (by kernel_rfl)
instance : TF Try.prog 109 0 0 1 false := ⟨⟨fs108, _, by kernel_rfl, rfl, rfl, by kernel_rfl, by decide, by kernel_rfl⟩⟩
instance : TF Try.prog 109 1 1 1 false := ⟨⟨fs108, _, by kernel_rfl, rfl, rfl, by kernel_rfl, by decide, by kernel_rfl⟩⟩
instance : TF Try.prog 109 2 2 1 false := ⟨⟨fs108, _, by kernel_rfl, rfl, rfl, by kernel_rfl, by decide, by kernel_rfl⟩⟩
instance : TF Try.prog 109 3 3 1 false := ⟨⟨fs108, _, by kernel_rfl, rfl, rfl, by kernel_rfl, by decide, by kernel_rfl⟩⟩
instance : TF Try.prog 109 4 4 1 false := ⟨⟨fs108, _, by kernel_rfl, rfl, rfl, by kernel_rfl, by decide, by kernel_rfl⟩⟩
instance : TF Try.prog 109 5 5 1 false := ⟨⟨fs108, _, by kernel_rfl, rfl, rfl, by kernel_rfl, by decide, by kernel_rfl⟩⟩
instance : TF Try.prog 109 6 6 1 false := ⟨⟨fs108, _, by kernel_rfl, rfl, rfl, by kernel_rfl, by decide, by kernel_rfl⟩⟩
instance : TF Try.prog 109 7 7 1 false := ⟨⟨fs108, _, by kernel_rfl, rfl, rfl, by kernel_rfl, by decide, by kernel_rfl⟩⟩
instance : TF Try.prog 109 8 8 1 false := ⟨⟨fs108, _, by kernel_rfl, rfl, rfl, by kernel_rfl, by decide, by kernel_rfl⟩⟩
instance : TF Try.prog 109 9 9 1 false := ⟨⟨fs108, _, by kernel_rfl, rfl, rfl, by kernel_rfl, by decide, by kernel_rfl⟩⟩
instance : TU Try.prog 110 (.struct fs110) := ⟨by kernel_rfl⟩
instance : TI Try.prog 110 (.agg #[.int .i64 0, .int .i64 0, .int .i64 0, .int .i64 0, .int .i64 0, .int .i64 0, .int .i64 0, .int .i64 0, .int .i64 0, .int .i64 0, .string { data := #[] }, .slice none 0 0]) 12 120 := ⟨by kernel_rfl⟩
instance : TG Try.prog 110 true 12 := ⟨by kernel_rfl, by kernel_rfl⟩
instance : TB Try.prog 110 [.v (.int .i64 0), .v (.int .i64 0), .v (.int .i64 0), .v (.int .i64 0), .v (.int .i64 0), .v (.int .i64 0), .v (.int .i64 0), .v (.int .i64 0), .v (.int .i64 0), .v (.int .i64 0), .v (.string { data := #[] }), .v (.slice none 0 0)] [(0, 10), (10, 1), (11, 1)] := tb_of (fs := fs110) (zs := [.int .i64 0, .int .i64 0, .int .i64 0, .int .i64 0, .int .i64 0, .int .i64 0, .int .i64 0, .int .i64 0, .int .i64 0, .int .i64 0, .string { data := #[] }, .slice none 0 0]) (by kernel_rfl) (by kernel_rfl) (by kernel_rfl) rfl (by kernel_rfl)
instance : TF Try.prog 110 0 0 10 true := ⟨⟨fs110, _, by kernel_rfl, rfl, rfl, by kernel_rfl, by decide, by kernel_rfl⟩⟩
instance : TF Try.prog 110 1 10 1 false := ⟨⟨fs110, _, by kernel_rfl, rfl, rfl, by kernel_rfl, by decide, by kernel_rfl⟩⟩
instance : TF Try.prog 110 2 11 1 false := ⟨⟨fs110, _, by kernel_rfl, rfl, rfl, by kernel_rfl, by decide, by kernel_rfl⟩⟩
instance : TU Try.prog 111 (.struct fs110) := ⟨by kernel_rfl⟩
instance : TI Try.prog 111 (.agg #[.int .i64 0, .int .i64 0, .int .i64 0, .int .i64 0, .int .i64 0, .int .i64 0, .int .i64 0, .int .i64 0, .int .i64 0, .int .i64 0, .string { data := #[] }, .slice none 0 0]) 12 120 := ⟨by kernel_rfl⟩
instance : TG Try.prog 111 true 12 := ⟨by kernel_rfl, by kernel_rfl⟩
instance : TB Try.prog 111 [.v (.int .i64 0), .v (.int .i64 0), .v (.int .i64 0), .v (.int .i64 0), .v (.int .i64 0), .v (.int .i64 0), .v (.int .i64 0), .v (.int .i64 0), .v (.int .i64 0), .v (.int .i64 0), .v (.string { data := #[] }), .v (.slice none 0 0)] [(0, 10), (10, 1), (11, 1)] := tb_of (fs := fs110) (zs := [.int .i64 0, .int .i64 0, .int .i64 0, .int .i64 0, .int .i64 0, .int .i64 0, .int .i64 0, .int .i64 0, .int .i64 0, .int .i64 0, .string { data := #[] }, .slice none 0 0]) (by kernel_rfl) (by kernel_rfl) (by kernel_rfl) rfl (by kernel_rfl)
instance : TF Try.prog 111 0 0 10 true := ⟨⟨fs110, _, by kernel_rfl, rfl, rfl, by kernel_rfl, by decide, by kernel_rfl⟩⟩
instance : TF Try.prog 111 1 10 1 false := ⟨⟨fs110, _, by kernel_rfl, rfl, rfl, by kernel_rfl, by decide, by kernel_rfl⟩⟩
instance : TF Try.prog 111 2 11 1 false := ⟨⟨fs110, _, by kernel_rfl, rfl, rfl, by kernel_rfl, by decide, by kernel_rfl⟩⟩
instance : TU Try.prog 112 (.slice 111) := ⟨by kernel_rfl⟩
instance : TI Try.prog 112 (.slice none 0 0) 1 24 := ⟨by kernel_rfl⟩
instance : TG Try.prog 112 false 1 := ⟨by kernel_rfl, by kernel_rfl⟩
instance : TU Try.prog 114 (.slice 9) := ⟨by kernel_rfl⟩
instance : TI Try.prog 114 (.slice none 0 0) 1 24 := ⟨by kernel_rfl⟩
instance : TG Try.prog 114 false 1 := ⟨by kernel_rfl, by kernel_rfl⟩
instance : TU Try.prog 115 (.tuple #[22, 50]) := ⟨by kernel_rfl⟩
instance : TI Try.prog 115 (.tuple #[.slice none 0 0, .slice none 0 0]) 1 0 := ⟨by kernel_rfl⟩
instance : TG Try.prog 115 false 1 := ⟨by kernel_rfl, by kernel_rfl⟩
instance : TU Try.prog 119 (.pointer 123) := ⟨by kernel_rfl⟩
instance : TI Try.prog 119 (.pointer none) 1 8 := ⟨by kernel_rfl⟩
instance : TG Try.prog 119 false 1 := ⟨by kernel_rfl, by kernel_rfl⟩
instance : TU Try.prog 120 (.map 3 3) := ⟨by kernel_rfl⟩
instance : TI Try.prog 120 (.map none) 1 8 := ⟨by kernel_rfl⟩
instance : TG Try.prog 120 false 1 := ⟨by kernel_rfl, by kernel_rfl⟩
instance : TU Try.prog 121 (.slice 165) := ⟨by kernel_rfl⟩
instance : TI Try.prog 121 (.slice none 0 0) 1 24 := ⟨by kernel_rfl⟩
instance : TG Try.prog 121 false 1 := ⟨by kernel_rfl, by kernel_rfl⟩
instance : TU Try.prog 122 (.struct fs122) := ⟨by kernel_rfl⟩
instance : TI Try.prog 122 (.agg #[.slice none 0 0, .slice none 0 0, .map none, .int .i64 0, .slice none 0 0, .slice none 0 0, .slice none 0 0, .bool false, .slice none 0 0]) 9 168 := ⟨by kernel_rfl⟩
instance : TG Try.prog 122 true 9 := ⟨by kernel_rfl, by kernel_rfl⟩
instance : TB Try.prog 122 [.v (.slice none 0 0), .v (.slice none 0 0), .v (.map none), .v (.int .i64 0), .v (.slice none 0 0), .v (.slice none 0 0), .v (.slice none 0 0), .v (.bool false), .v (.slice none 0 0)] [(0, 1), (1, 1), (2, 1), (3, 1), (4, 5)] := tb_of (fs := fs122) (zs := [.slice none 0 0, .slice none 0 0, .map none, .int .i64 0, .slice none 0 0, .slice none 0 0, .slice none 0 0, .bool false, .slice none 0 0]) (by kernel_rfl) (by kernel_rfl) (by kernel_rfl) rfl (by kernel_rfl)
instance : TF Try.prog 122 0 0 1 false := ⟨⟨fs122, _, by kernel_rfl, rfl, rfl, by kernel_rfl, by decide, by kernel_rfl⟩⟩
instance : TF Try.prog 122 1 1 1 false := ⟨⟨fs122, _, by kernel_rfl, rfl, rfl, by kernel_rfl, by decide, by kernel_rfl⟩⟩
instance : TF Try.prog 122 2 2 1 false := ⟨⟨fs122, _, by kernel_rfl, rfl, rfl, by kernel_rfl, by decide, by kernel_rfl⟩⟩
instance : TF Try.prog 122 3 3 1 false := ⟨⟨fs122, _, by kernel_rfl, rfl, rfl, by kernel_rfl, by decide, by kernel_rfl⟩⟩
instance : TF Try.prog 122 4 4 5 true := ⟨⟨fs122, _, by kernel_rfl, rfl, rfl, by kernel_rfl, by decide, by kernel_rfl⟩⟩
instance : TU Try.prog 123 (.struct fs122) := ⟨by kernel_rfl⟩
instance : TI Try.prog 123 (.agg #[.slice none 0 0, .slice none 0 0, .map none, .int .i64 0, .slice none 0 0, .slice none 0 0, .slice none 0 0, .bool false, .slice none 0 0]) 9 168 := ⟨by kernel_rfl⟩
instance : TG Try.prog 123 true 9 := ⟨by kernel_rfl, by kernel_rfl⟩
instance : TB Try.prog 123 [.v (.slice none 0 0), .v (.slice none 0 0), .v (.map none), .v (.int .i64 0), .v (.slice none 0 0), .v (.slice none 0 0), .v (.slice none 0 0), .v (.bool false), .v (.slice none 0 0)] [(0, 1), (1, 1), (2, 1), (3, 1), (4, 5)] := tb_of (fs := fs122) (zs := [.slice none 0 0, .slice none 0 0, .map none, .int .i64 0, .slice none 0 0, .slice none 0 0, .slice none 0 0, .bool false, .slice none 0 0]) (by kernel_rfl) (by kernel_rfl) (by kernel_rfl) rfl (by kernel_rfl)
instance : TF Try.prog 123 0 0 1 false := ⟨⟨fs122, _, by kernel_rfl, rfl, rfl, by kernel_rfl, by decide, by kernel_rfl⟩⟩
instance : TF Try.prog 123 1 1 1 false := ⟨⟨fs122, _, by kernel_rfl, rfl, rfl, by kernel_rfl, by decide, by kernel_rfl⟩⟩
instance : TF Try.prog 123 2 2 1 false := ⟨⟨fs122, _, by kernel_rfl, rfl, rfl, by kernel_rfl, by decide, by kernel_rfl⟩⟩
instance : TF Try.prog 123 3 3 1 false := ⟨⟨fs122, _, by kernel_rfl, rfl, rfl, by kernel_rfl, by decide, by kernel_rfl⟩⟩
instance : TF Try.prog 123 4 4 5 true := ⟨⟨fs122, _, by kernel_rfl, rfl, rfl, by kernel_rfl, by decide, by kernel_rfl⟩⟩
instance : TU Try.prog 127 (.slice 141) := ⟨by kernel_rfl⟩
instance : TI Try.prog 127 (.slice none 0 0) 1 24 := ⟨by kernel_rfl⟩
instance : TG Try.prog 127 false 1 := ⟨by kernel_rfl, by kernel_rfl⟩
instance : TU Try.prog 128 (.slice 197) := ⟨by kernel_rfl⟩
instance : TI Try.prog 128 (.slice none 0 0) 1 24 := ⟨by kernel_rfl⟩
instance : TG Try.prog 128 false 1 := ⟨by kernel_rfl, by kernel_rfl⟩
instance : TU Try.prog 129 (.struct fs129) := ⟨by kernel_rfl⟩
instance : TI Try.prog 129 (.agg #[.slice none 0 0, .slice none 0 0]) 2 48 := ⟨by kernel_rfl⟩
instance : TG Try.prog 129 true 2 := ⟨by kernel_rfl, by kernel_rfl⟩
instance : TB Try.prog 129 [.v (.slice none 0 0), .v (.slice none 0 0)] [(0, 1), (1, 1)] := tb_of (fs := fs129) (zs := [.slice none 0 0, .slice none 0 0]) (by kernel_rfl) (by kernel_rfl) (by kernel_rfl) rfl (by kernel_rfl)
instance : TF Try.prog 129 0 0 1 false := ⟨⟨fs129, _, by kernel_rfl, rfl, rfl, by kernel_rfl, by decide, by kernel_rfl⟩⟩
instance : TF Try.prog 129 1 1 1 false := ⟨⟨fs129, _, by kernel_rfl, rfl, rfl, by kernel_rfl, by decide, by kernel_rfl⟩⟩
instance : TU Try.prog 130 (.struct fs129) := ⟨by kernel_rfl⟩
instance : TI Try.prog 130 (.agg #[.slice none 0 0, .slice none 0 0]) 2 48 := ⟨by kernel_rfl⟩
instance : TG Try.prog 130 true 2 := ⟨by kernel_rfl, by kernel_rfl⟩
instance : TB Try.prog 130 [.v (.slice none 0 0), .v (.slice none 0 0)] [(0, 1), (1, 1)] := tb_of (fs := fs129) (zs := [.slice none 0 0, .slice none 0 0]) (by kernel_rfl) (by kernel_rfl) (by kernel_rfl) rfl (by kernel_rfl)
instance : TF Try.prog 130 0 0 1 false := ⟨⟨fs129, _, by kernel_rfl, rfl, rfl, by kernel_rfl, by decide, by kernel_rfl⟩⟩
instance : TF Try.prog 130 1 1 1 false := ⟨⟨fs129, _, by kernel_rfl, rfl, rfl, by kernel_rfl, by decide, by kernel_rfl⟩⟩
instance : TU Try.prog 131 (.tuple #[130, 28]) := ⟨by kernel_rfl⟩
instance : TI Try.prog 131 (.tuple #[.agg #[.slice none 0 0, .slice none 0 0], .nilIface]) 1 0 := ⟨by kernel_rfl⟩
instance : TG Try.prog 131 false 1 := ⟨by kernel_rfl, by kernel_rfl⟩
instance : TU Try.prog 133 (.pointer 137) := ⟨by kernel_rfl⟩
instance : TI Try.prog 133 (.pointer none) 1 8 := ⟨by kernel_rfl⟩
instance : TG Try.prog 133 false 1 := ⟨by kernel_rfl, by kernel_rfl⟩
instance : TU Try.prog 134 (.map 202 243) := ⟨by kernel_rfl⟩
instance : TI Try.prog 134 (.map none) 1 8 := ⟨by kernel_rfl⟩
instance : TG Try.prog 134 false 1 := ⟨by kernel_rfl, by kernel_rfl⟩
instance : TU Try.prog 135 (.map 202 3) := ⟨by kernel_rfl⟩
instance : TI Try.prog 135 (.map none) 1 8 := ⟨by kernel_rfl⟩
instance : TG Try.prog 135 false 1 := ⟨by kernel_rfl, by kernel_rfl⟩
instance : TU Try.prog 136 (.struct fs136) := ⟨by kernel_rfl⟩
instance : TI Try.prog 136 (.agg #[.slice none 0 0, .slice none 0 0, .slice none 0 0, .slice none 0 0, .map none, .map none, .map none]) 7 120 := ⟨by kernel_rfl⟩
instance : TG Try.prog 136 true 7 := ⟨by kernel_rfl, by kernel_rfl⟩
instance : TB Try.prog 136 [.v (.slice none 0 0), .v (.slice none 0 0), .v (.slice none 0 0), .v (.slice none 0 0), .v (.map none), .v (.map none), .v (.map none)] [(0, 1), (1, 2), (3, 1), (4, 1), (5, 1), (6, 1)] := tb_of (fs := fs136) (zs := [.slice none 0 0, .slice none 0 0, .slice none 0 0, .slice none 0 0, .map none, .map none, .map none]) (by kernel_rfl) (by kernel_rfl) (by kernel_rfl) rfl (by kernel_rfl)
instance : TF Try.prog 136 0 0 1 false := ⟨⟨fs136, _, by kernel_rfl, rfl, rfl, by kernel_rfl, by decide, by kernel_rfl⟩⟩
instance : TF Try.prog 136 1 1 2 true := ⟨⟨fs136, _, by kernel_rfl, rfl, rfl, by kernel_rfl, by decide, by kernel_rfl⟩⟩
instance : TF Try.prog 136 2 3 1 false := ⟨⟨fs136, _, by kernel_rfl, rfl, rfl, by kernel_rfl, by decide, by kernel_rfl⟩⟩
instance : TF Try.prog 136 3 4 1 false := ⟨⟨fs136, _, by kernel_rfl, rfl, rfl, by kernel_rfl, by decide, by kernel_rfl⟩⟩
instance : TF Try.prog 136 4 5 1 false := ⟨⟨fs136, _, by kernel_rfl, rfl, rfl, by kernel_rfl, by decide, by kernel_rfl⟩⟩
instance : TF Try.prog 136 5 6 1 false := ⟨⟨fs136, _, by kernel_rfl, rfl, rfl, by kernel_rfl, by decide, by kernel_rfl⟩⟩
instance : TU Try.prog 137 (.struct fs136) := ⟨by kernel_rfl⟩
instance : TI Try.prog 137 (.agg #[.slice none 0 0, .slice none 0 0, .slice none 0 0, .slice none 0 0, .map none, .map none, .map none]) 7 120 := ⟨by kernel_rfl⟩
instance : TG Try.prog 137 true 7 := ⟨by kernel_rfl, by kernel_rfl⟩
instance : TB Try.prog 137 [.v (.slice none 0 0), .v (.slice none 0 0), .v (.slice none 0 0), .v (.slice none 0 0), .v (.map none), .v (.map none), .v (.map none)] [(0, 1), (1, 2), (3, 1), (4, 1), (5, 1), (6, 1)] := tb_of (fs := fs136) (zs := [.slice none 0 0, .slice none 0 0, .slice none 0 0, .slice none 0 0, .map none, .map none, .map none]) (by kernel_rfl) (by kernel_rfl) (by kernel_rfl) rfl (by kernel_rfl)
instance : TF Try.prog 137 0 0 1 false := ⟨⟨fs136, _, by kernel_rfl, rfl, rfl, by kernel_rfl, by decide, by kernel_rfl⟩⟩
instance : TF Try.prog 137 1 1 2 true := ⟨⟨fs136, _, by kernel_rfl, rfl, rfl, by kernel_rfl, by decide, by kernel_rfl⟩⟩
instance : TF Try.prog 137 2 3 1 false := ⟨⟨fs136, _, by kernel_rfl, rfl, rfl, by kernel_rfl, by decide, by kernel_rfl⟩⟩
instance : TF Try.prog 137 3 4 1 false := ⟨⟨fs136, _, by kernel_rfl, rfl, rfl, by kernel_rfl, by decide, by kernel_rfl⟩⟩
instance : TF Try.prog 137 4 5 1 false := ⟨⟨fs136, _, by kernel_rfl, rfl, rfl, by kernel_rfl, by decide, by kernel_rfl⟩⟩
instance : TF Try.prog 137 5 6 1 false := ⟨⟨fs136, _, by kernel_rfl, rfl, rfl, by kernel_rfl, by decide, by kernel_rfl⟩⟩
instance : TU Try.prog 138 (.tuple #[70, 28]) := ⟨by kernel_rfl⟩
instance : TI Try.prog 138 (.tuple #[.slice none 0 0, .nilIface]) 1 0 := ⟨by kernel_rfl⟩
instance : TG Try.prog 138 false 1 := ⟨by kernel_rfl, by kernel_rfl⟩
instance : TU Try.prog 141 (.slice 4) := ⟨by kernel_rfl⟩
instance : TI Try.prog 141 (.slice none 0 0) 1 24 := ⟨by kernel_rfl⟩
instance : TG Try.prog 141 false 1 := ⟨by kernel_rfl, by kernel_rfl⟩
instance : TU Try.prog 142 (.slice 147) := ⟨by kernel_rfl⟩
instance : TI Try.prog 142 (.slice none 0 0) 1 24 := ⟨by kernel_rfl⟩
instance : TG Try.prog 142 false 1 := ⟨by kernel_rfl, by kernel_rfl⟩
instance : TU Try.prog 146 (.struct fs146) := ⟨by kernel_rfl⟩
instance : TI Try.prog 146 (.agg #[.int .i64 0, .int .i64 0, .int .i64 0, .int .i64 0, .int .i64 0]) 5 40 := ⟨by kernel_rfl⟩
instance : TG Try.prog 146 true 5 := ⟨by kernel_rfl, by kernel_rfl⟩
instance : TB Try.prog 146 [.v (.int .i64 0), .v (.int .i64 0), .v (.int .i64 0), .v (.int .i64 0), .v (.int .i64 0)] [(0, 1), (1, 1), (2, 1), (3, 1), (4, 1)] := tb_of (fs := fs146) (zs := [.int .i64 0, .int .i64 0, .int .i64 0, .int .i64 0, .int .i64 0]) (by kernel_rfl) (by kernel_rfl) (by kernel_rfl) rfl (by kernel_rfl)
instance : TF Try.prog 146 0 0 1 false := ⟨⟨fs146, _, by kernel_rfl, rfl, rfl, by kernel_rfl, by decide, by kernel_rfl⟩⟩
instance : TF Try.prog 146 1 1 1 false := ⟨⟨fs146, _, by kernel_rfl, rfl, rfl, by kernel_rfl, by decide, by kernel_rfl⟩⟩
instance : TF Try.prog 146 2 2 1 false := ⟨⟨fs146, _, by kernel_rfl, rfl, rfl, by kernel_rfl, by decide, by kernel_rfl⟩⟩
instance : TF Try.prog 146 3 3 1 false := ⟨⟨fs146, _, by kernel_rfl, rfl, rfl, by kernel_rfl, by decide, by kernel_rfl⟩⟩
instance : TF Try.prog 146 4 4 1 false := ⟨⟨fs146, _, by kernel_rfl, rfl, rfl, by kernel_rfl, by decide, by kernel_rfl⟩⟩
instance : TU Try.prog 147 (.struct fs146) := ⟨by kernel_rfl⟩
instance : TI Try.prog 147 (.agg #[.int .i64 0, .int .i64 0, .int .i64 0, .int .i64 0, .int .i64 0]) 5 40 := ⟨by kernel_rfl⟩
instance : TG Try.prog 147 true 5 := ⟨by kernel_rfl, by kernel_rfl⟩
instance : TB Try.prog 147 [.v (.int .i64 0), .v (.int .i64 0), .v (.int .i64 0), .v (.int .i64 0), .v (.int .i64 0)] [(0, 1), (1, 1), (2, 1), (3, 1), (4, 1)] := tb_of (fs := fs146) (zs := [.int .i64 0, .int .i64 0, .int .i64 0, .int .i64 0, .int .i64 0]) (by kernel_rfl) (by kernel_rfl) (by kernel_rfl) rfl (by kernel_rfl)
instance : TF Try.prog 147 0 0 1 false := ⟨⟨fs146, _, by kernel_rfl, rfl, rfl, by kernel_rfl, by decide, by kernel_rfl⟩⟩
instance : TF Try.prog 147 1 1 1 false := ⟨⟨fs146, _, by kernel_rfl, rfl, rfl, by kernel_rfl, by decide, by kernel_rfl⟩⟩
instance : TF Try.prog 147 2 2 1 false := ⟨⟨fs146, _, by kernel_rfl, rfl, rfl, by kernel_rfl, by decide, by kernel_rfl⟩⟩
instance : TF Try.prog 147 3 3 1 false := ⟨⟨fs146, _, by kernel_rfl, rfl, rfl, by kernel_rfl, by decide, by kernel_rfl⟩⟩
instance : TF Try.prog 147 4 4 1 false := ⟨⟨fs146, _, by kernel_rfl, rfl, rfl, by kernel_rfl, by decide, by kernel_rfl⟩⟩
instance : TU Try.prog 151 (.struct fs151) := ⟨by kernel_rfl⟩
instance : TI Try.prog 151 (.agg #[.int .i64 0, .int .i64 0, .int .u64 0]) 3 24 := ⟨by kernel_rfl⟩
instance : TG Try.prog 151 true 3 := ⟨by kernel_rfl, by kernel_rfl⟩
instance : TB Try.prog 151 [.v (.int .i64 0), .v (.int .i64 0), .v (.int .u64 0)] [(0, 1), (1, 1), (2, 1)] := tb_of (fs := fs151) (zs := [.int .i64 0, .int .i64 0, .int .u64 0]) (by kernel_rfl) (by kernel_rfl) (by kernel_rfl) rfl (by kernel_rfl)
instance : TF Try.prog 151 0 0 1 false := ⟨⟨fs151, _, by kernel_rfl, rfl, rfl, by kernel_rfl, by decide, by kernel_rfl⟩⟩
instance : TF Try.prog 151 1 1 1 false := ⟨⟨fs151, _, by kernel_rfl, rfl, rfl, by kernel_rfl, by decide, by kernel_rfl⟩⟩
instance : TF Try.prog 151 2 2 1 false := ⟨⟨fs151, _, by kernel_rfl, rfl, rfl, by kernel_rfl, by decide, by kernel_rfl⟩⟩
instance : TU Try.prog 152 (.slice 151) := ⟨by kernel_rfl⟩
instance : TI Try.prog 152 (.slice none 0 0) 1 24 := ⟨by kernel_rfl⟩
instance : TG Try.prog 152 false 1 := ⟨by kernel_rfl, by kernel_rfl⟩
instance : TU Try.prog 154 (.array 6 3) := ⟨by kernel_rfl⟩
instance : TI Try.prog 154 (.agg #[.int .i64 0, .int .i64 0, .int .i64 0, .int .i64 0, .int .i64 0, .int .i64 0]) 6 48 := ⟨by kernel_rfl⟩
instance : TG Try.prog 154 true 6 := ⟨by kernel_rfl, by kernel_rfl⟩
instance : TU Try.prog 156 (.tuple #[3, 3, 4]) := ⟨by kernel_rfl⟩
instance : TI Try.prog 156 (.tuple #[.int .i64 0, .int .i64 0, .bool false]) 1 0 := ⟨by kernel_rfl⟩
instance : TG Try.prog 156 false 1 := ⟨by kernel_rfl, by kernel_rfl⟩
instance : TU Try.prog 158 (.tuple #[3, 4]) := ⟨by kernel_rfl⟩
instance : TI Try.prog 158 (.tuple #[.int .i64 0, .bool false]) 1 0 := ⟨by kernel_rfl⟩
instance : TG Try.prog 158 false 1 := ⟨by kernel_rfl, by kernel_rfl⟩
instance : TU Try.prog 163 (.slice 167) := ⟨by kernel_rfl⟩
instance : TI Try.prog 163 (.slice none 0 0) 1 24 := ⟨by kernel_rfl⟩
instance : TG Try.prog 163 false 1 := ⟨by kernel_rfl, by kernel_rfl⟩
instance : TU Try.prog 165 (.struct fs108) := ⟨by kernel_rfl⟩
instance : TI Try.prog 165 (.agg #[.int .i64 0, .int .i64 0, .int .i64 0, .int .i64 0, .int .i64 0, .int .i64 0, .int .i64 0, .int .i64 0, .int .i64 0, .int .i64 0]) 10 80 := ⟨by kernel_rfl⟩
instance : TG Try.prog 165 true 10 := ⟨by kernel_rfl, by kernel_rfl⟩
instance : SFL Try.prog 165 fl108 := ⟨fs108, by kernel_rfl, rfl, by kernel_rfl, by kernel_rfl, by kernel_rfl⟩
instance : TB Try.prog 165 [.v (.int .i64 0), .v (.int .i64 0), .v (.int .i64 0), .v (.int .i64 0), .v (.int .i64 0), .v (.int .i64 0), .v (.int .i64 0), .v (.int .i64 0), .v (.int .i64 0), .v (.int .i64 0)] [(0, 1), (1, 1), (2, 1), (3, 1), (4, 1), (5, 1), (6, 1), (7, 1), (8, 1), (9, 1)] := tb_of (fs := fs108) (zs := [.int .i64 0, .int .i64 0, .int .i64 0, .int .i64 0, .int .i64 0, .int .i64 0, .int .i64 0, .int .i64 0, .int .i64 0, .int .i64 0]) (by kernel_rfl) (by kernel_rfl) (by kernel_rfl) rfl (by kernel_rfl)
instance : TF Try.prog 165 0 0 1 false := ⟨⟨fs108, _, by kernel_rfl, rfl, rfl, by kernel_rfl, by decide, by kernel_rfl⟩⟩
instance : TF Try.prog 165 1 1 1 false := ⟨⟨fs108, _, by kernel_rfl, rfl, rfl, by kernel_rfl, by decide, by kernel_rfl⟩⟩
instance : TF Try.prog 165 2 2 1 false := ⟨⟨fs108, _, by kernel_rfl, rfl, rfl, by kernel_rfl, by decide, by kernel_rfl⟩⟩
instance : TF Try.prog 165 3 3 1 false := ⟨⟨fs108, _, by kernel_rfl, rfl, rfl, by kernel_rfl, by decide, by kernel_rfl⟩⟩
instance : TF Try.prog 165 4 4 1 false := ⟨⟨fs108, _, by kernel_rfl, rfl, rfl, by kernel_rfl, by decide, by kernel_rfl⟩⟩
instance : TF Try.prog 165 5 5 1 false := ⟨⟨fs108, _, by kernel_rfl, rfl, rfl, by kernel_rfl, by decide, by kernel_rfl⟩⟩
instance : TF Try.prog 165 6 6 1 false := ⟨⟨fs108, _, by kernel_rfl, rfl, rfl, by kernel_rfl, by decide, by kernel_rfl⟩⟩
instance : TF Try.prog 165 7 7 1 false := ⟨⟨fs108, _, by kernel_rfl, rfl, rfl, by kernel_rfl, by decide, by kernel_rfl⟩⟩
instance : TF Try.prog 165 8 8 1 false := ⟨⟨fs108, _, by kernel_rfl, rfl, rfl, by kernel_rfl, by decide, by kernel_rfl⟩⟩
instance : TF Try.prog 165 9 9 1 false := ⟨⟨fs108, _, by kernel_rfl, rfl, rfl, by kernel_rfl, by decide, by kernel_rfl⟩⟩
instance : TU Try.prog 166 (.struct fs166) := ⟨by kernel_rfl⟩
instance : TI Try.prog 166 (.agg #[.int .i64 0, .int .i64 0, .int .i64 0, .int .i64 0, .int .i64 0, .int .i64 0, .int .i64 0, .int .i64 0, .int .i64 0, .int .i64 0, .string { data := #[] }, .slice none 0 0]) 12 120 := ⟨by kernel_rfl⟩
instance : TG Try.prog 166 true 12 := ⟨by kernel_rfl, by kernel_rfl⟩
instance : TB Try.prog 166 [.v (.int .i64 0), .v (.int .i64 0), .v (.int .i64 0), .v (.int .i64 0), .v (.int .i64 0), .v (.int .i64 0), .v (.int .i64 0), .v (.int .i64 0), .v (.int .i64 0), .v (.int .i64 0), .v (.string { data := #[] }), .v (.slice none 0 0)] [(0, 10), (10, 1), (11, 1)] := tb_of (fs := fs166) (zs := [.int .i64 0, .int .i64 0, .int .i64 0, .int .i64 0, .int .i64 0, .int .i64 0, .int .i64 0, .int .i64 0, .int .i64 0, .int .i64 0, .string { data := #[] }, .slice none 0 0]) (by kernel_rfl) (by kernel_rfl) (by kernel_rfl) rfl (by kernel_rfl)
instance : TF Try.prog 166 0 0 10 true := ⟨⟨fs166, _, by kernel_rfl, rfl, rfl, by kernel_rfl, by decide, by kernel_rfl⟩⟩
instance : TF Try.prog 166 1 10 1 false := ⟨⟨fs166, _, by kernel_rfl, rfl, rfl, by kernel_rfl, by decide, by kernel_rfl⟩⟩
instance : TF Try.prog 166 2 11 1 false := ⟨⟨fs166, _, by kernel_rfl, rfl, rfl, by kernel_rfl, by decide, by kernel_rfl⟩⟩
instance : TU Try.prog 167 (.struct fs166) := ⟨by kernel_rfl⟩
instance : TI Try.prog 167 (.agg #[.int .i64 0, .int .i64 0, .int .i64 0, .int .i64 0, .int .i64 0, .int .i64 0, .int .i64 0, .int .i64 0, .int .i64 0, .int .i64 0, .string { data := #[] }, .slice none 0 0]) 12 120 := ⟨by kernel_rfl⟩
instance : TG Try.prog 167 true 12 := ⟨by kernel_rfl, by kernel_rfl⟩
instance : TB Try.prog 167 [.v (.int .i64 0), .v (.int .i64 0), .v (.int .i64 0), .v (.int .i64 0), .v (.int .i64 0), .v (.int .i64 0), .v (.int .i64 0), .v (.int .i64 0), .v (.int .i64 0), .v (.int .i64 0), .v (.string { data := #[] }), .v (.slice none 0 0)] [(0, 10), (10, 1), (11, 1)] := tb_of (fs := fs166) (zs := [.int .i64 0, .int .i64 0, .int .i64 0, .int .i64 0, .int .i64 0, .int .i64 0, .int .i64 0, .int .i64 0, .int .i64 0, .int .i64 0, .string { data := #[] }, .slice none 0 0]) (by kernel_rfl) (by kernel_rfl) (by kernel_rfl) rfl (by kernel_rfl)
instance : TF Try.prog 167 0 0 10 true := ⟨⟨fs166, _, by kernel_rfl, rfl, rfl, by kernel_rfl, by decide, by kernel_rfl⟩⟩
instance : TF Try.prog 167 1 10 1 false := ⟨⟨fs166, _, by kernel_rfl, rfl, rfl, by kernel_rfl, by decide, by kernel_rfl⟩⟩
instance : TF Try.prog 167 2 11 1 false := ⟨⟨fs166, _, by kernel_rfl, rfl, rfl, by kernel_rfl, by decide, by kernel_rfl⟩⟩
instance : TU Try.prog 170 (.struct fs170) := ⟨by kernel_rfl⟩
instance : TI Try.prog 170 (.agg #[.int .i64 0, .int .i64 0, .int .i64 0]) 3 24 := ⟨by kernel_rfl⟩
instance : TG Try.prog 170 true 3 := ⟨by kernel_rfl, by kernel_rfl⟩
instance : TB Try.prog 170 [.v (.int .i64 0), .v (.int .i64 0), .v (.int .i64 0)] [(0, 1), (1, 1), (2, 1)] := tb_of (fs := fs170) (zs := [.int .i64 0, .int .i64 0, .int .i64 0]) (by kernel_rfl) (by kernel_rfl) (by kernel_rfl) rfl (by kernel_rfl)
instance : TF Try.prog 170 0 0 1 false := ⟨⟨fs170, _, by kernel_rfl, rfl, rfl, by kernel_rfl, by decide, by kernel_rfl⟩⟩
instance : TF Try.prog 170 1 1 1 false := ⟨⟨fs170, _, by kernel_rfl, rfl, rfl, by kernel_rfl, by decide, by kernel_rfl⟩⟩
instance : TF Try.prog 170 2 2 1 false := ⟨⟨fs170, _, by kernel_rfl, rfl, rfl, by kernel_rfl, by decide, by kernel_rfl⟩⟩
instance : TU Try.prog 171 (.struct fs170) := ⟨by kernel_rfl⟩
instance : TI Try.prog 171 (.agg #[.int .i64 0, .int .i64 0, .int .i64 0]) 3 24 := ⟨by kernel_rfl⟩
instance : TG Try.prog 171 true 3 := ⟨by kernel_rfl, by kernel_rfl⟩
instance : TB Try.prog 171 [.v (.int .i64 0), .v (.int .i64 0), .v (.int .i64 0)] [(0, 1), (1, 1), (2, 1)] := tb_of (fs := fs170) (zs := [.int .i64 0, .int .i64 0, .int .i64 0]) (by kernel_rfl) (by kernel_rfl) (by kernel_rfl) rfl (by kernel_rfl)
instance : TF Try.prog 171 0 0 1 false := ⟨⟨fs170, _, by kernel_rfl, rfl, rfl, by kernel_rfl, by decide, by kernel_rfl⟩⟩
instance : TF Try.prog 171 1 1 1 false := ⟨⟨fs170, _, by kernel_rfl, rfl, rfl, by kernel_rfl, by decide, by kernel_rfl⟩⟩
instance : TF Try.prog 171 2 2 1 false := ⟨⟨fs170, _, by kernel_rfl, rfl, rfl, by kernel_rfl, by decide, by kernel_rfl⟩⟩
instance : TU Try.prog 175 (.struct fs175) := ⟨by kernel_rfl⟩
instance : TI Try.prog 175 (.agg #[.int .i64 0, .int .i64 0, .int .i64 0, .int .i64 0, .int .i64 0, .int .i64 0]) 6 48 := ⟨by kernel_rfl⟩
instance : TG Try.prog 175 true 6 := ⟨by kernel_rfl, by kernel_rfl⟩
instance : TB Try.prog 175 [.v (.int .i64 0), .v (.int .i64 0), .v (.int .i64 0), .v (.int .i64 0), .v (.int .i64 0), .v (.int .i64 0)] [(0, 1), (1, 1), (2, 1), (3, 1), (4, 1), (5, 1)] := tb_of (fs := fs175) (zs := [.int .i64 0, .int .i64 0, .int .i64 0, .int .i64 0, .int .i64 0, .int .i64 0]) (by kernel_rfl) (by kernel_rfl) (by kernel_rfl) rfl (by kernel_rfl)
instance : TF Try.prog 175 0 0 1 false := ⟨⟨fs175, _, by kernel_rfl, rfl, rfl, by kernel_rfl, by decide, by kernel_rfl⟩⟩
instance : TF Try.prog 175 1 1 1 false := ⟨⟨fs175, _, by kernel_rfl, rfl, rfl, by kernel_rfl, by decide, by kernel_rfl⟩⟩
instance : TF Try.prog 175 2 2 1 false := ⟨⟨fs175, _, by kernel_rfl, rfl, rfl, by kernel_rfl, by decide, by kernel_rfl⟩⟩
instance : TF Try.prog 175 3 3 1 false := ⟨⟨fs175, _, by kernel_rfl, rfl, rfl, by kernel_rfl, by decide, by kernel_rfl⟩⟩
instance : TF Try.prog 175 4 4 1 false := ⟨⟨fs175, _, by kernel_rfl, rfl, rfl, by kernel_rfl, by decide, by kernel_rfl⟩⟩
instance : TF Try.prog 175 5 5 1 false := ⟨⟨fs175, _, by kernel_rfl, rfl, rfl, by kernel_rfl, by decide, by kernel_rfl⟩⟩
instance : TU Try.prog 176 (.struct fs175) := ⟨by kernel_rfl⟩
instance : TI Try.prog 176 (.agg #[.int .i64 0, .int .i64 0, .int .i64 0, .int .i64 0, .int .i64 0, .int .i64 0]) 6 48 := ⟨by kernel_rfl⟩
instance : TG Try.prog 176 true 6 := ⟨by kernel_rfl, by kernel_rfl⟩
instance : TB Try.prog 176 [.v (.int .i64 0), .v (.int .i64 0), .v (.int .i64 0), .v (.int .i64 0), .v (.int .i64 0), .v (.int .i64 0)] [(0, 1), (1, 1), (2, 1), (3, 1), (4, 1), (5, 1)] := tb_of (fs := fs175) (zs := [.int .i64 0, .int .i64 0, .int .i64 0, .int .i64 0, .int .i64 0, .int .i64 0]) (by kernel_rfl) (by kernel_rfl) (by kernel_rfl) rfl (by kernel_rfl)
instance : TF Try.prog 176 0 0 1 false := ⟨⟨fs175, _, by kernel_rfl, rfl, rfl, by kernel_rfl, by decide, by kernel_rfl⟩⟩
instance : TF Try.prog 176 1 1 1 false := ⟨⟨fs175, _, by kernel_rfl, rfl, rfl, by kernel_rfl, by decide, by kernel_rfl⟩⟩
instance : TF Try.prog 176 2 2 1 false := ⟨⟨fs175, _, by kernel_rfl, rfl, rfl, by kernel_rfl, by decide, by kernel_rfl⟩⟩
instance : TF Try.prog 176 3 3 1 false := ⟨⟨fs175, _, by kernel_rfl, rfl, rfl, by kernel_rfl, by decide, by kernel_rfl⟩⟩
instance : TF Try.prog 176 4 4 1 false := ⟨⟨fs175, _, by kernel_rfl, rfl, rfl, by kernel_rfl, by decide, by kernel_rfl⟩⟩
instance : TF Try.prog 176 5 5 1 false := ⟨⟨fs175, _, by kernel_rfl, rfl, rfl, by kernel_rfl, by decide, by kernel_rfl⟩⟩
instance : TU Try.prog 179 (.tuple #[171, 4]) := ⟨by kernel_rfl⟩
instance : TI Try.prog 179 (.tuple #[.agg #[.int .i64 0, .int .i64 0, .int .i64 0], .bool false]) 1 0 := ⟨by kernel_rfl⟩
instance : TG Try.prog 179 false 1 := ⟨by kernel_rfl, by kernel_rfl⟩
instance : TU Try.prog 181 (.tuple #[165, 4]) := ⟨by kernel_rfl⟩
instance : TI Try.prog 181 (.tuple #[.agg #[.int .i64 0, .int .i64 0, .int .i64 0, .int .i64 0, .int .i64 0, .int .i64 0, .int .i64 0, .int .i64 0, .int .i64 0, .int .i64 0], .bool false]) 1 0 := ⟨by kernel_rfl⟩
instance : TG Try.prog 181 false 1 := ⟨by kernel_rfl, by kernel_rfl⟩
instance : TU Try.prog 183 (.tuple #[9, 4]) := ⟨by kernel_rfl⟩
instance : TI Try.prog 183 (.tuple #[.string { data := #[] }, .bool false]) 1 0 := ⟨by kernel_rfl⟩
instance : TG Try.prog 183 false 1 := ⟨by kernel_rfl, by kernel_rfl⟩
instance : TU Try.prog 186 (.struct fs175) := ⟨by kernel_rfl⟩
instance : TI Try.prog 186 (.agg #[.int .i64 0, .int .i64 0, .int .i64 0, .int .i64 0, .int .i64 0, .int .i64 0]) 6 48 := ⟨by kernel_rfl⟩
instance : TG Try.prog 186 true 6 := ⟨by kernel_rfl, by kernel_rfl⟩
instance : TB Try.prog 186 [.v (.int .i64 0), .v (.int .i64 0), .v (.int .i64 0), .v (.int .i64 0), .v (.int .i64 0), .v (.int .i64 0)] [(0, 1), (1, 1), (2, 1), (3, 1), (4, 1), (5, 1)] := tb_of (fs := fs175) (zs := [.int .i64 0, .int .i64 0, .int .i64 0, .int .i64 0, .int .i64 0, .int .i64 0]) (by kernel_rfl) (by kernel_rfl) (by kernel_rfl) rfl (by kernel_rfl)
instance : TF Try.prog 186 0 0 1 false := ⟨⟨fs175, _, by kernel_rfl, rfl, rfl, by kernel_rfl, by decide, by kernel_rfl⟩⟩
instance : TF Try.prog 186 1 1 1 false := ⟨⟨fs175, _, by kernel_rfl, rfl, rfl, by kernel_rfl, by decide, by kernel_rfl⟩⟩
instance : TF Try.prog 186 2 2 1 false := ⟨⟨fs175, _, by kernel_rfl, rfl, rfl, by kernel_rfl, by decide, by kernel_rfl⟩⟩
instance : TF Try.prog 186 3 3 1 false := ⟨⟨fs175, _, by kernel_rfl, rfl, rfl, by kernel_rfl, by decide, by kernel_rfl⟩⟩
instance : TF Try.prog 186 4 4 1 false := ⟨⟨fs175, _, by kernel_rfl, rfl, rfl, by kernel_rfl, by decide, by kernel_rfl⟩⟩
instance : TF Try.prog 186 5 5 1 false := ⟨⟨fs175, _, by kernel_rfl, rfl, rfl, by kernel_rfl, by decide, by kernel_rfl⟩⟩
instance : TU Try.prog 187 (.tuple #[186, 4]) := ⟨by kernel_rfl⟩
instance : TI Try.prog 187 (.tuple #[.agg #[.int .i64 0, .int .i64 0, .int .i64 0, .int .i64 0, .int .i64 0, .int .i64 0], .bool false]) 1 0 := ⟨by kernel_rfl⟩
instance : TG Try.prog 187 false 1 := ⟨by kernel_rfl, by kernel_rfl⟩
instance : TU Try.prog 190 (.tuple #[50, 4]) := ⟨by kernel_rfl⟩
instance : TI Try.prog 190 (.tuple #[.slice none 0 0, .bool false]) 1 0 := ⟨by kernel_rfl⟩
instance : TG Try.prog 190 false 1 := ⟨by kernel_rfl, by kernel_rfl⟩
instance : TU Try.prog 196 (.struct fs196) := ⟨by kernel_rfl⟩
instance : TI Try.prog 196 (.agg #[.string { data := #[] }, .int .i64 0, .int .i64 0]) 3 32 := ⟨by kernel_rfl⟩
instance : TG Try.prog 196 true 3 := ⟨by kernel_rfl, by kernel_rfl⟩
instance : TB Try.prog 196 [.v (.string { data := #[] }), .v (.int .i64 0), .v (.int .i64 0)] [(0, 1), (1, 1), (2, 1)] := tb_of (fs := fs196) (zs := [.string { data := #[] }, .int .i64 0, .int .i64 0]) (by kernel_rfl) (by kernel_rfl) (by kernel_rfl) rfl (by kernel_rfl)
instance : TF Try.prog 196 0 0 1 false := ⟨⟨fs196, _, by kernel_rfl, rfl, rfl, by kernel_rfl, by decide, by kernel_rfl⟩⟩
instance : TF Try.prog 196 1 1 1 false := ⟨⟨fs196, _, by kernel_rfl, rfl, rfl, by kernel_rfl, by decide, by kernel_rfl⟩⟩
instance : TF Try.prog 196 2 2 1 false := ⟨⟨fs196, _, by kernel_rfl, rfl, rfl, by kernel_rfl, by decide, by kernel_rfl⟩⟩
instance : TU Try.prog 197 (.struct fs196) := ⟨by kernel_rfl⟩
instance : TI Try.prog 197 (.agg #[.string { data := #[] }, .int .i64 0, .int .i64 0]) 3 32 := ⟨by kernel_rfl⟩
instance : TG Try.prog 197 true 3 := ⟨by kernel_rfl, by kernel_rfl⟩
instance : TB Try.prog 197 [.v (.string { data := #[] }), .v (.int .i64 0), .v (.int .i64 0)] [(0, 1), (1, 1), (2, 1)] := tb_of (fs := fs196) (zs := [.string { data := #[] }, .int .i64 0, .int .i64 0]) (by kernel_rfl) (by kernel_rfl) (by kernel_rfl) rfl (by kernel_rfl)
instance : TF Try.prog 197 0 0 1 false := ⟨⟨fs196, _, by kernel_rfl, rfl, rfl, by kernel_rfl, by decide, by kernel_rfl⟩⟩
instance : TF Try.prog 197 1 1 1 false := ⟨⟨fs196, _, by kernel_rfl, rfl, rfl, by kernel_rfl, by decide, by kernel_rfl⟩⟩
instance : TF Try.prog 197 2 2 1 false := ⟨⟨fs196, _, by kernel_rfl, rfl, rfl, by kernel_rfl, by decide, by kernel_rfl⟩⟩
instance : TU Try.prog 198 (.tuple #[197, 4]) := ⟨by kernel_rfl⟩
instance : TI Try.prog 198 (.tuple #[.agg #[.string { data := #[] }, .int .i64 0, .int .i64 0], .bool false]) 1 0 := ⟨by kernel_rfl⟩
instance : TG Try.prog 198 false 1 := ⟨by kernel_rfl, by kernel_rfl⟩
instance : TU Try.prog 201 (.struct fs201) := ⟨by kernel_rfl⟩
instance : TI Try.prog 201 (.agg #[.int .i64 0, .int .i64 0]) 2 16 := ⟨by kernel_rfl⟩
instance : TG Try.prog 201 true 2 := ⟨by kernel_rfl, by kernel_rfl⟩
instance : TB Try.prog 201 [.v (.int .i64 0), .v (.int .i64 0)] [(0, 1), (1, 1)] := tb_of (fs := fs201) (zs := [.int .i64 0, .int .i64 0]) (by kernel_rfl) (by kernel_rfl) (by kernel_rfl) rfl (by kernel_rfl)
instance : TF Try.prog 201 0 0 1 false := ⟨⟨fs201, _, by kernel_rfl, rfl, rfl, by kernel_rfl, by decide, by kernel_rfl⟩⟩
instance : TF Try.prog 201 1 1 1 false := ⟨⟨fs201, _, by kernel_rfl, rfl, rfl, by kernel_rfl, by decide, by kernel_rfl⟩⟩
instance : TU Try.prog 202 (.struct fs201) := ⟨by kernel_rfl⟩
instance : TI Try.prog 202 (.agg #[.int .i64 0, .int .i64 0]) 2 16 := ⟨by kernel_rfl⟩
instance : TG Try.prog 202 true 2 := ⟨by kernel_rfl, by kernel_rfl⟩
instance : TB Try.prog 202 [.v (.int .i64 0), .v (.int .i64 0)] [(0, 1), (1, 1)] := tb_of (fs := fs201) (zs := [.int .i64 0, .int .i64 0]) (by kernel_rfl) (by kernel_rfl) (by kernel_rfl) rfl (by kernel_rfl)
instance : TF Try.prog 202 0 0 1 false := ⟨⟨fs201, _, by kernel_rfl, rfl, rfl, by kernel_rfl, by decide, by kernel_rfl⟩⟩
instance : TF Try.prog 202 1 1 1 false := ⟨⟨fs201, _, by kernel_rfl, rfl, rfl, by kernel_rfl, by decide, by kernel_rfl⟩⟩
instance : TU Try.prog 203 (.struct fs203) := ⟨by kernel_rfl⟩
instance : TI Try.prog 203 (.agg #[.int .i64 0, .int .i64 0, .int .i64 0]) 3 24 := ⟨by kernel_rfl⟩
instance : TG Try.prog 203 true 3 := ⟨by kernel_rfl, by kernel_rfl⟩
instance : TB Try.prog 203 [.v (.int .i64 0), .v (.int .i64 0), .v (.int .i64 0)] [(0, 1), (1, 1), (2, 1)] := tb_of (fs := fs203) (zs := [.int .i64 0, .int .i64 0, .int .i64 0]) (by kernel_rfl) (by kernel_rfl) (by kernel_rfl) rfl (by kernel_rfl)
instance : TF Try.prog 203 0 0 1 false := ⟨⟨fs203, _, by kernel_rfl, rfl, rfl, by kernel_rfl, by decide, by kernel_rfl⟩⟩
instance : TF Try.prog 203 1 1 1 false := ⟨⟨fs203, _, by kernel_rfl, rfl, rfl, by kernel_rfl, by decide, by kernel_rfl⟩⟩
instance : TF Try.prog 203 2 2 1 false := ⟨⟨fs203, _, by kernel_rfl, rfl, rfl, by kernel_rfl, by decide, by kernel_rfl⟩⟩
instance : TU Try.prog 204 (.struct fs203) := ⟨by kernel_rfl⟩
instance : TI Try.prog 204 (.agg #[.int .i64 0, .int .i64 0, .int .i64 0]) 3 24 := ⟨by kernel_rfl⟩
instance : TG Try.prog 204 true 3 := ⟨by kernel_rfl, by kernel_rfl⟩
instance : TB Try.prog 204 [.v (.int .i64 0), .v (.int .i64 0), .v (.int .i64 0)] [(0, 1), (1, 1), (2, 1)] := tb_of (fs := fs203) (zs := [.int .i64 0, .int .i64 0, .int .i64 0]) (by kernel_rfl) (by kernel_rfl) (by kernel_rfl) rfl (by kernel_rfl)
instance : TF Try.prog 204 0 0 1 false := ⟨⟨fs203, _, by kernel_rfl, rfl, rfl, by kernel_rfl, by decide, by kernel_rfl⟩⟩
instance : TF Try.prog 204 1 1 1 false := ⟨⟨fs203, _, by kernel_rfl, rfl, rfl, by kernel_rfl, by decide, by kernel_rfl⟩⟩
instance : TF Try.prog 204 2 2 1 false := ⟨⟨fs203, _, by kernel_rfl, rfl, rfl, by kernel_rfl, by decide, by kernel_rfl⟩⟩
instance : TU Try.prog 205 (.tuple #[204, 28]) := ⟨by kernel_rfl⟩
instance : TI Try.prog 205 (.tuple #[.agg #[.int .i64 0, .int .i64 0, .int .i64 0], .nilIface]) 1 0 := ⟨by kernel_rfl⟩
instance : TG Try.prog 205 false 1 := ⟨by kernel_rfl, by kernel_rfl⟩
instance : TU Try.prog 207 (.tuple #[3, 3]) := ⟨by kernel_rfl⟩
instance : TI Try.prog 207 (.tuple #[.int .i64 0, .int .i64 0]) 1 0 := ⟨by kernel_rfl⟩
instance : TG Try.prog 207 false 1 := ⟨by kernel_rfl, by kernel_rfl⟩
instance : TU Try.prog 210 (.tuple #[92, 3]) := ⟨by kernel_rfl⟩
instance : TI Try.prog 210 (.tuple #[.int .u64 0, .int .i64 0]) 1 0 := ⟨by kernel_rfl⟩
instance : TG Try.prog 210 false 1 := ⟨by kernel_rfl, by kernel_rfl⟩
instance : TU Try.prog 220 (.tuple #[22, 22, 3]) := ⟨by kernel_rfl⟩
instance : TI Try.prog 220 (.tuple #[.slice none 0 0, .slice none 0 0, .int .i64 0]) 1 0 := ⟨by kernel_rfl⟩
instance : TG Try.prog 220 false 1 := ⟨by kernel_rfl, by kernel_rfl⟩
instance : TU Try.prog 222 (.slice 224) := ⟨by kernel_rfl⟩
instance : TI Try.prog 222 (.slice none 0 0) 1 24 := ⟨by kernel_rfl⟩
instance : TG Try.prog 222 false 1 := ⟨by kernel_rfl, by kernel_rfl⟩
instance : TU Try.prog 224 (.pointer 3) := ⟨by kernel_rfl⟩
instance : TI Try.prog 224 (.pointer none) 1 8 := ⟨by kernel_rfl⟩
instance : TG Try.prog 224 false 1 := ⟨by kernel_rfl, by kernel_rfl⟩
instance : TU Try.prog 234 (.tuple #[80, 4]) := ⟨by kernel_rfl⟩
instance : TI Try.prog 234 (.tuple #[.agg #[.int .i64 0, .int .i64 0, .int .i64 0, .int .i64 0], .bool false]) 1 0 := ⟨by kernel_rfl⟩
instance : TG Try.prog 234 false 1 := ⟨by kernel_rfl, by kernel_rfl⟩
instance : TU Try.prog 238 (.map 9 3) := ⟨by kernel_rfl⟩
instance : TI Try.prog 238 (.map none) 1 8 := ⟨by kernel_rfl⟩
instance : TG Try.prog 238 false 1 := ⟨by kernel_rfl, by kernel_rfl⟩
instance : TU Try.prog 239 (.pointer 130) := ⟨by kernel_rfl⟩
instance : TI Try.prog 239 (.pointer none) 1 8 := ⟨by kernel_rfl⟩
instance : TG Try.prog 239 false 1 := ⟨by kernel_rfl, by kernel_rfl⟩
instance : TU Try.prog 243 (.slice 246) := ⟨by kernel_rfl⟩
instance : TI Try.prog 243 (.slice none 0 0) 1 24 := ⟨by kernel_rfl⟩
instance : TG Try.prog 243 false 1 := ⟨by kernel_rfl, by kernel_rfl⟩
instance : TU Try.prog 245 (.struct fs245) := ⟨by kernel_rfl⟩
instance : TI Try.prog 245 (.agg #[.int .i64 0, .int .i64 0]) 2 16 := ⟨by kernel_rfl⟩
instance : TG Try.prog 245 true 2 := ⟨by kernel_rfl, by kernel_rfl⟩
instance : TB Try.prog 245 [.v (.int .i64 0), .v (.int .i64 0)] [(0, 1), (1, 1)] := tb_of (fs := fs245) (zs := [.int .i64 0, .int .i64 0]) (by kernel_rfl) (by kernel_rfl) (by kernel_rfl) rfl (by kernel_rfl)
instance : TF Try.prog 245 0 0 1 false := ⟨⟨fs245, _, by kernel_rfl, rfl, rfl, by kernel_rfl, by decide, by kernel_rfl⟩⟩
instance : TF Try.prog 245 1 1 1 false := ⟨⟨fs245, _, by kernel_rfl, rfl, rfl, by kernel_rfl, by decide, by kernel_rfl⟩⟩
instance : TU Try.prog 246 (.struct fs245) := ⟨by kernel_rfl⟩
instance : TI Try.prog 246 (.agg #[.int .i64 0, .int .i64 0]) 2 16 := ⟨by kernel_rfl⟩
instance : TG Try.prog 246 true 2 := ⟨by kernel_rfl, by kernel_rfl⟩
instance : TB Try.prog 246 [.v (.int .i64 0), .v (.int .i64 0)] [(0, 1), (1, 1)] := tb_of (fs := fs245) (zs := [.int .i64 0, .int .i64 0]) (by kernel_rfl) (by kernel_rfl) (by kernel_rfl) rfl (by kernel_rfl)
instance : TF Try.prog 246 0 0 1 false := ⟨⟨fs245, _, by kernel_rfl, rfl, rfl, by kernel_rfl, by decide, by kernel_rfl⟩⟩
instance : TF Try.prog 246 1 1 1 false := ⟨⟨fs245, _, by kernel_rfl, rfl, rfl, by kernel_rfl, by decide, by kernel_rfl⟩⟩
instance : TU Try.prog 249 (.pointer 165) := ⟨by kernel_rfl⟩
instance : TI Try.prog 249 (.pointer none) 1 8 := ⟨by kernel_rfl⟩
instance : TG Try.prog 249 false 1 := ⟨by kernel_rfl, by kernel_rfl⟩
instance : TU Try.prog 250 (.struct fs250) := ⟨by kernel_rfl⟩
instance : TI Try.prog 250 (.agg #[.int .u64 0, .int .i64 0]) 2 16 := ⟨by kernel_rfl⟩
instance : TG Try.prog 250 true 2 := ⟨by kernel_rfl, by kernel_rfl⟩
instance : TB Try.prog 250 [.v (.int .u64 0), .v (.int .i64 0)] [(0, 1), (1, 1)] := tb_of (fs := fs250) (zs := [.int .u64 0, .int .i64 0]) (by kernel_rfl) (by kernel_rfl) (by kernel_rfl) rfl (by kernel_rfl)
instance : TF Try.prog 250 0 0 1 false := ⟨⟨fs250, _, by kernel_rfl, rfl, rfl, by kernel_rfl, by decide, by kernel_rfl⟩⟩
instance : TF Try.prog 250 1 1 1 false := ⟨⟨fs250, _, by kernel_rfl, rfl, rfl, by kernel_rfl, by decide, by kernel_rfl⟩⟩
instance : TU Try.prog 251 (.slice 250) := ⟨by kernel_rfl⟩
instance : TI Try.prog 251 (.slice none 0 0) 1 24 := ⟨by kernel_rfl⟩
instance : TG Try.prog 251 false 1 := ⟨by kernel_rfl, by kernel_rfl⟩
instance : TU Try.prog 255 (.int .u64) := ⟨by kernel_rfl⟩
instance : TI Try.prog 255 (.int .u64 0) 1 8 := ⟨by kernel_rfl⟩
instance : TG Try.prog 255 false 1 := ⟨by kernel_rfl, by kernel_rfl⟩
instance : TU Try.prog 261 (.struct fs261) := ⟨by kernel_rfl⟩
instance : TI Try.prog 261 (.agg #[.pointer none, .pointer none, .pointer none, .string { data := #[] }]) 4 40 := ⟨by kernel_rfl⟩
instance : TG Try.prog 261 true 4 := ⟨by kernel_rfl, by kernel_rfl⟩
instance : TB Try.prog 261 [.v (.pointer none), .v (.pointer none), .v (.pointer none), .v (.string { data := #[] })] [(0, 1), (1, 1), (2, 1), (3, 1)] := tb_of (fs := fs261) (zs := [.pointer none, .pointer none, .pointer none, .string { data := #[] }]) (by kernel_rfl) (by kernel_rfl) (by kernel_rfl) rfl (by kernel_rfl)
instance : TF Try.prog 261 0 0 1 false := ⟨⟨fs261, _, by kernel_rfl, rfl, rfl, by kernel_rfl, by decide, by kernel_rfl⟩⟩
instance : TF Try.prog 261 1 1 1 false := ⟨⟨fs261, _, by kernel_rfl, rfl, rfl, by kernel_rfl, by decide, by kernel_rfl⟩⟩
instance : TF Try.prog 261 2 2 1 false := ⟨⟨fs261, _, by kernel_rfl, rfl, rfl, by kernel_rfl, by decide, by kernel_rfl⟩⟩
instance : TF Try.prog 261 3 3 1 false := ⟨⟨fs261, _, by kernel_rfl, rfl, rfl, by kernel_rfl, by decide, by kernel_rfl⟩⟩
instance : TU Try.prog 262 (.struct fs261) := ⟨by kernel_rfl⟩
instance : TI Try.prog 262 (.agg #[.pointer none, .pointer none, .pointer none, .string { data := #[] }]) 4 40 := ⟨by kernel_rfl⟩
instance : TG Try.prog 262 true 4 := ⟨by kernel_rfl, by kernel_rfl⟩
instance : TB Try.prog 262 [.v (.pointer none), .v (.pointer none), .v (.pointer none), .v (.string { data := #[] })] [(0, 1), (1, 1), (2, 1), (3, 1)] := tb_of (fs := fs261) (zs := [.pointer none, .pointer none, .pointer none, .string { data := #[] }]) (by kernel_rfl) (by kernel_rfl) (by kernel_rfl) rfl (by kernel_rfl)
instance : TF Try.prog 262 0 0 1 false := ⟨⟨fs261, _, by kernel_rfl, rfl, rfl, by kernel_rfl, by decide, by kernel_rfl⟩⟩
instance : TF Try.prog 262 1 1 1 false := ⟨⟨fs261, _, by kernel_rfl, rfl, rfl, by kernel_rfl, by decide, by kernel_rfl⟩⟩
instance : TF Try.prog 262 2 2 1 false := ⟨⟨fs261, _, by kernel_rfl, rfl, rfl, by kernel_rfl, by decide, by kernel_rfl⟩⟩
instance : TF Try.prog 262 3 3 1 false := ⟨⟨fs261, _, by kernel_rfl, rfl, rfl, by kernel_rfl, by decide, by kernel_rfl⟩⟩
instance : TU Try.prog 263 (.array 0 16) := ⟨by kernel_rfl⟩
instance : TI Try.prog 263 (.agg #[]) 0 0 := ⟨by kernel_rfl⟩
instance : TG Try.prog 263 true 0 := ⟨by kernel_rfl, by kernel_rfl⟩
instance : TU Try.prog 264 (.struct fs264) := ⟨by kernel_rfl⟩
instance : TI Try.prog 264 (.agg #[]) 0 0 := ⟨by kernel_rfl⟩
instance : TG Try.prog 264 true 0 := ⟨by kernel_rfl, by kernel_rfl⟩
instance : TB Try.prog 264 [] [(0, 0)] := tb_of (fs := fs264) (zs := []) (by kernel_rfl) (by kernel_rfl) (by kernel_rfl) rfl (by kernel_rfl)
instance : TU Try.prog 265 (.struct fs264) := ⟨by kernel_rfl⟩
instance : TI Try.prog 265 (.agg #[]) 0 0 := ⟨by kernel_rfl⟩
instance : TG Try.prog 265 true 0 := ⟨by kernel_rfl, by kernel_rfl⟩
instance : TB Try.prog 265 [] [(0, 0)] := tb_of (fs := fs264) (zs := []) (by kernel_rfl) (by kernel_rfl) (by kernel_rfl) rfl (by kernel_rfl)
instance : TU Try.prog 267 (.int .u32) := ⟨by kernel_rfl⟩
instance : TI Try.prog 267 (.int .u32 0) 1 4 := ⟨by kernel_rfl⟩
instance : TG Try.prog 267 false 1 := ⟨by kernel_rfl, by kernel_rfl⟩
instance : TU Try.prog 268 (.int .u8) := ⟨by kernel_rfl⟩
instance : TI Try.prog 268 (.int .u8 0) 1 1 := ⟨by kernel_rfl⟩
instance : TG Try.prog 268 false 1 := ⟨by kernel_rfl, by kernel_rfl⟩
instance : TU Try.prog 269 (.int .u8) := ⟨by kernel_rfl⟩
instance : TI Try.prog 269 (.int .u8 0) 1 1 := ⟨by kernel_rfl⟩
instance : TG Try.prog 269 false 1 := ⟨by kernel_rfl, by kernel_rfl⟩
instance : TU Try.prog 271 (.pointer 5) := ⟨by kernel_rfl⟩
instance : TI Try.prog 271 (.pointer none) 1 8 := ⟨by kernel_rfl⟩
instance : TG Try.prog 271 false 1 := ⟨by kernel_rfl, by kernel_rfl⟩
instance : TU Try.prog 272 (.int .i32) := ⟨by kernel_rfl⟩
instance : TI Try.prog 272 (.int .i32 0) 1 4 := ⟨by kernel_rfl⟩
instance : TG Try.prog 272 false 1 := ⟨by kernel_rfl, by kernel_rfl⟩
instance : TU Try.prog 273 (.int .i32) := ⟨by kernel_rfl⟩
instance : TI Try.prog 273 (.int .i32 0) 1 4 := ⟨by kernel_rfl⟩
instance : TG Try.prog 273 false 1 := ⟨by kernel_rfl, by kernel_rfl⟩
instance : TU Try.prog 274 (.struct fs274) := ⟨by kernel_rfl⟩
instance : TI Try.prog 274 (.agg #[.int .u64 0, .int .u64 0, .int .u32 0, .int .u8 0, .int .u8 0, .int .u8 0, .int .u8 0, .nilFunc, .pointer none, .int .i32 0, .int .i32 0]) 11 48 := ⟨by kernel_rfl⟩
instance : TG Try.prog 274 true 11 := ⟨by kernel_rfl, by kernel_rfl⟩
instance : TB Try.prog 274 [.v (.int .u64 0), .v (.int .u64 0), .v (.int .u32 0), .v (.int .u8 0), .v (.int .u8 0), .v (.int .u8 0), .v (.int .u8 0), .v (.nilFunc), .v (.pointer none), .v (.int .i32 0), .v (.int .i32 0)] [(0, 1), (1, 1), (2, 1), (3, 1), (4, 1), (5, 1), (6, 1), (7, 1), (8, 1), (9, 1), (10, 1)] := tb_of (fs := fs274) (zs := [.int .u64 0, .int .u64 0, .int .u32 0, .int .u8 0, .int .u8 0, .int .u8 0, .int .u8 0, .nilFunc, .pointer none, .int .i32 0, .int .i32 0]) (by kernel_rfl) (by kernel_rfl) (by kernel_rfl) rfl (by kernel_rfl)
instance : TF Try.prog 274 0 0 1 false := ⟨⟨fs274, _, by kernel_rfl, rfl, rfl, by kernel_rfl, by decide, by kernel_rfl⟩⟩
instance : TF Try.prog 274 1 1 1 false := ⟨⟨fs274, _, by kernel_rfl, rfl, rfl, by kernel_rfl, by decide, by kernel_rfl⟩⟩
instance : TF Try.prog 274 2 2 1 false := ⟨⟨fs274, _, by kernel_rfl, rfl, rfl, by kernel_rfl, by decide, by kernel_rfl⟩⟩
instance : TF Try.prog 274 3 3 1 false := ⟨⟨fs274, _, by kernel_rfl, rfl, rfl, by kernel_rfl, by decide, by kernel_rfl⟩⟩
instance : TF Try.prog 274 4 4 1 false := ⟨⟨fs274, _, by kernel_rfl, rfl, rfl, by kernel_rfl, by decide, by kernel_rfl⟩⟩
instance : TF Try.prog 274 5 5 1 false := ⟨⟨fs274, _, by kernel_rfl, rfl, rfl, by kernel_rfl, by decide, by kernel_rfl⟩⟩
instance : TF Try.prog 274 6 6 1 false := ⟨⟨fs274, _, by kernel_rfl, rfl, rfl, by kernel_rfl, by decide, by kernel_rfl⟩⟩
instance : TF Try.prog 274 7 7 1 false := ⟨⟨fs274, _, by kernel_rfl, rfl, rfl, by kernel_rfl, by decide, by kernel_rfl⟩⟩
instance : TF Try.prog 274 8 8 1 false := ⟨⟨fs274, _, by kernel_rfl, rfl, rfl, by kernel_rfl, by decide, by kernel_rfl⟩⟩
instance : TF Try.prog 274 9 9 1 false := ⟨⟨fs274, _, by kernel_rfl, rfl, rfl, by kernel_rfl, by decide, by kernel_rfl⟩⟩
instance : TF Try.prog 274 10 10 1 false := ⟨⟨fs274, _, by kernel_rfl, rfl, rfl, by kernel_rfl, by decide, by kernel_rfl⟩⟩
instance : TU Try.prog 275 (.struct fs274) := ⟨by kernel_rfl⟩
instance : TI Try.prog 275 (.agg #[.int .u64 0, .int .u64 0, .int .u32 0, .int .u8 0, .int .u8 0, .int .u8 0, .int .u8 0, .nilFunc, .pointer none, .int .i32 0, .int .i32 0]) 11 48 := ⟨by kernel_rfl⟩
instance : TG Try.prog 275 true 11 := ⟨by kernel_rfl, by kernel_rfl⟩
instance : TB Try.prog 275 [.v (.int .u64 0), .v (.int .u64 0), .v (.int .u32 0), .v (.int .u8 0), .v (.int .u8 0), .v (.int .u8 0), .v (.int .u8 0), .v (.nilFunc), .v (.pointer none), .v (.int .i32 0), .v (.int .i32 0)] [(0, 1), (1, 1), (2, 1), (3, 1), (4, 1), (5, 1), (6, 1), (7, 1), (8, 1), (9, 1), (10, 1)] := tb_of (fs := fs274) (zs := [.int .u64 0, .int .u64 0, .int .u32 0, .int .u8 0, .int .u8 0, .int .u8 0, .int .u8 0, .nilFunc, .pointer none, .int .i32 0, .int .i32 0]) (by kernel_rfl) (by kernel_rfl) (by kernel_rfl) rfl (by kernel_rfl)
instance : TF Try.prog 275 0 0 1 false := ⟨⟨fs274, _, by kernel_rfl, rfl, rfl, by kernel_rfl, by decide, by kernel_rfl⟩⟩
instance : TF Try.prog 275 1 1 1 false := ⟨⟨fs274, _, by kernel_rfl, rfl, rfl, by kernel_rfl, by decide, by kernel_rfl⟩⟩
instance : TF Try.prog 275 2 2 1 false := ⟨⟨fs274, _, by kernel_rfl, rfl, rfl, by kernel_rfl, by decide, by kernel_rfl⟩⟩
instance : TF Try.prog 275 3 3 1 false := ⟨⟨fs274, _, by kernel_rfl, rfl, rfl, by kernel_rfl, by decide, by kernel_rfl⟩⟩
instance : TF Try.prog 275 4 4 1 false := ⟨⟨fs274, _, by kernel_rfl, rfl, rfl, by kernel_rfl, by decide, by kernel_rfl⟩⟩
instance : TF Try.prog 275 5 5 1 false := ⟨⟨fs274, _, by kernel_rfl, rfl, rfl, by kernel_rfl, by decide, by kernel_rfl⟩⟩
instance : TF Try.prog 275 6 6 1 false := ⟨⟨fs274, _, by kernel_rfl, rfl, rfl, by kernel_rfl, by decide, by kernel_rfl⟩⟩
instance : TF Try.prog 275 7 7 1 false := ⟨⟨fs274, _, by kernel_rfl, rfl, rfl, by kernel_rfl, by decide, by kernel_rfl⟩⟩
instance : TF Try.prog 275 8 8 1 false := ⟨⟨fs274, _, by kernel_rfl, rfl, rfl, by kernel_rfl, by decide, by kernel_rfl⟩⟩
instance : TF Try.prog 275 9 9 1 false := ⟨⟨fs274, _, by kernel_rfl, rfl, rfl, by kernel_rfl, by decide, by kernel_rfl⟩⟩
instance : TF Try.prog 275 10 10 1 false := ⟨⟨fs274, _, by kernel_rfl, rfl, rfl, by kernel_rfl, by decide, by kernel_rfl⟩⟩
instance : TU Try.prog 276 .unsafePointer := ⟨by kernel_rfl⟩
instance : TI Try.prog 276 (.pointer none) 1 8 := ⟨by kernel_rfl⟩
instance : TG Try.prog 276 false 1 := ⟨by kernel_rfl, by kernel_rfl⟩

end Go.Proofs.Ytlapfdfbgckfcaa.AL
