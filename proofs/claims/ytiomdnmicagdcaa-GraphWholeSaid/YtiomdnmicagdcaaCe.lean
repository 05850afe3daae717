/- A part of the proof: rules of an own logic over blocks, and what functions of the program compute, each by its own contract; the conditions stand with each. -/
import Derived.Test.YtiomdnmicagdcaaCc
import Derived.Test.YtiomdnmicagdcaaCd
import Derived.Test.YtiomdnmicagdcaaProg
import Derived.KernelRfl
namespace Go.Proofs.Ytiomdnmicagdcaa.AL
open Go Go.RowKit
set_option linter.unusedVariables false
def fs27 : Array Field := #[{ name := "Nodes", type := 25, offset := 0, embedded := false, tag := "", pkgPath := "", byteOffset := 0 }, { name := "To", type := 3, offset := 1, embedded := false, tag := "", pkgPath := "", byteOffset := 24 }, { name := "At", type := 3, offset := 2, embedded := false, tag := "", pkgPath := "", byteOffset := 32 }, { name := "Names", type := 26, offset := 3, embedded := false, tag := "", pkgPath := "", byteOffset := 40 }]
def fs35 : Array Field := #[{ name := "Obj", type := 3, offset := 0, embedded := false, tag := "", pkgPath := "", byteOffset := 0 }, { name := "Sec", type := 3, offset := 1, embedded := false, tag := "", pkgPath := "", byteOffset := 8 }, { name := "Pos", type := 3, offset := 2, embedded := false, tag := "", pkgPath := "", byteOffset := 16 }, { name := "Name", type := 9, offset := 3, embedded := false, tag := "", pkgPath := "", byteOffset := 24 }, { name := "Type", type := 3, offset := 4, embedded := false, tag := "", pkgPath := "", byteOffset := 40 }, { name := "Flags", type := 3, offset := 5, embedded := false, tag := "", pkgPath := "", byteOffset := 48 }, { name := "Align", type := 3, offset := 6, embedded := false, tag := "", pkgPath := "", byteOffset := 56 }, { name := "Ent", type := 3, offset := 7, embedded := false, tag := "", pkgPath := "", byteOffset := 64 }, { name := "Size", type := 3, offset := 8, embedded := false, tag := "", pkgPath := "", byteOffset := 72 }, { name := "Data", type := 33, offset := 9, embedded := false, tag := "", pkgPath := "", byteOffset := 80 }, { name := "Edges", type := 34, offset := 10, embedded := false, tag := "", pkgPath := "", byteOffset := 104 }, { name := "Unique", type := 4, offset := 11, embedded := false, tag := "", pkgPath := "", byteOffset := 128 }, { name := "Group", type := 3, offset := 12, embedded := false, tag := "", pkgPath := "", byteOffset := 136 }, { name := "Link", type := 3, offset := 13, embedded := false, tag := "", pkgPath := "", byteOffset := 144 }]
def fs41 : Array Field := #[{ name := "Secs", type := 37, offset := 0, embedded := false, tag := "", pkgPath := "", byteOffset := 0 }, { name := "Syms", type := 38, offset := 1, embedded := false, tag := "", pkgPath := "", byteOffset := 24 }, { name := "Groups", type := 39, offset := 2, embedded := false, tag := "", pkgPath := "", byteOffset := 48 }, { name := "HasSig", type := 4, offset := 3, embedded := false, tag := "", pkgPath := "", byteOffset := 72 }, { name := "Sig", type := 40, offset := 4, embedded := false, tag := "", pkgPath := "", byteOffset := 80 }]
def fs44 : Array Field := #[{ name := "Name", type := 9, offset := 0, embedded := false, tag := "", pkgPath := "", byteOffset := 0 }, { name := "Type", type := 3, offset := 1, embedded := false, tag := "", pkgPath := "", byteOffset := 16 }, { name := "Flags", type := 3, offset := 2, embedded := false, tag := "", pkgPath := "", byteOffset := 24 }, { name := "Align", type := 3, offset := 3, embedded := false, tag := "", pkgPath := "", byteOffset := 32 }, { name := "Ent", type := 3, offset := 4, embedded := false, tag := "", pkgPath := "", byteOffset := 40 }, { name := "Link", type := 3, offset := 5, embedded := false, tag := "", pkgPath := "", byteOffset := 48 }, { name := "Size", type := 3, offset := 6, embedded := false, tag := "", pkgPath := "", byteOffset := 56 }, { name := "Data", type := 33, offset := 7, embedded := false, tag := "", pkgPath := "", byteOffset := 64 }, { name := "Rels", type := 43, offset := 8, embedded := false, tag := "", pkgPath := "", byteOffset := 88 }]
@[reducible] def fl47 : List Field := [⟨"Off", 3, 0, false, "", "", 0⟩, ⟨"Type", 3, 1, false, "", "", 8⟩, ⟨"Add", 3, 2, false, "", "", 16⟩, ⟨"To", 3, 3, false, "", "", 24⟩, ⟨"At", 3, 4, false, "", "", 32⟩]
def fs47 : Array Field := #[{ name := "Off", type := 3, offset := 0, embedded := false, tag := "", pkgPath := "", byteOffset := 0 }, { name := "Type", type := 3, offset := 1, embedded := false, tag := "", pkgPath := "", byteOffset := 8 }, { name := "Add", type := 3, offset := 2, embedded := false, tag := "", pkgPath := "", byteOffset := 16 }, { name := "To", type := 3, offset := 3, embedded := false, tag := "", pkgPath := "", byteOffset := 24 }, { name := "At", type := 3, offset := 4, embedded := false, tag := "", pkgPath := "", byteOffset := 32 }]
def fs49 : Array Field := #[{ name := "Off", type := 3, offset := 0, embedded := false, tag := "", pkgPath := "", byteOffset := 0 }, { name := "Type", type := 3, offset := 1, embedded := false, tag := "", pkgPath := "", byteOffset := 8 }, { name := "Sym", type := 3, offset := 2, embedded := false, tag := "", pkgPath := "", byteOffset := 16 }, { name := "Add", type := 3, offset := 3, embedded := false, tag := "", pkgPath := "", byteOffset := 24 }]
def fs51 : Array Field := #[{ name := "Name", type := 9, offset := 0, embedded := false, tag := "", pkgPath := "", byteOffset := 0 }, { name := "To", type := 3, offset := 1, embedded := false, tag := "", pkgPath := "", byteOffset := 16 }, { name := "At", type := 3, offset := 2, embedded := false, tag := "", pkgPath := "", byteOffset := 24 }]
@[reducible] def fl55 : List Field := [⟨"Name", 9, 0, false, "", "", 0⟩, ⟨"Bind", 3, 1, false, "", "", 16⟩, ⟨"Type", 3, 2, false, "", "", 24⟩, ⟨"Sec", 3, 3, false, "", "", 32⟩, ⟨"Value", 3, 4, false, "", "", 40⟩, ⟨"Size", 3, 5, false, "", "", 48⟩]
def fs55 : Array Field := #[{ name := "Name", type := 9, offset := 0, embedded := false, tag := "", pkgPath := "", byteOffset := 0 }, { name := "Bind", type := 3, offset := 1, embedded := false, tag := "", pkgPath := "", byteOffset := 16 }, { name := "Type", type := 3, offset := 2, embedded := false, tag := "", pkgPath := "", byteOffset := 24 }, { name := "Sec", type := 3, offset := 3, embedded := false, tag := "", pkgPath := "", byteOffset := 32 }, { name := "Value", type := 3, offset := 4, embedded := false, tag := "", pkgPath := "", byteOffset := 40 }, { name := "Size", type := 3, offset := 5, embedded := false, tag := "", pkgPath := "", byteOffset := 48 }]
def fs61 : Array Field := #[{ name := "Dropped", type := 59, offset := 0, embedded := false, tag := "", pkgPath := "", byteOffset := 0 }, { name := "Defs", type := 60, offset := 1, embedded := false, tag := "", pkgPath := "", byteOffset := 24 }]
def fs68 : Array Field := #[{ name := "l", type := 22, offset := 0, embedded := false, tag := "", pkgPath := "fishplate/graph", byteOffset := 0 }, { name := "table", type := 62, offset := 1, embedded := false, tag := "", pkgPath := "fishplate/graph", byteOffset := 24 }, { name := "nodes", type := 25, offset := 3, embedded := false, tag := "", pkgPath := "fishplate/graph", byteOffset := 72 }, { name := "pieces", type := 66, offset := 4, embedded := false, tag := "", pkgPath := "fishplate/graph", byteOffset := 96 }, { name := "begin", type := 67, offset := 5, embedded := false, tag := "", pkgPath := "fishplate/graph", byteOffset := 104 }, { name := "unique", type := 67, offset := 6, embedded := false, tag := "", pkgPath := "fishplate/graph", byteOffset := 112 }]
def fs73 : Array Field := #[{ name := "Sym", type := 3, offset := 0, embedded := false, tag := "", pkgPath := "", byteOffset := 0 }, { name := "Members", type := 40, offset := 1, embedded := false, tag := "", pkgPath := "", byteOffset := 8 }]
def fs81 : Array Field := #[{ name := "Name", type := 9, offset := 0, embedded := false, tag := "", pkgPath := "", byteOffset := 0 }, { name := "Obj", type := 3, offset := 1, embedded := false, tag := "", pkgPath := "", byteOffset := 16 }, { name := "Sym", type := 3, offset := 2, embedded := false, tag := "", pkgPath := "", byteOffset := 24 }]
def fs87 : Array Field := #[{ name := "obj", type := 3, offset := 0, embedded := false, tag := "", pkgPath := "fishplate/graph", byteOffset := 0 }, { name := "sec", type := 3, offset := 1, embedded := false, tag := "", pkgPath := "fishplate/graph", byteOffset := 8 }]
def fs89 : Array Field := #[{ name := "Obj", type := 3, offset := 0, embedded := false, tag := "", pkgPath := "", byteOffset := 0 }, { name := "Sec", type := 3, offset := 1, embedded := false, tag := "", pkgPath := "", byteOffset := 8 }, { name := "At", type := 3, offset := 2, embedded := false, tag := "", pkgPath := "", byteOffset := 16 }]
def fs105 : Array Field := #[{ name := "At", type := 3, offset := 0, embedded := false, tag := "", pkgPath := "", byteOffset := 0 }, { name := "Size", type := 3, offset := 1, embedded := false, tag := "", pkgPath := "", byteOffset := 8 }]
def fs114 : Array Field := #[{ name := "Name", type := 3, offset := 0, embedded := false, tag := "", pkgPath := "", byteOffset := 0 }, { name := "Type", type := 3, offset := 1, embedded := false, tag := "", pkgPath := "", byteOffset := 8 }, { name := "Flags", type := 3, offset := 2, embedded := false, tag := "", pkgPath := "", byteOffset := 16 }, { name := "Addr", type := 3, offset := 3, embedded := false, tag := "", pkgPath := "", byteOffset := 24 }, { name := "Off", type := 3, offset := 4, embedded := false, tag := "", pkgPath := "", byteOffset := 32 }, { name := "Size", type := 3, offset := 5, embedded := false, tag := "", pkgPath := "", byteOffset := 40 }, { name := "Link", type := 3, offset := 6, embedded := false, tag := "", pkgPath := "", byteOffset := 48 }, { name := "Info", type := 3, offset := 7, embedded := false, tag := "", pkgPath := "", byteOffset := 56 }, { name := "Align", type := 3, offset := 8, embedded := false, tag := "", pkgPath := "", byteOffset := 64 }, { name := "Ent", type := 3, offset := 9, embedded := false, tag := "", pkgPath := "", byteOffset := 72 }]
def fs116 : Array Field := #[{ name := "h", type := 115, offset := 0, embedded := false, tag := "", pkgPath := "fishplate/obj", byteOffset := 0 }, { name := "name", type := 9, offset := 10, embedded := false, tag := "", pkgPath := "fishplate/obj", byteOffset := 80 }, { name := "b", type := 33, offset := 11, embedded := false, tag := "", pkgPath := "fishplate/obj", byteOffset := 96 }]
def fs120 : Array Field := #[{ name := "At", type := 3, offset := 0, embedded := false, tag := "", pkgPath := "", byteOffset := 0 }, { name := "Many", type := 3, offset := 1, embedded := false, tag := "", pkgPath := "", byteOffset := 8 }, { name := "Names", type := 3, offset := 2, embedded := false, tag := "", pkgPath := "", byteOffset := 16 }]
def fs151 : Array Field := #[{ name := "Name", type := 3, offset := 0, embedded := false, tag := "", pkgPath := "", byteOffset := 0 }, { name := "Bind", type := 3, offset := 1, embedded := false, tag := "", pkgPath := "", byteOffset := 8 }, { name := "Type", type := 3, offset := 2, embedded := false, tag := "", pkgPath := "", byteOffset := 16 }, { name := "Index", type := 3, offset := 3, embedded := false, tag := "", pkgPath := "", byteOffset := 24 }, { name := "Value", type := 3, offset := 4, embedded := false, tag := "", pkgPath := "", byteOffset := 32 }, { name := "Size", type := 3, offset := 5, embedded := false, tag := "", pkgPath := "", byteOffset := 40 }]
def fs154 : Array Field := #[{ name := "v", type := 142, offset := 0, embedded := false, tag := "", pkgPath := "fishplate/ehdr", byteOffset := 0 }, { name := "n", type := 3, offset := 1, embedded := false, tag := "", pkgPath := "fishplate/ehdr", byteOffset := 8 }]
instance : TU Try.prog 3 (.int .i64) := ⟨by kernel_rfl⟩
instance : TI Try.prog 3 (.int .i64 0) 1 8 := ⟨by kernel_rfl⟩
instance : TG Try.prog 3 false 1 := ⟨by kernel_rfl, by kernel_rfl⟩
instance : TU Try.prog 4 .bool := ⟨by kernel_rfl⟩
instance : TI Try.prog 4 (.bool false) 1 1 := ⟨by kernel_rfl⟩
instance : TG Try.prog 4 false 1 := ⟨by kernel_rfl, by kernel_rfl⟩
instance : TU Try.prog 5 (.int .u8) := ⟨by kernel_rfl⟩
instance : TI Try.prog 5 (.int .u8 0) 1 1 := ⟨by kernel_rfl⟩
instance : TG Try.prog 5 false 1 := ⟨by kernel_rfl, by kernel_rfl⟩
instance : TU Try.prog 9 .string := ⟨by kernel_rfl⟩
instance : TI Try.prog 9 (.string { data := #[] }) 1 16 := ⟨by kernel_rfl⟩
instance : TG Try.prog 9 false 1 := ⟨by kernel_rfl, by kernel_rfl⟩
instance : TU Try.prog 22 (.slice 42) := ⟨by kernel_rfl⟩
instance : TG Try.prog 22 false 1 := ⟨by kernel_rfl, by kernel_rfl⟩
instance : TU Try.prog 25 (.slice 36) := ⟨by kernel_rfl⟩
instance : TG Try.prog 25 false 1 := ⟨by kernel_rfl, by kernel_rfl⟩
instance : TU Try.prog 26 (.slice 52) := ⟨by kernel_rfl⟩
instance : TG Try.prog 26 false 1 := ⟨by kernel_rfl, by kernel_rfl⟩
instance : TI Try.prog 28 (.agg #[.slice none 0 0, .int .i64 0, .int .i64 0, .slice none 0 0]) 4 64 := ⟨by kernel_rfl⟩
instance : TG Try.prog 28 true 4 := ⟨by kernel_rfl, by kernel_rfl⟩
instance : TB Try.prog 28 [.v (.slice none 0 0), .v (.int .i64 0), .v (.int .i64 0), .v (.slice none 0 0)] [(0, 1), (1, 1), (2, 1), (3, 1)] := tb_of (fs := fs27) (zs := [.slice none 0 0, .int .i64 0, .int .i64 0, .slice none 0 0]) (by kernel_rfl) (by kernel_rfl) (by kernel_rfl) rfl (by kernel_rfl)
instance : TF Try.prog 28 0 0 1 false := ⟨⟨fs27, _, by kernel_rfl, rfl, rfl, by kernel_rfl, by decide, by kernel_rfl⟩⟩
instance : TF Try.prog 28 1 1 1 false := ⟨⟨fs27, _, by kernel_rfl, rfl, rfl, by kernel_rfl, by decide, by kernel_rfl⟩⟩
instance : TF Try.prog 28 2 2 1 false := ⟨⟨fs27, _, by kernel_rfl, rfl, rfl, by kernel_rfl, by decide, by kernel_rfl⟩⟩
instance : TF Try.prog 28 3 3 1 false := ⟨⟨fs27, _, by kernel_rfl, rfl, rfl, by kernel_rfl, by decide, by kernel_rfl⟩⟩
instance : TU Try.prog 33 (.slice 5) := ⟨by kernel_rfl⟩
instance : TG Try.prog 33 false 1 := ⟨by kernel_rfl, by kernel_rfl⟩
instance : TU Try.prog 34 (.slice 48) := ⟨by kernel_rfl⟩
instance : TG Try.prog 34 false 1 := ⟨by kernel_rfl, by kernel_rfl⟩
instance : TI Try.prog 36 (.agg #[.int .i64 0, .int .i64 0, .int .i64 0, .string { data := #[] }, .int .i64 0, .int .i64 0, .int .i64 0, .int .i64 0, .int .i64 0, .slice none 0 0, .slice none 0 0, .bool false, .int .i64 0, .int .i64 0]) 14 152 := ⟨by kernel_rfl⟩
instance : TG Try.prog 36 true 14 := ⟨by kernel_rfl, by kernel_rfl⟩
instance : TB Try.prog 36 [.v (.int .i64 0), .v (.int .i64 0), .v (.int .i64 0), .v (.string { data := #[] }), .v (.int .i64 0), .v (.int .i64 0), .v (.int .i64 0), .v (.int .i64 0), .v (.int .i64 0), .v (.slice none 0 0), .v (.slice none 0 0), .v (.bool false), .v (.int .i64 0), .v (.int .i64 0)] [(0, 1), (1, 1), (2, 1), (3, 1), (4, 1), (5, 1), (6, 1), (7, 1), (8, 1), (9, 1), (10, 1), (11, 1), (12, 1), (13, 1)] := tb_of (fs := fs35) (zs := [.int .i64 0, .int .i64 0, .int .i64 0, .string { data := #[] }, .int .i64 0, .int .i64 0, .int .i64 0, .int .i64 0, .int .i64 0, .slice none 0 0, .slice none 0 0, .bool false, .int .i64 0, .int .i64 0]) (by kernel_rfl) (by kernel_rfl) (by kernel_rfl) rfl (by kernel_rfl)
instance : TF Try.prog 36 0 0 1 false := ⟨⟨fs35, _, by kernel_rfl, rfl, rfl, by kernel_rfl, by decide, by kernel_rfl⟩⟩
instance : TF Try.prog 36 1 1 1 false := ⟨⟨fs35, _, by kernel_rfl, rfl, rfl, by kernel_rfl, by decide, by kernel_rfl⟩⟩
instance : TF Try.prog 36 2 2 1 false := ⟨⟨fs35, _, by kernel_rfl, rfl, rfl, by kernel_rfl, by decide, by kernel_rfl⟩⟩
instance : TF Try.prog 36 3 3 1 false := ⟨⟨fs35, _, by kernel_rfl, rfl, rfl, by kernel_rfl, by decide, by kernel_rfl⟩⟩
instance : TF Try.prog 36 5 5 1 false := ⟨⟨fs35, _, by kernel_rfl, rfl, rfl, by kernel_rfl, by decide, by kernel_rfl⟩⟩
instance : TF Try.prog 36 8 8 1 false := ⟨⟨fs35, _, by kernel_rfl, rfl, rfl, by kernel_rfl, by decide, by kernel_rfl⟩⟩
instance : TF Try.prog 36 9 9 1 false := ⟨⟨fs35, _, by kernel_rfl, rfl, rfl, by kernel_rfl, by decide, by kernel_rfl⟩⟩
instance : TF Try.prog 36 10 10 1 false := ⟨⟨fs35, _, by kernel_rfl, rfl, rfl, by kernel_rfl, by decide, by kernel_rfl⟩⟩
instance : TF Try.prog 36 11 11 1 false := ⟨⟨fs35, _, by kernel_rfl, rfl, rfl, by kernel_rfl, by decide, by kernel_rfl⟩⟩
instance : TU Try.prog 37 (.slice 45) := ⟨by kernel_rfl⟩
instance : TG Try.prog 37 false 1 := ⟨by kernel_rfl, by kernel_rfl⟩
instance : TU Try.prog 38 (.slice 56) := ⟨by kernel_rfl⟩
instance : TG Try.prog 38 false 1 := ⟨by kernel_rfl, by kernel_rfl⟩
instance : TU Try.prog 39 (.slice 74) := ⟨by kernel_rfl⟩
instance : TG Try.prog 39 false 1 := ⟨by kernel_rfl, by kernel_rfl⟩
instance : TU Try.prog 40 (.slice 3) := ⟨by kernel_rfl⟩
instance : TG Try.prog 40 false 1 := ⟨by kernel_rfl, by kernel_rfl⟩
instance : TU Try.prog 42 (.struct fs41) := ⟨by kernel_rfl⟩
instance : TI Try.prog 42 (.agg #[.slice none 0 0, .slice none 0 0, .slice none 0 0, .bool false, .slice none 0 0]) 5 104 := ⟨by kernel_rfl⟩
instance : TG Try.prog 42 true 5 := ⟨by kernel_rfl, by kernel_rfl⟩
instance : TB Try.prog 42 [.v (.slice none 0 0), .v (.slice none 0 0), .v (.slice none 0 0), .v (.bool false), .v (.slice none 0 0)] [(0, 1), (1, 1), (2, 1), (3, 1), (4, 1)] := tb_of (fs := fs41) (zs := [.slice none 0 0, .slice none 0 0, .slice none 0 0, .bool false, .slice none 0 0]) (by kernel_rfl) (by kernel_rfl) (by kernel_rfl) rfl (by kernel_rfl)
instance : TF Try.prog 42 0 0 1 false := ⟨⟨fs41, _, by kernel_rfl, rfl, rfl, by kernel_rfl, by decide, by kernel_rfl⟩⟩
instance : TF Try.prog 42 1 1 1 false := ⟨⟨fs41, _, by kernel_rfl, rfl, rfl, by kernel_rfl, by decide, by kernel_rfl⟩⟩
instance : TF Try.prog 42 2 2 1 false := ⟨⟨fs41, _, by kernel_rfl, rfl, rfl, by kernel_rfl, by decide, by kernel_rfl⟩⟩
instance : TF Try.prog 42 3 3 1 false := ⟨⟨fs41, _, by kernel_rfl, rfl, rfl, by kernel_rfl, by decide, by kernel_rfl⟩⟩
instance : TF Try.prog 42 4 4 1 false := ⟨⟨fs41, _, by kernel_rfl, rfl, rfl, by kernel_rfl, by decide, by kernel_rfl⟩⟩
instance : TU Try.prog 43 (.slice 50) := ⟨by kernel_rfl⟩
instance : TG Try.prog 43 false 1 := ⟨by kernel_rfl, by kernel_rfl⟩
instance : TU Try.prog 45 (.struct fs44) := ⟨by kernel_rfl⟩
instance : TI Try.prog 45 (.agg #[.string { data := #[] }, .int .i64 0, .int .i64 0, .int .i64 0, .int .i64 0, .int .i64 0, .int .i64 0, .slice none 0 0, .slice none 0 0]) 9 112 := ⟨by kernel_rfl⟩
instance : TG Try.prog 45 true 9 := ⟨by kernel_rfl, by kernel_rfl⟩
instance : TB Try.prog 45 [.v (.string { data := #[] }), .v (.int .i64 0), .v (.int .i64 0), .v (.int .i64 0), .v (.int .i64 0), .v (.int .i64 0), .v (.int .i64 0), .v (.slice none 0 0), .v (.slice none 0 0)] [(0, 1), (1, 1), (2, 1), (3, 1), (4, 1), (5, 1), (6, 1), (7, 1), (8, 1)] := tb_of (fs := fs44) (zs := [.string { data := #[] }, .int .i64 0, .int .i64 0, .int .i64 0, .int .i64 0, .int .i64 0, .int .i64 0, .slice none 0 0, .slice none 0 0]) (by kernel_rfl) (by kernel_rfl) (by kernel_rfl) rfl (by kernel_rfl)
instance : TF Try.prog 45 0 0 1 false := ⟨⟨fs44, _, by kernel_rfl, rfl, rfl, by kernel_rfl, by decide, by kernel_rfl⟩⟩
instance : TF Try.prog 45 1 1 1 false := ⟨⟨fs44, _, by kernel_rfl, rfl, rfl, by kernel_rfl, by decide, by kernel_rfl⟩⟩
instance : TF Try.prog 45 2 2 1 false := ⟨⟨fs44, _, by kernel_rfl, rfl, rfl, by kernel_rfl, by decide, by kernel_rfl⟩⟩
instance : TF Try.prog 45 3 3 1 false := ⟨⟨fs44, _, by kernel_rfl, rfl, rfl, by kernel_rfl, by decide, by kernel_rfl⟩⟩
instance : TF Try.prog 45 4 4 1 false := ⟨⟨fs44, _, by kernel_rfl, rfl, rfl, by kernel_rfl, by decide, by kernel_rfl⟩⟩
instance : TF Try.prog 45 5 5 1 false := ⟨⟨fs44, _, by kernel_rfl, rfl, rfl, by kernel_rfl, by decide, by kernel_rfl⟩⟩
instance : TF Try.prog 45 6 6 1 false := ⟨⟨fs44, _, by kernel_rfl, rfl, rfl, by kernel_rfl, by decide, by kernel_rfl⟩⟩
instance : TF Try.prog 45 7 7 1 false := ⟨⟨fs44, _, by kernel_rfl, rfl, rfl, by kernel_rfl, by decide, by kernel_rfl⟩⟩
instance : TF Try.prog 45 8 8 1 false := ⟨⟨fs44, _, by kernel_rfl, rfl, rfl, by kernel_rfl, by decide, by kernel_rfl⟩⟩
instance : TI Try.prog 48 (.agg #[.int .i64 0, .int .i64 0, .int .i64 0, .int .i64 0, .int .i64 0]) 5 40 := ⟨by kernel_rfl⟩
instance : TG Try.prog 48 true 5 := ⟨by kernel_rfl, by kernel_rfl⟩
instance : SFL Try.prog 48 fl47 := ⟨fs47, by kernel_rfl, rfl, by kernel_rfl, by kernel_rfl, by kernel_rfl⟩
instance : TB Try.prog 48 [.v (.int .i64 0), .v (.int .i64 0), .v (.int .i64 0), .v (.int .i64 0), .v (.int .i64 0)] [(0, 1), (1, 1), (2, 1), (3, 1), (4, 1)] := tb_of (fs := fs47) (zs := [.int .i64 0, .int .i64 0, .int .i64 0, .int .i64 0, .int .i64 0]) (by kernel_rfl) (by kernel_rfl) (by kernel_rfl) rfl (by kernel_rfl)
instance : TF Try.prog 48 0 0 1 false := ⟨⟨fs47, _, by kernel_rfl, rfl, rfl, by kernel_rfl, by decide, by kernel_rfl⟩⟩
instance : TF Try.prog 48 1 1 1 false := ⟨⟨fs47, _, by kernel_rfl, rfl, rfl, by kernel_rfl, by decide, by kernel_rfl⟩⟩
instance : TF Try.prog 48 2 2 1 false := ⟨⟨fs47, _, by kernel_rfl, rfl, rfl, by kernel_rfl, by decide, by kernel_rfl⟩⟩
instance : TF Try.prog 48 3 3 1 false := ⟨⟨fs47, _, by kernel_rfl, rfl, rfl, by kernel_rfl, by decide, by kernel_rfl⟩⟩
instance : TF Try.prog 48 4 4 1 false := ⟨⟨fs47, _, by kernel_rfl, rfl, rfl, by kernel_rfl, by decide, by kernel_rfl⟩⟩
instance : TU Try.prog 50 (.struct fs49) := ⟨by kernel_rfl⟩
instance : TI Try.prog 50 (.agg #[.int .i64 0, .int .i64 0, .int .i64 0, .int .i64 0]) 4 32 := ⟨by kernel_rfl⟩
instance : TG Try.prog 50 true 4 := ⟨by kernel_rfl, by kernel_rfl⟩
instance : TB Try.prog 50 [.v (.int .i64 0), .v (.int .i64 0), .v (.int .i64 0), .v (.int .i64 0)] [(0, 1), (1, 1), (2, 1), (3, 1)] := tb_of (fs := fs49) (zs := [.int .i64 0, .int .i64 0, .int .i64 0, .int .i64 0]) (by kernel_rfl) (by kernel_rfl) (by kernel_rfl) rfl (by kernel_rfl)
instance : TF Try.prog 50 0 0 1 false := ⟨⟨fs49, _, by kernel_rfl, rfl, rfl, by kernel_rfl, by decide, by kernel_rfl⟩⟩
instance : TF Try.prog 50 1 1 1 false := ⟨⟨fs49, _, by kernel_rfl, rfl, rfl, by kernel_rfl, by decide, by kernel_rfl⟩⟩
instance : TF Try.prog 50 2 2 1 false := ⟨⟨fs49, _, by kernel_rfl, rfl, rfl, by kernel_rfl, by decide, by kernel_rfl⟩⟩
instance : TF Try.prog 50 3 3 1 false := ⟨⟨fs49, _, by kernel_rfl, rfl, rfl, by kernel_rfl, by decide, by kernel_rfl⟩⟩
instance : TI Try.prog 52 (.agg #[.string { data := #[] }, .int .i64 0, .int .i64 0]) 3 32 := ⟨by kernel_rfl⟩
instance : TG Try.prog 52 true 3 := ⟨by kernel_rfl, by kernel_rfl⟩
instance : TB Try.prog 52 [.v (.string { data := #[] }), .v (.int .i64 0), .v (.int .i64 0)] [(0, 1), (1, 1), (2, 1)] := tb_of (fs := fs51) (zs := [.string { data := #[] }, .int .i64 0, .int .i64 0]) (by kernel_rfl) (by kernel_rfl) (by kernel_rfl) rfl (by kernel_rfl)
instance : TF Try.prog 52 0 0 1 false := ⟨⟨fs51, _, by kernel_rfl, rfl, rfl, by kernel_rfl, by decide, by kernel_rfl⟩⟩
instance : TF Try.prog 52 1 1 1 false := ⟨⟨fs51, _, by kernel_rfl, rfl, rfl, by kernel_rfl, by decide, by kernel_rfl⟩⟩
instance : TF Try.prog 52 2 2 1 false := ⟨⟨fs51, _, by kernel_rfl, rfl, rfl, by kernel_rfl, by decide, by kernel_rfl⟩⟩
instance : TU Try.prog 56 (.struct fs55) := ⟨by kernel_rfl⟩
instance : TI Try.prog 56 (.agg #[.string { data := #[] }, .int .i64 0, .int .i64 0, .int .i64 0, .int .i64 0, .int .i64 0]) 6 56 := ⟨by kernel_rfl⟩
instance : TG Try.prog 56 true 6 := ⟨by kernel_rfl, by kernel_rfl⟩
instance : SFL Try.prog 56 fl55 := ⟨fs55, by kernel_rfl, rfl, by kernel_rfl, by kernel_rfl, by kernel_rfl⟩
instance : TB Try.prog 56 [.v (.string { data := #[] }), .v (.int .i64 0), .v (.int .i64 0), .v (.int .i64 0), .v (.int .i64 0), .v (.int .i64 0)] [(0, 1), (1, 1), (2, 1), (3, 1), (4, 1), (5, 1)] := tb_of (fs := fs55) (zs := [.string { data := #[] }, .int .i64 0, .int .i64 0, .int .i64 0, .int .i64 0, .int .i64 0]) (by kernel_rfl) (by kernel_rfl) (by kernel_rfl) rfl (by kernel_rfl)
instance : TF Try.prog 56 0 0 1 false := ⟨⟨fs55, _, by kernel_rfl, rfl, rfl, by kernel_rfl, by decide, by kernel_rfl⟩⟩
instance : TF Try.prog 56 1 1 1 false := ⟨⟨fs55, _, by kernel_rfl, rfl, rfl, by kernel_rfl, by decide, by kernel_rfl⟩⟩
instance : TF Try.prog 56 2 2 1 false := ⟨⟨fs55, _, by kernel_rfl, rfl, rfl, by kernel_rfl, by decide, by kernel_rfl⟩⟩
instance : TF Try.prog 56 3 3 1 false := ⟨⟨fs55, _, by kernel_rfl, rfl, rfl, by kernel_rfl, by decide, by kernel_rfl⟩⟩
instance : TF Try.prog 56 4 4 1 false := ⟨⟨fs55, _, by kernel_rfl, rfl, rfl, by kernel_rfl, by decide, by kernel_rfl⟩⟩
instance : TF Try.prog 56 5 5 1 false := ⟨⟨fs55, _, by kernel_rfl, rfl, rfl, by kernel_rfl, by decide, by kernel_rfl⟩⟩
instance : TU Try.prog 57 (.int .i64) := ⟨by kernel_rfl⟩
instance : TU Try.prog 59 (.slice 79) := ⟨by kernel_rfl⟩
instance : TG Try.prog 59 false 1 := ⟨by kernel_rfl, by kernel_rfl⟩
instance : TU Try.prog 60 (.slice 82) := ⟨by kernel_rfl⟩
instance : TG Try.prog 60 false 1 := ⟨by kernel_rfl, by kernel_rfl⟩
instance : TI Try.prog 62 (.agg #[.slice none 0 0, .slice none 0 0]) 2 48 := ⟨by kernel_rfl⟩
instance : TG Try.prog 62 true 2 := ⟨by kernel_rfl, by kernel_rfl⟩
instance : TB Try.prog 62 [.v (.slice none 0 0), .v (.slice none 0 0)] [(0, 1), (1, 1)] := tb_of (fs := fs61) (zs := [.slice none 0 0, .slice none 0 0]) (by kernel_rfl) (by kernel_rfl) (by kernel_rfl) rfl (by kernel_rfl)
instance : TF Try.prog 62 0 0 1 false := ⟨⟨fs61, _, by kernel_rfl, rfl, rfl, by kernel_rfl, by decide, by kernel_rfl⟩⟩
instance : TF Try.prog 62 1 1 1 false := ⟨⟨fs61, _, by kernel_rfl, rfl, rfl, by kernel_rfl, by decide, by kernel_rfl⟩⟩
instance : TU Try.prog 66 (.map 88 103) := ⟨by kernel_rfl⟩
instance : TG Try.prog 66 false 1 := ⟨by kernel_rfl, by kernel_rfl⟩
instance : TU Try.prog 67 (.map 88 3) := ⟨by kernel_rfl⟩
instance : TG Try.prog 67 false 1 := ⟨by kernel_rfl, by kernel_rfl⟩
instance : TB Try.prog 69 [.v (.slice none 0 0), .v (.slice none 0 0), .v (.slice none 0 0), .v (.slice none 0 0), .v (.map none), .v (.map none), .v (.map none)] [(0, 1), (1, 2), (3, 1), (4, 1), (5, 1), (6, 1)] := tb_of (fs := fs68) (zs := [.slice none 0 0, .slice none 0 0, .slice none 0 0, .slice none 0 0, .map none, .map none, .map none]) (by kernel_rfl) (by kernel_rfl) (by kernel_rfl) rfl (by kernel_rfl)
instance : TF Try.prog 69 0 0 1 false := ⟨⟨fs68, _, by kernel_rfl, rfl, rfl, by kernel_rfl, by decide, by kernel_rfl⟩⟩
instance : TF Try.prog 69 1 1 2 true := ⟨⟨fs68, _, by kernel_rfl, rfl, rfl, by kernel_rfl, by decide, by kernel_rfl⟩⟩
instance : TF Try.prog 69 2 3 1 false := ⟨⟨fs68, _, by kernel_rfl, rfl, rfl, by kernel_rfl, by decide, by kernel_rfl⟩⟩
instance : TF Try.prog 69 3 4 1 false := ⟨⟨fs68, _, by kernel_rfl, rfl, rfl, by kernel_rfl, by decide, by kernel_rfl⟩⟩
instance : TF Try.prog 69 4 5 1 false := ⟨⟨fs68, _, by kernel_rfl, rfl, rfl, by kernel_rfl, by decide, by kernel_rfl⟩⟩
instance : TF Try.prog 69 5 6 1 false := ⟨⟨fs68, _, by kernel_rfl, rfl, rfl, by kernel_rfl, by decide, by kernel_rfl⟩⟩
instance : TU Try.prog 74 (.struct fs73) := ⟨by kernel_rfl⟩
instance : TI Try.prog 74 (.agg #[.int .i64 0, .slice none 0 0]) 2 32 := ⟨by kernel_rfl⟩
instance : TG Try.prog 74 true 2 := ⟨by kernel_rfl, by kernel_rfl⟩
instance : TF Try.prog 74 0 0 1 false := ⟨⟨fs73, _, by kernel_rfl, rfl, rfl, by kernel_rfl, by decide, by kernel_rfl⟩⟩
instance : TF Try.prog 74 1 1 1 false := ⟨⟨fs73, _, by kernel_rfl, rfl, rfl, by kernel_rfl, by decide, by kernel_rfl⟩⟩
instance : TU Try.prog 79 (.slice 4) := ⟨by kernel_rfl⟩
instance : TI Try.prog 79 (.slice none 0 0) 1 24 := ⟨by kernel_rfl⟩
instance : TG Try.prog 79 false 1 := ⟨by kernel_rfl, by kernel_rfl⟩
instance : TI Try.prog 82 (.agg #[.string { data := #[] }, .int .i64 0, .int .i64 0]) 3 32 := ⟨by kernel_rfl⟩
instance : TG Try.prog 82 true 3 := ⟨by kernel_rfl, by kernel_rfl⟩
instance : TB Try.prog 82 [.v (.string { data := #[] }), .v (.int .i64 0), .v (.int .i64 0)] [(0, 1), (1, 1), (2, 1)] := tb_of (fs := fs81) (zs := [.string { data := #[] }, .int .i64 0, .int .i64 0]) (by kernel_rfl) (by kernel_rfl) (by kernel_rfl) rfl (by kernel_rfl)
instance : TF Try.prog 82 0 0 1 false := ⟨⟨fs81, _, by kernel_rfl, rfl, rfl, by kernel_rfl, by decide, by kernel_rfl⟩⟩
instance : TF Try.prog 82 1 1 1 false := ⟨⟨fs81, _, by kernel_rfl, rfl, rfl, by kernel_rfl, by decide, by kernel_rfl⟩⟩
instance : TF Try.prog 82 2 2 1 false := ⟨⟨fs81, _, by kernel_rfl, rfl, rfl, by kernel_rfl, by decide, by kernel_rfl⟩⟩
instance : TU Try.prog 85 (.map 3 3) := ⟨by kernel_rfl⟩
instance : TI Try.prog 88 (.agg #[.int .i64 0, .int .i64 0]) 2 16 := ⟨by kernel_rfl⟩
instance : TG Try.prog 88 true 2 := ⟨by kernel_rfl, by kernel_rfl⟩
instance : TB Try.prog 88 [.v (.int .i64 0), .v (.int .i64 0)] [(0, 1), (1, 1)] := tb_of (fs := fs87) (zs := [.int .i64 0, .int .i64 0]) (by kernel_rfl) (by kernel_rfl) (by kernel_rfl) rfl (by kernel_rfl)
instance : TI Try.prog 90 (.agg #[.int .i64 0, .int .i64 0, .int .i64 0]) 3 24 := ⟨by kernel_rfl⟩
instance : TG Try.prog 90 true 3 := ⟨by kernel_rfl, by kernel_rfl⟩
instance : TB Try.prog 90 [.v (.int .i64 0), .v (.int .i64 0), .v (.int .i64 0)] [(0, 1), (1, 1), (2, 1)] := tb_of (fs := fs89) (zs := [.int .i64 0, .int .i64 0, .int .i64 0]) (by kernel_rfl) (by kernel_rfl) (by kernel_rfl) rfl (by kernel_rfl)
instance : TF Try.prog 90 0 0 1 false := ⟨⟨fs89, _, by kernel_rfl, rfl, rfl, by kernel_rfl, by decide, by kernel_rfl⟩⟩
instance : TF Try.prog 90 1 1 1 false := ⟨⟨fs89, _, by kernel_rfl, rfl, rfl, by kernel_rfl, by decide, by kernel_rfl⟩⟩
instance : TF Try.prog 90 2 2 1 false := ⟨⟨fs89, _, by kernel_rfl, rfl, rfl, by kernel_rfl, by decide, by kernel_rfl⟩⟩
instance : TU Try.prog 97 (.map 9 3) := ⟨by kernel_rfl⟩
instance : TU Try.prog 103 (.slice 106) := ⟨by kernel_rfl⟩
instance : TI Try.prog 103 (.slice none 0 0) 1 24 := ⟨by kernel_rfl⟩
instance : TI Try.prog 106 (.agg #[.int .i64 0, .int .i64 0]) 2 16 := ⟨by kernel_rfl⟩
instance : TG Try.prog 106 true 2 := ⟨by kernel_rfl, by kernel_rfl⟩
instance : TB Try.prog 106 [.v (.int .i64 0), .v (.int .i64 0)] [(0, 1), (1, 1)] := tb_of (fs := fs105) (zs := [.int .i64 0, .int .i64 0]) (by kernel_rfl) (by kernel_rfl) (by kernel_rfl) rfl (by kernel_rfl)
instance : TF Try.prog 106 0 0 1 false := ⟨⟨fs105, _, by kernel_rfl, rfl, rfl, by kernel_rfl, by decide, by kernel_rfl⟩⟩
instance : TF Try.prog 106 1 1 1 false := ⟨⟨fs105, _, by kernel_rfl, rfl, rfl, by kernel_rfl, by decide, by kernel_rfl⟩⟩
instance : TU Try.prog 112 (.slice 117) := ⟨by kernel_rfl⟩
instance : TG Try.prog 115 true 10 := ⟨by kernel_rfl, by kernel_rfl⟩
instance : TB Try.prog 115 [.v (.int .i64 0), .v (.int .i64 0), .v (.int .i64 0), .v (.int .i64 0), .v (.int .i64 0), .v (.int .i64 0), .v (.int .i64 0), .v (.int .i64 0), .v (.int .i64 0), .v (.int .i64 0)] [(0, 1), (1, 1), (2, 1), (3, 1), (4, 1), (5, 1), (6, 1), (7, 1), (8, 1), (9, 1)] := tb_of (fs := fs114) (zs := [.int .i64 0, .int .i64 0, .int .i64 0, .int .i64 0, .int .i64 0, .int .i64 0, .int .i64 0, .int .i64 0, .int .i64 0, .int .i64 0]) (by kernel_rfl) (by kernel_rfl) (by kernel_rfl) rfl (by kernel_rfl)
instance : TF Try.prog 115 0 0 1 false := ⟨⟨fs114, _, by kernel_rfl, rfl, rfl, by kernel_rfl, by decide, by kernel_rfl⟩⟩
instance : TF Try.prog 115 1 1 1 false := ⟨⟨fs114, _, by kernel_rfl, rfl, rfl, by kernel_rfl, by decide, by kernel_rfl⟩⟩
instance : TF Try.prog 115 2 2 1 false := ⟨⟨fs114, _, by kernel_rfl, rfl, rfl, by kernel_rfl, by decide, by kernel_rfl⟩⟩
instance : TF Try.prog 115 3 3 1 false := ⟨⟨fs114, _, by kernel_rfl, rfl, rfl, by kernel_rfl, by decide, by kernel_rfl⟩⟩
instance : TF Try.prog 115 4 4 1 false := ⟨⟨fs114, _, by kernel_rfl, rfl, rfl, by kernel_rfl, by decide, by kernel_rfl⟩⟩
instance : TF Try.prog 115 5 5 1 false := ⟨⟨fs114, _, by kernel_rfl, rfl, rfl, by kernel_rfl, by decide, by kernel_rfl⟩⟩
instance : TF Try.prog 115 6 6 1 false := ⟨⟨fs114, _, by kernel_rfl, rfl, rfl, by kernel_rfl, by decide, by kernel_rfl⟩⟩
instance : TF Try.prog 115 7 7 1 false := ⟨⟨fs114, _, by kernel_rfl, rfl, rfl, by kernel_rfl, by decide, by kernel_rfl⟩⟩
instance : TF Try.prog 115 8 8 1 false := ⟨⟨fs114, _, by kernel_rfl, rfl, rfl, by kernel_rfl, by decide, by kernel_rfl⟩⟩
instance : TF Try.prog 115 9 9 1 false := ⟨⟨fs114, _, by kernel_rfl, rfl, rfl, by kernel_rfl, by decide, by kernel_rfl⟩⟩
instance : TI Try.prog 117 (.agg #[.int .i64 0, .int .i64 0, .int .i64 0, .int .i64 0, .int .i64 0, .int .i64 0, .int .i64 0, .int .i64 0, .int .i64 0, .int .i64 0, .string { data := #[] }, .slice none 0 0]) 12 120 := ⟨by kernel_rfl⟩
instance : TG Try.prog 117 true 12 := ⟨by kernel_rfl, by kernel_rfl⟩
instance : TB Try.prog 117 [.v (.int .i64 0), .v (.int .i64 0), .v (.int .i64 0), .v (.int .i64 0), .v (.int .i64 0), .v (.int .i64 0), .v (.int .i64 0), .v (.int .i64 0), .v (.int .i64 0), .v (.int .i64 0), .v (.string { data := #[] }), .v (.slice none 0 0)] [(0, 10), (10, 1), (11, 1)] := tb_of (fs := fs116) (zs := [.int .i64 0, .int .i64 0, .int .i64 0, .int .i64 0, .int .i64 0, .int .i64 0, .int .i64 0, .int .i64 0, .int .i64 0, .int .i64 0, .string { data := #[] }, .slice none 0 0]) (by kernel_rfl) (by kernel_rfl) (by kernel_rfl) rfl (by kernel_rfl)
instance : TF Try.prog 117 0 0 10 true := ⟨⟨fs116, _, by kernel_rfl, rfl, rfl, by kernel_rfl, by decide, by kernel_rfl⟩⟩
instance : TF Try.prog 117 1 10 1 false := ⟨⟨fs116, _, by kernel_rfl, rfl, rfl, by kernel_rfl, by decide, by kernel_rfl⟩⟩
instance : TF Try.prog 117 2 11 1 false := ⟨⟨fs116, _, by kernel_rfl, rfl, rfl, by kernel_rfl, by decide, by kernel_rfl⟩⟩
instance : TG Try.prog 121 true 3 := ⟨by kernel_rfl, by kernel_rfl⟩
instance : TB Try.prog 121 [.v (.int .i64 0), .v (.int .i64 0), .v (.int .i64 0)] [(0, 1), (1, 1), (2, 1)] := tb_of (fs := fs120) (zs := [.int .i64 0, .int .i64 0, .int .i64 0]) (by kernel_rfl) (by kernel_rfl) (by kernel_rfl) rfl (by kernel_rfl)
instance : TF Try.prog 121 0 0 1 false := ⟨⟨fs120, _, by kernel_rfl, rfl, rfl, by kernel_rfl, by decide, by kernel_rfl⟩⟩
instance : TF Try.prog 121 1 1 1 false := ⟨⟨fs120, _, by kernel_rfl, rfl, rfl, by kernel_rfl, by decide, by kernel_rfl⟩⟩
instance : TF Try.prog 121 2 2 1 false := ⟨⟨fs120, _, by kernel_rfl, rfl, rfl, by kernel_rfl, by decide, by kernel_rfl⟩⟩
instance : TU Try.prog 122 (.int .u64) := ⟨by kernel_rfl⟩
instance : TU Try.prog 135 (.slice 9) := ⟨by kernel_rfl⟩
instance : TU Try.prog 138 (.slice 140) := ⟨by kernel_rfl⟩
instance : TI Try.prog 140 (.pointer none) 1 8 := ⟨by kernel_rfl⟩
instance : TG Try.prog 140 false 1 := ⟨by kernel_rfl, by kernel_rfl⟩
instance : TU Try.prog 142 (.int .u64) := ⟨by kernel_rfl⟩
instance : TG Try.prog 142 false 1 := ⟨by kernel_rfl, by kernel_rfl⟩
instance : TG Try.prog 152 true 6 := ⟨by kernel_rfl, by kernel_rfl⟩
instance : TB Try.prog 152 [.v (.int .i64 0), .v (.int .i64 0), .v (.int .i64 0), .v (.int .i64 0), .v (.int .i64 0), .v (.int .i64 0)] [(0, 1), (1, 1), (2, 1), (3, 1), (4, 1), (5, 1)] := tb_of (fs := fs151) (zs := [.int .i64 0, .int .i64 0, .int .i64 0, .int .i64 0, .int .i64 0, .int .i64 0]) (by kernel_rfl) (by kernel_rfl) (by kernel_rfl) rfl (by kernel_rfl)
instance : TF Try.prog 152 0 0 1 false := ⟨⟨fs151, _, by kernel_rfl, rfl, rfl, by kernel_rfl, by decide, by kernel_rfl⟩⟩
instance : TF Try.prog 152 1 1 1 false := ⟨⟨fs151, _, by kernel_rfl, rfl, rfl, by kernel_rfl, by decide, by kernel_rfl⟩⟩
instance : TF Try.prog 152 2 2 1 false := ⟨⟨fs151, _, by kernel_rfl, rfl, rfl, by kernel_rfl, by decide, by kernel_rfl⟩⟩
instance : TF Try.prog 152 3 3 1 false := ⟨⟨fs151, _, by kernel_rfl, rfl, rfl, by kernel_rfl, by decide, by kernel_rfl⟩⟩
instance : TF Try.prog 152 4 4 1 false := ⟨⟨fs151, _, by kernel_rfl, rfl, rfl, by kernel_rfl, by decide, by kernel_rfl⟩⟩
instance : TF Try.prog 152 5 5 1 false := ⟨⟨fs151, _, by kernel_rfl, rfl, rfl, by kernel_rfl, by decide, by kernel_rfl⟩⟩
instance : TI Try.prog 154 (.agg #[.int .u64 0, .int .i64 0]) 2 16 := ⟨by kernel_rfl⟩
instance : TG Try.prog 154 true 2 := ⟨by kernel_rfl, by kernel_rfl⟩
instance : TB Try.prog 154 [.v (.int .u64 0), .v (.int .i64 0)] [(0, 1), (1, 1)] := tb_of (fs := fs154) (zs := [.int .u64 0, .int .i64 0]) (by kernel_rfl) (by kernel_rfl) (by kernel_rfl) rfl (by kernel_rfl)
instance : TF Try.prog 154 0 0 1 false := ⟨⟨fs154, _, by kernel_rfl, rfl, rfl, by kernel_rfl, by decide, by kernel_rfl⟩⟩
instance : TF Try.prog 154 1 1 1 false := ⟨⟨fs154, _, by kernel_rfl, rfl, rfl, by kernel_rfl, by decide, by kernel_rfl⟩⟩
instance : TU Try.prog 155 (.slice 154) := ⟨by kernel_rfl⟩
end Go.Proofs.Ytiomdnmicagdcaa.AL
namespace Go.Proofs.Ytiomdnmicagdcaa.AL
open Go Go.RowKit Go.Proofs.Ytiomdnmicagdcaa.Base
set_option linter.unusedVariables false
set_option maxRecDepth 4000
@[reducible] def F59 (v n i : Int) (n0 : Nat) : List AV := [.v (.int .u64 v), .any, .any, .any, .v (.slice none 0 0), .own (n0 + 0) 0 0 n.toNat, .any, .any, .any, .any, .any, .any, .any, .any, .any, .any, .any, .any, .any, .any, .any, .any, .any, .any, .v (.int .i64 n.toNat), .v (.int .i64 i), .any, .any, .any, .any, .any, .any, .any, .any, .any, .any, .any, .any]
theorem dig_snoc : ∀ (v : Int) (i : Nat), dig v (i + 1) = dig v i ++ [v / 256 ^ i % 256] := by
  intro v i
  induction i generalizing v with
  | zero => simp [dig]
  | succ i ih =>
    rw [dig, ih (v / 256), dig, List.cons_append, Int.ediv_ediv_of_nonneg (by decide), Int.pow_succ, Int.mul_comm]
theorem le_Put (v n : Int) (hv : 0 ≤ v ∧ v ≤ 18446744073709551615) (hn : -9223372036854775808 ≤ n ∧ n ≤ 9223372036854775807) : A0 Try.prog 59 [.v (.int .u64 v), .v (.int .i64 n)] (fun r => r = .rd 1 (bys (if Wide n then dig v n.toNat else []))) := by
  refine A0.body 38 Try.func59 rfl rfl Try.ntmps59 fun base n0 => ?_
  repeat (first | refine AO.c ?_ | refine AO.m ?_ | refine AO.n ?_ | refine AW.seq' ?_ | refine AW.region ?_ | refine AW.block' ?_ | refine AO.nil (SQ.normal ?_))
  refine AW.iteB (GL.ev _) (fun h => ?_) (fun h => ?_)
  · refine AW.seq' (AW.region ?_)
    refine AO.c (AO.nil (SQ.normal (AW.ret (SQ.ret (Fin.ret (Gh.nilB 4) (by exact NoId.bys _) ?_)))))
    have : ¬ Wide n := by unfold Wide; simp at h; omega
    simp [packA, this]
  · have hw : Wide n := by unfold Wide; simp at h; omega
    refine AW.skip (SQ.normal ?_)
    have hn' : 1 ≤ n ∧ n ≤ 8 := by unfold Wide at hw; omega
    refine AW.seq' (AW.region ?_)
    refine AO.c ?_
    refine AO.w ⟨by omega, by omega, by omega⟩ ?_
    repeat (first | refine AO.c ?_ | refine AO.m ?_ | refine AO.n ?_ | refine AW.seq' ?_ | refine AW.region ?_ | refine AW.block' ?_ | refine AO.nil (SQ.normal ?_))
    refine AW.wk (F59 v n 0 n0) ?_
    refine AW.loopG (fun m s' => ∃ i : Nat, m + i = n.toNat ∧ s' = ⟨F59 v n i n0, Hn n0 [some (.row 5 1 0 (bys (dig v i ++ List.replicate (n.toNat - i) 0)))]⟩) n.toNat ⟨0, rfl, by simp [dig]⟩ ?_
    rintro m s' ⟨i, hm, rfl⟩
    repeat (first | refine AO.c ?_ | refine AO.m ?_ | refine AO.n ?_ | refine AW.seq' ?_ | refine AW.region ?_ | refine AW.block' ?_ | refine AO.nil (SQ.normal ?_))
    refine AW.iteB (GL.ev _) (fun h => ?_) (fun h => ?_)
    · have hi : i < n.toNat := by simp at h; omega
      refine AW.skip (SQ.normal ?_)
      repeat (first | refine AO.c ?_ | refine AO.m ?_ | refine AO.n ?_ | refine AW.seq' ?_ | refine AW.region ?_ | refine AW.block' ?_ | refine AO.nil (SQ.normal ?_))
      refine AO.o (by omega) ?_
      refine AO.o (by omega) ?_
      refine AO.v ?_
      refine AO.o (by omega) ?_
      refine AO.st (by simp [dig_length]; omega) (AO.nil (BQ.normal (SQ.normal ?_)))
      repeat (first | refine AO.c ?_ | refine AO.m ?_ | refine AO.n ?_ | refine AW.seq' ?_ | refine AW.region ?_ | refine AW.block' ?_ | refine AO.nil (SQ.normal ?_))
      refine AO.o (by omega) ?_
      refine AO.c (AO.nil ?_)
      refine AW.back (F59 v n (i + 1) n0) (m - 1) (by omega) ⟨i + 1, by omega, ?_⟩
      have e1 : dig v (i + 1) = dig v i ++ [v / 256 ^ i % 256] := dig_snoc v i
      have e2 : (dig v i ++ List.replicate (n.toNat - i) 0).set i (v / 256 ^ i % 256) = dig v (i + 1) ++ List.replicate (n.toNat - (i + 1)) 0 := by
        rw [e1, show n.toNat - i = (n.toNat - (i + 1)) + 1 by omega, List.replicate_succ]
        simp [dig_length]
      have e3 : IntKind.u8.wrap (v / 2 ^ (8 * (i : Int)).toNat) = v / 256 ^ i % 256 := by
        rw [IntKind.wrap_u8, show (8 * (i : Int)).toNat = 8 * i by omega, Int.pow_mul]; rfl
      simp only [Int.toNat_natCast, Nat.zero_add, e3, e2]
      rfl
    · have hi : i = n.toNat := by simp at h; omega
      subst hi
      refine AW.exit (SQ.exit (AW.out (LQ.exit (BQ.exit (SQ.normal ?_)))))
      refine AW.seq' (AW.region ?_)
      refine AO.c (AO.c (AO.nil (SQ.normal (AW.ret (Fin.ret (Gh.freezeB 4 (by simp [dig_length]) (by simp [dig_length]; omega)) (by exact NoId.bys _) ?_)))))
      simp [packA, hw]
theorem Gh.freezeE {base : Cx} {l l' : List AV} {n k ep m : Nat} {L L' : List (Option AB)} {e : TypeId} (t : Tmp) {li li' : List Int} [g : GL l t (.own (n + k) ep 0 m)] [gb : GB L k (.row e 1 ep (bys li))] (he : li = li') [sb : SB L k none L'] [sl : SL l t (.rd 1 (bys li')) l'] (hl : li'.length = m) (hm : li'.length ≤ 9223372036854775807) :
    Gh base ⟨l, Hn n L⟩ ⟨l', Hn n L'⟩ := by subst he; exact Gh.freezeB t hl hm
end Go.Proofs.Ytiomdnmicagdcaa.AL
namespace Go.Proofs.Ytiomdnmicagdcaa.AL
open Go Go.RowKit Go.Proofs.Ytiomdnmicagdcaa.Base
set_option linter.unusedVariables false
set_option linter.unusedSimpArgs false
set_option maxRecDepth 4000
set_option synthInstance.maxSize 1000
set_option synthInstance.maxHeartbeats 200000
structure RelD where
 off : Int
 typ : Int
 sym : Int
 add : Int
 deriving Inhabited, DecidableEq
structure SecD where
 name : ByteArray
 typ : Int
 flags : Int
 align : Int
 ent : Int
 link : Int
 size : Int
 data : List Int
 rels : List RelD
 deriving Inhabited
structure SymD where
 name : ByteArray
 bind : Int
 typ : Int
 sec : Int
 val : Int
 size : Int
 deriving Inhabited
structure GrpD where
 sym : Int
 mem : List Int
 deriving Inhabited
structure ObjD where
 secs : List SecD
 syms : List SymD
 groups : List GrpD
 hasSig : Bool
 sig : List Int
 deriving Inhabited
@[reducible] def relA (r : RelD) : List AV := [.v (.int .i64 r.off), .v (.int .i64 r.typ), .v (.int .i64 r.sym), .v (.int .i64 r.add)]
@[reducible] def secA (s : SecD) : List AV := [.v (.string s.name), .v (.int .i64 s.typ), .v (.int .i64 s.flags), .v (.int .i64 s.align), .v (.int .i64 s.ent), .v (.int .i64 s.link), .v (.int .i64 s.size), .rd 1 (bys s.data), .rd 4 (s.rels.map relA)]
@[reducible] def symA (s : SymD) : List AV := [.v (.string s.name), .v (.int .i64 s.bind), .v (.int .i64 s.typ), .v (.int .i64 s.sec), .v (.int .i64 s.val), .v (.int .i64 s.size)]
@[reducible] def grpA (g : GrpD) : List AV := [.v (.int .i64 g.sym), .rd 1 (g.mem.map iA)]
@[reducible] def objA (o : ObjD) : List AV := [.rd 9 (o.secs.map secA), .rd 6 (o.syms.map symA), .rd 2 (o.groups.map grpA), .v (.bool o.hasSig), .rd 1 (o.sig.map iA)]
@[reducible] def pcA (p : Int × Int) : List AV := [.v (.int .i64 p.1), .v (.int .i64 p.2)]
def I64 (x : Int) : Prop := -9223372036854775808 ≤ x ∧ x ≤ 9223372036854775807
instance (x : Int) : Decidable (I64 x) := by unfold I64; infer_instance
theorem drop_getD {α : Type} [Inhabited α] {l : List α} {i : Nat} (h : i < l.length) : l.drop i = l.getD i default :: l.drop (i + 1) := by
 rw [List.drop_eq_getElem_cons h]; simp [h]
theorem wi64' {x : Int} (h : -9223372036854775808 ≤ x ∧ x ≤ 9223372036854775807) : IntKind.i64.wrap x = x := by rw [wi64_eq]; exact w64 h.1 h.2
theorem drop_getD0 {l : List Int} {i : Nat} (h : i < l.length) : l.drop i = l.getD i 0 :: l.drop (i + 1) := by
 rw [List.drop_eq_getElem_cons h]; simp [h]
def RelD.ok (r : RelD) : Prop := I64 r.off ∧ I64 r.typ ∧ I64 r.sym ∧ I64 r.add
def SecD.ok (s : SecD) : Prop := s.name.size ≤ maxLen ∧ I64 s.typ ∧ I64 s.flags ∧ I64 s.align ∧ I64 s.ent ∧ I64 s.link ∧ I64 s.size ∧ s.data.length ≤ maxLen ∧ Bytes s.data ∧ s.rels.length ≤ maxLen ∧ ∀ r ∈ s.rels, r.ok
def SymD.ok (s : SymD) : Prop := s.name.size ≤ maxLen ∧ I64 s.bind ∧ I64 s.typ ∧ I64 s.sec ∧ I64 s.val ∧ I64 s.size
def GrpD.ok (g : GrpD) : Prop := I64 g.sym ∧ g.mem.length ≤ maxLen ∧ ∀ x ∈ g.mem, I64 x
def ObjD.ok (o : ObjD) : Prop := o.secs.length ≤ maxLen ∧ (∀ s ∈ o.secs, s.ok) ∧ o.syms.length ≤ maxLen ∧ (∀ s ∈ o.syms, s.ok) ∧ o.groups.length ≤ maxLen ∧ (∀ g ∈ o.groups, g.ok) ∧ o.sig.length ≤ maxLen ∧ ∀ x ∈ o.sig, I64 x
theorem maxLen_eq : maxLen = 9223372036854775807 := by unfold maxLen; rfl
end Go.Proofs.Ytiomdnmicagdcaa.AL
namespace Go.Proofs.Ytiomdnmicagdcaa.AL
open Go Go.RowKit Go.Proofs.Ytiomdnmicagdcaa.Base
set_option linter.unusedVariables false
set_option linter.unusedSimpArgs false
set_option maxRecDepth 4000
set_option synthInstance.maxSize 1000
set_option synthInstance.maxHeartbeats 200000
def widthF (t : Int) : Int := if t = 1 then 8 else if t = 2 ∨ t = 4 ∨ t = 10 ∨ t = 11 then 4 else 0
def fitsB (n : Int) : Bool := decide (0 ≤ n) && decide (n ≤ 2147483647)
def mayRelB (r : RelD) : Bool := fitsB r.off && fitsB r.sym && decide (0 < widthF r.typ)
end Go.Proofs.Ytiomdnmicagdcaa.AL
namespace Go.Proofs.Ytiomdnmicagdcaa.AL
open Go Go.RowKit Go.Proofs.Ytiomdnmicagdcaa.Base
set_option linter.unusedVariables false
set_option linter.unusedSimpArgs false
set_option maxRecDepth 4000
set_option synthInstance.maxSize 1000
set_option synthInstance.maxHeartbeats 200000
theorem u64_range (a : Int) : 0 ≤ IntKind.u64.wrap a ∧ IntKind.u64.wrap a ≤ 18446744073709551615 := by rw [wu64_mod]; omega
theorem put8_len (v w : Int) : (if Wide w then dig v w.toNat else []).length ≤ 8 := by
 split
 · rename_i h; rw [dig_length]; unfold Wide at h; omega
 · simp
theorem le_PutR (v n : Int) (hv : 0 ≤ v ∧ v ≤ 18446744073709551615) (hn : -9223372036854775808 ≤ n ∧ n ≤ 9223372036854775807) : A1 Try.prog 59 [.v (.int .u64 (v)), .v (.int .i64 (n))] 5 1 (bys (if Wide n then dig v n.toNat else [])) := by
 refine A1.body 38 (NIr.h) Try.func59 rfl rfl Try.ntmps59 fun base n0 => ?_
 refine AW.seq' ?_
 refine AW.region ?_
 refine AO.c ?_
 refine AO.nil ?_
 refine SQ.normal ?_
 refine AW.seq' ?_
 refine AW.seq' ?_
 refine AW.region ?_
 iterate 3 refine AO.c ?_
 iterate 2 refine AO.gx ?_
 iterate 2 refine AO.c ?_
 iterate 2 refine AO.gx ?_
 iterate 2 refine AO.c ?_
 iterate 2 refine AO.gx ?_
 refine AO.c ?_
 refine AO.nil ?_
 refine SQ.normal ?_
 refine AW.iteB (GL.ev _) (fun h0 => ?_) (fun h0 => ?_)
 ·
  try simp only [Bool.and_eq_true, Bool.or_eq_true, Bool.not_eq_true', Bool.and_eq_false_iff, Bool.or_eq_false_iff, decide_eq_true_eq, decide_eq_false_iff_not, bys_length] at h0
  refine AW.seq' ?_
  refine AW.region ?_
  refine AO.c ?_
  refine AO.nil ?_
  refine SQ.normal ?_
  refine AW.ret ?_
  refine SQ.ret ?_
  refine FinO.ret 4 (Gh.adoptB 4 5) rfl ?_ ?_ (.inr rfl)
  · have : ¬ Wide n := by unfold Wide; omega
    rw [if_neg this]
  · rw [if_neg (by unfold Wide; omega)]; rfl
 ·
  simp only [Bool.and_eq_false_iff, decide_eq_false_iff_not] at h0
  have hw : Wide n := by unfold Wide; omega
  have hn' : 1 ≤ n ∧ n ≤ 8 := by unfold Wide at hw; omega
  refine AW.skip ?_
  refine SQ.normal ?_
  refine AW.seq' ?_
  refine AW.region ?_
  refine AO.c ?_
  refine AO.ww ?_
  refine AO.c ?_
  refine AO.nil ?_
  refine SQ.normal ?_
  refine AW.seq' ?_
  refine AW.seq' ?_
  refine AW.region ?_
  iterate 3 refine AO.c ?_
  refine AO.nil ?_
  refine SQ.normal ?_
  refine AW.block' ?_
  refine AW.loopU [.k, .f, .f, .f, .f, .k, .F, .F, .f, .f, .k, .k, .F, .f, .f, .f, .f] (fun (i : Nat) => [(25, .v (.int .i64 (i)))]) (fun i => Hn n0 [some (.row 5 1 0 (bys (dig v i ++ List.replicate (n.toNat - i) 0)))]) (fun m i => i ≤ n.toNat ∧ m = n.toNat - i) (n.toNat) (0) ⟨by omega, by omega⟩ (by first | rfl | (simp; done)) (by simp [dig]) ?_
  rintro m0 i ⟨hx1, hx2⟩
  refine AW.seq' ?_
  refine AW.region ?_
  refine AO.c ?_
  refine AO.nil ?_
  refine SQ.normal ?_
  refine AW.seq' ?_
  refine AW.iteB (GL.ev _) (fun h1 => ?_) (fun h1 => ?_)
  ·
   rw [decide_eq_true_eq] at h1
   refine AW.skip ?_
   refine SQ.normal ?_
   refine AW.seq' ?_
   refine AW.block' ?_
   refine AW.seq' ?_
   refine AW.region ?_
   iterate 2 refine AO.c ?_
   refine AO.nil ?_
   refine SQ.normal ?_
   refine AW.region ?_
   iterate 4 refine AO.c ?_
   refine AO.oo ?_
   refine AO.o (by omega) ?_
   refine AO.pw ?_
   refine AO.o (by omega) ?_
   refine AO.st (by simp [dig_length]; omega) ?_
   refine AO.nil ?_
   refine BQ.normal ?_
   refine SQ.normal ?_
   refine AW.region ?_
   refine AO.oo ?_
   refine AO.c ?_
   refine AO.nil ?_
   have e1 : dig v (i + 1) = dig v i ++ [v / 256 ^ i % 256] := dig_snoc v i
   have e3 : IntKind.u8.wrap (v / 2 ^ (8 * (i : Int)).toNat) = v / 256 ^ i % 256 := by
    rw [IntKind.wrap_u8, show (8 * (i : Int)).toNat = 8 * i by omega, Int.pow_mul]; rfl
   have e2 : (dig v i ++ List.replicate (n.toNat - i) 0).set i (IntKind.u8.wrap (v / 2 ^ (8 * (i : Int)).toNat)) = dig v (i + 1) ++ List.replicate (n.toNat - (i + 1)) 0 := by
    rw [e3, e1, show n.toNat - i = (n.toNat - (i + 1)) + 1 by omega, List.replicate_succ]
    simp [dig_length]
   exact AW.backU [.k, .f, .f, .f, .f, .k, .F, .F, .f, .f, .k, .k, .F, .f, .f, .f, .f] (m0 - 1) (i + 1) (by omega) (by first | omega | (simp; done) | (simp; omega)) (by first | rfl | (simp; done)) (by simp only [Nat.zero_add, Int.toNat_natCast, e2])
  ·
   rw [decide_eq_false_iff_not] at h1
   refine AW.exit ?_
   refine SQ.exit <| AW.out <| LU.exit <| BQ.exit ?_
   refine SQ.normal ?_
   refine AW.seq' ?_
   refine AW.region ?_
   iterate 2 refine AO.c ?_
   refine AO.nil ?_
   refine SQ.normal ?_
   refine AW.ret ?_
   refine FinO.ret 4 (Gh.refl) rfl ?_ ?_ (.inr rfl)
   · rw [if_pos hw]
     have : i = n.toNat := by omega
     subst this
     simp
   · rw [if_pos hw, bys_length, dig_length]
end Go.Proofs.Ytiomdnmicagdcaa.AL
namespace Go.Proofs.Ytiomdnmicagdcaa.AL
open Go Go.RowKit Go.Proofs.Ytiomdnmicagdcaa.Base
set_option linter.unusedVariables false
set_option linter.unusedSimpArgs false
set_option maxRecDepth 4000
set_option synthInstance.maxSize 1000
set_option synthInstance.maxHeartbeats 200000
structure EntD where
 name : Int
 bind : Int
 typ : Int
 idx : Int
 val : Int
 size : Int
 deriving Inhabited, DecidableEq
@[reducible] def entA (e : EntD) : List AV := [.v (.int .i64 e.name), .v (.int .i64 e.bind), .v (.int .i64 e.typ), .v (.int .i64 e.idx), .v (.int .i64 e.val), .v (.int .i64 e.size)]
def EntD.ok (e : EntD) : Prop := I64 e.name ∧ I64 e.bind ∧ I64 e.typ ∧ I64 e.idx ∧ I64 e.val ∧ I64 e.size
def withinB (n most : Int) : Bool := decide (n ≥ 0) && decide (n ≤ most)
def mayE (e : EntD) : Bool := (withinB e.name 2147483647 && withinB e.val 2147483647 && withinB e.size 2147483647) && withinB e.bind 2 && withinB e.typ 3 && withinB e.idx 65535
def MayE (e : EntD) : Prop := (0 ≤ e.name ∧ e.name ≤ 2147483647) ∧ (0 ≤ e.bind ∧ e.bind ≤ 2) ∧ (0 ≤ e.typ ∧ e.typ ≤ 3) ∧ (0 ≤ e.idx ∧ e.idx ≤ 65535) ∧ (0 ≤ e.val ∧ e.val ≤ 2147483647) ∧ 0 ≤ e.size ∧ e.size ≤ 2147483647
instance (e : EntD) : Decidable (MayE e) := by unfold MayE; infer_instance
theorem mayE_eq (e : EntD) : mayE e = decide (MayE e) := by
 rw [Bool.eq_iff_iff, decide_eq_true_eq]
 unfold mayE MayE withinB
 simp only [Bool.and_eq_true, decide_eq_true_eq]
 omega
def entB (e : EntD) : List Int := dig e.name 4 ++ [16 * e.bind + e.typ, 0] ++ dig e.idx 2 ++ dig e.val 8 ++ dig e.size 8
theorem entB_len (e : EntD) : (entB e).length = 24 := by unfold entB; simp [dig_length]
theorem sym_within (n most : Int) : A0 Try.prog 77 [.v (.int .i64 (n)), .v (.int .i64 (most))] (fun ret => ret = .v (.bool (withinB n most))) := by
 refine A0.body 12 Try.func77 rfl rfl Try.ntmps77 fun base n0 => ?_
 refine AW.seq' ?_
 refine AW.region ?_
 refine AO.c ?_
 refine AO.nil ?_
 refine SQ.normal ?_
 refine AW.seq' ?_
 refine AW.region ?_
 iterate 3 refine AO.c ?_
 iterate 3 refine AO.gx ?_
 iterate 2 refine AO.c ?_
 refine AO.nil ?_
 refine SQ.normal ?_
 refine AW.ret ?_
 refine Fin.ret (Gh.refl) noid1 ?_
 rfl
theorem sym_may (e : EntD) : A0 Try.prog 75 [.agg (entA e)] (fun ret => ret = .v (.bool (mayE e))) := by
 refine A0.body 33 Try.func75 rfl rfl Try.ntmps75 fun base n0 => ?_
 refine AW.seq' ?_
 refine AW.region ?_
 refine AO.ww ?_
 refine AO.c ?_
 refine AO.nil ?_
 refine SQ.normal ?_
 refine AW.seq' ?_
 refine AW.region ?_
 iterate 2 refine AO.c ?_
 refine AO.call1 Try.func77 rfl rfl (sym_within _ _) ?_
 refine AO.c ?_
 iterate 2 refine AO.gx ?_
 refine AO.gxcall1 Try.func77 rfl rfl (fun hgd => sym_within _ _) ?_
 iterate 2 refine AO.c ?_
 iterate 2 refine AO.gx ?_
 refine AO.gxcall1 Try.func77 rfl rfl (fun hgd => sym_within _ _) ?_
 iterate 2 refine AO.c ?_
 refine AO.nil ?_
 refine SQ.normal ?_
 refine AW.seq' ?_
 refine AW.region ?_
 iterate 2 refine AO.c ?_
 iterate 2 refine AO.gx ?_
 refine AO.gxcall1 Try.func77 rfl rfl (fun hgd => sym_within _ _) ?_
 iterate 2 refine AO.c ?_
 iterate 2 refine AO.gx ?_
 refine AO.gxcall1 Try.func77 rfl rfl (fun hgd => sym_within _ _) ?_
 iterate 2 refine AO.c ?_
 iterate 2 refine AO.gx ?_
 refine AO.gxcall1 Try.func77 rfl rfl (fun hgd => sym_within _ _) ?_
 iterate 2 refine AO.c ?_
 refine AO.nil ?_
 refine SQ.normal ?_
 refine AW.ret ?_
 refine Fin.ret (Gh.refl) noid1 ?_
 rfl
theorem sym_Put (e : EntD) (he : e.ok) : A0 Try.prog 71 [.agg (entA e)] (fun ret => ret = .rd 1 (bys (if MayE e then entB e else []))) := by
 refine A0.body 38 Try.func71 rfl rfl Try.ntmps71 fun base n0 => ?_
 refine AW.seq' ?_
 refine AW.region ?_
 refine AO.ww ?_
 refine AO.c ?_
 refine AO.nil ?_
 refine SQ.normal ?_
 refine AW.seq' ?_
 refine AW.seq' ?_
 refine AW.region ?_
 refine AO.c ?_
 refine AO.call1 Try.func75 rfl rfl (sym_may _) ?_
 refine AO.c ?_
 refine AO.nil ?_
 refine SQ.normal ?_
 refine AW.iteB (GL.ev _) (fun h0 => ?_) (fun h0 => ?_)
 ·
  rw [mayE_eq, Bool.not_eq_true', decide_eq_false_iff_not] at h0
  refine AW.seq' ?_
  refine AW.region ?_
  refine AO.c ?_
  refine AO.nil ?_
  refine SQ.normal ?_
  refine AW.ret ?_
  refine SQ.ret ?_
  refine Fin.ret (Gh.nilB 2) noid1 ?_
  rw [if_neg h0]; rfl
 ·
  rw [mayE_eq, Bool.not_eq_false', decide_eq_true_eq] at h0
  have hm := h0
  unfold MayE at hm
  have l2 : (if Wide 2 then dig e.idx 2 else []).length ≤ 8 := put8_len e.idx 2
  have l8 : (if Wide 8 then dig e.val 8 else []).length ≤ 8 := put8_len e.val 8
  have l9 : (if Wide 8 then dig e.size 8 else []).length ≤ 8 := put8_len e.size 8
  refine AW.skip ?_
  refine SQ.normal ?_
  refine AW.seq' ?_
  apply AW.mid
  case h =>
   refine AW.drawsZ [12] (.one 0 false (.one 1 false (.one 2 false (.one 4 false (.one 5 false (.one 6 false (.one 7 false (.one 8 false (.one 9 false (.one 10 false (.two 3 11 (.one 11 true (.one 12 true (.one 13 false .nil))) (.one 3 true (.one 12 true (.one 13 false .nil)))))))))))))) (by kernel_rfl) rfl (by kernel_rfl) ?_
   iterate 2 refine AZ.c rfl ?_
   refine AZ.oo rfl ?_
   iterate 2 refine AZ.c rfl ?_
   refine AZ.oo rfl ?_
   iterate 2 refine AZ.c rfl ?_
   iterate 2 refine AZ.oo rfl ?_
   refine AZ.two ?_ ?_
   · refine AZi.callR rfl Try.func59 rfl rfl (le_PutR e.name 4 (by omega) (by omega)) (by rw [bys_length, if_pos (by decide), dig_length]) ?_
     refine AZ.rr rfl ?_
     refine AZ.ww rfl rfl ?_
     refine AZ.c rfl ?_
     exact AZ.done ⟨rfl, rfl⟩
   · refine AZi.rr rfl ?_
     refine AZ.callR rfl Try.func59 rfl rfl (le_PutR e.name 4 (by omega) (by omega)) (by rw [bys_length, if_pos (by decide), dig_length]) ?_
     refine AZ.ww rfl rfl ?_
     refine AZ.c rfl ?_
     exact AZ.done ⟨rfl, rfl⟩
  refine SQ.normal ?_
  refine AW.seq' ?_
  refine AW.region ?_
  iterate 3 refine AO.c ?_
  refine AO.oo ?_
  refine AO.call1 Try.func59 rfl rfl ((le_PutR _ 2 (by omega) (by omega)).a0 (by rw [bys_length]; exact Nat.le_trans (put8_len _ _) (by decide))) ?_
  refine AO.ww ?_
  refine AO.c ?_
  refine AO.nil ?_
  refine SQ.normal ?_
  refine AW.seq' ?_
  refine AW.region ?_
  iterate 3 refine AO.c ?_
  refine AO.oo ?_
  refine AO.call1 Try.func59 rfl rfl ((le_PutR _ 8 (by omega) (by omega)).a0 (by rw [bys_length]; exact Nat.le_trans (put8_len _ _) (by decide))) ?_
  refine AO.ww ?_
  refine AO.c ?_
  refine AO.nil ?_
  refine SQ.normal ?_
  refine AW.seq' ?_
  refine AW.region ?_
  iterate 3 refine AO.c ?_
  refine AO.oo ?_
  refine AO.call1 Try.func59 rfl rfl ((le_PutR _ 8 (by omega) (by omega)).a0 (by rw [bys_length]; exact Nat.le_trans (put8_len _ _) (by decide))) ?_
  refine AO.ww ?_
  refine AO.c ?_
  refine AO.nil ?_
  refine SQ.normal ?_
  refine AW.ret ?_
  refine Fin.ret (Gh.freezeE 2 (li' := entB e) ?_ ?_ ?_) noid1 ?_
  · rw [if_pos (show Wide 4 by decide), if_pos (show Wide 2 by decide), if_pos (show Wide 8 by decide), if_pos (show Wide 8 by decide)]; rfl
  · rw [entB_len, if_pos (show Wide 2 by decide), if_pos (show Wide 8 by decide), if_pos (show Wide 8 by decide), dig_length, dig_length, dig_length]; rfl
  · rw [entB_len]; decide
  · rw [if_pos h0]; rfl
end Go.Proofs.Ytiomdnmicagdcaa.AL
namespace Go.Proofs.Ytiomdnmicagdcaa.AL
open Go Go.RowKit Go.Proofs.Ytiomdnmicagdcaa.Base
set_option linter.unusedVariables false
set_option linter.unusedSimpArgs false
set_option maxRecDepth 4000
set_option synthInstance.maxSize 1000
set_option synthInstance.maxHeartbeats 200000
def mayF (r : RelD) : Bool := decide (r.off ≥ 0) && decide (r.off ≤ 2147483647) && decide (r.sym ≥ 0) && decide (r.sym ≤ 2147483647) && decide (widthF r.typ > 0)
theorem mayF_eq (r : RelD) : mayF r = mayRelB r := by
 rw [Bool.eq_iff_iff]
 unfold mayF mayRelB fitsB
 simp only [Bool.and_eq_true, decide_eq_true_eq]
 omega
theorem mayRel_all {r : RelD} (h : mayRelB r = true) : (0 ≤ r.off ∧ r.off ≤ 2147483647) ∧ (0 ≤ r.sym ∧ r.sym ≤ 2147483647) ∧ 0 < widthF r.typ ∧ 0 ≤ r.typ ∧ r.typ ≤ 11 := by
 unfold mayRelB fitsB at h
 simp only [Bool.and_eq_true, decide_eq_true_eq] at h
 refine ⟨h.1.1, h.1.2, h.2, ?_⟩
 have h2 := h.2
 unfold widthF at h2
 split at h2
 · omega
 · split at h2 <;> omega
def relB (r : RelD) : List Int := dig r.off 8 ++ dig r.typ 4 ++ dig r.sym 4 ++ dig (IntKind.u64.wrap r.add) 8
theorem relB_len (r : RelD) : (relB r).length = 24 := by unfold relB; simp [dig_length]
theorem rela_Width (t : Int) : A0 Try.prog 69 [.v (.int .i64 (t))] (fun ret => ret = .v (.int .i64 (widthF t))) := by
 refine A0.body 11 Try.func69 rfl rfl Try.ntmps69 fun base n0 => ?_
 refine AW.seq' ?_
 refine AW.region ?_
 refine AO.c ?_
 refine AO.nil ?_
 refine SQ.normal ?_
 refine AW.seq' ?_
 refine AW.seq' ?_
 refine AW.region ?_
 refine AO.c ?_
 refine AO.nil ?_
 refine SQ.normal ?_
 refine AW.block' ?_
 refine AW.seq' ?_
 refine AW.region ?_
 iterate 2 refine AO.c ?_
 refine AO.nil ?_
 refine SQ.normal ?_
 refine AW.iteB (GL.ev _) (fun h0 => ?_) (fun h0 => ?_)
 ·
  try simp only [Bool.and_eq_true, Bool.or_eq_true, Bool.not_eq_true', Bool.and_eq_false_iff, Bool.or_eq_false_iff, decide_eq_true_eq, decide_eq_false_iff_not, bys_length] at h0
  refine AW.seq' ?_
  refine AW.region ?_
  refine AO.c ?_
  refine AO.nil ?_
  refine SQ.normal ?_
  refine AW.ret ?_
  refine BQ.ret <| SQ.ret ?_
  refine Fin.ret (Gh.refl) noid1 ?_
  show AV.v (.int .i64 _) = AV.v (.int .i64 (widthF t))
  congr 2
  unfold widthF
  split
  · omega
  · first | omega | (split <;> omega)
 ·
  try simp only [Bool.and_eq_true, Bool.or_eq_true, Bool.not_eq_true', Bool.and_eq_false_iff, Bool.or_eq_false_iff, decide_eq_true_eq, decide_eq_false_iff_not, bys_length] at h0
  refine AW.seq' ?_
  refine AW.seq' ?_
  refine AW.region ?_
  iterate 2 refine AO.c ?_
  refine AO.nil ?_
  refine SQ.normal ?_
  refine AW.iteB (GL.ev _) (fun h1 => ?_) (fun h1 => ?_)
  ·
   try simp only [Bool.and_eq_true, Bool.or_eq_true, Bool.not_eq_true', Bool.and_eq_false_iff, Bool.or_eq_false_iff, decide_eq_true_eq, decide_eq_false_iff_not, bys_length] at h1
   refine AW.skip ?_
   refine SQ.normal ?_
   refine AW.iteB (GL.ev _) (fun h4 => ?_) (fun h4 => ?_)
   ·
    try simp only [Bool.and_eq_true, Bool.or_eq_true, Bool.not_eq_true', Bool.and_eq_false_iff, Bool.or_eq_false_iff, decide_eq_true_eq, decide_eq_false_iff_not, bys_length] at h4
    refine AW.seq' ?_
    refine AW.region ?_
    refine AO.c ?_
    refine AO.nil ?_
    refine SQ.normal ?_
    refine AW.ret ?_
    refine BQ.ret <| SQ.ret ?_
    refine Fin.ret (Gh.refl) noid1 ?_
    show AV.v (.int .i64 _) = AV.v (.int .i64 (widthF t))
    congr 2
    unfold widthF
    split
    · omega
    · first | omega | (split <;> omega)
   ·
    try simp only [Bool.and_eq_true, Bool.or_eq_true, Bool.not_eq_true', Bool.and_eq_false_iff, Bool.or_eq_false_iff, decide_eq_true_eq, decide_eq_false_iff_not, bys_length] at h4
    refine AW.skip ?_
    refine BQ.normal ?_
    refine SQ.normal ?_
    refine AW.seq' ?_
    refine AW.region ?_
    refine AO.c ?_
    refine AO.nil ?_
    refine SQ.normal ?_
    refine AW.ret ?_
    refine Fin.ret (Gh.refl) noid1 ?_
    show AV.v (.int .i64 _) = AV.v (.int .i64 (widthF t))
    congr 2
    unfold widthF
    split
    · omega
    · first | omega | (split <;> omega)
  ·
   try simp only [Bool.and_eq_true, Bool.or_eq_true, Bool.not_eq_true', Bool.and_eq_false_iff, Bool.or_eq_false_iff, decide_eq_true_eq, decide_eq_false_iff_not, bys_length] at h1
   refine AW.seq' ?_
   refine AW.region ?_
   iterate 2 refine AO.c ?_
   refine AO.nil ?_
   refine SQ.normal ?_
   refine AW.iteB (GL.ev _) (fun h2 => ?_) (fun h2 => ?_)
   ·
    try simp only [Bool.and_eq_true, Bool.or_eq_true, Bool.not_eq_true', Bool.and_eq_false_iff, Bool.or_eq_false_iff, decide_eq_true_eq, decide_eq_false_iff_not, bys_length] at h2
    refine AW.skip ?_
    refine SQ.normal ?_
    refine AW.iteB (GL.ev _) (fun h4 => ?_) (fun h4 => ?_)
    ·
     try simp only [Bool.and_eq_true, Bool.or_eq_true, Bool.not_eq_true', Bool.and_eq_false_iff, Bool.or_eq_false_iff, decide_eq_true_eq, decide_eq_false_iff_not, bys_length] at h4
     refine AW.seq' ?_
     refine AW.region ?_
     refine AO.c ?_
     refine AO.nil ?_
     refine SQ.normal ?_
     refine AW.ret ?_
     refine BQ.ret <| SQ.ret ?_
     refine Fin.ret (Gh.refl) noid1 ?_
     show AV.v (.int .i64 _) = AV.v (.int .i64 (widthF t))
     congr 2
     unfold widthF
     split
     · omega
     · first | omega | (split <;> omega)
    ·
     try simp only [Bool.and_eq_true, Bool.or_eq_true, Bool.not_eq_true', Bool.and_eq_false_iff, Bool.or_eq_false_iff, decide_eq_true_eq, decide_eq_false_iff_not, bys_length] at h4
     refine AW.skip ?_
     refine BQ.normal ?_
     refine SQ.normal ?_
     refine AW.seq' ?_
     refine AW.region ?_
     refine AO.c ?_
     refine AO.nil ?_
     refine SQ.normal ?_
     refine AW.ret ?_
     refine Fin.ret (Gh.refl) noid1 ?_
     show AV.v (.int .i64 _) = AV.v (.int .i64 (widthF t))
     congr 2
     unfold widthF
     split
     · omega
     · first | omega | (split <;> omega)
   ·
    try simp only [Bool.and_eq_true, Bool.or_eq_true, Bool.not_eq_true', Bool.and_eq_false_iff, Bool.or_eq_false_iff, decide_eq_true_eq, decide_eq_false_iff_not, bys_length] at h2
    refine AW.seq' ?_
    refine AW.region ?_
    iterate 2 refine AO.c ?_
    refine AO.nil ?_
    refine SQ.normal ?_
    refine AW.iteB (GL.ev _) (fun h3 => ?_) (fun h3 => ?_)
    ·
     try simp only [Bool.and_eq_true, Bool.or_eq_true, Bool.not_eq_true', Bool.and_eq_false_iff, Bool.or_eq_false_iff, decide_eq_true_eq, decide_eq_false_iff_not, bys_length] at h3
     refine AW.skip ?_
     refine SQ.normal ?_
     refine AW.iteB (GL.ev _) (fun h4 => ?_) (fun h4 => ?_)
     ·
      try simp only [Bool.and_eq_true, Bool.or_eq_true, Bool.not_eq_true', Bool.and_eq_false_iff, Bool.or_eq_false_iff, decide_eq_true_eq, decide_eq_false_iff_not, bys_length] at h4
      refine AW.seq' ?_
      refine AW.region ?_
      refine AO.c ?_
      refine AO.nil ?_
      refine SQ.normal ?_
      refine AW.ret ?_
      refine BQ.ret <| SQ.ret ?_
      refine Fin.ret (Gh.refl) noid1 ?_
      show AV.v (.int .i64 _) = AV.v (.int .i64 (widthF t))
      congr 2
      unfold widthF
      split
      · omega
      · first | omega | (split <;> omega)
     ·
      try simp only [Bool.and_eq_true, Bool.or_eq_true, Bool.not_eq_true', Bool.and_eq_false_iff, Bool.or_eq_false_iff, decide_eq_true_eq, decide_eq_false_iff_not, bys_length] at h4
      refine AW.skip ?_
      refine BQ.normal ?_
      refine SQ.normal ?_
      refine AW.seq' ?_
      refine AW.region ?_
      refine AO.c ?_
      refine AO.nil ?_
      refine SQ.normal ?_
      refine AW.ret ?_
      refine Fin.ret (Gh.refl) noid1 ?_
      show AV.v (.int .i64 _) = AV.v (.int .i64 (widthF t))
      congr 2
      unfold widthF
      split
      · omega
      · first | omega | (split <;> omega)
    ·
     try simp only [Bool.and_eq_true, Bool.or_eq_true, Bool.not_eq_true', Bool.and_eq_false_iff, Bool.or_eq_false_iff, decide_eq_true_eq, decide_eq_false_iff_not, bys_length] at h3
     refine AW.region ?_
     iterate 2 refine AO.c ?_
     refine AO.nil ?_
     refine SQ.normal ?_
     refine AW.iteB (GL.ev _) (fun h4 => ?_) (fun h4 => ?_)
     ·
      try simp only [Bool.and_eq_true, Bool.or_eq_true, Bool.not_eq_true', Bool.and_eq_false_iff, Bool.or_eq_false_iff, decide_eq_true_eq, decide_eq_false_iff_not, bys_length] at h4
      refine AW.seq' ?_
      refine AW.region ?_
      refine AO.c ?_
      refine AO.nil ?_
      refine SQ.normal ?_
      refine AW.ret ?_
      refine BQ.ret <| SQ.ret ?_
      refine Fin.ret (Gh.refl) noid1 ?_
      show AV.v (.int .i64 _) = AV.v (.int .i64 (widthF t))
      congr 2
      unfold widthF
      split
      · omega
      · first | omega | (split <;> omega)
     ·
      try simp only [Bool.and_eq_true, Bool.or_eq_true, Bool.not_eq_true', Bool.and_eq_false_iff, Bool.or_eq_false_iff, decide_eq_true_eq, decide_eq_false_iff_not, bys_length] at h4
      refine AW.skip ?_
      refine BQ.normal ?_
      refine SQ.normal ?_
      refine AW.seq' ?_
      refine AW.region ?_
      refine AO.c ?_
      refine AO.nil ?_
      refine SQ.normal ?_
      refine AW.ret ?_
      refine Fin.ret (Gh.refl) noid1 ?_
      show AV.v (.int .i64 _) = AV.v (.int .i64 (widthF t))
      congr 2
      unfold widthF
      split
      · omega
      · first | omega | (split <;> omega)
theorem rela_may (r : RelD) : A0 Try.prog 74 [.agg (relA r)] (fun ret => ret = .v (.bool (mayF r))) := by
 refine A0.body 27 Try.func74 rfl rfl Try.ntmps74 fun base n0 => ?_
 refine AW.seq' ?_
 refine AW.region ?_
 refine AO.ww ?_
 refine AO.c ?_
 refine AO.nil ?_
 refine SQ.normal ?_
 refine AW.seq' ?_
 refine AW.region ?_
 iterate 4 refine AO.c ?_
 iterate 3 refine AO.gx ?_
 iterate 2 refine AO.c ?_
 iterate 3 refine AO.gx ?_
 iterate 2 refine AO.c ?_
 iterate 3 refine AO.gx ?_
 iterate 2 refine AO.c ?_
 iterate 2 refine AO.gx ?_
 refine AO.gxcall1 Try.func69 rfl rfl (fun hgd => rela_Width _) ?_
 refine AO.gx ?_
 iterate 2 refine AO.c ?_
 refine AO.nil ?_
 refine SQ.normal ?_
 refine AW.ret ?_
 refine Fin.ret (Gh.refl) noid1 ?_
 rfl
theorem rela_Put (r : RelD) (hr : r.ok) : A0 Try.prog 68 [.agg (relA r)] (fun ret => ret = .rd 1 (bys (if mayRelB r = true then relB r else []))) := by
 refine A0.body 29 Try.func68 rfl rfl Try.ntmps68 fun base n0 => ?_
 refine AW.seq' ?_
 refine AW.region ?_
 refine AO.ww ?_
 refine AO.c ?_
 refine AO.nil ?_
 refine SQ.normal ?_
 refine AW.seq' ?_
 refine AW.seq' ?_
 refine AW.region ?_
 refine AO.c ?_
 refine AO.call1 Try.func74 rfl rfl (rela_may _) ?_
 refine AO.c ?_
 refine AO.nil ?_
 refine SQ.normal ?_
 refine AW.iteB (GL.ev _) (fun h0 => ?_) (fun h0 => ?_)
 ·
  rw [mayF_eq, Bool.not_eq_true'] at h0
  have hno : ¬ mayRelB r = true := by rw [h0]; decide
  refine AW.seq' ?_
  refine AW.region ?_
  refine AO.c ?_
  refine AO.nil ?_
  refine SQ.normal ?_
  refine AW.ret ?_
  refine SQ.ret ?_
  refine Fin.ret (Gh.nilB 2) noid1 ?_
  rw [if_neg hno]; rfl
 ·
  rw [mayF_eq, Bool.not_eq_false'] at h0
  have hm := mayRel_all h0
  have l4 : (if Wide 4 then dig r.typ 4 else []).length ≤ 8 := put8_len r.typ 4
  have l5 : (if Wide 4 then dig r.sym 4 else []).length ≤ 8 := put8_len r.sym 4
  have l8 : (if Wide 8 then dig (IntKind.u64.wrap r.add) 8 else []).length ≤ 8 := put8_len _ 8
  refine AW.skip ?_
  refine SQ.normal ?_
  refine AW.seq' ?_
  refine AW.region ?_
  iterate 2 refine AO.c ?_
  refine AO.oo ?_
  refine AO.callR Try.func59 rfl rfl (le_PutR r.off 8 (by omega) (by omega)) (by rw [bys_length, if_pos (by decide), dig_length]) ?_
  refine AO.c ?_
  refine AO.nil ?_
  refine SQ.normal ?_
  refine AW.seq' ?_
  refine AW.region ?_
  iterate 3 refine AO.c ?_
  refine AO.oo ?_
  refine AO.call1 Try.func59 rfl rfl ((le_PutR _ 4 (by omega) (by omega)).a0 (by rw [bys_length]; exact Nat.le_trans (put8_len _ _) (by decide))) ?_
  refine AO.ww ?_
  refine AO.c ?_
  refine AO.nil ?_
  refine SQ.normal ?_
  refine AW.seq' ?_
  refine AW.region ?_
  iterate 3 refine AO.c ?_
  refine AO.oo ?_
  refine AO.call1 Try.func59 rfl rfl ((le_PutR _ 4 (by omega) (by omega)).a0 (by rw [bys_length]; exact Nat.le_trans (put8_len _ _) (by decide))) ?_
  refine AO.ww ?_
  refine AO.c ?_
  refine AO.nil ?_
  refine SQ.normal ?_
  refine AW.seq' ?_
  refine AW.region ?_
  iterate 3 refine AO.c ?_
  refine AO.pw ?_
  refine AO.call1 Try.func59 rfl rfl ((le_PutR _ 8 (u64_range _) (by omega)).a0 (by rw [bys_length]; exact Nat.le_trans (put8_len _ _) (by decide))) ?_
  refine AO.ww ?_
  refine AO.c ?_
  refine AO.nil ?_
  refine SQ.normal ?_
  refine AW.ret ?_
  refine Fin.ret (Gh.freezeE 2 (li' := relB r) ?_ ?_ ?_) noid1 ?_
  · rw [if_pos (show Wide 8 by decide), if_pos (show Wide 4 by decide), if_pos (show Wide 4 by decide), if_pos (show Wide 8 by decide)]; rfl
  · rw [relB_len, if_pos (show Wide 4 by decide), if_pos (show Wide 4 by decide), if_pos (show Wide 8 by decide), dig_length, dig_length, dig_length]; rfl
  · rw [relB_len]; decide
  · rw [if_pos h0]; rfl
end Go.Proofs.Ytiomdnmicagdcaa.AL
namespace Go.Proofs.Ytiomdnmicagdcaa.AL
open Go Go.RowKit Go.Proofs.Ytiomdnmicagdcaa.Base
set_option linter.unusedVariables false
set_option linter.unusedSimpArgs false
set_option maxRecDepth 4000
set_option synthInstance.maxSize 1000
set_option synthInstance.maxHeartbeats 200000
structure HdD where
 at_ : Int
 many : Int
 names : Int
 deriving Inhabited, DecidableEq
@[reducible] def hdA (h : HdD) : List AV := [.v (.int .i64 h.at_), .v (.int .i64 h.many), .v (.int .i64 h.names)]
@[reducible] def pairA (p : Int × Int) : List AV := [.v (.int .u64 p.1), .v (.int .i64 p.2)]
def HdD.may (h : HdD) : Prop := MayHd h.at_ h.many h.names
instance hdMayDec (h : HdD) : Decidable h.may := by unfold HdD.may; infer_instance
def HdD.bytes (h : HdD) : List Int := Hd h.at_ h.many h.names
def mayHB (h : HdD) : Bool := decide (h.at_ ≥ 0) && decide (h.at_ ≤ 2147483647) && decide (h.many ≥ 1) && decide (h.many ≤ 65535) && decide (h.names ≥ 1) && decide (h.names < h.many)
theorem mayHB_eq (h : HdD) : mayHB h = decide h.may := by
 rw [Bool.eq_iff_iff, decide_eq_true_eq]
 unfold mayHB HdD.may MayHd
 simp only [Bool.and_eq_true, decide_eq_true_eq]
 omega
def identL : List Int := [127, 69, 76, 70, 2, 1, 1, 0, 0, 0, 0, 0, 0, 0, 0, 0]
def layL (h : HdD) : List (Int × Int) := [(1, 2), (62, 2), (1, 4), (0, 8), (0, 8), (h.at_, 8), (0, 4), (64, 2), (0, 2), (0, 2), (64, 2), (h.many, 2), (h.names, 2)]
def digsP : List (Int × Int) → List Int
 | [] => []
 | p :: r => dig p.1 p.2.toNat ++ digsP r
theorem digsP_append (a b : List (Int × Int)) : digsP (a ++ b) = digsP a ++ digsP b := by
 induction a with
 | nil => rfl
 | cons p r ih => simp only [List.cons_append, digsP, ih, List.append_assoc]
theorem digsP_step {l : List (Int × Int)} {i : Nat} (h : i < l.length) : digsP (l.take (i + 1)) = digsP (l.take i) ++ dig (l.getD i default).1 (l.getD i default).2.toNat := by
 have : l.getD i default = l[i] := by simp [h]
 rw [this, List.take_succ_eq_append_getElem h, digsP_append]
 simp [digsP]
theorem layL_at {h : HdD} (hm : h.may) {i : Nat} (hi : i < 13) : Wide ((layL h).getD i default).2 ∧ 0 ≤ ((layL h).getD i default).1 ∧ ((layL h).getD i default).1 ≤ 18446744073709551615 ∧ -9223372036854775808 ≤ ((layL h).getD i default).2 ∧ ((layL h).getD i default).2 ≤ 9223372036854775807 := by
 unfold HdD.may MayHd at hm
 have hc : i = 0 ∨ i = 1 ∨ i = 2 ∨ i = 3 ∨ i = 4 ∨ i = 5 ∨ i = 6 ∨ i = 7 ∨ i = 8 ∨ i = 9 ∨ i = 10 ∨ i = 11 ∨ i = 12 := by omega
 rcases hc with rfl | rfl | rfl | rfl | rfl | rfl | rfl | rfl | rfl | rfl | rfl | rfl | rfl <;> simp only [layL, List.getD_cons_zero, List.getD_cons_succ] <;> refine ⟨by decide, ?_, ?_, by decide, by decide⟩ <;> omega
theorem lay_all (h : HdD) : identL ++ digsP (layL h) = h.bytes := by
 simp [layL, digsP, HdD.bytes, Hd, identL]
theorem ehdr_may (h : HdD) : A0 Try.prog 61 [.agg (hdA h)] (fun ret => ret = .v (.bool (mayHB h))) := by
 refine A0.body 33 Try.func61 rfl rfl Try.ntmps61 fun base n0 => ?_
 refine AW.seq' ?_
 refine AW.region ?_
 refine AO.ww ?_
 refine AO.c ?_
 refine AO.nil ?_
 refine SQ.normal ?_
 refine AW.seq' ?_
 refine AW.region ?_
 iterate 4 refine AO.c ?_
 iterate 3 refine AO.gx ?_
 iterate 2 refine AO.c ?_
 iterate 3 refine AO.gx ?_
 iterate 2 refine AO.c ?_
 iterate 3 refine AO.gx ?_
 iterate 2 refine AO.c ?_
 iterate 3 refine AO.gx ?_
 iterate 2 refine AO.c ?_
 iterate 5 refine AO.gx ?_
 iterate 2 refine AO.c ?_
 refine AO.nil ?_
 refine SQ.normal ?_
 refine AW.ret ?_
 refine Fin.ret (Gh.refl) noid1 ?_
 rfl
theorem ehdr_lay (h : HdD) (hm : h.may) : A1 Try.prog 62 [.agg (hdA h)] 5 1 (bys h.bytes) := by
 have hm2 := hm
 unfold HdD.may MayHd at hm2
 have hl13 : (layL h).length = 13 := rfl
 refine A1.body 44 (NIr.h) Try.func62 rfl rfl Try.ntmps62 fun base n0 => ?_
 refine AW.seq' ?_
 refine AW.region ?_
 refine AO.ww ?_
 refine AO.c ?_
 refine AO.nil ?_
 refine SQ.normal ?_
 refine AW.seq' ?_
 refine AW.region ?_
 refine AO.ww ?_
 refine AO.c ?_
 refine AO.nil ?_
 refine SQ.normal ?_
 refine AW.seq' ?_
 refine AW.seq' ?_
 refine AW.region ?_
 iterate 7 refine AO.c ?_
 refine AO.oo ?_
 iterate 8 refine AO.c ?_
 refine AO.oo ?_
 iterate 3 refine AO.c ?_
 refine AO.oo ?_
 refine AO.c ?_
 refine AO.rr ?_
 refine AO.eq 29 (av' := .rd 2 ((layL h).map pairA)) rfl ?_
 iterate 2 refine AO.c ?_
 refine AO.nil ?_
 refine SQ.normal ?_
 refine AW.block' ?_
 refine AW.loopU4 [.f, .f, .f, .k, .F, .F, .F, .f, .k, .k, .k, .F, .f, .f, .f, .f] (fun (i ep : Nat) (out : List Int) (j : Nat) => [(3, .own (n0 + 1) ep 0 out.length), (31, .v (.int .i64 (i)))]) (fun i ep out j => Hn n0 (([some (.box 121 (hdA h)), some (.row 5 1 ep (bys out))] ++ List.replicate j none) ++ [])) (fun m i ep out j => i ≤ 13 ∧ m = 13 - i ∧ out.length ≤ 16 + 8 * i ∧ out = identL ++ digsP ((layL h).take i)) (13) (0) (0) (identL) (0) ⟨by omega, by omega, by decide, by simp [digsP]⟩ (by first | rfl | (simp; done)) (by first | rfl | (simp; done)) ?_
 rintro m0 i ep out j ⟨hx1, hx2, hx3, hx4⟩
 refine AW.seq' ?_
 refine AW.region ?_
 refine AO.c ?_
 refine AO.nil ?_
 refine SQ.normal ?_
 refine AW.seq' ?_
 refine AW.iteB (GL.ev _) (fun h0 => ?_) (fun h0 => ?_)
 ·
  rw [decide_eq_true_eq] at h0
  have hi : i < 13 := by omega
  have hla := layL_at hm hi
  have hpl := put8_len ((layL h).getD i default).1 ((layL h).getD i default).2
  refine AW.skip ?_
  refine SQ.normal ?_
  refine AW.seq' ?_
  refine AW.block' ?_
  refine AW.seq' ?_
  refine AW.region ?_
  refine AO.oo ?_
  refine AO.c ?_
  refine AO.ww ?_
  refine AO.sst ?_
  refine AO.nil ?_
  refine SQ.normal ?_
  refine AW.region ?_
  iterate 5 refine AO.c ?_
  refine AO.call1 Try.func59 rfl rfl ((le_PutR ((layL h).getD i default).1 ((layL h).getD i default).2 ⟨hla.2.1, hla.2.2.1⟩ hla.2.2.2).a0 (by rw [bys_length]; exact Nat.le_trans (put8_len _ _) (by decide))) ?_
  refine AO.ww ?_
  refine AO.c ?_
  refine AO.nil ?_
  refine BQ.normal ?_
  refine SQ.normal ?_
  refine AW.region ?_
  refine AO.oo ?_
  refine AO.c ?_
  refine AO.nil ?_
  exact AW.backD [.f, .f, .f, .k, .F, .F, .F, .f, .k, .k, .k, .F, .f, .f, .f, .f] ([some (.box 121 (hdA h)), some (.row 5 1 (ep + 1) (bys (out ++ (if Wide ((layL h).getD i default).2 then dig ((layL h).getD i default).1 ((layL h).getD i default).2.toNat else []))))]) (j) (m0 - 1) (i + 1, ep + 1, out ++ (if Wide ((layL h).getD i default).2 then dig ((layL h).getD i default).1 ((layL h).getD i default).2.toNat else []), j + 1) (by omega) (by (try dsimp only); exact ⟨by omega, by omega, by rw [List.length_append]; omega, by rw [if_pos hla.1, digsP_step (by rw [hl13]; exact hi), hx4, List.append_assoc]⟩) (by (try dsimp only); rw [List.length_append] <;> rfl) (by first | rfl | (simp; done))
 ·
  rw [decide_eq_false_iff_not] at h0
  refine AW.exit ?_
  refine SQ.exit <| AW.out <| LU.exit <| BQ.exit ?_
  refine SQ.normal ?_
  refine AW.seq' ?_
  refine AW.region ?_
  iterate 2 refine AO.c ?_
  refine AO.nil ?_
  refine SQ.normal ?_
  refine AW.ret ?_
  have hfin : out = h.bytes := by
   have : i = 13 := by omega
   rw [hx4, this, List.take_of_length_le (by rw [hl13]; omega), lay_all]
  refine FinO.ret 2 (Gh.refl) rfl ?_ ?_ (.inr rfl)
  · rw [hfin]
  · rw [hfin, bys_length]
theorem hdB_len (h : HdD) : h.bytes.length = 64 := hd_length _ _ _
theorem hdI_len (h : HdD) : (if h.may then h.bytes else []).length ≤ 64 := by
 split
 · rw [hdB_len]; omega
 · simp
theorem ehdr_Put (h : HdD) : A1 Try.prog 42 [.agg (hdA h)] 5 1 (bys (if h.may then h.bytes else [])) := by
 refine A1.body 8 (NIr.h) Try.func42 rfl rfl Try.ntmps42 fun base n0 => ?_
 refine AW.seq' ?_
 refine AW.region ?_
 refine AO.ww ?_
 refine AO.c ?_
 refine AO.nil ?_
 refine SQ.normal ?_
 refine AW.seq' ?_
 refine AW.seq' ?_
 refine AW.region ?_
 refine AO.c ?_
 refine AO.call1 Try.func61 rfl rfl (ehdr_may _) ?_
 refine AO.c ?_
 refine AO.nil ?_
 refine SQ.normal ?_
 refine AW.iteB (GL.ev _) (fun h0 => ?_) (fun h0 => ?_)
 ·
  rw [mayHB_eq, Bool.not_eq_true', decide_eq_false_iff_not] at h0
  refine AW.seq' ?_
  refine AW.region ?_
  refine AO.c ?_
  refine AO.nil ?_
  refine SQ.normal ?_
  refine AW.ret ?_
  refine SQ.ret ?_
  refine FinO.ret 2 (Gh.adoptB 2 5) rfl ?_ ?_ (.inr rfl)
  · rw [if_neg h0]
  · rw [if_neg h0]; rfl
 ·
  rw [mayHB_eq, Bool.not_eq_false', decide_eq_true_eq] at h0
  refine AW.skip ?_
  refine SQ.normal ?_
  refine AW.seq' ?_
  refine AW.region ?_
  refine AO.c ?_
  refine AO.callR Try.func62 rfl rfl (ehdr_lay h h0) (by rw [bys_length, hdB_len]) ?_
  refine AO.c ?_
  refine AO.nil ?_
  refine SQ.normal ?_
  refine AW.ret ?_
  refine FinO.ret 2 (Gh.refl) rfl ?_ ?_ (.inr rfl)
  · rw [if_pos h0]
  · rw [if_pos h0, bys_length, hdB_len]
end Go.Proofs.Ytiomdnmicagdcaa.AL
namespace Go.Proofs.Ytiomdnmicagdcaa.AL
open Go Go.RowKit Go.Proofs.Ytiomdnmicagdcaa.Base
set_option linter.unusedVariables false
set_option linter.unusedSimpArgs false
set_option maxRecDepth 4000
set_option synthInstance.maxSize 1000
set_option synthInstance.maxHeartbeats 200000
structure ShD where
 (a0 a1 a2 a3 a4 a5 a6 a7 a8 a9 : Int)
 deriving Inhabited, DecidableEq
@[reducible] def shA (h : ShD) : List AV := [.v (.int .i64 h.a0), .v (.int .i64 h.a1), .v (.int .i64 h.a2), .v (.int .i64 h.a3), .v (.int .i64 h.a4), .v (.int .i64 h.a5), .v (.int .i64 h.a6), .v (.int .i64 h.a7), .v (.int .i64 h.a8), .v (.int .i64 h.a9)]
def ShD.list (h : ShD) : List Int := [h.a0, h.a1, h.a2, h.a3, h.a4, h.a5, h.a6, h.a7, h.a8, h.a9]
def ShD.ok (h : ShD) : Prop := ∀ x ∈ h.list, I64 x
def ShD.may (h : ShD) : Prop := ∀ x ∈ h.list, 0 ≤ x ∧ x ≤ 2147483647
instance shMayDec (h : ShD) : Decidable h.may := by unfold ShD.may; infer_instance
def shw (t : Int) : Int := if t < 2 ∨ t = 6 ∨ t = 7 then 4 else 8
def offL : List Int := [0, 4, 8, 16, 24, 32, 40, 44, 48, 56, 64]
def ShW : List Nat := [4, 4, 8, 8, 8, 8, 4, 4, 8, 8]
def ShD.bytes (h : ShD) : List Int := joinW ShW h.list
theorem ten {i : Nat} (h : i < 10) : i = 0 ∨ i = 1 ∨ i = 2 ∨ i = 3 ∨ i = 4 ∨ i = 5 ∨ i = 6 ∨ i = 7 ∨ i = 8 ∨ i = 9 := by omega
theorem off_step {i : Nat} (h : i < 10) : offL.getD (i + 1) 0 = offL.getD i 0 + shw i ∧ 0 ≤ offL.getD i 0 ∧ offL.getD i 0 + shw i ≤ 64 ∧ Wide (shw i) := by
 rcases ten h with rfl | rfl | rfl | rfl | rfl | rfl | rfl | rfl | rfl | rfl <;> decide
theorem list_len (h : ShD) : h.list.length = 10 := rfl
theorem may_at {h : ShD} (hm : h.may) {i : Nat} (hi : i < 10) : 0 ≤ h.list.getD i 0 ∧ h.list.getD i 0 ≤ 2147483647 := by
 have : h.list.getD i 0 = h.list[i]'(by rw [list_len]; exact hi) := by rw [List.getD_eq_getElem?_getD, List.getElem?_eq_getElem (by rw [list_len]; exact hi)]; rfl
 rw [this]; exact hm _ (List.getElem_mem _)
theorem may_of {h : ShD} (hm : ∀ i, i < 10 → 0 ≤ h.list.getD i 0 ∧ h.list.getD i 0 ≤ 2147483647) : h.may := by
 intro x hx
 obtain ⟨i, hi, rfl⟩ := List.getElem_of_mem hx
 have := hm i (by rw [list_len] at hi; exact hi)
 rw [List.getD_eq_getElem?_getD, List.getElem?_eq_getElem hi] at this
 exact this
theorem shdr_width (t : Int) : A0 Try.prog 60 [.v (.int .i64 (t))] (fun ret => ret = .v (.int .i64 (shw t))) := by
 refine A0.body 13 Try.func60 rfl rfl Try.ntmps60 fun base n0 => ?_
 refine AW.seq' ?_
 refine AW.region ?_
 refine AO.c ?_
 refine AO.nil ?_
 refine SQ.normal ?_
 refine AW.seq' ?_
 refine AW.seq' ?_
 refine AW.region ?_
 iterate 3 refine AO.c ?_
 iterate 2 refine AO.gx ?_
 iterate 2 refine AO.c ?_
 iterate 2 refine AO.gx ?_
 refine AO.c ?_
 refine AO.nil ?_
 refine SQ.normal ?_
 refine AW.iteB (GL.ev _) (fun h0 => ?_) (fun h0 => ?_)
 ·
  try simp only [Bool.and_eq_true, Bool.or_eq_true, Bool.not_eq_true', Bool.and_eq_false_iff, Bool.or_eq_false_iff, decide_eq_true_eq, decide_eq_false_iff_not, bys_length] at h0
  refine AW.seq' ?_
  refine AW.region ?_
  refine AO.c ?_
  refine AO.nil ?_
  refine SQ.normal ?_
  refine AW.ret ?_
  refine SQ.ret ?_
  refine Fin.ret (Gh.refl) noid1 ?_
  show AV.v _ = AV.v _
  congr 2
  unfold shw
  rw [if_pos (by omega)]
 ·
  try simp only [Bool.and_eq_true, Bool.or_eq_true, Bool.not_eq_true', Bool.and_eq_false_iff, Bool.or_eq_false_iff, decide_eq_true_eq, decide_eq_false_iff_not, bys_length] at h0
  refine AW.skip ?_
  refine SQ.normal ?_
  refine AW.seq' ?_
  refine AW.region ?_
  refine AO.c ?_
  refine AO.nil ?_
  refine SQ.normal ?_
  refine AW.ret ?_
  refine Fin.ret (Gh.refl) noid1 ?_
  show AV.v _ = AV.v _
  congr 2
  unfold shw
  rw [if_neg (by omega)]
theorem shdr_fields (n k : Nat) (L : List (Option AB)) (cs : List AV) [gb : GB L k (.box 115 cs)] : AC Try.prog 58 (Hn n L) [.box (n + k) 0] (fun r H' => r = .rd 1 ((List.range 10).map fun i => [AV.box (n + k) i]) ∧ H' = Hn n L) := by
 refine AC.body 34 Try.func58 rfl rfl Try.ntmps58 fun base => ?_
 refine AW.seq' ?_
 refine AW.region ?_
 refine AO.c ?_
 refine AO.nil ?_
 refine SQ.normal ?_
 refine AW.seq' ?_
 refine AW.drawsZ [] (.one 0 false (.one 1 false (.one 2 false (.one 3 false (.one 4 false (.one 5 false (.one 6 false (.one 7 false (.one 8 false (.one 9 false (.one 10 false (.one 11 false (.one 12 false (.one 13 false (.one 14 false (.one 15 false (.one 16 false (.one 17 false (.one 18 false (.one 19 false (.one 20 false (.one 21 false (.one 22 false (.one 23 false (.one 24 false (.one 25 false (.one 26 false (.one 27 false (.one 28 false (.one 29 false (.one 30 true (.one 31 false .nil)))))))))))))))))))))))))))))))) (by kernel_rfl) rfl (by kernel_rfl) ?_
 iterate 30 refine AZ.c rfl ?_
 refine AZ.rr rfl ?_
 refine AZ.c rfl ?_
 refine AZ.done ?_
 refine SQ.normal ?_
 refine AW.ret ?_
 exact FinC.ret Gh.refl ⟨rfl, rfl⟩ (.inr rfl)
theorem bytes_len (h : ShD) : h.bytes.length = 64 := joinW_length _ _ rfl
theorem joinW_snoc : ∀ (ws : List Nat) (vs : List Int) (i : Nat), i < ws.length → ws.length = vs.length → joinW (ws.take (i + 1)) (vs.take (i + 1)) = joinW (ws.take i) (vs.take i) ++ dig (vs.getD i 0) (ws.getD i 0) := by
 intro ws
 induction ws with
 | nil => intro vs i h; simp at h
 | cons w ws ih =>
  intro vs i h hl
  cases vs with
  | nil => simp at hl
  | cons v vs =>
   cases i with
   | zero => simp [joinW]
   | succ i =>
    have := ih vs i (by simpa using h) (by simpa using hl)
    simp only [List.take_succ_cons, joinW, List.getD_cons_succ, this, List.append_assoc]
theorem shw_nat {i : Nat} (h : i < 10) : (shw i).toNat = ShW.getD i 0 := by
 rcases ten h with rfl | rfl | rfl | rfl | rfl | rfl | rfl | rfl | rfl | rfl <;> decide
set_option maxHeartbeats 4000000 in
theorem shdr_Put (h : ShD) (hh : h.ok) : A0 Try.prog 41 [.agg (shA h)] (fun ret => ret = .rd 1 (bys (if h.may then h.bytes else []))) := by
 have hl10 : (List.range 10).length = 10 := rfl
 refine A0.body 34 Try.func41 rfl rfl Try.ntmps41 fun base n0 => ?_
 refine AW.seq' ?_
 refine AW.region ?_
 refine AO.ww ?_
 refine AO.c ?_
 refine AO.nil ?_
 refine SQ.normal ?_
 refine AW.seq' ?_
 refine AW.region ?_
 refine AO.c ?_
 refine AO.nil ?_
 refine SQ.normal ?_
 refine AW.seq' ?_
 refine AW.seq' ?_
 refine AW.region ?_
 refine AO.callC Try.func58 rfl rfl (shdr_fields n0 0 _ _) ?_
 iterate 2 refine AO.c ?_
 refine AO.nil ?_
 refine SQ.normal ?_
 refine AW.block' ?_
 refine AW.ghost (Gh.adoptB 3 5) ?_
 refine AW.eqH (H' := Hn n0 [some (.box 115 (h.list.map iV)), some (.row 5 1 0 (bys []))]) rfl ?_
 refine AW.loopU3 [.f, .f, .f, .k, .f, .f, .k, .k, .k, .F, .F, .F, .f] (fun (i ep : Nat) (out : List Int) => [(3, .own (n0 + 1) ep 0 out.length), (8, .v (.int .i64 (i)))]) (fun i ep out => Hn n0 [some (.box 115 (h.list.map iV)), some (.row 5 1 ep (bys out))]) (fun m i ep out => i ≤ 10 ∧ m = 10 - i ∧ (∀ k, k < i → 0 ≤ h.list.getD k 0 ∧ h.list.getD k 0 ≤ 2147483647) ∧ out.length ≤ 8 * i ∧ out = joinW (ShW.take i) (h.list.take i)) (10) (0) (0) ([]) ⟨by omega, by omega, fun k hk => by omega, by simp, rfl⟩ (by first | rfl | (simp; done)) (by first | rfl | (simp; done)) ?_
 rintro m0 i ep out ⟨hx1, hx2, hx3, hx4, hx5⟩
 refine AW.seq' ?_
 refine AW.region ?_
 refine AO.c ?_
 refine AO.nil ?_
 refine SQ.normal ?_
 refine AW.seq' ?_
 refine AW.iteB (GL.ev _) (fun h0 => ?_) (fun h0 => ?_)
 ·
  rw [decide_eq_true_eq] at h0
  have hi : i < 10 := by omega
  obtain ⟨o1, o2, o3, o4⟩ := off_step hi
  have hil : i < h.list.length := hi
  have hok : I64 (h.list.getD i 0) := by
   have : h.list.getD i 0 = h.list[i] := by rw [List.getD_eq_getElem?_getD, List.getElem?_eq_getElem hil]; rfl
   rw [this]; exact hh _ (List.getElem_mem _)
  have hpl := put8_len (h.list.getD i 0) (shw i)
  have o5 : 0 ≤ shw (i : Int) := by unfold shw; split <;> omega
  refine AW.skip ?_
  refine SQ.normal ?_
  refine AW.seq' ?_
  refine AW.block' ?_
  refine AW.seq' ?_
  refine AW.region ?_
  refine AO.c ?_
  refine AO.oo ?_
  refine AO.c ?_
  refine AO.eq 12 (av' := .box (n0 + 0) i) (by simp [List.getD_eq_getElem?_getD, hi]) ?_
  iterate 2 refine AO.c ?_
  refine AO.nil ?_
  refine SQ.normal ?_
  refine AW.seq' ?_
  refine AW.seq' ?_
  refine AW.region ?_
  iterate 2 refine AO.c ?_
  refine AO.oo ?_
  iterate 2 refine AO.c ?_
  iterate 2 refine AO.gx ?_
  refine AO.gxoo ?_
  refine AO.gx ?_
  refine AO.c ?_
  refine AO.nil ?_
  refine SQ.normal ?_
  refine AW.iteB (GL.ev _) (fun h1 => ?_) (fun h1 => ?_)
  ·
   simp only [Bool.or_eq_true, decide_eq_true_eq] at h1
   have hno : ¬ h.may := fun hm => by have := may_at hm hi; omega
   refine AW.seq' ?_
   refine AW.region ?_
   refine AO.c ?_
   refine AO.nil ?_
   refine SQ.normal ?_
   refine AW.ret ?_
   refine SQ.ret <| BQ.ret <| SQ.ret <| AW.out <| LU.ret <| BQ.ret <| SQ.ret ?_
   refine Fin.ret (Gh.nilB 2) noid1 ?_
   rw [if_neg hno]; rfl
  ·
   simp only [Bool.or_eq_false_iff, decide_eq_false_iff_not] at h1
   refine AW.skip ?_
   refine SQ.normal ?_
   refine AW.drawsZ [8] (.one 0 false (.one 1 false (.one 2 false (.one 3 false (.one 4 false (.one 5 false (.one 6 true (.one 7 true (.one 8 true (.one 9 false .nil)))))))))) (by kernel_rfl) rfl (by kernel_rfl) ?_
   iterate 3 refine AZ.c rfl ?_
   iterate 2 refine AZ.oo rfl ?_
   refine AZ.c rfl ?_
   refine AZ.call1 rfl Try.func60 rfl rfl (shdr_width _) ?_
   refine AZ.call1 rfl Try.func59 rfl rfl ((le_PutR (h.list.getD i 0) (shw i) (by omega) (by omega)).a0 (by rw [bys_length]; exact Nat.le_trans (put8_len _ _) (by decide))) ?_
   refine AZ.ww rfl rfl ?_
   refine AZ.c rfl ?_
   refine AZ.done ?_
   refine BQ.normal ?_
   refine SQ.normal ?_
   refine AW.region ?_
   refine AO.oo ?_
   refine AO.c ?_
   refine AO.nil ?_
   exact AW.backU [.f, .f, .f, .k, .f, .f, .k, .k, .k, .F, .F, .F, .f] (m0 - 1) (i + 1, ep + 1, out ++ (if Wide (shw i) then dig (h.list.getD i 0) (shw i).toNat else [])) (by omega) (by (try dsimp only); exact ⟨by omega, by omega, fun k hk => by rcases Nat.lt_succ_iff_lt_or_eq.1 hk with q | rfl; exact hx3 k q; omega, by rw [List.length_append]; omega, by rw [if_pos o4, joinW_snoc ShW h.list i hi rfl, shw_nat hi, ← hx5]⟩) (by (try dsimp only); rw [List.length_append] <;> rfl) (rfl)
 ·
  rw [decide_eq_false_iff_not] at h0
  have hi : i = 10 := by omega
  subst hi
  have hyes : h.may := may_of hx3
  refine AW.exit ?_
  refine SQ.exit <| AW.out <| LU.exit <| BQ.exit ?_
  refine SQ.normal ?_
  refine AW.seq' ?_
  refine AW.region ?_
  iterate 2 refine AO.c ?_
  refine AO.nil ?_
  refine SQ.normal ?_
  refine AW.ret ?_
  refine Fin.ret (Gh.freezeE 2 (li' := h.bytes) hx5 (by rw [← show out = h.bytes from hx5]) (by rw [bytes_len]; decide)) noid1 ?_
  rw [if_pos hyes]; rfl
end Go.Proofs.Ytiomdnmicagdcaa.AL
namespace Go.Proofs.Ytiomdnmicagdcaa.AL
open Go Go.RowKit Go.Proofs.Ytiomdnmicagdcaa.Base
set_option linter.unusedVariables false
set_option linter.unusedSimpArgs false
set_option maxRecDepth 4000
set_option synthInstance.maxSize 1000
set_option synthInstance.maxHeartbeats 200000
def encB (n : Int) : List Int := if 0 ≤ n ∧ n ≤ 2147483647 then enc 5 n else []
theorem encB_len (n : Int) : (encB n).length ≤ 5 := by unfold encB; split; exact enc_length 5 n; simp
theorem uleb_Put (n : Int) (hn : I64 n) : A0 Try.prog 70 [.v (.int .i64 (n))] (fun ret => ret = .rd 1 (bys (encB n))) := by
 unfold I64 at hn
 refine A0.body 26 Try.func70 rfl rfl Try.ntmps70 fun base n0 => ?_
 refine AW.seq' ?_
 refine AW.region ?_
 refine AO.c ?_
 refine AO.nil ?_
 refine SQ.normal ?_
 refine AW.seq' ?_
 refine AW.seq' ?_
 refine AW.region ?_
 iterate 3 refine AO.c ?_
 iterate 2 refine AO.gx ?_
 refine AO.c ?_
 refine AO.nil ?_
 refine SQ.normal ?_
 refine AW.iteB (GL.ev _) (fun h0 => ?_) (fun h0 => ?_)
 ·
  simp only [Bool.or_eq_true, decide_eq_true_eq] at h0
  have hno : encB n = [] := by unfold encB; rw [if_neg (by omega)]
  refine AW.seq' ?_
  refine AW.region ?_
  refine AO.c ?_
  refine AO.nil ?_
  refine SQ.normal ?_
  refine AW.ret ?_
  refine SQ.ret ?_
  refine Fin.ret (Gh.nilB 2) noid1 ?_
  rw [hno]; rfl
 ·
  simp only [Bool.or_eq_false_iff, decide_eq_false_iff_not] at h0
  have hyes : encB n = enc 5 n := by unfold encB; rw [if_pos (by omega)]
  refine AW.skip ?_
  refine SQ.normal ?_
  refine AW.seq' ?_
  refine AW.region ?_
  refine AO.c ?_
  refine AO.nil ?_
  refine SQ.normal ?_
  refine AW.seq' ?_
  refine AW.block' ?_
  refine AW.ghost (Gh.adoptB 3 5) ?_
  refine AW.loopU3 [.k, .f, .f, .k, .F, .F, .f, .f, .f, .f, .f, .f] (fun (ep : Nat) (x : Int) (out : List Int) => [(0, .v (.int .i64 (x))), (3, .own (n0 + 0) ep 0 out.length)]) (fun ep x out => Hn n0 [some (.row 5 1 ep (bys out))]) (fun m ep x out => enc 5 n = out ++ enc m x ∧ 0 ≤ x ∧ x < 128 ^ m ∧ (1 ≤ m ∧ out.length + m = 5)) (5) (0) (n) ([]) ⟨rfl, by omega, by omega, by simp⟩ (by first | rfl | (simp; done)) (by first | rfl | (simp; done)) ?_
  rintro m0 ep x out ⟨hx1, hx2, hx3, hx4⟩
  have hxb : x < 128 ^ 5 := Int.lt_of_lt_of_le hx3 (pow128_le (by omega))
  refine AW.seq' ?_
  refine AW.seq' ?_
  refine AW.region ?_
  iterate 2 refine AO.c ?_
  refine AO.nil ?_
  refine SQ.normal ?_
  refine AW.iteB (GL.ev _) (fun h1 => ?_) (fun h1 => ?_)
  ·
   rw [decide_eq_true_eq] at h1
   have hm2 : 2 ≤ m0 := by
    rcases Nat.lt_or_ge m0 2 with h | h
    · have : m0 = 1 := by omega
      subst this; omega
    · exact h
   have hst : enc m0 x = (x % 128 + 128) :: enc (m0 - 1) (x / 128) := by
    obtain ⟨k, rfl⟩ : ∃ k, m0 = k + 1 := ⟨m0 - 1, by omega⟩
    show (if x < 128 then [x] else _) = _
    rw [if_neg (by omega)]; rfl
   have hpp : x / 128 < 128 ^ (m0 - 1) := by
    obtain ⟨k, rfl⟩ : ∃ k, m0 = k + 1 := ⟨m0 - 1, by omega⟩
    have := hx3; rw [Int.pow_succ] at this
    show x / 128 < 128 ^ k
    omega
   refine AW.skip ?_
   refine SQ.normal ?_
   refine AW.seq' ?_
   refine AW.block' ?_
   refine AW.region ?_
   iterate 2 refine AO.c ?_
   iterate 3 refine AO.oo ?_
   refine AO.rr ?_
   refine AO.ww ?_
   refine AO.c ?_
   refine AO.nil ?_
   refine BQ.normal ?_
   refine SQ.normal ?_
   refine AW.region ?_
   refine AO.c ?_
   refine AO.oo ?_
   refine AO.c ?_
   refine AO.nil ?_
   exact AW.backU [.k, .f, .f, .k, .F, .F, .f, .f, .f, .f, .f, .f] (m0 - 1) (ep + 1, x / 128, out ++ [x % 128 + 128]) (by omega) (by (try dsimp only); exact ⟨by rw [hx1, hst]; simp, by omega, hpp, by simp; omega⟩) (by first | rfl | (simp; done)) (by first | rfl | (simp; done))
  ·
   rw [decide_eq_false_iff_not] at h1
   have hst : enc m0 x = [x] := by
    obtain ⟨k, rfl⟩ : ∃ k, m0 = k + 1 := ⟨m0 - 1, by omega⟩
    show (if x < 128 then [x] else _) = _
    rw [if_pos (by omega)]
   have hfin : out ++ [x] = encB n := by rw [hyes, hx1, hst]
   refine AW.exit ?_
   refine SQ.exit <| AW.out <| LU.exit <| BQ.exit ?_
   refine SQ.normal ?_
   refine AW.seq' ?_
   refine AW.region ?_
   iterate 2 refine AO.c ?_
   refine AO.oo ?_
   refine AO.rr ?_
   refine AO.ww ?_
   refine AO.c ?_
   refine AO.nil ?_
   refine SQ.normal ?_
   refine AW.ret ?_
   refine Fin.ret (Gh.freezeE 2 hfin (by rw [← hfin]; simp) (by rw [← hfin]; simp; omega)) noid1 ?_
   rfl
end Go.Proofs.Ytiomdnmicagdcaa.AL
namespace Go.Proofs.Ytiomdnmicagdcaa.AL
open Go Go.RowKit Go.Proofs.Ytiomdnmicagdcaa.Base
set_option linter.unusedVariables false
set_option linter.unusedSimpArgs false
set_option maxRecDepth 4000
set_option synthInstance.maxSize 1000
set_option synthInstance.maxHeartbeats 200000
theorem ba_ext {a b : ByteArray} (h : a.data.toList = b.data.toList) : a = b := by
 cases a; cases b; simp at h; simp [h]
theorem ba_eq {a b : ByteArray} : a.toList = b.toList ↔ a = b := ⟨fun h => ba_ext (by rwa [ByteArray.toList_eq, ByteArray.toList_eq] at h), fun h => by rw [h]⟩
@[reducible] def noS : ByteArray := ⟨#[]⟩
abbrev TabS := List Int × List Int × List (ByteArray × Int)
def tabStep (st : TabS) (s : ByteArray) : TabS :=
 if s = noS then (st.1, st.2.1 ++ [0], st.2.2)
 else match aget st.2.2 s with
  | some a => (st.1, st.2.1 ++ [a], st.2.2)
  | none => (st.1 ++ strB s ++ [0], st.2.1 ++ [(st.1.length : Int)], aput st.2.2 s (st.1.length : Int))
def tabOf (l : List ByteArray) : TabS := l.foldl tabStep ([0], [], [])
theorem tabOf_succ {l : List ByteArray} {i : Nat} (h : i < l.length) : tabOf (l.take (i + 1)) = tabStep (tabOf (l.take i)) (l.getD i default) := by
 unfold tabOf
 rw [List.take_succ_eq_append_getElem h, List.foldl_append]
 simp [h]
structure TabInv (l : List ByteArray) (st : TabS) : Prop where
 pl : st.2.1.length = l.length
 nil : ∀ k, k < l.length → l.getD k default = noS → st.2.1.getD k 0 = 0
 get : ∀ k, k < l.length → l.getD k default ≠ noS → aget st.2.2 (l.getD k default) = some (st.2.1.getD k 0)
 old : ∀ s a, aget st.2.2 s = some a → 0 ≤ a ∧ s ≠ noS ∧ ∃ k, k < l.length ∧ l.getD k default = s
 at_ : ∀ k, k < l.length → 0 ≤ st.2.1.getD k 0 ∧ ∃ r, st.1.drop (st.2.1.getD k 0).toNat = strB (l.getD k default) ++ 0 :: r
 t0 : ∃ r, st.1 = 0 :: r
theorem tab_start : TabInv [] ([0], [], []) := ⟨rfl, fun k h => by simp at h, fun k h => by simp at h, fun s a h => by simp [aget] at h, fun k h => by simp at h, ⟨[], rfl⟩⟩
theorem getD_snoc_lt {α : Type} {l : List α} {x d : α} {k : Nat} (h : k < l.length) : (l ++ [x]).getD k d = l.getD k d := by
 simp [List.getElem?_append_left h]
theorem getD_snoc_eq {α : Type} {l : List α} {x d : α} : (l ++ [x]).getD l.length d = x := by simp
theorem drop_app_of {T r u : List Int} {p : Nat} {h : List Int} (hp : T.drop p = h ++ 0 :: r) : (T ++ u).drop p = h ++ 0 :: (r ++ u) := by
 have hlt : p ≤ T.length := by
  rcases Nat.lt_or_ge T.length p with h1 | h1
  · rw [List.drop_of_length_le (by omega)] at hp
    have := congrArg List.length hp
    simp at this
  · exact h1
 rw [List.drop_append_of_le_length hlt, hp]
 simp
theorem tab_step {l : List ByteArray} {st : TabS} (h : TabInv l st) (s : ByteArray) : TabInv (l ++ [s]) (tabStep st s) := by
 obtain ⟨T, P, S⟩ := st
 obtain ⟨h1, h2, h3, h4, h5, h6⟩ := h
 simp only at h1 h2 h3 h4 h5 h6
 have hl : (l ++ [s]).length = l.length + 1 := by simp
 have split : ∀ {k : Nat}, k < (l ++ [s]).length → k < l.length ∨ k = l.length := fun h => by omega
 unfold tabStep
 by_cases hs : s = noS
 · rw [if_pos hs]
   refine ⟨by simp [h1], fun k hk he => ?_, fun k hk he => ?_, fun s' a ha => ?_, fun k hk => ?_, h6⟩
   · rcases split hk with hk | rfl
     · rw [getD_snoc_lt hk] at he
       show (P ++ [0]).getD k 0 = 0
       rw [getD_snoc_lt (by omega)]; exact h2 k hk he
     · show (P ++ [0]).getD l.length 0 = 0
       rw [← h1, getD_snoc_eq]
   · rcases split hk with hk | rfl
     · rw [getD_snoc_lt hk] at he ⊢
       show _ = some ((P ++ [0]).getD k 0)
       rw [getD_snoc_lt (by omega)]; exact h3 k hk he
     · rw [getD_snoc_eq] at he; exact absurd hs he
   · obtain ⟨g1, g2, k, g3, g4⟩ := h4 s' a ha
     exact ⟨g1, g2, k, by omega, by rw [getD_snoc_lt g3]; exact g4⟩
   · rcases split hk with hk | rfl
     · show 0 ≤ (P ++ [0]).getD k 0 ∧ ∃ r, T.drop ((P ++ [0]).getD k 0).toNat = _
       rw [getD_snoc_lt (by omega), getD_snoc_lt hk]; exact h5 k hk
     · show 0 ≤ (P ++ [0]).getD l.length 0 ∧ ∃ r, T.drop ((P ++ [0]).getD l.length 0).toNat = _
       rw [getD_snoc_eq, ← h1, getD_snoc_eq, hs]
       obtain ⟨r, rfl⟩ := h6
       exact ⟨by decide, r, rfl⟩
 · rw [if_neg hs]
   cases hg : aget S s with
   | some a =>
    simp only
    obtain ⟨g1, g2, k0, g3, g4⟩ := h4 s a hg
    have g5 := h3 k0 g3 (by rw [g4]; exact hs)
    rw [g4, hg] at g5
    obtain rfl := Option.some.inj g5
    refine ⟨by simp [h1], fun k hk he => ?_, fun k hk he => ?_, fun s' a ha => ?_, fun k hk => ?_, h6⟩
    · rcases split hk with hk | rfl
      · rw [getD_snoc_lt hk] at he
        show (P ++ [_]).getD k 0 = 0
        rw [getD_snoc_lt (by omega)]; exact h2 k hk he
      · rw [getD_snoc_eq] at he; exact absurd he hs
    · rcases split hk with hk | rfl
      · rw [getD_snoc_lt hk] at he ⊢
        show _ = some ((P ++ [_]).getD k 0)
        rw [getD_snoc_lt (by omega)]; exact h3 k hk he
      · show _ = some ((P ++ [_]).getD l.length 0)
        rw [getD_snoc_eq, ← h1, getD_snoc_eq]; exact hg
    · obtain ⟨g1, g2, k, g3, g4⟩ := h4 s' a ha
      exact ⟨g1, g2, k, by omega, by rw [getD_snoc_lt g3]; exact g4⟩
    · rcases split hk with hk | rfl
      · dsimp only
        rw [getD_snoc_lt (by omega), getD_snoc_lt hk]; exact h5 k hk
      · dsimp only
        rw [getD_snoc_eq, ← h1, getD_snoc_eq]
        have := h5 k0 g3
        rw [g4] at this; exact this
   | none =>
    simp only
    refine ⟨by simp [h1], fun k hk he => ?_, fun k hk he => ?_, fun s' a ha => ?_, fun k hk => ?_, ?_⟩
    · rcases split hk with hk | rfl
      · rw [getD_snoc_lt hk] at he
        show (P ++ [_]).getD k 0 = 0
        rw [getD_snoc_lt (by omega)]; exact h2 k hk he
      · rw [getD_snoc_eq] at he; exact absurd he hs
    · rcases split hk with hk | rfl
      · rw [getD_snoc_lt hk] at he ⊢
        show aget (aput S s _) _ = some ((P ++ [_]).getD k 0)
        rw [getD_snoc_lt (by omega), aget_aput]
        have := h3 k hk he
        rw [if_neg, this]
        intro e
        rw [← e, hg] at this; cases this
      · show aget (aput S s _) _ = some ((P ++ [_]).getD l.length 0)
        rw [getD_snoc_eq, ← h1, getD_snoc_eq, aget_aput, if_pos rfl]
    · have ha : aget (aput S s (T.length : Int)) s' = some a := ha
      rw [aget_aput] at ha
      by_cases e : s = s'
      · rw [if_pos e] at ha
        obtain rfl := Option.some.inj ha
        subst e
        exact ⟨by omega, hs, l.length, by omega, getD_snoc_eq⟩
      · rw [if_neg e] at ha
        obtain ⟨g1, g2, k, g3, g4⟩ := h4 s' a ha
        exact ⟨g1, g2, k, by omega, by rw [getD_snoc_lt g3]; exact g4⟩
    · rcases split hk with hk | rfl
      · dsimp only
        rw [getD_snoc_lt (by omega), getD_snoc_lt hk]
        obtain ⟨g1, r, g2⟩ := h5 k hk
        rw [List.append_assoc]
        exact ⟨g1, _, drop_app_of g2⟩
      · dsimp only
        rw [getD_snoc_eq, ← h1, getD_snoc_eq]
        refine ⟨by omega, [], ?_⟩
        rw [Int.toNat_natCast, List.append_assoc, List.drop_left]
    · obtain ⟨r, rfl⟩ := h6
      exact ⟨r ++ strB s ++ [0], by simp⟩
theorem tab_invG : ∀ (l2 l1 : List ByteArray) (st : TabS), TabInv l1 st → TabInv (l1 ++ l2) (l2.foldl tabStep st) := by
 intro l2
 induction l2 with
 | nil => intro l1 st h; rwa [List.append_nil]
 | cons s l2 ih =>
  intro l1 st h
  have := ih (l1 ++ [s]) (tabStep st s) (tab_step h s)
  rwa [List.append_assoc] at this
theorem tab_inv (l : List ByteArray) : TabInv l (tabOf l) := tab_invG l [] _ tab_start
theorem getD_lt {l : List Int} {j : Nat} {d : Int} (h : j < l.length) : l.getD j d = l[j] := by simp [h]
theorem strB_getD (s : ByteArray) (j : Nat) : (strB s).getD j 0 = ((s.data.toList.getD j 0).toNat : Int) := by
 unfold strB
 rw [List.getD_eq_getElem?_getD, List.getD_eq_getElem?_getD, List.getElem?_map]
 cases s.data.toList[j]? <;> rfl
theorem firstB_none {l : List Int} (h : ∀ j, j < l.length → l.getD j 0 ≠ 0) : firstB l 0 = -1 := by
 unfold firstB
 exact idxF_none fun j hj => by simpa using h j hj
/-- May a text be a name? -/
def mayS (s : ByteArray) : Bool := decide (s.size ≤ 32 ∧ firstB (strB s) 0 < 0)
theorem mayS_of {s : ByteArray} (h : s.size ≤ 32) (h0 : ∀ j, j < s.size → (s.data.toList.getD j 0).toNat ≠ 0) : mayS s = true := by
 unfold mayS
 rw [decide_eq_true_eq]
 refine ⟨h, ?_⟩
 rw [firstB_none]
 · decide
 · intro j hj
   rw [strB_len] at hj
   have := h0 j hj
   rw [strB_getD]; omega
theorem mayS_no {s : ByteArray} {j : Nat} (hj : j < s.size) (h : (s.data.toList.getD j 0).toNat = 0) : mayS s = false := by
 unfold mayS
 rw [decide_eq_false_iff_not]
 intro ⟨_, h2⟩
 have e : (strB s).getD j 0 = 0 := by rw [strB_getD, h]; rfl
 unfold firstB idxF at h2
 cases hf : (strB s).findIdx? (fun x => x == 0) with
 | none =>
  rw [List.findIdx?_eq_none_iff] at hf
  have hm : (strB s).getD j 0 ∈ strB s := by
   have h1 : j < (strB s).length := by rw [strB_len]; exact hj
   rw [getD_lt h1]; exact List.getElem_mem h1
  have := hf _ hm
  rw [e] at this
  cases this
 | some i =>
  rw [hf] at h2
  have h2 : (i : Int) < 0 := h2
  omega
theorem tab_len : ∀ (l2 : List ByteArray) (st : TabS) (c : Nat), (∀ s ∈ l2, s.size ≤ 1000000) → st.1.length ≤ c → (l2.foldl tabStep st).1.length ≤ c + 1000001 * l2.length := by
 intro l2
 induction l2 with
 | nil => intro st c _ h; simpa using h
 | cons s l2 ih =>
  intro st c h hc
  have := ih (tabStep st s) (c + 1000001) (fun x hx => h x (by simp [hx])) (by
   have hs := h s (by simp)
   unfold tabStep
   split
   · dsimp only; omega
   · split
     · dsimp only; omega
     · simp only [List.length_append, strB_len, List.length_cons, List.length_nil]; omega)
  simp only [List.foldl_cons, List.length_cons]
  omega
theorem tabOf_len {l : List ByteArray} (h : ∀ s ∈ l, s.size ≤ 1000000) : (tabOf l).1.length ≤ 1 + 1000001 * l.length := tab_len l _ 1 h (by simp)
theorem tabOf_pl (l : List ByteArray) : (tabOf l).2.1.length = l.length := (tab_inv l).pl
theorem szI {l : List ByteArray} (h : ∀ s ∈ l, s.size ≤ 1000000) (i : Nat) : (l.getD i default).size ≤ 1000000 := by
 rcases Nat.lt_or_ge i l.length with hi | hi
 · exact h _ (getD_in hi)
 · rw [List.getD_eq_getElem?_getD, List.getElem?_eq_none hi]; decide
theorem takeI {l : List ByteArray} (h : ∀ s ∈ l, s.size ≤ 1000000) (i : Nat) : ∀ s ∈ l.take i, s.size ≤ 1000000 := fun s hs => h s (List.mem_of_mem_take hs)
theorem step_no {st : TabS} {s : ByteArray} (h : s = noS) : tabStep st s = (st.1, st.2.1 ++ [0], st.2.2) := by unfold tabStep; rw [if_pos h]
theorem step_old {st : TabS} {s : ByteArray} {a : Int} (h : s ≠ noS) (h1 : aget st.2.2 s = some a) : tabStep st s = (st.1, st.2.1 ++ [a], st.2.2) := by unfold tabStep; rw [if_neg h, h1]
theorem step_new {st : TabS} {s : ByteArray} (h : s ≠ noS) (h1 : aget st.2.2 s = none) : tabStep st s = (st.1 ++ strB s ++ [0], st.2.1 ++ [(st.1.length : Int)], aput st.2.2 s (st.1.length : Int)) := by unfold tabStep; rw [if_neg h, h1]
theorem slite_IndexByte (s : ByteArray) (c : Int) (hc : 0 ≤ c ∧ c < 256) : A0 Try.prog 73 [.v (.string s), .v (.int .u8 c)] (fun ret => ret = .v (.int .i64 (firstB (strB s) c))) := by
 refine A0.body 8 Try.func73 rfl rfl Try.ntmps73 fun base n0 => ?_
 refine AW.seq' ?_
 refine AW.region ?_
 refine AO.c ?_
 refine AO.nil ?_
 refine SQ.normal ?_
 refine AW.seq' ?_
 refine AW.region ?_
 iterate 2 refine AO.c ?_
 refine AO.indexStr Try.func76 rfl rfl (by kernel_rfl) (by kernel_rfl) hc ?_
 refine AO.c ?_
 refine AO.nil ?_
 refine SQ.normal ?_
 refine AW.ret ?_
 refine Fin.ret (Gh.refl) noid1 ?_
 rfl
theorem strings_IndexByte (s : ByteArray) (c : Int) (hc : 0 ≤ c ∧ c < 256) : A0 Try.prog 65 [.v (.string s), .v (.int .u8 c)] (fun ret => ret = .v (.int .i64 (firstB (strB s) c))) := by
 refine A0.body 8 Try.func65 rfl rfl Try.ntmps65 fun base n0 => ?_
 refine AW.seq' ?_
 refine AW.region ?_
 refine AO.c ?_
 refine AO.nil ?_
 refine SQ.normal ?_
 refine AW.seq' ?_
 refine AW.region ?_
 iterate 2 refine AO.c ?_
 refine AO.call1 Try.func73 rfl rfl (slite_IndexByte _ _ (by omega)) ?_
 refine AO.c ?_
 refine AO.nil ?_
 refine SQ.normal ?_
 refine AW.ret ?_
 refine Fin.ret (Gh.refl) noid1 ?_
 rfl
theorem strtab_May (s : ByteArray) : A0 Try.prog 46 [.v (.string s)] (fun ret => ret = .v (.bool (mayS s))) := by
 refine A0.body 11 Try.func46 rfl rfl Try.ntmps46 fun base n0 => ?_
 refine AW.seq' ?_
 refine AW.region ?_
 refine AO.c ?_
 refine AO.nil ?_
 refine SQ.normal ?_
 refine AW.seq' ?_
 refine AW.region ?_
 iterate 4 refine AO.c ?_
 refine AO.gx ?_
 refine AO.gxcall1 Try.func65 rfl rfl (fun hgd => strings_IndexByte _ _ (by omega)) ?_
 refine AO.gx ?_
 iterate 2 refine AO.c ?_
 refine AO.nil ?_
 refine SQ.normal ?_
 refine AW.ret ?_
 refine Fin.ret (Gh.refl) noid1 ?_
 show AV.v (.bool _) = AV.v (.bool _)
 congr 2
 unfold mayS
 rw [Bool.eq_iff_iff]
 simp only [Bool.and_eq_true, decide_eq_true_eq]
 omega
set_option maxHeartbeats 1000000 in
theorem strtab_Make (l : List ByteArray) (hl : l.length ≤ 1000000) (hsz : ∀ s ∈ l, s.size ≤ 1000000) : A0 Try.prog 57 [.rd 1 (l.map sA)] (fun ret => ret = .tup [.rd 1 (bys (tabOf l).1), .rd 1 ((tabOf l).2.1.map iA)]) := by
 refine A0.body 49 Try.func57 rfl rfl Try.ntmps57 fun base n0 => ?_
 refine AW.seq' ?_
 refine AW.region ?_
 iterate 2 refine AO.c ?_
 refine AO.nil ?_
 refine SQ.normal ?_
 refine AW.seq' ?_
 refine AW.region ?_
 refine AO.ww ?_
 refine AO.c ?_
 refine AO.nil ?_
 refine SQ.normal ?_
 refine AW.seq' ?_
 refine AW.region ?_
 refine AO.ww ?_
 refine AO.c ?_
 refine AO.nil ?_
 refine SQ.normal ?_
 refine AW.seq' ?_
 refine AW.region ?_
 refine AO.ww ?_
 refine AO.c ?_
 refine AO.nil ?_
 refine SQ.normal ?_
 refine AW.seq' ?_
 refine AW.seq' ?_
 refine AW.region ?_
 iterate 3 refine AO.c ?_
 refine AO.nil ?_
 refine SQ.normal ?_
 refine AW.block' ?_
 refine AW.loopU3 [.f, .f, .f, .f, .k, .k, .k, .F, .k, .k, .k, .F, .F, .F, .f, .f, .f, .f, .f, .f, .f] (fun (i ep : Nat) (st : TabS) => [(4, .own (n0 + 0) ep 0 st.1.length), (5, .own (n0 + 1) i 0 st.2.1.length), (17, .v (.int .i64 (i)))]) (fun i ep st => Hn n0 [some (.row 5 1 (ep) (bys st.1)), some (.row 3 1 (i) (st.2.1.map iA)), some (.map (st.2.2.map (mE kS vI)))]) (fun m i ep st => i ≤ l.length ∧ m = l.length - i ∧ st = tabOf (l.take i)) (l.length) (0) (0) (([0], [], [])) ⟨by omega, rfl, by simp [tabOf]⟩ (by first | rfl | (simp; done)) (by first | rfl | (simp; done)) ?_
 rintro m0 i ep st ⟨hx1, hx2, hx3⟩
 have hlen : st.1.length ≤ 1 + 1000001 * i := by
  have := tabOf_len (takeI hsz i)
  rw [← hx3, List.length_take] at this
  omega
 have hpl : st.2.1.length = i := by
  have := tabOf_pl (l.take i)
  rw [← hx3, List.length_take] at this
  omega
 have hsi := szI hsz i
 refine AW.seq' ?_
 refine AW.region ?_
 refine AO.c ?_
 refine AO.nil ?_
 refine SQ.normal ?_
 refine AW.seq' ?_
 refine AW.iteB (GL.ev _) (fun h0 => ?_) (fun h0 => ?_)
 ·
  rw [decide_eq_true_eq] at h0
  have hi : i < l.length := by omega
  refine AW.skip ?_
  refine SQ.normal ?_
  refine AW.seq' ?_
  refine AW.block' ?_
  refine AW.seq' ?_
  refine AW.region ?_
  refine AO.oo ?_
  iterate 2 refine AO.c ?_
  refine AO.nil ?_
  refine SQ.normal ?_
  refine AW.seq' ?_
  refine AW.region ?_
  refine AO.c ?_
  refine AO.nil ?_
  refine SQ.normal ?_
  refine AW.seq' ?_
  refine AW.seq' ?_
  refine AW.region ?_
  iterate 2 refine AO.c ?_
  refine AO.nil ?_
  refine SQ.normal ?_
  refine AW.iteB (GL.ev _) (fun h1 => ?_) (fun h1 => ?_)
  ·
   rw [decide_eq_true_eq, Ne, ba_eq] at h1
   have hne : l.getD i default ≠ noS := h1
   refine AW.seq' ?_
   refine AW.region ?_
   iterate 8 refine AO.c ?_
   refine AO.nil ?_
   refine SQ.normal ?_
   refine AW.seq' ?_
   refine AW.region ?_
   iterate 2 refine AO.c ?_
   refine AO.nil ?_
   refine SQ.normal ?_
   refine AW.seq' ?_
   refine AW.region ?_
   iterate 2 refine AO.c ?_
   refine AO.nil ?_
   refine SQ.normal ?_
   refine AW.iteB (GL.ev _) (fun h2 => ?_) (fun h2 => ?_)
   ·
    rw [Bool.not_eq_true', Option.isSome_eq_false_iff, Option.isNone_iff_eq_none] at h2
    have hag := h2
    refine AW.seq' ?_
    refine AW.region ?_
    iterate 3 refine AO.c ?_
    refine AO.nil ?_
    refine SQ.normal ?_
    refine AW.seq' ?_
    refine AW.region ?_
    iterate 3 refine AO.c ?_
    refine AO.sst ?_
    refine AO.nil ?_
    refine SQ.normal ?_
    refine AW.region ?_
    iterate 2 refine AO.c ?_
    refine AO.w ⟨rfl, by omega⟩ ?_
    refine AO.rr ?_
    refine AO.w ⟨by rw [List.length_append, strB_len], by show _ + 1 ≤ _; omega⟩ ?_
    refine AO.c ?_
    refine AO.nil ?_
    refine SQ.normal ?_
    refine AW.region ?_
    iterate 2 refine AO.c ?_
    refine AO.rr ?_
    refine AO.ww ?_
    refine AO.c ?_
    refine AO.nil ?_
    refine BQ.normal ?_
    refine SQ.normal ?_
    refine AW.region ?_
    refine AO.oo ?_
    refine AO.c ?_
    refine AO.nil ?_
    exact AW.backU [.f, .f, .f, .f, .k, .k, .k, .F, .k, .k, .k, .F, .F, .F, .f, .f, .f, .f, .f, .f, .f] (m0 - 1) (i + 1, ep + 2, (st.1 ++ strB (l.getD i default) ++ [0], st.2.1 ++ [(st.1.length : Int)], aput st.2.2 (l.getD i default) (st.1.length : Int))) (by omega) (by (try dsimp only); exact ⟨by omega, by omega, by rw [tabOf_succ hi, ← hx3, step_new hne hag]⟩) (by simp [strB_len, Nat.add_assoc]) (by first | rfl | (simp; done))
   ·
    rw [Bool.not_eq_false'] at h2
    obtain ⟨pa, hag⟩ := Option.isSome_iff_exists.1 h2
    refine AW.skip ?_
    refine SQ.normal ?_
    refine AW.region ?_
    iterate 2 refine AO.c ?_
    refine AO.rr ?_
    refine AO.ww ?_
    refine AO.c ?_
    refine AO.nil ?_
    refine BQ.normal ?_
    refine SQ.normal ?_
    refine AW.region ?_
    refine AO.oo ?_
    refine AO.c ?_
    refine AO.nil ?_
    exact AW.backU [.f, .f, .f, .f, .k, .k, .k, .F, .k, .k, .k, .F, .F, .F, .f, .f, .f, .f, .f, .f, .f] (m0 - 1) (i + 1, ep, (st.1, st.2.1 ++ [(aget st.2.2 (l.getD i default)).getD 0], st.2.2)) (by omega) (by (try dsimp only); exact ⟨by omega, by omega, by rw [tabOf_succ hi, ← hx3, step_old hne hag, hag]; rfl⟩) (by simp) (by first | rfl | (simp; done))
  ·
   rw [decide_eq_false_iff_not, Ne, Decidable.not_not, ba_eq] at h1
   have hne : l.getD i default = noS := h1
   refine AW.skip ?_
   refine SQ.normal ?_
   refine AW.region ?_
   iterate 2 refine AO.c ?_
   refine AO.rr ?_
   refine AO.ww ?_
   refine AO.c ?_
   refine AO.nil ?_
   refine BQ.normal ?_
   refine SQ.normal ?_
   refine AW.region ?_
   refine AO.oo ?_
   refine AO.c ?_
   refine AO.nil ?_
   exact AW.backU [.f, .f, .f, .f, .k, .k, .k, .F, .k, .k, .k, .F, .F, .F, .f, .f, .f, .f, .f, .f, .f] (m0 - 1) (i + 1, ep, (st.1, st.2.1 ++ [0], st.2.2)) (by omega) (by (try dsimp only); exact ⟨by omega, by omega, by rw [tabOf_succ hi, ← hx3, step_no hne]⟩) (by simp) (by first | rfl | (simp; done))
 ·
  rw [decide_eq_false_iff_not] at h0
  refine AW.exit ?_
  refine SQ.exit <| AW.out <| LU.exit <| BQ.exit ?_
  refine SQ.normal ?_
  refine AW.seq' ?_
  refine AW.region ?_
  iterate 4 refine AO.c ?_
  refine AO.nil ?_
  refine SQ.normal ?_
  refine AW.ret ?_
  have hfin : st = tabOf l := by rw [hx3, List.take_of_length_le (by omega)]
  refine Fin.ret ((Gh.freezeE 2 (li' := st.1) rfl rfl (by omega)).trans (Gh.freezeM 3 iA st.2.1 rfl rfl (by omega))) noid2 ?_
  rw [← hfin]; rfl
end Go.Proofs.Ytiomdnmicagdcaa.AL
namespace Go.Proofs.Ytiomdnmicagdcaa.AL
open Go Go.RowKit Go.Proofs.Ytiomdnmicagdcaa.Base
set_option linter.unusedVariables false
set_option linter.unusedSimpArgs false
set_option maxRecDepth 4000
set_option synthInstance.maxSize 1000
set_option synthInstance.maxHeartbeats 200000
/-- Where a place is. -/
def findG (N at_ : Int) : Int → List (Int × Int) → Int
 | _, [] => -1
 | i, p :: ps => if (p.1 ≤ at_ ∧ at_ - p.1 < p.2) ∨ (i + 1 = N ∧ at_ - p.1 = p.2 ∧ 0 ≤ at_) then i else findG N at_ (i + 1) ps
def PcOk (l : List (Int × Int)) : Prop := l.length ≤ 1000000000 ∧ ∀ p ∈ l, 0 ≤ p.1 ∧ p.1 ≤ 2147483648 ∧ 0 ≤ p.2 ∧ p.2 ≤ 2147483648
theorem pcs_at {l : List (Int × Int)} (h : PcOk l) (i : Nat) : 0 ≤ (l.getD i default).1 ∧ (l.getD i default).1 ≤ 2147483648 ∧ 0 ≤ (l.getD i default).2 ∧ (l.getD i default).2 ≤ 2147483648 := by
 by_cases hi : i < l.length
 · have := h.2 l[i] (List.getElem_mem hi)
   simpa [hi] using this
 · simp [hi]; decide
theorem find_cond {a p s i n : Int} (ha : -9223372036854775808 ≤ a ∧ a ≤ 9223372036854775807) (hp : 0 ≤ p ∧ p ≤ 2147483648) : (decide (a ≥ p) && decide (a - p < s) || decide (i = n - 1) && decide (IntKind.i64.wrap (a - p) = s) && decide (a ≥ 0)) = decide ((p ≤ a ∧ a - p < s) ∨ (i + 1 = n ∧ a - p = s ∧ 0 ≤ a)) := by
 rw [Bool.eq_iff_iff]
 simp only [Bool.or_eq_true, Bool.and_eq_true, decide_eq_true_eq]
 by_cases h : 0 ≤ a
 · rw [wi64' (by omega)]; omega
 · omega
theorem piece_Find (l : List (Int × Int)) (at_ : Int) (hl : PcOk l) (ha : I64 at_) : A0 Try.prog 33 [.rd 2 (l.map pcA), .v (.int .i64 at_)] (fun ret => ret = .v (.int .i64 (findG l.length at_ 0 l))) := by
 have hl1 := hl.1
 have hl2 := pcs_at hl
 unfold I64 at ha
 refine A0.body 51 Try.func33 rfl rfl Try.ntmps33 fun base n0 => ?_
 refine AW.seq' ?_
 refine AW.region ?_
 refine AO.c ?_
 refine AO.nil ?_
 refine SQ.normal ?_
 refine AW.seq' ?_
 refine AW.seq' ?_
 refine AW.region ?_
 iterate 3 refine AO.c ?_
 refine AO.nil ?_
 refine SQ.normal ?_
 refine AW.block' ?_
 refine AW.loopU2 [.k, .k, .f, .f, .f, .f, .f, .f, .k, .k, .k, .F, .F, .F, .F, .F] (fun (i j : Nat) => [(10, .v (.int .i64 i))]) (fun i j => Hn n0 (([] ++ List.replicate j none) ++ [])) (fun m i j => i ≤ l.length ∧ m = l.length - i ∧ findG l.length at_ 0 l = findG l.length at_ i (l.drop i)) (l.length) (0) (0) (by first | omega | (simp; done) | (simp; omega)) (by first | rfl | (simp; done)) (by first | rfl | (simp; done)) ?_
 rintro m0 i j ⟨hx1, hx2, hx3⟩
 have hp := hl2 i
 refine AW.seq' ?_
 refine AW.region ?_
 refine AO.c ?_
 refine AO.nil ?_
 refine SQ.normal ?_
 refine AW.seq' ?_
 refine AW.iteB (GL.ev _) (fun h0 => ?_) (fun h0 => ?_)
 ·
  try simp only [Bool.and_eq_true, Bool.or_eq_true, Bool.not_eq_true', Bool.and_eq_false_iff, Bool.or_eq_false_iff, decide_eq_true_eq, decide_eq_false_iff_not, bys_length] at h0
  refine AW.skip ?_
  refine SQ.normal ?_
  refine AW.seq' ?_
  refine AW.block' ?_
  refine AW.seq' ?_
  refine AW.region ?_
  refine AO.c ?_
  refine AO.oo ?_
  refine AO.c ?_
  refine AO.ww ?_
  refine AO.c ?_
  refine AO.sst ?_
  refine AO.nil ?_
  refine SQ.normal ?_
  refine AW.seq' ?_
  refine AW.region ?_
  iterate 5 refine AO.c ?_
  iterate 3 refine AO.gx ?_
  refine AO.gxoo ?_
  iterate 3 refine AO.gx ?_
  iterate 2 refine AO.c ?_
  refine AO.nil ?_
  refine SQ.normal ?_
  refine AW.seq' ?_
  refine AW.region ?_
  iterate 2 refine AO.c ?_
  iterate 3 refine AO.gx ?_
  refine AO.gxoo ?_
  iterate 5 refine AO.gx ?_
  refine AO.gxpw ?_
  iterate 8 refine AO.gx ?_
  refine AO.c ?_
  refine AO.nil ?_
  refine SQ.normal ?_
  refine AW.iteB (GL.ev _) (fun h1 => ?_) (fun h1 => ?_)
  ·
   have hlt : i < l.length := by omega
   rw [find_cond ha ⟨hp.1, hp.2.1⟩, decide_eq_true_eq] at h1
   rw [hx3, drop_getD hlt, findG, if_pos h1]
   refine AW.seq' ?_
   refine AW.region ?_
   iterate 2 refine AO.c ?_
   refine AO.nil ?_
   refine SQ.normal ?_
   refine AW.ret ?_
   refine BQ.ret <| SQ.ret <| AW.out <| LU.ret <| BQ.ret <| SQ.ret ?_
   refine Fin.ret (Gh.refl) noid1 ?_
   rfl
  ·
   have hlt : i < l.length := by omega
   rw [find_cond ha ⟨hp.1, hp.2.1⟩, decide_eq_false_iff_not] at h1
   rw [drop_getD hlt, findG, if_neg h1] at hx3
   refine AW.skip ?_
   refine BQ.normal ?_
   refine SQ.normal ?_
   refine AW.region ?_
   refine AO.oo ?_
   refine AO.c ?_
   refine AO.nil ?_
   exact AW.backD [.k, .k, .f, .f, .f, .f, .f, .f, .k, .k, .k, .F, .F, .F, .F, .F] ([]) (j) (m0 - 1) (i + 1, j + 1) (by omega) (by (try dsimp only); exact ⟨by omega, by omega, hx3⟩) (by first | rfl | (simp; done)) (by first | rfl | (simp; done))
 ·
  try simp only [Bool.and_eq_true, Bool.or_eq_true, Bool.not_eq_true', Bool.and_eq_false_iff, Bool.or_eq_false_iff, decide_eq_true_eq, decide_eq_false_iff_not, bys_length] at h0
  refine AW.exit ?_
  refine SQ.exit <| AW.out <| LU.exit <| BQ.exit ?_
  refine SQ.normal ?_
  refine AW.seq' ?_
  refine AW.region ?_
  refine AO.c ?_
  refine AO.nil ?_
  refine SQ.normal ?_
  refine AW.ret ?_
  refine Fin.ret (Gh.refl) noid1 ?_
  rw [hx3, List.drop_of_length_le (by omega)]; rfl
end Go.Proofs.Ytiomdnmicagdcaa.AL
namespace Go.Proofs.Ytiomdnmicagdcaa.AL
open Go Go.RowKit Go.Proofs.Ytiomdnmicagdcaa.Base
set_option linter.unusedVariables false
set_option linter.unusedSimpArgs false
set_option maxRecDepth 4000
set_option synthInstance.maxSize 1000
set_option synthInstance.maxHeartbeats 200000
def nameB (s : ByteArray) : Bool := decide (s.size ≤ 32) && s.data.toList.all (· ≠ 0)
def hasF (f k : Int) : Bool := decide (0 ≤ f) && decide (f / k % 2 = 1)
def flagL : List Int := [1, 2, 4, 16, 32, 128, 512, 2097152]
def flagStep (n x : Int) : Int := if 0 ≤ n ∧ n / x % 2 = 1 then n - x else n
def flagsB (n : Int) : Bool := decide (flagL.foldl flagStep n = 0)
theorem foldl_take_succ {α β : Type} [Inhabited β] (f : α → β → α) (a : α) (l : List β) (i : Nat) (h : i < l.length) : (l.take (i + 1)).foldl f a = f ((l.take i).foldl f a) (l.getD i default) := by
 rw [List.take_add_one, List.foldl_append]
 simp [h]
def powL : List Int := [1, 2, 4, 8, 16, 32, 64, 128, 256, 512, 1024, 2048, 4096]
def alignB (n : Int) : Bool := powL.contains n
theorem ref_Has (s : SecD) (k : Int) (hs : s.ok) (hk : 0 < k) : A0 Try.prog 7 [.agg (secA s), .v (.int .i64 (k))] (fun ret => ret = .v (.bool (hasF s.flags k))) := by
 have hf := hs.2.2.1
 unfold I64 at hf
 refine A0.body 16 Try.func7 rfl rfl Try.ntmps7 fun base n0 => ?_
 refine AW.seq' ?_
 refine AW.region ?_
 refine AO.ww ?_
 refine AO.c ?_
 refine AO.nil ?_
 refine SQ.normal ?_
 refine AW.seq' ?_
 refine AW.region ?_
 iterate 4 refine AO.c ?_
 iterate 3 refine AO.gx ?_
 refine AO.gxo (fun h => ?_) ?_
 · have h0 : 0 ≤ s.flags := by simpa using h
   exact ⟨h0, hk, by have := Int.ediv_le_self k h0; omega, by omega⟩
 refine AO.gxo (fun h => ?_) ?_
 · have h0 : 0 ≤ s.flags := by simpa using h
   exact ⟨Int.ediv_nonneg h0 (by omega), by omega⟩
 refine AO.gx ?_
 iterate 2 refine AO.c ?_
 refine AO.nil ?_
 refine SQ.normal ?_
 refine AW.ret ?_
 refine Fin.ret (Gh.refl) noid1 ?_
 rfl
end Go.Proofs.Ytiomdnmicagdcaa.AL
namespace Go.Proofs.Ytiomdnmicagdcaa.AL
open Go Go.RowKit Go.Proofs.Ytiomdnmicagdcaa.Base
set_option linter.unusedVariables false
set_option linter.unusedSimpArgs false
set_option maxRecDepth 4000
set_option synthInstance.maxSize 1000
set_option synthInstance.maxHeartbeats 200000
def kindB (s : SecD) : Bool :=
 bif !flagsB s.flags || !alignB s.align || (hasF s.flags 1 && hasF s.flags 4) then false
 else bif decide (s.typ = 1) && (decide (s.size ≠ s.data.length) || decide (s.size > 16384)) then false
 else bif decide (s.typ = 8) && (decide ((s.data.length : Int) > 0) || decide (s.size < 0) || decide (s.size > 2147483647) || !hasF s.flags 1 || hasF s.flags 16) then false
 else bif decide (s.typ ≠ 1) && decide (s.typ ≠ 8) then false
 else bif !hasF s.flags 16 then decide (s.ent = 0) && !hasF s.flags 32
 else bif hasF s.flags 1 || hasF s.flags 4 || decide ((s.rels.length : Int) > 0) then false
 else bif hasF s.flags 32 then decide (s.ent = 1) && decide (s.align = 1) && (decide ((s.data.length : Int) = 0) || decide (s.data.getD ((s.data.length : Int) - 1).toNat 0 = 0))
 else (decide (s.ent = 4) || decide (s.ent = 8) || decide (s.ent = 16)) && decide (s.align ≤ s.ent) && decide (s.size % s.ent = 0)
def memberF (gs : List GrpD) (n : Int) : Int := (gs.map fun g => (g.mem.count n : Int)).sum
def prevBad (r : RelD) : Option RelD → Bool
 | none => false
 | some p => decide (p.off + widthF p.typ > r.off)
def relsG (many len : Int) : Option RelD → List RelD → Bool
 | _, [] => true
 | prev, r :: rs => bif !mayRelB r || decide (r.sym ≥ many) || decide (r.off + widthF r.typ > len) then false else
  bif prevBad r prev then false else relsG many len (some r) rs
theorem relsG_cons (many len : Int) (prev : Option RelD) (r : RelD) (rs : List RelD) : relsG many len prev (r :: rs) = bif !mayRelB r || decide (r.sym ≥ many) || decide (r.off + widthF r.typ > len) then false else
 bif prevBad r prev then false else relsG many len (some r) rs := by cases prev <;> rfl
def relsB (o : ObjD) (s : SecD) : Bool := decide ((s.rels.length : Int) ≤ 64) && relsG o.syms.length s.data.length none s.rels
theorem widthF_range (t : Int) : 0 ≤ widthF t ∧ widthF t ≤ 8 := by unfold widthF; split <;> (try split) <;> omega
theorem mayRel_off {r : RelD} (h : mayRelB r = true) : 0 ≤ r.off ∧ r.off ≤ 2147483647 ∧ 0 ≤ r.sym ∧ r.sym ≤ 2147483647 ∧ 0 < widthF r.typ := by
 unfold mayRelB fitsB at h
 simp only [Bool.and_eq_true, decide_eq_true_eq] at h
 omega
theorem relOk_at {l : List RelD} (h : ∀ r ∈ l, r.ok) {i : Nat} (hi : i < l.length) : (l.getD i default).ok := by
 have := h l[i] (List.getElem_mem hi)
 simpa [hi] using this
def sectionB (o : ObjD) (n : Int) : Bool :=
 bif !nameB (o.secs.getD (n - 1).toNat default).name || !kindB (o.secs.getD (n - 1).toNat default) || !relsB o (o.secs.getD (n - 1).toNat default) then false
 else bif hasF (o.secs.getD (n - 1).toNat default).flags 128 && (decide ((o.secs.getD (n - 1).toNat default).link < 1) || decide ((o.secs.getD (n - 1).toNat default).link > o.secs.length) || decide ((o.secs.getD (n - 1).toNat default).link = n)) || (!hasF (o.secs.getD (n - 1).toNat default).flags 128 && decide ((o.secs.getD (n - 1).toNat default).link ≠ 0)) then false
 else decide (memberF o.groups n = 0) && !hasF (o.secs.getD (n - 1).toNat default).flags 512 || decide (memberF o.groups n = 1) && hasF (o.secs.getD (n - 1).toNat default).flags 512
theorem secOk_at {l : List SecD} (h : ∀ r ∈ l, r.ok) {i : Nat} (hi : i < l.length) : (l.getD i default).ok := by
 have := h l[i] (List.getElem_mem hi)
 simpa [hi] using this
theorem memberF_range {l : List GrpD} {n : Int} : 0 ≤ memberF l n := by
 unfold memberF
 induction l with
 | nil => simp
 | cons a l ih => simp only [List.map_cons, List.sum_cons]; omega
end Go.Proofs.Ytiomdnmicagdcaa.AL
namespace Go.Proofs.Ytiomdnmicagdcaa.AL
open Go Go.RowKit Go.Proofs.Ytiomdnmicagdcaa.Base
set_option linter.unusedVariables false
set_option linter.unusedSimpArgs false
set_option maxRecDepth 4000
set_option synthInstance.maxSize 1000
set_option synthInstance.maxHeartbeats 200000
theorem symOk_at {l : List SymD} (h : ∀ r ∈ l, r.ok) {i : Nat} (hi : i < l.length) : (l.getD i default).ok := by
 have := h l[i] (List.getElem_mem hi)
 simpa [hi] using this
def GSmall (l : List GrpD) : Prop := l.length ≤ 1000000000 ∧ ∀ g ∈ l, g.mem.length ≤ 1000000000
end Go.Proofs.Ytiomdnmicagdcaa.AL
namespace Go.Proofs.Ytiomdnmicagdcaa.AL
open Go Go.RowKit Go.Proofs.Ytiomdnmicagdcaa.Base
set_option linter.unusedVariables false
set_option linter.unusedSimpArgs false
set_option maxRecDepth 4000
set_option synthInstance.maxSize 1000
set_option synthInstance.maxHeartbeats 200000
@[reducible] def emptyS : ByteArray := { data := #[] }
def symbolB (o : ObjD) (n : Int) : Bool :=
 bif decide (n = 0) then decide ((o.syms.getD n.toNat default).name.toList = emptyS.toList) && decide ((o.syms.getD n.toNat default).bind = 0) && decide ((o.syms.getD n.toNat default).typ = 0) && decide ((o.syms.getD n.toNat default).sec = 0) && decide ((o.syms.getD n.toNat default).val = 0) && decide ((o.syms.getD n.toNat default).size = 0)
 else bif !nameB (o.syms.getD n.toNat default).name || decide ((o.syms.getD n.toNat default).bind < 0) || decide ((o.syms.getD n.toNat default).bind > 2) || decide ((o.syms.getD n.toNat default).typ < 0) || decide ((o.syms.getD n.toNat default).typ > 3) || decide ((o.syms.getD n.toNat default).size < 0) || decide ((o.syms.getD n.toNat default).size > 2147483647) then false
 else bif decide ((o.syms.getD n.toNat default).sec < -1) || decide ((o.syms.getD n.toNat default).sec > o.secs.length) || decide ((o.syms.getD n.toNat default).val < 0) || decide ((o.syms.getD n.toNat default).val > 2147483647) then false
 else bif decide ((o.syms.getD n.toNat default).sec = 0) && decide ((o.syms.getD n.toNat default).val > 0) || decide ((o.syms.getD n.toNat default).sec > 0) && decide ((o.syms.getD n.toNat default).val > (o.secs.getD ((o.syms.getD n.toNat default).sec - 1).toNat default).size) then false
 else bif decide ((o.syms.getD n.toNat default).bind = 0) then decide ((o.syms.getD n.toNat default).sec ≠ 0) && decide ((o.syms.getD (n - 1).toNat default).bind = 0)
 else decide ((o.syms.getD n.toNat default).name.toList ≠ emptyS.toList)
def memB (N : Int) (l : List Int) (k : Nat) : Bool := decide (l.getD k default < 1) || decide (l.getD k default > N) || (decide ((k : Int) > 0) && decide (l.getD k default ≤ l.getD ((k : Int) - 1).toNat default))
def grpB (o : ObjD) (g : GrpD) : Bool := (decide (1 ≤ g.sym) && decide (g.sym < o.syms.length) && decide (g.mem.length ≠ 0)) && (List.range g.mem.length).all fun k => !memB o.secs.length g.mem k
def shapeB (o : ObjD) : Bool :=
 !(decide ((o.secs.length : Int) > 32) || decide ((o.syms.length : Int) < 1) || decide ((o.syms.length : Int) > 128) || (!o.hasSig && decide ((o.sig.length : Int) > 0))) && o.groups.all (grpB o) &&
 ((List.range o.secs.length).all fun k => sectionB o ((k : Int) + 1)) && ((List.range o.syms.length).all fun k => symbolB o k) && o.sig.all fun x => decide (0 ≤ x) && decide (x < o.syms.length)
theorem all_take_succ {α : Type} [Inhabited α] {p : α → Bool} {l : List α} {i : Nat} (h : i < l.length) : (l.take (i + 1)).all p = ((l.take i).all p && p (l.getD i default)) := by
 rw [List.take_add_one, List.all_append]; simp [h]
theorem all_false_at {α : Type} [Inhabited α] {p : α → Bool} {l : List α} {i : Nat} (h : i < l.length) (hp : p (l.getD i default) = false) : l.all p = false := by
 rw [List.all_eq_false]
 refine ⟨l[i], List.getElem_mem h, ?_⟩
 have : l.getD i default = l[i] := by simp [h]
 rw [← this, hp]; simp
theorem range_all_succ {p : Nat → Bool} {i : Nat} : (List.range (i + 1)).all p = ((List.range i).all p && p i) := by
 rw [List.range_succ, List.all_append]; simp
theorem range_all_false {p : Nat → Bool} {n i : Nat} (h : i < n) (hp : p i = false) : (List.range n).all p = false := by
 rw [List.all_eq_false]
 exact ⟨i, List.mem_range.2 h, by rw [hp]; simp⟩
end Go.Proofs.Ytiomdnmicagdcaa.AL
namespace Go.Proofs.Ytiomdnmicagdcaa.AL
open Go Go.RowKit Go.Proofs.Ytiomdnmicagdcaa.Base
set_option linter.unusedVariables false
set_option linter.unusedSimpArgs false
set_option maxRecDepth 4000
set_option synthInstance.maxSize 1000
set_option synthInstance.maxHeartbeats 200000
theorem and_pow {n : Int} (k : Nat) (h0 : 0 ≤ n) (h1 : n ≤ 9223372036854775807) (hk : k < 63) : IntKind.i64.wrap (BitVec.ofInt IntKind.i64.bits n &&& BitVec.ofInt IntKind.i64.bits (2 ^ k : Nat)).toNat = if n / (2 ^ k : Nat) % 2 = 1 then (2 ^ k : Nat) else 0 := by
 obtain ⟨m, rfl⟩ := Int.eq_ofNat_of_zero_le h0
 have hp : (2 : Nat) ^ k < 2 ^ 63 := Nat.pow_lt_pow_right (by decide) hk
 have e1 : (BitVec.ofInt IntKind.i64.bits (m : Int)).toNat = m := by
  simp only [IntKind.bits, BitVec.ofInt_natCast, BitVec.toNat_ofNat]
  exact Nat.mod_eq_of_lt (by omega)
 have e2 : (BitVec.ofInt IntKind.i64.bits ((2 ^ k : Nat) : Int)).toNat = 2 ^ k := by
  simp only [IntKind.bits, BitVec.ofInt_natCast, BitVec.toNat_ofNat]
  exact Nat.mod_eq_of_lt (by omega)
 have e3 : m &&& 2 ^ k = if m / 2 ^ k % 2 = 1 then 2 ^ k else 0 := by
  have hb : m.testBit k = decide (m / 2 ^ k % 2 = 1) := by rw [Nat.testBit_eq_decide_div_mod_eq]
  apply Nat.eq_of_testBit_eq
  intro i
  rw [Nat.testBit_and, Nat.testBit_two_pow]
  by_cases hi : k = i
  · subst hi
    rw [hb]
    by_cases h : m / 2 ^ k % 2 = 1 <;> simp [h, Nat.testBit_two_pow]
  · split <;> simp [hi, Nat.testBit_two_pow]
 rw [BitVec.toNat_and, e1, e2, e3]
 have hc : ((m : Int) / ((2 ^ k : Nat) : Int) % 2 = 1) ↔ (m / 2 ^ k % 2 = 1) := by
  rw [← Int.natCast_ediv]; omega
 by_cases h : m / 2 ^ k % 2 = 1
 · rw [if_pos h, if_pos (hc.2 h)]
   exact wi64' (by omega)
 · rw [if_neg h, if_neg (fun h' => h (hc.1 h'))]
   exact wi64' (by omega)
theorem and16 {n : Int} (h0 : 0 ≤ n) (h1 : n ≤ 9223372036854775807) : decide (IntKind.i64.wrap (BitVec.ofInt IntKind.i64.bits n &&& BitVec.ofInt IntKind.i64.bits 16).toNat = 0) = !hasF n 16 := by
 have := and_pow 4 h0 h1 (by decide)
 rw [show ((2 ^ 4 : Nat) : Int) = 16 from rfl] at this
 rw [this]
 unfold hasF
 by_cases h : n / 16 % 2 = 1 <;> simp [h, h0]
theorem and32 {n : Int} (h0 : 0 ≤ n) (h1 : n ≤ 9223372036854775807) : decide (IntKind.i64.wrap (BitVec.ofInt IntKind.i64.bits n &&& BitVec.ofInt IntKind.i64.bits 32).toNat ≠ 0) = hasF n 32 := by
 have := and_pow 5 h0 h1 (by decide)
 rw [show ((2 ^ 5 : Nat) : Int) = 32 from rfl] at this
 rw [this]
 unfold hasF
 by_cases h : n / 32 % 2 = 1 <;> simp [h, h0]
def splitZ : Int → Int → List Int → List (Int × Int)
 | _, _, [] => []
 | at_, i, x :: xs => if x = 0 then (at_, i + 1 - at_) :: splitZ (i + 1) (i + 1) xs else splitZ at_ (i + 1) xs
/-- Pieces of so many bytes; fuel: how many there may be. -/
def splitE (e len : Int) : Nat → Int → List (Int × Int)
 | 0, _ => []
 | k + 1, at_ => if at_ + e ≤ len then (at_, e) :: splitE e len k (at_ + e) else []
def splitB (s : SecD) : List (Int × Int) :=
 if hasF s.flags 16 = false then [(0, s.size)] else if hasF s.flags 32 = true then splitZ 0 0 s.data else if s.ent > 0 then splitE s.ent s.data.length s.data.length 0 else []
def splitR (str : Bool) (e : Int) : Int → Int → List Int → List (Int × Int)
 | _, _, [] => []
 | at_, i, x :: xs => if (if str then x = 0 else i + 1 - at_ = e) then (at_, i + 1 - at_) :: splitR str e (i + 1) (i + 1) xs else splitR str e at_ (i + 1) xs
def splitRB (s : SecD) : List (Int × Int) := if hasF s.flags 16 = false then [(0, s.size)] else splitR (hasF s.flags 32) s.ent 0 0 s.data
theorem piece_Split (s : SecD) (hs : s.ok) (hf : 0 ≤ s.flags) (hd : s.data.length ≤ 1000000000) (he : s.ent ≤ 1000000000) : A0 Try.prog 31 [.agg (secA s)] (fun ret => ret = .rd 2 ((splitB s).map pcA)) := by
 have hs0 := hs
 obtain ⟨q1, q2, q3, q4, q5, q6, q7, q8, q9, q10, q11⟩ := hs
 unfold I64 at q3 q5
 refine A0.body 68 Try.func31 rfl rfl Try.ntmps31 fun base n0 => ?_
 refine AW.seq' ?_
 refine AW.region ?_
 refine AO.ww ?_
 refine AO.c ?_
 refine AO.nil ?_
 refine SQ.normal ?_
 refine AW.seq' ?_
 refine AW.region ?_
 refine AO.c ?_
 refine AO.nil ?_
 refine SQ.normal ?_
 refine AW.seq' ?_
 refine AW.block' ?_
 refine AW.seq' ?_
 refine AW.region ?_
 iterate 5 refine AO.c ?_
 refine AO.nil ?_
 refine SQ.normal ?_
 refine AW.iteB (GL.ev _) (fun h0 => ?_) (fun h0 => ?_)
 ·
  rw [and16 hf q3.2] at h0
  refine AW.seq' ?_
  refine AW.region ?_
  iterate 3 refine AO.c ?_
  refine AO.rr ?_
  refine AO.c ?_
  refine AO.nil ?_
  refine SQ.normal ?_
  refine AW.ret ?_
  refine BQ.ret <| SQ.ret ?_
  refine Fin.ret (Gh.refl) noid1 ?_
  unfold splitB; rw [if_pos (by simpa using h0)]; rfl
 ·
  rw [and16 hf q3.2, Bool.not_eq_false'] at h0
  refine AW.seq' ?_
  refine AW.region ?_
  iterate 5 refine AO.c ?_
  refine AO.nil ?_
  refine SQ.normal ?_
  refine AW.iteB (GL.ev _) (fun h1 => ?_) (fun h1 => ?_)
  ·
   rw [and32 hf q3.2] at h1
   refine AW.seq' ?_
   refine AW.region ?_
   refine AO.c ?_
   refine AO.nil ?_
   refine SQ.normal ?_
   refine AW.seq' ?_
   refine AW.region ?_
   iterate 4 refine AO.c ?_
   refine AO.nil ?_
   refine SQ.normal ?_
   refine AW.block' ?_
   refine AW.ghost (Gh.adoptM 3 106 2) ?_
   refine AW.loopU4 [.f, .f, .f, .k, .k, .F, .F, .f, .f, .k, .k, .k, .F, .F, .F, .F, .F, .f, .f] (fun (i ep : Nat) (p : Int) (out : List (Int × Int)) => [(3, .own (n0 + 1) ep 0 out.length), (4, .v (.int .i64 (p))), (25, .v (.int .i64 (i)))]) (fun i ep p out => Hn n0 [some (.box 45 (secA s)), some (.row 106 2 (ep) ((out).map pcA))]) (fun m i ep p out => i ≤ s.data.length ∧ m = s.data.length - i ∧ (0 ≤ p ∧ p ≤ i ∧ out.length ≤ i) ∧ splitZ 0 0 s.data = out ++ splitZ p i (s.data.drop i)) (s.data.length) (0) (0) (0) ([]) ⟨by omega, by omega, by simp, rfl⟩ (by first | rfl | (simp; done)) (by first | rfl | (simp; done)) ?_
   rintro m0 i ep p out ⟨hx1, hx2, hx3, hx4⟩
   refine AW.seq' ?_
   refine AW.region ?_
   refine AO.c ?_
   refine AO.nil ?_
   refine SQ.normal ?_
   refine AW.seq' ?_
   refine AW.iteB (GL.ev _) (fun h2 => ?_) (fun h2 => ?_)
   ·
    rw [decide_eq_true_eq] at h2
    have hlt : i < s.data.length := by omega
    rw [drop_getD0 hlt, splitZ] at hx4
    refine AW.skip ?_
    refine SQ.normal ?_
    refine AW.seq' ?_
    refine AW.block' ?_
    refine AW.seq' ?_
    refine AW.region ?_
    refine AO.c ?_
    refine AO.oo ?_
    iterate 3 refine AO.c ?_
    refine AO.nil ?_
    refine SQ.normal ?_
    refine AW.seq' ?_
    refine AW.region ?_
    iterate 2 refine AO.c ?_
    refine AO.nil ?_
    refine SQ.normal ?_
    refine AW.iteB (GL.ev _) (fun h3 => ?_) (fun h3 => ?_)
    ·
     rw [decide_eq_true_eq] at h3
     rw [if_pos h3] at hx4
     refine AW.seq' ?_
     refine AW.region ?_
     iterate 3 refine AO.c ?_
     refine AO.oo ?_
     refine AO.c ?_
     refine AO.oo ?_
     refine AO.c ?_
     refine AO.rr ?_
     refine AO.ww ?_
     refine AO.c ?_
     refine AO.nil ?_
     refine SQ.normal ?_
     refine AW.region ?_
     refine AO.c ?_
     refine AO.oo ?_
     refine AO.c ?_
     refine AO.nil ?_
     refine BQ.normal ?_
     refine SQ.normal ?_
     refine AW.region ?_
     refine AO.oo ?_
     refine AO.c ?_
     refine AO.nil ?_
     exact AW.backU [.f, .f, .f, .k, .k, .F, .F, .f, .f, .k, .k, .k, .F, .F, .F, .F, .F, .f, .f] (m0 - 1) (i + 1, ep + 1, (i : Int) + 1, out ++ [(p, (i : Int) + 1 - p)]) (by omega) (by (try dsimp only); exact ⟨by omega, by omega, ⟨by omega, by omega, by simp; omega⟩, by rw [hx4]; simp⟩) (by first | rfl | (simp; done)) (by first | rfl | (simp; done))
    ·
     rw [decide_eq_false_iff_not] at h3
     rw [if_neg h3] at hx4
     refine AW.skip ?_
     refine BQ.normal ?_
     refine SQ.normal ?_
     refine AW.region ?_
     refine AO.oo ?_
     refine AO.c ?_
     refine AO.nil ?_
     exact AW.backU [.f, .f, .f, .k, .k, .F, .F, .f, .f, .k, .k, .k, .F, .F, .F, .F, .F, .f, .f] (m0 - 1) (i + 1, ep, p, out) (by omega) (by (try dsimp only); exact ⟨by omega, by omega, ⟨by omega, by omega, by omega⟩, hx4⟩) (by first | rfl | (simp; done)) (by first | rfl | (simp; done))
   ·
    rw [decide_eq_false_iff_not] at h2
    refine AW.exit ?_
    refine SQ.exit <| AW.out <| LU.exit <| BQ.exit ?_
    refine BQ.normal ?_
    refine SQ.normal ?_
    refine AW.seq' ?_
    refine AW.region ?_
    iterate 2 refine AO.c ?_
    refine AO.nil ?_
    refine SQ.normal ?_
    refine AW.ret ?_
    refine Fin.ret (Gh.freezeM 2 pcA out rfl rfl (by omega)) noid1 ?_
    unfold splitB; rw [if_neg (by simp [h0]), if_pos h1, hx4, List.drop_of_length_le (by omega), splitZ, List.append_nil]; rfl
  ·
   rw [and32 hf q3.2] at h1
   refine AW.seq' ?_
   refine AW.region ?_
   iterate 4 refine AO.c ?_
   refine AO.nil ?_
   refine SQ.normal ?_
   refine AW.iteB (GL.ev _) (fun h4 => ?_) (fun h4 => ?_)
   ·
    rw [decide_eq_true_eq] at h4
    refine AW.seq' ?_
    refine AW.region ?_
    refine AO.c ?_
    refine AO.nil ?_
    refine SQ.normal ?_
    refine AW.block' ?_
    refine AW.ghost (Gh.adoptM 3 106 2) ?_
    refine AW.loopU3 [.f, .k, .f, .k, .f, .f, .f, .k, .F, .F, .F, .F, .F, .F, .F, .f, .f, .f, .f] (fun (ep : Nat) (p : Int) (out : List (Int × Int)) => [(3, .own (n0 + 1) ep 0 out.length), (7, .v (.int .i64 (p)))]) (fun ep p out => Hn n0 [some (.box 45 (secA s)), some (.row 106 2 (ep) ((out).map pcA))]) (fun m ep p out => (0 ≤ p ∧ p ≤ s.data.length ∧ (out.length : Int) ≤ p ∧ (s.data.length : Int) - p ≤ m) ∧ splitE s.ent s.data.length s.data.length 0 = out ++ splitE s.ent s.data.length m p) (s.data.length) (0) (0) ([]) ⟨by simp, rfl⟩ (by first | rfl | (simp; done)) (by first | rfl | (simp; done)) ?_
    rintro m1 ep p out ⟨hx3, hx4⟩
    refine AW.seq' ?_
    refine AW.seq' ?_
    refine AW.region ?_
    iterate 3 refine AO.c ?_
    refine AO.oo ?_
    iterate 4 refine AO.c ?_
    refine AO.nil ?_
    refine SQ.normal ?_
    refine AW.iteB (GL.ev _) (fun h5 => ?_) (fun h5 => ?_)
    ·
     rw [decide_eq_true_eq] at h5
     have hk0 : m1 ≠ 0 := fun h => by subst h; omega
     obtain ⟨k, rfl⟩ : ∃ k, m1 = k + 1 := ⟨m1 - 1, by omega⟩
     rw [splitE, if_pos h5] at hx4
     refine AW.skip ?_
     refine SQ.normal ?_
     refine AW.seq' ?_
     refine AW.block' ?_
     refine AW.region ?_
     iterate 5 refine AO.c ?_
     refine AO.rr ?_
     refine AO.ww ?_
     refine AO.c ?_
     refine AO.nil ?_
     refine BQ.normal ?_
     refine SQ.normal ?_
     refine AW.region ?_
     iterate 3 refine AO.c ?_
     refine AO.oo ?_
     refine AO.c ?_
     refine AO.nil ?_
     exact AW.backU [.f, .k, .f, .k, .f, .f, .f, .k, .F, .F, .F, .F, .F, .F, .F, .f, .f, .f, .f] (k) (ep + 1, p + s.ent, out ++ [(p, s.ent)]) (by omega) (by (try dsimp only); exact ⟨⟨by omega, by omega, by simp; omega, by omega⟩, by rw [hx4]; simp⟩) (by first | rfl | (simp; done)) (by first | rfl | (simp; done))
    ·
     rw [decide_eq_false_iff_not] at h5
     refine AW.exit ?_
     refine SQ.exit <| AW.out <| LU.exit <| BQ.exit ?_
     refine BQ.normal ?_
     refine SQ.normal ?_
     refine AW.seq' ?_
     refine AW.region ?_
     iterate 2 refine AO.c ?_
     refine AO.nil ?_
     refine SQ.normal ?_
     refine AW.ret ?_
     refine Fin.ret (Gh.freezeM 2 pcA out rfl rfl (by omega)) noid1 ?_
     unfold splitB; rw [if_neg (by simp [h0]), if_neg (by simp [h1]), if_pos h4, hx4]
     have : splitE s.ent s.data.length m1 p = [] := by
      cases m1 with
      | zero => rfl
      | succ k => rw [splitE, if_neg h5]
     rw [this, List.append_nil]; rfl
   ·
    rw [decide_eq_false_iff_not] at h4
    refine AW.skip ?_
    refine BQ.normal ?_
    refine SQ.normal ?_
    refine AW.seq' ?_
    refine AW.region ?_
    iterate 2 refine AO.c ?_
    refine AO.nil ?_
    refine SQ.normal ?_
    refine AW.ret ?_
    refine Fin.ret (Gh.nilM (α := Int × Int) 2 2 pcA) noid1 ?_
    unfold splitB; rw [if_neg (by simp [h0]), if_neg (by simp [h1]), if_neg h4]; rfl
end Go.Proofs.Ytiomdnmicagdcaa.AL
namespace Go.Proofs.Ytiomdnmicagdcaa.AL
open Go Go.RowKit Go.Proofs.Ytiomdnmicagdcaa.Base
set_option linter.unusedVariables false
set_option linter.unusedSimpArgs false
set_option maxRecDepth 4000
set_option synthInstance.maxSize 1000
set_option synthInstance.maxHeartbeats 200000
@[reducible] def band (p q : Int) : Int := IntKind.i64.wrap ((BitVec.ofInt IntKind.i64.bits p &&& BitVec.ofInt IntKind.i64.bits q).toNat)
def hasP (f k : Int) : Bool := decide (band f k = k)
theorem ofInt_nat {m : Nat} (h : m < 2 ^ 63) : (BitVec.ofInt IntKind.i64.bits (m : Int)).toNat = m := by
 simp only [IntKind.bits, BitVec.ofInt_natCast, BitVec.toNat_ofNat]
 exact Nat.mod_eq_of_lt (by omega)
theorem band_nat {m k : Nat} (hm : m < 2 ^ 63) (hk : k < 2 ^ 63) : band (m : Int) (k : Int) = ((m &&& k : Nat) : Int) := by
 unfold band
 rw [BitVec.toNat_and, ofInt_nat hm, ofInt_nat hk]
 have : m &&& k ≤ m := Nat.and_le_left
 exact wi64' (by omega)
theorem andNot_nat {m k : Nat} (hm : m < 2 ^ 63) (hk : k < 2 ^ 63) : (Go.bits .andNot .i64 (m : Int) (k : Int) = 0) ↔ m &&& k = m := by
 have hb : ∀ a b : BitVec 64, a &&& ~~~b = 0#64 ↔ a &&& b = a := by
  intro a b
  constructor
  · intro h
    apply BitVec.eq_of_getLsbD_eq
    intro i hi
    have := congrArg (fun z => z.getLsbD i) h
    simp only [BitVec.getLsbD_and, BitVec.getLsbD_not, hi, decide_true, Bool.true_and, BitVec.getLsbD_zero] at this ⊢
    cases ha : a.getLsbD i <;> cases hb : b.getLsbD i <;> simp_all
  · intro h
    apply BitVec.eq_of_getLsbD_eq
    intro i hi
    have := congrArg (fun z => z.getLsbD i) h
    simp only [BitVec.getLsbD_and, BitVec.getLsbD_not, hi, decide_true, Bool.true_and, BitVec.getLsbD_zero] at this ⊢
    cases ha : a.getLsbD i <;> cases hb : b.getLsbD i <;> simp_all
 have e0 : Go.bits .andNot .i64 (m : Int) (k : Int) = IntKind.i64.wrap ((BitVec.ofInt 64 (m : Int) &&& ~~~ BitVec.ofInt 64 (k : Int)).toNat : Int) := rfl
 have hle : (BitVec.ofInt 64 (m : Int) &&& ~~~ BitVec.ofInt 64 (k : Int)).toNat ≤ m := by
  rw [BitVec.toNat_and, show (BitVec.ofInt 64 (m : Int)).toNat = m from ofInt_nat hm]
  exact Nat.and_le_left
 rw [e0, wi64' (by omega)]
 have h1 := hb (BitVec.ofInt 64 (m : Int)) (BitVec.ofInt 64 (k : Int))
 constructor
 · intro h
   have h2 := h1.1 (BitVec.eq_of_toNat_eq (by simpa using h))
   have := congrArg BitVec.toNat h2
   rw [BitVec.toNat_and, show (BitVec.ofInt 64 (m : Int)).toNat = m from ofInt_nat hm, show (BitVec.ofInt 64 (k : Int)).toNat = k from ofInt_nat hk] at this
   exact this
 · intro h
   have h2 := h1.2 (BitVec.eq_of_toNat_eq (by rw [BitVec.toNat_and, show (BitVec.ofInt 64 (m : Int)).toNat = m from ofInt_nat hm, show (BitVec.ofInt 64 (k : Int)).toNat = k from ofInt_nat hk]; exact h))
   rw [h2]; rfl
/-- A bit that is put out. -/
theorem clear_bit {m j : Nat} (h : m / 2 ^ j % 2 = 1) (i : Nat) : (m - 2 ^ j).testBit i = (m.testBit i && decide (i ≠ j)) := by
 have hp : 0 < 2 ^ j := Nat.pow_pos (by decide)
 obtain ⟨q, hq⟩ : ∃ q, m / 2 ^ j = 2 * q + 1 := ⟨m / 2 ^ j / 2, by omega⟩
 have hr : m % 2 ^ j < 2 ^ j := Nat.mod_lt _ hp
 have hm : m = 2 ^ j * (2 * q + 1) + m % 2 ^ j := by rw [← hq]; exact (Nat.div_add_mod m (2 ^ j)).symm
 have hm2 : m - 2 ^ j = 2 ^ j * (2 * q) + m % 2 ^ j := by
  have : 2 ^ j * (2 * q + 1) = 2 ^ j * (2 * q) + 2 ^ j := by rw [Nat.mul_add, Nat.mul_one]
  omega
 rw [hm2]
 have e1 := Nat.testBit_two_pow_mul_add (2 * q) hr i
 have e2 := Nat.testBit_two_pow_mul_add (2 * q + 1) hr i
 rw [← hm] at e2
 rw [e1, e2]
 by_cases hi : i < j
 · rw [if_pos hi, if_pos hi]
   have : i ≠ j := by omega
   simp [this]
 · rw [if_neg hi, if_neg hi]
   by_cases hij : i = j
   · subst hij
     rw [Nat.sub_self]
     have : (2 * q).testBit 0 = false := by rw [Nat.testBit_zero]; simp
     rw [this]; simp
   · obtain ⟨k, hk⟩ : ∃ k, i - j = k + 1 := ⟨i - j - 1, by omega⟩
     rw [hk, Nat.testBit_succ, Nat.testBit_succ]
     have a1 : 2 * q / 2 = q := by omega
     have a2 : (2 * q + 1) / 2 = q := by omega
     rw [a1, a2]; simp [hij]
def clr (m j : Nat) : Nat := if m / 2 ^ j % 2 = 1 then m - 2 ^ j else m
theorem clr_bit (m j i : Nat) : (clr m j).testBit i = (m.testBit i && decide (i ≠ j)) := by
 unfold clr
 split
 · rename_i h; exact clear_bit h i
 · rename_i h
   by_cases hij : i = j
   · subst hij
     rw [Nat.testBit_eq_decide_div_mod_eq, decide_eq_false h]; rfl
   · simp [hij]
theorem flagStep_nat (m j : Nat) : flagStep (m : Int) ((2 ^ j : Nat) : Int) = ((clr m j : Nat) : Int) := by
 unfold flagStep clr
 have e : ((m : Int) / ((2 ^ j : Nat) : Int) % 2 = 1) ↔ (m / 2 ^ j % 2 = 1) := by
  rw [← Int.natCast_ediv]; omega
 by_cases h : m / 2 ^ j % 2 = 1
 · rw [if_pos ⟨by omega, e.2 h⟩, if_pos h]
   have : 2 ^ j ≤ m := by
    rcases Nat.lt_or_ge m (2 ^ j) with h2 | h2
    · rw [Nat.div_eq_of_lt h2] at h; cases h
    · exact h2
   omega
 · rw [if_neg (fun h2 => h (e.1 h2.2)), if_neg h]
def bitL : List Nat := [0, 1, 2, 4, 5, 7, 9, 21]
theorem fold_nat : ∀ (l : List Nat) (m : Nat), (l.map fun j => ((2 ^ j : Nat) : Int)).foldl flagStep (m : Int) = ((l.foldl clr m : Nat) : Int)
 | [], _ => rfl
 | j :: l, m => by
  simp only [List.map_cons, List.foldl_cons]
  rw [flagStep_nat]; exact fold_nat l _
theorem clrs_bit : ∀ (l : List Nat) (m i : Nat), (l.foldl clr m).testBit i = (m.testBit i && !l.contains i)
 | [], m, i => by simp
 | j :: l, m, i => by
  rw [List.foldl_cons, clrs_bit l, clr_bit, List.contains_cons, Bool.and_assoc]
  congr 1
  by_cases h : i = j <;> simp [h]
theorem all_bit (i : Nat) : (2097847 : Nat).testBit i = bitL.contains i := by
 by_cases h : i < 22
 · have : ∀ i, i < 22 → (2097847 : Nat).testBit i = bitL.contains i := by decide
   exact this i h
 · rw [Nat.testBit_lt_two_pow (Nat.lt_of_lt_of_le (show 2097847 < 2 ^ 22 by decide) (Nat.pow_le_pow_right (by decide) (by omega)))]
   symm
   rw [← Bool.not_eq_true, List.contains_iff_mem]
   unfold bitL
   simp
   omega
theorem flagsB_nat {m : Nat} : flagsB (m : Int) = decide (m &&& 2097847 = m) := by
 unfold flagsB
 have e : flagL = bitL.map fun j => ((2 ^ j : Nat) : Int) := rfl
 rw [e, fold_nat, Bool.eq_iff_iff, decide_eq_true_eq, decide_eq_true_eq]
 constructor
 · intro h
   have h : bitL.foldl clr m = 0 := by omega
   apply Nat.eq_of_testBit_eq
   intro i
   have h1 := clrs_bit bitL m i
   rw [h, Nat.zero_testBit] at h1
   rw [Nat.testBit_and, all_bit]
   cases hm : m.testBit i <;> cases hc : bitL.contains i <;> simp_all
 · intro h
   have : bitL.foldl clr m = 0 := by
    apply Nat.eq_of_testBit_eq
    intro i
    rw [clrs_bit, Nat.zero_testBit]
    have h1 := congrArg (fun z => z.testBit i) h
    simp only [Nat.testBit_and, all_bit] at h1
    cases hm : m.testBit i <;> cases hc : bitL.contains i <;> simp_all
   omega
theorem flagsB_neg {f : Int} (h : f < 0) : flagsB f = false := by
 have key : ∀ l : List Int, l.foldl flagStep f = f := by
  intro l
  induction l with
  | nil => rfl
  | cons a l ih =>
   rw [List.foldl_cons]
   have : flagStep f a = f := by unfold flagStep; rw [if_neg (by omega)]
   rw [this]; exact ih
 unfold flagsB
 rw [key]; exact decide_eq_false (by omega)
/-- The masks that a section's flags must pass. -/
theorem flagsB_eq {f : Int} (hf : I64 f) : (!(decide (Go.bits .andNot .i64 f 2097847 ≠ 0) || decide (f < 0))) = flagsB f := by
 rcases Int.lt_or_le f 0 with h | h
 · rw [flagsB_neg h, decide_eq_true h, Bool.or_true]; rfl
 · obtain ⟨m, rfl⟩ := Int.eq_ofNat_of_zero_le h
   have hm : m < 2 ^ 63 := by unfold I64 at hf; omega
   have h2 := andNot_nat hm (show 2097847 < 2 ^ 63 by decide)
   rw [flagsB_nat, decide_eq_false (by omega : ¬ (m : Int) < 0), Bool.or_false, Bool.eq_iff_iff]
   simp only [Bool.not_eq_true', decide_eq_false_iff_not, Decidable.not_not, decide_eq_true_eq]
   exact h2
theorem hasP_pow {f : Int} (h0 : 0 ≤ f) (h1 : f ≤ 9223372036854775807) {k : Nat} (hk : k < 63) : hasP f ((2 ^ k : Nat) : Int) = hasF f ((2 ^ k : Nat) : Int) := by
 unfold hasP hasF band
 rw [and_pow k h0 h1 hk]
 have hp : 0 < 2 ^ k := Nat.pow_pos (by decide)
 by_cases h : f / ((2 ^ k : Nat) : Int) % 2 = 1
 · rw [if_pos h, decide_eq_true (rfl : (((2 ^ k : Nat) : Int)) = _), decide_eq_true h0, decide_eq_true h]; rfl
 · rw [if_neg h]
   have : ¬ (((0 : Nat) : Int) = ((2 ^ k : Nat) : Int)) := by omega
   rw [decide_eq_false this, decide_eq_false h, Bool.and_false]
theorem hasP_5 {f : Int} (h0 : 0 ≤ f) (h1 : f ≤ 9223372036854775807) : hasP f 5 = (hasF f 1 && hasF f 4) := by
 obtain ⟨m, rfl⟩ := Int.eq_ofNat_of_zero_le h0
 have hm : m < 2 ^ 63 := by omega
 unfold hasP
 have e := band_nat hm (show 5 < 2 ^ 63 by decide)
 rw [show band (m : Int) 5 = ((m &&& 5 : Nat) : Int) from e]
 have f1 : hasF (m : Int) 1 = m.testBit 0 := by
  unfold hasF; rw [Nat.testBit_eq_decide_div_mod_eq, Bool.eq_iff_iff]; simp; omega
 have f4 : hasF (m : Int) 4 = m.testBit 2 := by
  unfold hasF; rw [Nat.testBit_eq_decide_div_mod_eq, Bool.eq_iff_iff]; simp; omega
 rw [f1, f4, Bool.eq_iff_iff, decide_eq_true_eq, Bool.and_eq_true]
 have hb : ∀ i, (5 : Nat).testBit i = (decide (i = 0) || decide (i = 2)) := by
  intro i
  by_cases h : i < 3
  · have : ∀ i, i < 3 → (5 : Nat).testBit i = (decide (i = 0) || decide (i = 2)) := by decide
    exact this i h
  · rw [Nat.testBit_lt_two_pow (Nat.lt_of_lt_of_le (show 5 < 2 ^ 3 by decide) (Nat.pow_le_pow_right (by decide) (by omega)))]
    symm; simp; omega
 constructor
 · intro h
   have h : m &&& 5 = 5 := by omega
   have h2 := congrArg (fun z => z.testBit 0) h
   have h3 := congrArg (fun z => z.testBit 2) h
   simp only [Nat.testBit_and, hb] at h2 h3
   simpa using And.intro h2 h3
 · rintro ⟨h2, h3⟩
   have : m &&& 5 = 5 := by
    apply Nat.eq_of_testBit_eq
    intro i
    rw [Nat.testBit_and, hb]
    by_cases hi : i = 0
    · subst hi; simp [h2]
    · by_cases hi2 : i = 2
      · subst hi2; simp [h3]
      · simp [hi, hi2]
   omega
end Go.Proofs.Ytiomdnmicagdcaa.AL
