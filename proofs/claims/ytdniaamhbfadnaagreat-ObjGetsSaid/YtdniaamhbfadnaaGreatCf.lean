/- A part of the proof: rules of an own logic over blocks, and what functions of the program compute, each by its own contract; the conditions stand with each. -/
import Derived.Test.YtdniaamhbfadnaaGreatCd
import Derived.Test.YtdniaamhbfadnaaGreatProg
import Derived.KernelRfl
namespace Go.Proofs.YtdniaamhbfadnaaGreat.AL
open Go Go.RowKit
set_option linter.unusedVariables false
def fs28 : Array Field := #[{ name := "Secs", type := 24, offset := 0, embedded := false, tag := "", pkgPath := "", byteOffset := 0 }, { name := "Syms", type := 25, offset := 1, embedded := false, tag := "", pkgPath := "", byteOffset := 24 }, { name := "Groups", type := 26, offset := 2, embedded := false, tag := "", pkgPath := "", byteOffset := 48 }, { name := "HasSig", type := 4, offset := 3, embedded := false, tag := "", pkgPath := "", byteOffset := 72 }, { name := "Sig", type := 27, offset := 4, embedded := false, tag := "", pkgPath := "", byteOffset := 80 }]
@[reducible] def fl81 : List Field := [⟨"Name", 9, 0, false, "", "", 0⟩, ⟨"Bind", 3, 1, false, "", "", 16⟩, ⟨"Type", 3, 2, false, "", "", 24⟩, ⟨"Sec", 3, 3, false, "", "", 32⟩, ⟨"Value", 3, 4, false, "", "", 40⟩, ⟨"Size", 3, 5, false, "", "", 48⟩]
def fs81 : Array Field := #[{ name := "Name", type := 9, offset := 0, embedded := false, tag := "", pkgPath := "", byteOffset := 0 }, { name := "Bind", type := 3, offset := 1, embedded := false, tag := "", pkgPath := "", byteOffset := 16 }, { name := "Type", type := 3, offset := 2, embedded := false, tag := "", pkgPath := "", byteOffset := 24 }, { name := "Sec", type := 3, offset := 3, embedded := false, tag := "", pkgPath := "", byteOffset := 32 }, { name := "Value", type := 3, offset := 4, embedded := false, tag := "", pkgPath := "", byteOffset := 40 }, { name := "Size", type := 3, offset := 5, embedded := false, tag := "", pkgPath := "", byteOffset := 48 }]
def fs87 : Array Field := #[{ name := "b", type := 22, offset := 0, embedded := false, tag := "", pkgPath := "fishplate/obj", byteOffset := 0 }, { name := "heads", type := 86, offset := 1, embedded := false, tag := "", pkgPath := "fishplate/obj", byteOffset := 24 }, { name := "number", type := 85, offset := 2, embedded := false, tag := "", pkgPath := "fishplate/obj", byteOffset := 48 }, { name := "table", type := 3, offset := 3, embedded := false, tag := "", pkgPath := "fishplate/obj", byteOffset := 56 }, { name := "o", type := 29, offset := 4, embedded := false, tag := "", pkgPath := "fishplate/obj", byteOffset := 64 }]
def fs92 : Array Field := #[{ name := "B", type := 22, offset := 0, embedded := false, tag := "", pkgPath := "", byteOffset := 0 }, { name := "L", type := 91, offset := 1, embedded := false, tag := "", pkgPath := "", byteOffset := 24 }, { name := "Names", type := 3, offset := 2, embedded := false, tag := "", pkgPath := "", byteOffset := 48 }, { name := "Ok", type := 4, offset := 3, embedded := false, tag := "", pkgPath := "", byteOffset := 56 }]
@[reducible] def fl98 : List Field := [⟨"Name", 3, 0, false, "", "", 0⟩, ⟨"Type", 3, 1, false, "", "", 8⟩, ⟨"Flags", 3, 2, false, "", "", 16⟩, ⟨"Addr", 3, 3, false, "", "", 24⟩, ⟨"Off", 3, 4, false, "", "", 32⟩, ⟨"Size", 3, 5, false, "", "", 40⟩, ⟨"Link", 3, 6, false, "", "", 48⟩, ⟨"Info", 3, 7, false, "", "", 56⟩, ⟨"Align", 3, 8, false, "", "", 64⟩, ⟨"Ent", 3, 9, false, "", "", 72⟩]
def fs98 : Array Field := #[{ name := "Name", type := 3, offset := 0, embedded := false, tag := "", pkgPath := "", byteOffset := 0 }, { name := "Type", type := 3, offset := 1, embedded := false, tag := "", pkgPath := "", byteOffset := 8 }, { name := "Flags", type := 3, offset := 2, embedded := false, tag := "", pkgPath := "", byteOffset := 16 }, { name := "Addr", type := 3, offset := 3, embedded := false, tag := "", pkgPath := "", byteOffset := 24 }, { name := "Off", type := 3, offset := 4, embedded := false, tag := "", pkgPath := "", byteOffset := 32 }, { name := "Size", type := 3, offset := 5, embedded := false, tag := "", pkgPath := "", byteOffset := 40 }, { name := "Link", type := 3, offset := 6, embedded := false, tag := "", pkgPath := "", byteOffset := 48 }, { name := "Info", type := 3, offset := 7, embedded := false, tag := "", pkgPath := "", byteOffset := 56 }, { name := "Align", type := 3, offset := 8, embedded := false, tag := "", pkgPath := "", byteOffset := 64 }, { name := "Ent", type := 3, offset := 9, embedded := false, tag := "", pkgPath := "", byteOffset := 72 }]
def fs103 : Array Field := #[{ name := "Name", type := 9, offset := 0, embedded := false, tag := "", pkgPath := "", byteOffset := 0 }, { name := "Type", type := 3, offset := 1, embedded := false, tag := "", pkgPath := "", byteOffset := 16 }, { name := "Flags", type := 3, offset := 2, embedded := false, tag := "", pkgPath := "", byteOffset := 24 }, { name := "Align", type := 3, offset := 3, embedded := false, tag := "", pkgPath := "", byteOffset := 32 }, { name := "Ent", type := 3, offset := 4, embedded := false, tag := "", pkgPath := "", byteOffset := 40 }, { name := "Link", type := 3, offset := 5, embedded := false, tag := "", pkgPath := "", byteOffset := 48 }, { name := "Size", type := 3, offset := 6, embedded := false, tag := "", pkgPath := "", byteOffset := 56 }, { name := "Data", type := 22, offset := 7, embedded := false, tag := "", pkgPath := "", byteOffset := 64 }, { name := "Rels", type := 100, offset := 8, embedded := false, tag := "", pkgPath := "", byteOffset := 88 }]
def fs106 : Array Field := #[{ name := "Sym", type := 3, offset := 0, embedded := false, tag := "", pkgPath := "", byteOffset := 0 }, { name := "Members", type := 27, offset := 1, embedded := false, tag := "", pkgPath := "", byteOffset := 8 }]
@[reducible] def fl130 : List Field := [⟨"Off", 3, 0, false, "", "", 0⟩, ⟨"Type", 3, 1, false, "", "", 8⟩, ⟨"Sym", 3, 2, false, "", "", 16⟩, ⟨"Add", 3, 3, false, "", "", 24⟩]
def fs130 : Array Field := #[{ name := "Off", type := 3, offset := 0, embedded := false, tag := "", pkgPath := "", byteOffset := 0 }, { name := "Type", type := 3, offset := 1, embedded := false, tag := "", pkgPath := "", byteOffset := 8 }, { name := "Sym", type := 3, offset := 2, embedded := false, tag := "", pkgPath := "", byteOffset := 16 }, { name := "Add", type := 3, offset := 3, embedded := false, tag := "", pkgPath := "", byteOffset := 24 }]
def fs153 : Array Field := #[{ name := "At", type := 3, offset := 0, embedded := false, tag := "", pkgPath := "", byteOffset := 0 }, { name := "Many", type := 3, offset := 1, embedded := false, tag := "", pkgPath := "", byteOffset := 8 }, { name := "Names", type := 3, offset := 2, embedded := false, tag := "", pkgPath := "", byteOffset := 16 }]
def fs165 : Array Field := #[{ name := "Name", type := 3, offset := 0, embedded := false, tag := "", pkgPath := "", byteOffset := 0 }, { name := "Bind", type := 3, offset := 1, embedded := false, tag := "", pkgPath := "", byteOffset := 8 }, { name := "Type", type := 3, offset := 2, embedded := false, tag := "", pkgPath := "", byteOffset := 16 }, { name := "Index", type := 3, offset := 3, embedded := false, tag := "", pkgPath := "", byteOffset := 24 }, { name := "Value", type := 3, offset := 4, embedded := false, tag := "", pkgPath := "", byteOffset := 32 }, { name := "Size", type := 3, offset := 5, embedded := false, tag := "", pkgPath := "", byteOffset := 40 }]
def fs203 : Array Field := #[{ name := "h", type := 157, offset := 0, embedded := false, tag := "", pkgPath := "fishplate/obj", byteOffset := 0 }, { name := "name", type := 9, offset := 10, embedded := false, tag := "", pkgPath := "fishplate/obj", byteOffset := 80 }, { name := "b", type := 22, offset := 11, embedded := false, tag := "", pkgPath := "fishplate/obj", byteOffset := 96 }]
def fs250 : Array Field := #[{ name := "v", type := 181, offset := 0, embedded := false, tag := "", pkgPath := "fishplate/ehdr", byteOffset := 0 }, { name := "n", type := 3, offset := 1, embedded := false, tag := "", pkgPath := "fishplate/ehdr", byteOffset := 8 }]
instance : TU Tryz.prog 3 (.int .i64) := ⟨by kernel_rfl⟩
instance : TI Tryz.prog 3 (.int .i64 0) 1 8 := ⟨by kernel_rfl⟩
instance : TG Tryz.prog 3 false 1 := ⟨by kernel_rfl, by kernel_rfl⟩
instance : TU Tryz.prog 4 .bool := ⟨by kernel_rfl⟩
instance : TG Tryz.prog 4 false 1 := ⟨by kernel_rfl, by kernel_rfl⟩
instance : TU Tryz.prog 5 (.int .u8) := ⟨by kernel_rfl⟩
instance : TI Tryz.prog 5 (.int .u8 0) 1 1 := ⟨by kernel_rfl⟩
instance : TG Tryz.prog 5 false 1 := ⟨by kernel_rfl, by kernel_rfl⟩
instance : TU Tryz.prog 9 .string := ⟨by kernel_rfl⟩
instance : TI Tryz.prog 9 (.string { data := #[] }) 1 16 := ⟨by kernel_rfl⟩
instance : TG Tryz.prog 9 false 1 := ⟨by kernel_rfl, by kernel_rfl⟩
instance : TU Tryz.prog 22 (.slice 5) := ⟨by kernel_rfl⟩
instance : TG Tryz.prog 22 false 1 := ⟨by kernel_rfl, by kernel_rfl⟩
instance : TU Tryz.prog 24 (.slice 104) := ⟨by kernel_rfl⟩
instance : TG Tryz.prog 24 false 1 := ⟨by kernel_rfl, by kernel_rfl⟩
instance : TU Tryz.prog 25 (.slice 82) := ⟨by kernel_rfl⟩
instance : TG Tryz.prog 25 false 1 := ⟨by kernel_rfl, by kernel_rfl⟩
instance : TU Tryz.prog 26 (.slice 107) := ⟨by kernel_rfl⟩
instance : TG Tryz.prog 26 false 1 := ⟨by kernel_rfl, by kernel_rfl⟩
instance : TU Tryz.prog 27 (.slice 3) := ⟨by kernel_rfl⟩
instance : TG Tryz.prog 27 false 1 := ⟨by kernel_rfl, by kernel_rfl⟩
instance : TI Tryz.prog 29 (.agg #[.slice none 0 0, .slice none 0 0, .slice none 0 0, .bool false, .slice none 0 0]) 5 104 := ⟨by kernel_rfl⟩
instance : TG Tryz.prog 29 true 5 := ⟨by kernel_rfl, by kernel_rfl⟩
instance : TB Tryz.prog 29 [.v (.slice none 0 0), .v (.slice none 0 0), .v (.slice none 0 0), .v (.bool false), .v (.slice none 0 0)] [(0, 1), (1, 1), (2, 1), (3, 1), (4, 1)] := tb_of (fs := fs28) (zs := [.slice none 0 0, .slice none 0 0, .slice none 0 0, .bool false, .slice none 0 0]) (by kernel_rfl) (by kernel_rfl) (by kernel_rfl) rfl (by kernel_rfl)
instance : TF Tryz.prog 29 0 0 1 false := ⟨⟨fs28, _, by kernel_rfl, rfl, rfl, by kernel_rfl, by decide, by kernel_rfl⟩⟩
instance : TF Tryz.prog 29 1 1 1 false := ⟨⟨fs28, _, by kernel_rfl, rfl, rfl, by kernel_rfl, by decide, by kernel_rfl⟩⟩
instance : TF Tryz.prog 29 2 2 1 false := ⟨⟨fs28, _, by kernel_rfl, rfl, rfl, by kernel_rfl, by decide, by kernel_rfl⟩⟩
instance : TF Tryz.prog 29 3 3 1 false := ⟨⟨fs28, _, by kernel_rfl, rfl, rfl, by kernel_rfl, by decide, by kernel_rfl⟩⟩
instance : TF Tryz.prog 29 4 4 1 false := ⟨⟨fs28, _, by kernel_rfl, rfl, rfl, by kernel_rfl, by decide, by kernel_rfl⟩⟩
instance : TU Tryz.prog 37 (.int .i64) := ⟨by kernel_rfl⟩
instance : TI Tryz.prog 82 (.agg #[.string { data := #[] }, .int .i64 0, .int .i64 0, .int .i64 0, .int .i64 0, .int .i64 0]) 6 56 := ⟨by kernel_rfl⟩
instance : TG Tryz.prog 82 true 6 := ⟨by kernel_rfl, by kernel_rfl⟩
instance : SFL Tryz.prog 82 fl81 := ⟨fs81, by kernel_rfl, rfl, by kernel_rfl, by kernel_rfl, by kernel_rfl⟩
instance : TB Tryz.prog 82 [.v (.string { data := #[] }), .v (.int .i64 0), .v (.int .i64 0), .v (.int .i64 0), .v (.int .i64 0), .v (.int .i64 0)] [(0, 1), (1, 1), (2, 1), (3, 1), (4, 1), (5, 1)] := tb_of (fs := fs81) (zs := [.string { data := #[] }, .int .i64 0, .int .i64 0, .int .i64 0, .int .i64 0, .int .i64 0]) (by kernel_rfl) (by kernel_rfl) (by kernel_rfl) rfl (by kernel_rfl)
instance : TF Tryz.prog 82 0 0 1 false := ⟨⟨fs81, _, by kernel_rfl, rfl, rfl, by kernel_rfl, by decide, by kernel_rfl⟩⟩
instance : TF Tryz.prog 82 1 1 1 false := ⟨⟨fs81, _, by kernel_rfl, rfl, rfl, by kernel_rfl, by decide, by kernel_rfl⟩⟩
instance : TF Tryz.prog 82 2 2 1 false := ⟨⟨fs81, _, by kernel_rfl, rfl, rfl, by kernel_rfl, by decide, by kernel_rfl⟩⟩
instance : TF Tryz.prog 82 3 3 1 false := ⟨⟨fs81, _, by kernel_rfl, rfl, rfl, by kernel_rfl, by decide, by kernel_rfl⟩⟩
instance : TF Tryz.prog 82 4 4 1 false := ⟨⟨fs81, _, by kernel_rfl, rfl, rfl, by kernel_rfl, by decide, by kernel_rfl⟩⟩
instance : TF Tryz.prog 82 5 5 1 false := ⟨⟨fs81, _, by kernel_rfl, rfl, rfl, by kernel_rfl, by decide, by kernel_rfl⟩⟩
instance : TU Tryz.prog 85 (.map 3 3) := ⟨by kernel_rfl⟩
instance : TG Tryz.prog 85 false 1 := ⟨by kernel_rfl, by kernel_rfl⟩
instance : TU Tryz.prog 86 (.slice 157) := ⟨by kernel_rfl⟩
instance : TG Tryz.prog 86 false 1 := ⟨by kernel_rfl, by kernel_rfl⟩
instance : TB Tryz.prog 88 [.v (.slice none 0 0), .v (.slice none 0 0), .v (.map none), .v (.int .i64 0), .v (.slice none 0 0), .v (.slice none 0 0), .v (.slice none 0 0), .v (.bool false), .v (.slice none 0 0)] [(0, 1), (1, 1), (2, 1), (3, 1), (4, 5)] := tb_of (fs := fs87) (zs := [.slice none 0 0, .slice none 0 0, .map none, .int .i64 0, .slice none 0 0, .slice none 0 0, .slice none 0 0, .bool false, .slice none 0 0]) (by kernel_rfl) (by kernel_rfl) (by kernel_rfl) rfl (by kernel_rfl)
instance : TF Tryz.prog 88 0 0 1 false := ⟨⟨fs87, _, by kernel_rfl, rfl, rfl, by kernel_rfl, by decide, by kernel_rfl⟩⟩
instance : TF Tryz.prog 88 1 1 1 false := ⟨⟨fs87, _, by kernel_rfl, rfl, rfl, by kernel_rfl, by decide, by kernel_rfl⟩⟩
instance : TF Tryz.prog 88 2 2 1 false := ⟨⟨fs87, _, by kernel_rfl, rfl, rfl, by kernel_rfl, by decide, by kernel_rfl⟩⟩
instance : TF Tryz.prog 88 3 3 1 false := ⟨⟨fs87, _, by kernel_rfl, rfl, rfl, by kernel_rfl, by decide, by kernel_rfl⟩⟩
instance : TF Tryz.prog 88 4 4 5 true := ⟨⟨fs87, _, by kernel_rfl, rfl, rfl, by kernel_rfl, by decide, by kernel_rfl⟩⟩
instance : TU Tryz.prog 91 (.slice 99) := ⟨by kernel_rfl⟩
instance : TG Tryz.prog 91 false 1 := ⟨by kernel_rfl, by kernel_rfl⟩
instance : TB Tryz.prog 93 [.v (.slice none 0 0), .v (.slice none 0 0), .v (.int .i64 0), .v (.bool false)] [(0, 1), (1, 1), (2, 1), (3, 1)] := tb_of (fs := fs92) (zs := [.slice none 0 0, .slice none 0 0, .int .i64 0, .bool false]) (by kernel_rfl) (by kernel_rfl) (by kernel_rfl) rfl (by kernel_rfl)
instance : TF Tryz.prog 93 0 0 1 false := ⟨⟨fs92, _, by kernel_rfl, rfl, rfl, by kernel_rfl, by decide, by kernel_rfl⟩⟩
instance : TF Tryz.prog 93 1 1 1 false := ⟨⟨fs92, _, by kernel_rfl, rfl, rfl, by kernel_rfl, by decide, by kernel_rfl⟩⟩
instance : TF Tryz.prog 93 2 2 1 false := ⟨⟨fs92, _, by kernel_rfl, rfl, rfl, by kernel_rfl, by decide, by kernel_rfl⟩⟩
instance : TF Tryz.prog 93 3 3 1 false := ⟨⟨fs92, _, by kernel_rfl, rfl, rfl, by kernel_rfl, by decide, by kernel_rfl⟩⟩
instance : TI Tryz.prog 99 (.agg #[.int .i64 0, .int .i64 0, .int .i64 0, .int .i64 0, .int .i64 0, .int .i64 0, .int .i64 0, .int .i64 0, .int .i64 0, .int .i64 0]) 10 80 := ⟨by kernel_rfl⟩
instance : TG Tryz.prog 99 true 10 := ⟨by kernel_rfl, by kernel_rfl⟩
instance : SFL Tryz.prog 99 fl98 := ⟨fs98, by kernel_rfl, rfl, by kernel_rfl, by kernel_rfl, by kernel_rfl⟩
instance : TB Tryz.prog 99 [.v (.int .i64 0), .v (.int .i64 0), .v (.int .i64 0), .v (.int .i64 0), .v (.int .i64 0), .v (.int .i64 0), .v (.int .i64 0), .v (.int .i64 0), .v (.int .i64 0), .v (.int .i64 0)] [(0, 1), (1, 1), (2, 1), (3, 1), (4, 1), (5, 1), (6, 1), (7, 1), (8, 1), (9, 1)] := tb_of (fs := fs98) (zs := [.int .i64 0, .int .i64 0, .int .i64 0, .int .i64 0, .int .i64 0, .int .i64 0, .int .i64 0, .int .i64 0, .int .i64 0, .int .i64 0]) (by kernel_rfl) (by kernel_rfl) (by kernel_rfl) rfl (by kernel_rfl)
instance : TF Tryz.prog 99 0 0 1 false := ⟨⟨fs98, _, by kernel_rfl, rfl, rfl, by kernel_rfl, by decide, by kernel_rfl⟩⟩
instance : TF Tryz.prog 99 1 1 1 false := ⟨⟨fs98, _, by kernel_rfl, rfl, rfl, by kernel_rfl, by decide, by kernel_rfl⟩⟩
instance : TF Tryz.prog 99 2 2 1 false := ⟨⟨fs98, _, by kernel_rfl, rfl, rfl, by kernel_rfl, by decide, by kernel_rfl⟩⟩
instance : TF Tryz.prog 99 3 3 1 false := ⟨⟨fs98, _, by kernel_rfl, rfl, rfl, by kernel_rfl, by decide, by kernel_rfl⟩⟩
instance : TF Tryz.prog 99 4 4 1 false := ⟨⟨fs98, _, by kernel_rfl, rfl, rfl, by kernel_rfl, by decide, by kernel_rfl⟩⟩
instance : TF Tryz.prog 99 5 5 1 false := ⟨⟨fs98, _, by kernel_rfl, rfl, rfl, by kernel_rfl, by decide, by kernel_rfl⟩⟩
instance : TF Tryz.prog 99 6 6 1 false := ⟨⟨fs98, _, by kernel_rfl, rfl, rfl, by kernel_rfl, by decide, by kernel_rfl⟩⟩
instance : TF Tryz.prog 99 7 7 1 false := ⟨⟨fs98, _, by kernel_rfl, rfl, rfl, by kernel_rfl, by decide, by kernel_rfl⟩⟩
instance : TF Tryz.prog 99 8 8 1 false := ⟨⟨fs98, _, by kernel_rfl, rfl, rfl, by kernel_rfl, by decide, by kernel_rfl⟩⟩
instance : TF Tryz.prog 99 9 9 1 false := ⟨⟨fs98, _, by kernel_rfl, rfl, rfl, by kernel_rfl, by decide, by kernel_rfl⟩⟩
instance : TU Tryz.prog 100 (.slice 131) := ⟨by kernel_rfl⟩
instance : TG Tryz.prog 100 false 1 := ⟨by kernel_rfl, by kernel_rfl⟩
instance : TI Tryz.prog 104 (.agg #[.string { data := #[] }, .int .i64 0, .int .i64 0, .int .i64 0, .int .i64 0, .int .i64 0, .int .i64 0, .slice none 0 0, .slice none 0 0]) 9 112 := ⟨by kernel_rfl⟩
instance : TG Tryz.prog 104 true 9 := ⟨by kernel_rfl, by kernel_rfl⟩
instance : TB Tryz.prog 104 [.v (.string { data := #[] }), .v (.int .i64 0), .v (.int .i64 0), .v (.int .i64 0), .v (.int .i64 0), .v (.int .i64 0), .v (.int .i64 0), .v (.slice none 0 0), .v (.slice none 0 0)] [(0, 1), (1, 1), (2, 1), (3, 1), (4, 1), (5, 1), (6, 1), (7, 1), (8, 1)] := tb_of (fs := fs103) (zs := [.string { data := #[] }, .int .i64 0, .int .i64 0, .int .i64 0, .int .i64 0, .int .i64 0, .int .i64 0, .slice none 0 0, .slice none 0 0]) (by kernel_rfl) (by kernel_rfl) (by kernel_rfl) rfl (by kernel_rfl)
instance : TF Tryz.prog 104 0 0 1 false := ⟨⟨fs103, _, by kernel_rfl, rfl, rfl, by kernel_rfl, by decide, by kernel_rfl⟩⟩
instance : TF Tryz.prog 104 1 1 1 false := ⟨⟨fs103, _, by kernel_rfl, rfl, rfl, by kernel_rfl, by decide, by kernel_rfl⟩⟩
instance : TF Tryz.prog 104 2 2 1 false := ⟨⟨fs103, _, by kernel_rfl, rfl, rfl, by kernel_rfl, by decide, by kernel_rfl⟩⟩
instance : TF Tryz.prog 104 3 3 1 false := ⟨⟨fs103, _, by kernel_rfl, rfl, rfl, by kernel_rfl, by decide, by kernel_rfl⟩⟩
instance : TF Tryz.prog 104 4 4 1 false := ⟨⟨fs103, _, by kernel_rfl, rfl, rfl, by kernel_rfl, by decide, by kernel_rfl⟩⟩
instance : TF Tryz.prog 104 5 5 1 false := ⟨⟨fs103, _, by kernel_rfl, rfl, rfl, by kernel_rfl, by decide, by kernel_rfl⟩⟩
instance : TF Tryz.prog 104 6 6 1 false := ⟨⟨fs103, _, by kernel_rfl, rfl, rfl, by kernel_rfl, by decide, by kernel_rfl⟩⟩
instance : TF Tryz.prog 104 7 7 1 false := ⟨⟨fs103, _, by kernel_rfl, rfl, rfl, by kernel_rfl, by decide, by kernel_rfl⟩⟩
instance : TF Tryz.prog 104 8 8 1 false := ⟨⟨fs103, _, by kernel_rfl, rfl, rfl, by kernel_rfl, by decide, by kernel_rfl⟩⟩
instance : TI Tryz.prog 107 (.agg #[.int .i64 0, .slice none 0 0]) 2 32 := ⟨by kernel_rfl⟩
instance : TG Tryz.prog 107 true 2 := ⟨by kernel_rfl, by kernel_rfl⟩
instance : TB Tryz.prog 107 [.v (.int .i64 0), .v (.slice none 0 0)] [(0, 1), (1, 1)] := tb_of (fs := fs106) (zs := [.int .i64 0, .slice none 0 0]) (by kernel_rfl) (by kernel_rfl) (by kernel_rfl) rfl (by kernel_rfl)
instance : TF Tryz.prog 107 0 0 1 false := ⟨⟨fs106, _, by kernel_rfl, rfl, rfl, by kernel_rfl, by decide, by kernel_rfl⟩⟩
instance : TF Tryz.prog 107 1 1 1 false := ⟨⟨fs106, _, by kernel_rfl, rfl, rfl, by kernel_rfl, by decide, by kernel_rfl⟩⟩
instance : TI Tryz.prog 131 (.agg #[.int .i64 0, .int .i64 0, .int .i64 0, .int .i64 0]) 4 32 := ⟨by kernel_rfl⟩
instance : TG Tryz.prog 131 true 4 := ⟨by kernel_rfl, by kernel_rfl⟩
instance : SFL Tryz.prog 131 fl130 := ⟨fs130, by kernel_rfl, rfl, by kernel_rfl, by kernel_rfl, by kernel_rfl⟩
instance : TB Tryz.prog 131 [.v (.int .i64 0), .v (.int .i64 0), .v (.int .i64 0), .v (.int .i64 0)] [(0, 1), (1, 1), (2, 1), (3, 1)] := tb_of (fs := fs130) (zs := [.int .i64 0, .int .i64 0, .int .i64 0, .int .i64 0]) (by kernel_rfl) (by kernel_rfl) (by kernel_rfl) rfl (by kernel_rfl)
instance : TF Tryz.prog 131 0 0 1 false := ⟨⟨fs130, _, by kernel_rfl, rfl, rfl, by kernel_rfl, by decide, by kernel_rfl⟩⟩
instance : TF Tryz.prog 131 1 1 1 false := ⟨⟨fs130, _, by kernel_rfl, rfl, rfl, by kernel_rfl, by decide, by kernel_rfl⟩⟩
instance : TF Tryz.prog 131 2 2 1 false := ⟨⟨fs130, _, by kernel_rfl, rfl, rfl, by kernel_rfl, by decide, by kernel_rfl⟩⟩
instance : TF Tryz.prog 131 3 3 1 false := ⟨⟨fs130, _, by kernel_rfl, rfl, rfl, by kernel_rfl, by decide, by kernel_rfl⟩⟩
instance : TI Tryz.prog 154 (.agg #[.int .i64 0, .int .i64 0, .int .i64 0]) 3 24 := ⟨by kernel_rfl⟩
instance : TG Tryz.prog 154 true 3 := ⟨by kernel_rfl, by kernel_rfl⟩
instance : TB Tryz.prog 154 [.v (.int .i64 0), .v (.int .i64 0), .v (.int .i64 0)] [(0, 1), (1, 1), (2, 1)] := tb_of (fs := fs153) (zs := [.int .i64 0, .int .i64 0, .int .i64 0]) (by kernel_rfl) (by kernel_rfl) (by kernel_rfl) rfl (by kernel_rfl)
instance : TF Tryz.prog 154 0 0 1 false := ⟨⟨fs153, _, by kernel_rfl, rfl, rfl, by kernel_rfl, by decide, by kernel_rfl⟩⟩
instance : TF Tryz.prog 154 1 1 1 false := ⟨⟨fs153, _, by kernel_rfl, rfl, rfl, by kernel_rfl, by decide, by kernel_rfl⟩⟩
instance : TF Tryz.prog 154 2 2 1 false := ⟨⟨fs153, _, by kernel_rfl, rfl, rfl, by kernel_rfl, by decide, by kernel_rfl⟩⟩
instance : TI Tryz.prog 157 (.agg #[.int .i64 0, .int .i64 0, .int .i64 0, .int .i64 0, .int .i64 0, .int .i64 0, .int .i64 0, .int .i64 0, .int .i64 0, .int .i64 0]) 10 80 := ⟨by kernel_rfl⟩
instance : TG Tryz.prog 157 true 10 := ⟨by kernel_rfl, by kernel_rfl⟩
instance : SFL Tryz.prog 157 fl98 := ⟨fs98, by kernel_rfl, rfl, by kernel_rfl, by kernel_rfl, by kernel_rfl⟩
instance : TB Tryz.prog 157 [.v (.int .i64 0), .v (.int .i64 0), .v (.int .i64 0), .v (.int .i64 0), .v (.int .i64 0), .v (.int .i64 0), .v (.int .i64 0), .v (.int .i64 0), .v (.int .i64 0), .v (.int .i64 0)] [(0, 1), (1, 1), (2, 1), (3, 1), (4, 1), (5, 1), (6, 1), (7, 1), (8, 1), (9, 1)] := tb_of (fs := fs98) (zs := [.int .i64 0, .int .i64 0, .int .i64 0, .int .i64 0, .int .i64 0, .int .i64 0, .int .i64 0, .int .i64 0, .int .i64 0, .int .i64 0]) (by kernel_rfl) (by kernel_rfl) (by kernel_rfl) rfl (by kernel_rfl)
instance : TF Tryz.prog 157 0 0 1 false := ⟨⟨fs98, _, by kernel_rfl, rfl, rfl, by kernel_rfl, by decide, by kernel_rfl⟩⟩
instance : TF Tryz.prog 157 1 1 1 false := ⟨⟨fs98, _, by kernel_rfl, rfl, rfl, by kernel_rfl, by decide, by kernel_rfl⟩⟩
instance : TF Tryz.prog 157 2 2 1 false := ⟨⟨fs98, _, by kernel_rfl, rfl, rfl, by kernel_rfl, by decide, by kernel_rfl⟩⟩
instance : TF Tryz.prog 157 3 3 1 false := ⟨⟨fs98, _, by kernel_rfl, rfl, rfl, by kernel_rfl, by decide, by kernel_rfl⟩⟩
instance : TF Tryz.prog 157 4 4 1 false := ⟨⟨fs98, _, by kernel_rfl, rfl, rfl, by kernel_rfl, by decide, by kernel_rfl⟩⟩
instance : TF Tryz.prog 157 5 5 1 false := ⟨⟨fs98, _, by kernel_rfl, rfl, rfl, by kernel_rfl, by decide, by kernel_rfl⟩⟩
instance : TF Tryz.prog 157 6 6 1 false := ⟨⟨fs98, _, by kernel_rfl, rfl, rfl, by kernel_rfl, by decide, by kernel_rfl⟩⟩
instance : TF Tryz.prog 157 7 7 1 false := ⟨⟨fs98, _, by kernel_rfl, rfl, rfl, by kernel_rfl, by decide, by kernel_rfl⟩⟩
instance : TF Tryz.prog 157 8 8 1 false := ⟨⟨fs98, _, by kernel_rfl, rfl, rfl, by kernel_rfl, by decide, by kernel_rfl⟩⟩
instance : TF Tryz.prog 157 9 9 1 false := ⟨⟨fs98, _, by kernel_rfl, rfl, rfl, by kernel_rfl, by decide, by kernel_rfl⟩⟩
instance : TI Tryz.prog 166 (.agg #[.int .i64 0, .int .i64 0, .int .i64 0, .int .i64 0, .int .i64 0, .int .i64 0]) 6 48 := ⟨by kernel_rfl⟩
instance : TG Tryz.prog 166 true 6 := ⟨by kernel_rfl, by kernel_rfl⟩
instance : TB Tryz.prog 166 [.v (.int .i64 0), .v (.int .i64 0), .v (.int .i64 0), .v (.int .i64 0), .v (.int .i64 0), .v (.int .i64 0)] [(0, 1), (1, 1), (2, 1), (3, 1), (4, 1), (5, 1)] := tb_of (fs := fs165) (zs := [.int .i64 0, .int .i64 0, .int .i64 0, .int .i64 0, .int .i64 0, .int .i64 0]) (by kernel_rfl) (by kernel_rfl) (by kernel_rfl) rfl (by kernel_rfl)
instance : TF Tryz.prog 166 0 0 1 false := ⟨⟨fs165, _, by kernel_rfl, rfl, rfl, by kernel_rfl, by decide, by kernel_rfl⟩⟩
instance : TF Tryz.prog 166 1 1 1 false := ⟨⟨fs165, _, by kernel_rfl, rfl, rfl, by kernel_rfl, by decide, by kernel_rfl⟩⟩
instance : TF Tryz.prog 166 2 2 1 false := ⟨⟨fs165, _, by kernel_rfl, rfl, rfl, by kernel_rfl, by decide, by kernel_rfl⟩⟩
instance : TF Tryz.prog 166 3 3 1 false := ⟨⟨fs165, _, by kernel_rfl, rfl, rfl, by kernel_rfl, by decide, by kernel_rfl⟩⟩
instance : TF Tryz.prog 166 4 4 1 false := ⟨⟨fs165, _, by kernel_rfl, rfl, rfl, by kernel_rfl, by decide, by kernel_rfl⟩⟩
instance : TF Tryz.prog 166 5 5 1 false := ⟨⟨fs165, _, by kernel_rfl, rfl, rfl, by kernel_rfl, by decide, by kernel_rfl⟩⟩
instance : TI Tryz.prog 176 (.agg #[.int .i64 0, .int .i64 0, .int .i64 0, .int .i64 0, .int .i64 0, .int .i64 0]) 6 48 := ⟨by kernel_rfl⟩
instance : TG Tryz.prog 176 true 6 := ⟨by kernel_rfl, by kernel_rfl⟩
instance : TB Tryz.prog 176 [.v (.int .i64 0), .v (.int .i64 0), .v (.int .i64 0), .v (.int .i64 0), .v (.int .i64 0), .v (.int .i64 0)] [(0, 1), (1, 1), (2, 1), (3, 1), (4, 1), (5, 1)] := tb_of (fs := fs165) (zs := [.int .i64 0, .int .i64 0, .int .i64 0, .int .i64 0, .int .i64 0, .int .i64 0]) (by kernel_rfl) (by kernel_rfl) (by kernel_rfl) rfl (by kernel_rfl)
instance : TF Tryz.prog 176 0 0 1 false := ⟨⟨fs165, _, by kernel_rfl, rfl, rfl, by kernel_rfl, by decide, by kernel_rfl⟩⟩
instance : TF Tryz.prog 176 1 1 1 false := ⟨⟨fs165, _, by kernel_rfl, rfl, rfl, by kernel_rfl, by decide, by kernel_rfl⟩⟩
instance : TF Tryz.prog 176 2 2 1 false := ⟨⟨fs165, _, by kernel_rfl, rfl, rfl, by kernel_rfl, by decide, by kernel_rfl⟩⟩
instance : TF Tryz.prog 176 3 3 1 false := ⟨⟨fs165, _, by kernel_rfl, rfl, rfl, by kernel_rfl, by decide, by kernel_rfl⟩⟩
instance : TF Tryz.prog 176 4 4 1 false := ⟨⟨fs165, _, by kernel_rfl, rfl, rfl, by kernel_rfl, by decide, by kernel_rfl⟩⟩
instance : TF Tryz.prog 176 5 5 1 false := ⟨⟨fs165, _, by kernel_rfl, rfl, rfl, by kernel_rfl, by decide, by kernel_rfl⟩⟩
instance : TU Tryz.prog 181 (.int .u64) := ⟨by kernel_rfl⟩
instance : TG Tryz.prog 181 false 1 := ⟨by kernel_rfl, by kernel_rfl⟩
instance : TU Tryz.prog 185 (.map 9 3) := ⟨by kernel_rfl⟩
instance : TU Tryz.prog 201 (.slice 204) := ⟨by kernel_rfl⟩
instance : TI Tryz.prog 204 (.agg #[.int .i64 0, .int .i64 0, .int .i64 0, .int .i64 0, .int .i64 0, .int .i64 0, .int .i64 0, .int .i64 0, .int .i64 0, .int .i64 0, .string { data := #[] }, .slice none 0 0]) 12 120 := ⟨by kernel_rfl⟩
instance : TG Tryz.prog 204 true 12 := ⟨by kernel_rfl, by kernel_rfl⟩
instance : TB Tryz.prog 204 [.v (.int .i64 0), .v (.int .i64 0), .v (.int .i64 0), .v (.int .i64 0), .v (.int .i64 0), .v (.int .i64 0), .v (.int .i64 0), .v (.int .i64 0), .v (.int .i64 0), .v (.int .i64 0), .v (.string { data := #[] }), .v (.slice none 0 0)] [(0, 10), (10, 1), (11, 1)] := tb_of (fs := fs203) (zs := [.int .i64 0, .int .i64 0, .int .i64 0, .int .i64 0, .int .i64 0, .int .i64 0, .int .i64 0, .int .i64 0, .int .i64 0, .int .i64 0, .string { data := #[] }, .slice none 0 0]) (by kernel_rfl) (by kernel_rfl) (by kernel_rfl) rfl (by kernel_rfl)
instance : TF Tryz.prog 204 0 0 10 true := ⟨⟨fs203, _, by kernel_rfl, rfl, rfl, by kernel_rfl, by decide, by kernel_rfl⟩⟩
instance : TF Tryz.prog 204 1 10 1 false := ⟨⟨fs203, _, by kernel_rfl, rfl, rfl, by kernel_rfl, by decide, by kernel_rfl⟩⟩
instance : TF Tryz.prog 204 2 11 1 false := ⟨⟨fs203, _, by kernel_rfl, rfl, rfl, by kernel_rfl, by decide, by kernel_rfl⟩⟩
instance : TU Tryz.prog 211 (.slice 213) := ⟨by kernel_rfl⟩
instance : TI Tryz.prog 213 (.pointer none) 1 8 := ⟨by kernel_rfl⟩
instance : TG Tryz.prog 213 false 1 := ⟨by kernel_rfl, by kernel_rfl⟩
instance : TU Tryz.prog 237 (.slice 9) := ⟨by kernel_rfl⟩
instance : TI Tryz.prog 250 (.agg #[.int .u64 0, .int .i64 0]) 2 16 := ⟨by kernel_rfl⟩
instance : TG Tryz.prog 250 true 2 := ⟨by kernel_rfl, by kernel_rfl⟩
instance : TB Tryz.prog 250 [.v (.int .u64 0), .v (.int .i64 0)] [(0, 1), (1, 1)] := tb_of (fs := fs250) (zs := [.int .u64 0, .int .i64 0]) (by kernel_rfl) (by kernel_rfl) (by kernel_rfl) rfl (by kernel_rfl)
instance : TF Tryz.prog 250 0 0 1 false := ⟨⟨fs250, _, by kernel_rfl, rfl, rfl, by kernel_rfl, by decide, by kernel_rfl⟩⟩
instance : TF Tryz.prog 250 1 1 1 false := ⟨⟨fs250, _, by kernel_rfl, rfl, rfl, by kernel_rfl, by decide, by kernel_rfl⟩⟩
instance : TU Tryz.prog 251 (.slice 250) := ⟨by kernel_rfl⟩
end Go.Proofs.YtdniaamhbfadnaaGreat.AL
namespace Go.Proofs.YtdniaamhbfadnaaGreat.AL
open Go Go.RowKit Go.Proofs.YtdniaamhbfadnaaGreat.Base
set_option linter.unusedVariables false
set_option maxRecDepth 4000
@[reducible] def F150 (v n i : Int) (n0 : Nat) : List AV := [.v (.int .u64 v), .any, .any, .any, .v (.slice none 0 0), .own (n0 + 0) 0 0 n.toNat, .any, .any, .any, .any, .any, .any, .any, .any, .any, .any, .any, .any, .any, .any, .any, .any, .any, .any, .v (.int .i64 n.toNat), .v (.int .i64 i), .any, .any, .any, .any, .any, .any, .any, .any, .any, .any, .any, .any]
theorem dig_snoc : ∀ (v : Int) (i : Nat), dig v (i + 1) = dig v i ++ [v / 256 ^ i % 256] := by
  intro v i
  induction i generalizing v with
  | zero => simp [dig]
  | succ i ih =>
    rw [dig, ih (v / 256), dig, List.cons_append, Int.ediv_ediv_of_nonneg (by decide), Int.pow_succ, Int.mul_comm]
theorem le_Put (v n : Int) (hv : 0 ≤ v ∧ v ≤ 18446744073709551615) (hn : -9223372036854775808 ≤ n ∧ n ≤ 9223372036854775807) : A0 Tryz.prog 150 [.v (.int .u64 v), .v (.int .i64 n)] (fun r => r = .rd 1 (bys (if Wide n then dig v n.toNat else []))) := by
  refine A0.body 38 Tryz.func150 rfl rfl Tryz.ntmps150 fun base n0 => ?_
  repeat (first | refine AO.c ?_ | refine AO.m ?_ | refine AO.n ?_ | refine AW.seq' ?_ | refine AW.region ?_ | refine AW.block' ?_ | refine AO.nil (SQ.normal ?_))
  refine AW.iteB (GL.ev _) (fun h => ?_) (fun h => ?_)
  · refine AW.seq' (AW.region ?_)
    refine AO.c (AO.nil (SQ.normal (AW.ret (SQ.ret (Fin.ret (Gh.nilB 4) (by exact NoId.bys _) ?_)))))
    have : ¬ Wide n := by unfold Wide; simp at h; omega
    simp [packA, this]
  · have hw : Wide n := by unfold Wide; simp at h; omega
    refine AW.skip (SQ.normal ?_)
    have hn' : 1 ≤ n ∧ n ≤ 8 := by unfold Wide at hw; omega
    refine AW.seq' (AW.region ?_)
    refine AO.c ?_
    refine AO.w ⟨by omega, by omega, by omega⟩ ?_
    repeat (first | refine AO.c ?_ | refine AO.m ?_ | refine AO.n ?_ | refine AW.seq' ?_ | refine AW.region ?_ | refine AW.block' ?_ | refine AO.nil (SQ.normal ?_))
    refine AW.wk (F150 v n 0 n0) ?_
    refine AW.loopG (fun m s' => ∃ i : Nat, m + i = n.toNat ∧ s' = ⟨F150 v n i n0, Hn n0 [some (.row 5 1 0 (bys (dig v i ++ List.replicate (n.toNat - i) 0)))]⟩) n.toNat ⟨0, rfl, by simp [dig]⟩ ?_
    rintro m s' ⟨i, hm, rfl⟩
    repeat (first | refine AO.c ?_ | refine AO.m ?_ | refine AO.n ?_ | refine AW.seq' ?_ | refine AW.region ?_ | refine AW.block' ?_ | refine AO.nil (SQ.normal ?_))
    refine AW.iteB (GL.ev _) (fun h => ?_) (fun h => ?_)
    · have hi : i < n.toNat := by simp at h; omega
      refine AW.skip (SQ.normal ?_)
      repeat (first | refine AO.c ?_ | refine AO.m ?_ | refine AO.n ?_ | refine AW.seq' ?_ | refine AW.region ?_ | refine AW.block' ?_ | refine AO.nil (SQ.normal ?_))
      refine AO.o (by omega) ?_
      refine AO.o (by omega) ?_
      refine AO.v ?_
      refine AO.o (by omega) ?_
      refine AO.st (by simp [dig_length]; omega) (AO.nil (BQ.normal (SQ.normal ?_)))
      repeat (first | refine AO.c ?_ | refine AO.m ?_ | refine AO.n ?_ | refine AW.seq' ?_ | refine AW.region ?_ | refine AW.block' ?_ | refine AO.nil (SQ.normal ?_))
      refine AO.o (by omega) ?_
      refine AO.c (AO.nil ?_)
      refine AW.back (F150 v n (i + 1) n0) (m - 1) (by omega) ⟨i + 1, by omega, ?_⟩
      have e1 : dig v (i + 1) = dig v i ++ [v / 256 ^ i % 256] := dig_snoc v i
      have e2 : (dig v i ++ List.replicate (n.toNat - i) 0).set i (v / 256 ^ i % 256) = dig v (i + 1) ++ List.replicate (n.toNat - (i + 1)) 0 := by
        rw [e1, show n.toNat - i = (n.toNat - (i + 1)) + 1 by omega, List.replicate_succ]
        simp [dig_length]
      have e3 : IntKind.u8.wrap (v / 2 ^ (8 * (i : Int)).toNat) = v / 256 ^ i % 256 := by
        rw [IntKind.wrap_u8, show (8 * (i : Int)).toNat = 8 * i by omega, Int.pow_mul]; rfl
      simp only [Int.toNat_natCast, Nat.zero_add, e3, e2]
      rfl
    · have hi : i = n.toNat := by simp at h; omega
      subst hi
      refine AW.exit (SQ.exit (AW.out (LQ.exit (BQ.exit (SQ.normal ?_)))))
      refine AW.seq' (AW.region ?_)
      refine AO.c (AO.c (AO.nil (SQ.normal (AW.ret (Fin.ret (Gh.freezeB 4 (by simp [dig_length]) (by simp [dig_length]; omega)) (by exact NoId.bys _) ?_)))))
      simp [packA, hw]
/-- Has b these bytes? -/
def HasB (b : List Int) (at_ n : Int) : Prop := Wide n ∧ 0 ≤ at_ ∧ at_ + n ≤ b.length
instance (b : List Int) (at_ n : Int) : Decidable (HasB b at_ n) := by unfold HasB; infer_instance
theorem wide_b {n : Int} : ((decide (n = 1) || decide (n = 2) || decide (n = 4) || decide (n = 8)) = true) ↔ Wide n := by unfold Wide; simp [or_assoc]
theorem le_has (b : List Int) (at_ n : Int) (hb : b.length ≤ 9223372036854775807) (ha : -9223372036854775808 ≤ at_ ∧ at_ ≤ 9223372036854775807) (hn : -9223372036854775808 ≤ n ∧ n ≤ 9223372036854775807) :
    A0 Tryz.prog 151 [.rd 1 (bys b), .v (.int .i64 at_), .v (.int .i64 n)] (fun r => r = .v (.bool (decide (HasB b at_ n)))) := by
  refine A0.body 33 Tryz.func151 rfl rfl Tryz.ntmps151 fun base n0 => ?_
  repeat (first | refine AO.c ?_ | refine AO.m ?_ | refine AO.n ?_ | refine AW.seq' ?_ | refine AW.region ?_ | refine AW.block' ?_ | refine AO.nil (SQ.normal ?_))
  refine AO.mo (fun h => ?_) ?_
  · have hw : Wide n := by
      simp only [Bool.and_eq_true] at h
      exact wide_b.1 h.1
    unfold Wide at hw
    (try rw [bys_length])
    omega
  repeat (first | refine AO.c ?_ | refine AO.m ?_ | refine AO.n ?_ | refine AW.seq' ?_ | refine AW.region ?_ | refine AW.block' ?_ | refine AO.nil (SQ.normal ?_))
  refine AW.ret (Fin.ret Gh.refl (by exact NoId.v _) ?_)
  show AV.v (.bool _) = AV.v (.bool _)
  congr 2
  rw [Bool.eq_iff_iff, decide_eq_true_iff]
  simp only [Bool.and_eq_true, wide_b, decide_eq_true_eq, bys_length]
  unfold HasB
  constructor
  · rintro ⟨⟨h1, h2⟩, h3⟩; exact ⟨h1, h2, by omega⟩
  · rintro ⟨h1, h2, h3⟩; exact ⟨⟨h1, h2⟩, by omega⟩
@[reducible] def F109 (b : List Int) (at_ n acc i : Int) : List AV := [.rd 1 (bys b), .v (.int .i64 at_), .v (.int .i64 n), .any, .any, .any, .v (.int .u64 0), .v (.bool false), .v (.int .u64 acc), .any, .any, .any, .any, .any, .any, .v (.int .i64 n), .v (.int .i64 i), .any, .any, .any, .any, .any, .any, .any, .any, .any, .any, .any, .any, .any, .any, .any, .any]
theorem num_snoc : ∀ (l : List Int) (x : Int), num (l ++ [x]) = num l + 256 ^ l.length * x := by
  intro l x
  induction l with
  | nil => simp [num]
  | cons a l ih =>
    rw [List.cons_append, num, ih, num, List.length_cons, Int.pow_succ, Int.mul_comm (256 ^ l.length) 256, Int.mul_assoc]
    omega
theorem bytes_getD {b : List Int} (h : Bytes b) (k : Nat) : 0 ≤ b.getD k 0 ∧ b.getD k 0 < 256 := by
  by_cases hk : k < b.length
  · have := h b[k] (List.getElem_mem hk)
    simpa [hk] using this
  · simp [hk]
theorem take_snoc {l : List Int} {i : Nat} (h : i < l.length) : l.take (i + 1) = l.take i ++ [l.getD i 0] := by
  rw [List.take_add_one]
  simp [h]
theorem le_Get (b : List Int) (at_ n : Int) (hB : Bytes b) (hb : b.length ≤ 9223372036854775807) (ha : -9223372036854775808 ≤ at_ ∧ at_ ≤ 9223372036854775807) (hn : -9223372036854775808 ≤ n ∧ n ≤ 9223372036854775807) :
    A0 Tryz.prog 109 [.rd 1 (bys b), .v (.int .i64 at_), .v (.int .i64 n)] (fun r => r = .tup [.v (.int .u64 (if HasB b at_ n then num ((b.drop at_.toNat).take n.toNat) else 0)), .v (.bool (decide (HasB b at_ n)))]) := by
  refine A0.body 33 Tryz.func109 rfl rfl Tryz.ntmps109 fun base n0 => ?_
  repeat (first | refine AO.c ?_ | refine AO.m ?_ | refine AO.n ?_ | refine AW.seq' ?_ | refine AW.region ?_ | refine AW.block' ?_ | refine AO.nil (SQ.normal ?_))
  refine AO.call1 Tryz.func151 rfl rfl (le_has b at_ n hb ha hn) ?_
  repeat (first | refine AO.c ?_ | refine AO.m ?_ | refine AO.n ?_ | refine AW.seq' ?_ | refine AW.region ?_ | refine AW.block' ?_ | refine AO.nil (SQ.normal ?_))
  refine AW.iteB (GL.ev _) (fun h => ?_) (fun h => ?_)
  · have hw : ¬ HasB b at_ n := by simpa using h
    refine AW.seq' (AW.region (AO.c (AO.c (AO.nil (SQ.normal (AW.ret (SQ.ret (Fin.ret Gh.refl ?_ ?_))))))))
    · exact NoId.tup (.cons (.v _) (.cons (.v _) .nil))
    · show AV.tup _ = AV.tup _
      simp [hw]
  · have hw : HasB b at_ n := by simpa using h
    have hw1 : 1 ≤ n ∧ n ≤ 8 := by have := hw.1; unfold Wide at this; omega
    have hw2 := hw.2
    refine AW.skip (SQ.normal ?_)
    repeat (first | refine AO.c ?_ | refine AO.m ?_ | refine AO.n ?_ | refine AW.seq' ?_ | refine AW.region ?_ | refine AW.block' ?_ | refine AO.nil (SQ.normal ?_))
    refine AW.wk (F109 b at_ n 0 0) ?_
    refine AW.loopG (fun m s' => ∃ i : Nat, m + i = n.toNat ∧ s' = ⟨F109 b at_ n (num ((b.drop at_.toNat).take i)) i, Hn n0 []⟩) n.toNat ⟨0, rfl, by simp [num]⟩ ?_
    rintro m s' ⟨i, hm, rfl⟩
    repeat (first | refine AO.c ?_ | refine AO.m ?_ | refine AO.n ?_ | refine AW.seq' ?_ | refine AW.region ?_ | refine AW.block' ?_ | refine AO.nil (SQ.normal ?_))
    refine AW.iteB (GL.ev _) (fun h => ?_) (fun h => ?_)
    · have hi : i < n.toNat := by simp at h; omega
      have hg := bytes_getD hB (at_ + i).toNat
      refine AW.skip (SQ.normal ?_)
      repeat (first | refine AO.c ?_ | refine AO.m ?_ | refine AO.n ?_ | refine AO.o (by omega) ?_ | refine AW.seq' ?_ | refine AW.region ?_ | refine AW.block' ?_ | refine AO.nil (SQ.normal ?_))
      refine AO.eq 8 (av' := .v (.int .u64 (num ((b.drop at_.toNat).take (i + 1))))) ?_ (AO.nil (AW.back (F109 b at_ n (num ((b.drop at_.toNat).take (i + 1))) (i + 1)) (m - 1) (by omega) ⟨i + 1, by omega, rfl⟩))
      have hl : ((b.drop at_.toNat).take i).length = i := by rw [List.length_take, List.length_drop]; omega
      have hb' := (hB.drop at_.toNat).take i
      have h1 := num_nonneg hb'
      have h2 := num_lt hb'
      rw [hl] at h2
      rw [or_u64A i (by omega) _ _ h1 h2 hg.1 hg.2]
      have e : (b.drop at_.toNat).take (i + 1) = (b.drop at_.toNat).take i ++ [b.getD (at_ + i).toNat 0] := by
        rw [take_snoc (by rw [List.length_drop]; omega), show (at_ + (i : Int)).toNat = at_.toNat + i by omega]
        simp [List.getElem?_drop]
      rw [e, num_snoc, hl]
    · have hi : i = n.toNat := by simp at h; omega
      subst hi
      refine AW.exit (SQ.exit (AW.out (LQ.exit (BQ.exit (SQ.normal ?_)))))
      repeat (first | refine AO.c ?_ | refine AO.m ?_ | refine AO.n ?_ | refine AO.o (by omega) ?_ | refine AW.seq' ?_ | refine AW.region ?_ | refine AW.block' ?_ | refine AO.nil (SQ.normal ?_))
      refine AW.ret (Fin.ret Gh.refl ?_ ?_)
      · exact NoId.tup (.cons (.v _) (.cons (.v _) .nil))
      · show AV.tup _ = AV.tup _
        simp [hw]
theorem Gh.freezeE {base : Cx} {l l' : List AV} {n k ep m : Nat} {L L' : List (Option AB)} {e : TypeId} (t : Tmp) {li li' : List Int} [g : GL l t (.own (n + k) ep 0 m)] [gb : GB L k (.row e 1 ep (bys li))] (he : li = li') [sb : SB L k none L'] [sl : SL l t (.rd 1 (bys li')) l'] (hl : li'.length = m) (hm : li'.length ≤ 9223372036854775807) :
    Gh base ⟨l, Hn n L⟩ ⟨l', Hn n L'⟩ := by subst he; exact Gh.freezeB t hl hm
theorem ref_wide (n : Int) : A0 Tryz.prog 174 [.v (.int .i64 n)] (fun r => r = .v (.bool (decide (Wide n)))) := by
  refine A0.body 17 Tryz.func174 rfl rfl Tryz.ntmps174 fun base n0 => ?_
  repeat (first | refine AO.c ?_ | refine AO.m ?_ | refine AO.n ?_ | refine AW.seq' ?_ | refine AW.region ?_ | refine AW.block' ?_ | refine AO.nil (SQ.normal ?_))
  refine AW.ret (Fin.ret Gh.refl (by exact NoId.v _) ?_)
  show AV.v (.bool _) = AV.v (.bool _)
  congr 2
  rw [Bool.eq_iff_iff, decide_eq_true_iff, ← wide_b]
@[reducible] def F91 (b : List Int) (acc i : Int) : List AV := [.rd 1 (bys b), .any, .v (.int .u64 0), .v (.int .u64 acc), .v (.int .i64 i), .any, .any, .any, .any, .any, .any, .any, .any, .any, .any, .any, .any, .any, .any, .any, .any]
theorem num_cons_drop {l : List Int} {i : Nat} (h : i < l.length) : num (l.drop i) = l.getD i 0 + 256 * num (l.drop (i + 1)) := by
  rw [List.drop_eq_getElem_cons h, num]
  simp [h]
theorem ref_Num (b : List Int) (hB : Bytes b) (hb : b.length ≤ 8) : A0 Tryz.prog 91 [.rd 1 (bys b)] (fun r => r = .v (.int .u64 (num b))) := by
  refine A0.body 21 Tryz.func91 rfl rfl Tryz.ntmps91 fun base n0 => ?_
  have hbl : ((bys b).length : Int) = b.length := by rw [bys_length]
  repeat (first | refine AO.c ?_ | refine AO.m ?_ | refine AO.n ?_ | refine AO.o (by omega) ?_ | refine AW.seq' ?_ | refine AW.region ?_ | refine AW.block' ?_ | refine AO.nil (SQ.normal ?_))
  (try rw [hbl])
  refine AW.wk (F91 b 0 (b.length - 1)) ?_
  refine AW.loopG (fun m s' => m ≤ b.length ∧ s' = ⟨F91 b (num (b.drop m)) (m - 1), Hn n0 []⟩) b.length ⟨Nat.le_refl _, by simp [num]⟩ ?_
  rintro m s' ⟨hm, rfl⟩
  repeat (first | refine AO.c ?_ | refine AO.m ?_ | refine AO.n ?_ | refine AW.seq' ?_ | refine AW.region ?_ | refine AW.block' ?_ | refine AO.nil (SQ.normal ?_))
  refine AW.iteB (GL.ev _) (fun h => ?_) (fun h => ?_)
  · have hm0 : 1 ≤ m := by simp at h; omega
    obtain ⟨k, rfl⟩ : ∃ k, m = k + 1 := ⟨m - 1, by omega⟩
    have h1 := num_nonneg (hB.drop (k + 1))
    have h2 := num_lt (hB.drop (k + 1))
    have h3 : (256 : Int) ^ (b.drop (k + 1)).length ≤ 256 ^ 7 := pow_le_pow (by rw [List.length_drop]; omega)
    have hg := bytes_getD hB k
    have hk : (((k + 1 : Nat) : Int) - 1).toNat = k := by omega
    refine AW.skip (SQ.normal ?_)
    refine AW.seq' (AW.block' (AW.region (AO.c (AO.o ⟨by omega, by omega⟩ (AO.c (AO.c (AO.o (by omega) (AO.c ?_))))))))
    rw [hk]
    refine AO.o (by omega) (AO.o ⟨by omega, by omega⟩ (AO.c (AO.nil (BQ.normal (SQ.normal ?_)))))
    refine AW.region (AO.c (AO.o (by omega) (AO.c ?_)))
    refine AO.eq 3 (av' := .v (.int .u64 (num (b.drop k)))) (by rw [num_cons_drop (show k < b.length by omega)]; congr 2; omega) ?_
    refine AO.eq 4 (av' := .v (.int .i64 (k - 1))) (by congr 2; omega) ?_
    exact AO.nil (AW.back (F91 b (num (b.drop k)) (k - 1)) k (by omega) ⟨by omega, rfl⟩)
  · have hm0 : m = 0 := by simp at h; omega
    subst hm0
    refine AW.exit (SQ.exit (AW.out (LQ.exit (BQ.exit (SQ.normal ?_)))))
    repeat (first | refine AO.c ?_ | refine AO.m ?_ | refine AO.n ?_ | refine AO.o (by omega) ?_ | refine AW.seq' ?_ | refine AW.region ?_ | refine AW.block' ?_ | refine AO.nil (SQ.normal ?_))
    refine AW.ret (Fin.ret Gh.refl (by exact NoId.v _) ?_)
    rfl
@[reducible] def F167 (v n : Int) (ok : Bool) (x5 x7 : AV) : List AV := [.v (.int .u64 v), .v (.int .i64 n), .any, .any, .v (.slice none 0 0), x5, .v (.bool ok), x7, .any, .any, .any, .any, .any, .any, .any, .any, .any, .any, .any, .any, .any, .any, .any, .any, .any, .any, .any]
theorem ref_Put (v n : Int) (hv : 0 ≤ v ∧ v ≤ 18446744073709551615) (hn : -9223372036854775808 ≤ n ∧ n ≤ 9223372036854775807) : A0 Tryz.prog 167 [.v (.int .u64 v), .v (.int .i64 n)] (fun r => r = .rd 1 (bys (if Wide n then dig v n.toNat else []))) := by
  refine A0.body 27 Tryz.func167 rfl rfl Tryz.ntmps167 fun base n0 => ?_
  refine AW.seq' <| AW.region <| AO.c <| AO.nil <| SQ.normal ?_
  refine AW.seq' <| AW.region <| AO.c <| AO.nil <| SQ.normal ?_
  refine AW.seq' <| AW.region <| AO.c <| AO.call1 Tryz.func174 rfl rfl (ref_wide n) <| AO.c <| AO.nil <| SQ.normal ?_
  refine AW.seq' <| AW.seq' <| AW.region <| AO.c <| AO.nil <| SQ.normal ?_
  refine AW.ghost (Gh.adoptB 5 5) ?_
  refine AW.block' ?_
  refine AW.wk (F167 v n (decide (Wide n)) (.own (n0 + 0) 0 0 0) (.v (.int .i64 0))) ?_
  refine AW.loopG (fun m s' => ∃ (i ep : Nat), m + i = n.toNat ∧ (Wide n ∨ i = 0) ∧ s' = ⟨F167 (v / 256 ^ i) n (decide (Wide n)) (.own (n0 + 0) ep 0 i) (.v (.int .i64 i)), Hn n0 [some (.row 5 1 ep (bys (dig v i)))]⟩) n.toNat ⟨0, 0, rfl, .inr rfl, by simp [dig]⟩ ?_
  rintro m s' ⟨i, ep, hm, hwi, rfl⟩
  repeat (first | refine AO.c ?_ | refine AO.m ?_ | refine AO.n ?_ | refine AW.seq' ?_ | refine AW.region ?_ | refine AO.nil (SQ.normal ?_))
  refine AW.iteB (GL.ev _) (fun h => ?_) (fun h => ?_)
  · have h' : Wide n ∧ (i : Int) < n := by simpa using h
    have hn1 : 1 ≤ n ∧ n ≤ 8 := by have := h'.1; unfold Wide at this; omega
    have hq0 : 0 ≤ v / 256 ^ i := Int.ediv_nonneg hv.1 (Int.le_of_lt (pow_pos i))
    have hq1 : v / 256 ^ i ≤ v := Int.ediv_le_self _ hv.1
    refine AW.skip <| SQ.normal ?_
    refine AW.seq' <| AW.block' <| AW.seq' <| AW.region <| AO.c <| AO.c <| AO.o ⟨by omega, by omega⟩ <| AO.o ⟨by omega, by omega⟩ <| AO.r rfl <| AO.w ⟨by simp [dig_length], by simp; omega⟩ <| AO.c <| AO.nil <| SQ.normal ?_
    refine AW.region <| AO.c <| AO.o ⟨by omega, by omega, by omega, by omega⟩ <| AO.c <| AO.nil <| BQ.normal <| SQ.normal ?_
    refine AW.region <| AO.c <| AO.o (by omega) <| AO.c ?_
    have e1 : v / 256 ^ i / 256 = v / 256 ^ (i + 1) := by rw [Int.ediv_ediv_of_nonneg (Int.le_of_lt (pow_pos i)), Int.pow_succ]
    refine AO.eq 0 (av' := .v (.int .u64 (v / 256 ^ (i + 1)))) (by rw [e1]) ?_
    refine AO.nil <| AW.back (F167 (v / 256 ^ (i + 1)) n (decide (Wide n)) (.own (n0 + 0) (ep + 1) 0 (i + 1)) (.v (.int .i64 (i + 1)))) (m - 1) (by omega) ⟨i + 1, ep + 1, by omega, .inl h'.1, by rw [dig_snoc]; rfl⟩
  · have h' : ¬ (Wide n ∧ (i : Int) < n) := by simpa using h
    have hi : dig v i = if Wide n then dig v n.toNat else [] := by
      by_cases hw : Wide n
      · have hn1 : 1 ≤ n ∧ n ≤ 8 := by have := hw; unfold Wide at this; omega
        have : ¬ (i : Int) < n := fun h => h' ⟨hw, h⟩
        rw [if_pos hw, show i = n.toNat by omega]
      · rw [if_neg hw]
        rcases hwi with h | rfl
        · exact absurd h hw
        · rfl
    refine AW.exit <| SQ.exit <| AW.out <| LQ.exit <| BQ.exit <| SQ.normal ?_
    refine AW.seq' <| AW.region <| AO.c <| AO.c <| AO.nil <| SQ.normal <| AW.ret <| Fin.ret (Gh.freezeE 4 hi ?_ ?_) (by exact NoId.bys _) rfl
    · rw [← hi, dig_length]
    · rw [← hi, dig_length]; omega
end Go.Proofs.YtdniaamhbfadnaaGreat.AL
namespace Go.Proofs.YtdniaamhbfadnaaGreat.AL
open Go Go.RowKit Go.Proofs.YtdniaamhbfadnaaGreat.Base
set_option linter.unusedVariables false
set_option linter.unusedSimpArgs false
set_option maxRecDepth 4000
set_option synthInstance.maxSize 1000
set_option synthInstance.maxHeartbeats 200000
structure RelD where
 off : Int
 typ : Int
 sym : Int
 add : Int
 deriving Inhabited, DecidableEq
structure SecD where
 name : ByteArray
 typ : Int
 flags : Int
 align : Int
 ent : Int
 link : Int
 size : Int
 data : List Int
 rels : List RelD
 deriving Inhabited
structure SymD where
 name : ByteArray
 bind : Int
 typ : Int
 sec : Int
 val : Int
 size : Int
 deriving Inhabited
structure GrpD where
 sym : Int
 mem : List Int
 deriving Inhabited
structure ObjD where
 secs : List SecD
 syms : List SymD
 groups : List GrpD
 hasSig : Bool
 sig : List Int
 deriving Inhabited
@[reducible] def relA (r : RelD) : List AV := [.v (.int .i64 r.off), .v (.int .i64 r.typ), .v (.int .i64 r.sym), .v (.int .i64 r.add)]
@[reducible] def secA (s : SecD) : List AV := [.v (.string s.name), .v (.int .i64 s.typ), .v (.int .i64 s.flags), .v (.int .i64 s.align), .v (.int .i64 s.ent), .v (.int .i64 s.link), .v (.int .i64 s.size), .rd 1 (bys s.data), .rd 4 (s.rels.map relA)]
@[reducible] def symA (s : SymD) : List AV := [.v (.string s.name), .v (.int .i64 s.bind), .v (.int .i64 s.typ), .v (.int .i64 s.sec), .v (.int .i64 s.val), .v (.int .i64 s.size)]
@[reducible] def grpA (g : GrpD) : List AV := [.v (.int .i64 g.sym), .rd 1 (g.mem.map iA)]
@[reducible] def objA (o : ObjD) : List AV := [.rd 9 (o.secs.map secA), .rd 6 (o.syms.map symA), .rd 2 (o.groups.map grpA), .v (.bool o.hasSig), .rd 1 (o.sig.map iA)]
def I64 (x : Int) : Prop := -9223372036854775808 ≤ x ∧ x ≤ 9223372036854775807
instance (x : Int) : Decidable (I64 x) := by unfold I64; infer_instance
theorem drop_getD {α : Type} [Inhabited α] {l : List α} {i : Nat} (h : i < l.length) : l.drop i = l.getD i default :: l.drop (i + 1) := by
 rw [List.drop_eq_getElem_cons h]; simp [h]
theorem wi64' {x : Int} (h : -9223372036854775808 ≤ x ∧ x ≤ 9223372036854775807) : IntKind.i64.wrap x = x := by rw [wi64_eq]; exact w64 h.1 h.2
theorem drop_getD0 {l : List Int} {i : Nat} (h : i < l.length) : l.drop i = l.getD i 0 :: l.drop (i + 1) := by
 rw [List.drop_eq_getElem_cons h]; simp [h]
def RelD.ok (r : RelD) : Prop := I64 r.off ∧ I64 r.typ ∧ I64 r.sym ∧ I64 r.add
def SecD.ok (s : SecD) : Prop := s.name.size ≤ maxLen ∧ I64 s.typ ∧ I64 s.flags ∧ I64 s.align ∧ I64 s.ent ∧ I64 s.link ∧ I64 s.size ∧ s.data.length ≤ maxLen ∧ Bytes s.data ∧ s.rels.length ≤ maxLen ∧ ∀ r ∈ s.rels, r.ok
def SymD.ok (s : SymD) : Prop := s.name.size ≤ maxLen ∧ I64 s.bind ∧ I64 s.typ ∧ I64 s.sec ∧ I64 s.val ∧ I64 s.size
def GrpD.ok (g : GrpD) : Prop := I64 g.sym ∧ g.mem.length ≤ maxLen ∧ ∀ x ∈ g.mem, I64 x
def ObjD.ok (o : ObjD) : Prop := o.secs.length ≤ maxLen ∧ (∀ s ∈ o.secs, s.ok) ∧ o.syms.length ≤ maxLen ∧ (∀ s ∈ o.syms, s.ok) ∧ o.groups.length ≤ maxLen ∧ (∀ g ∈ o.groups, g.ok) ∧ o.sig.length ≤ maxLen ∧ ∀ x ∈ o.sig, I64 x
theorem maxLen_eq : maxLen = 9223372036854775807 := by unfold maxLen; rfl
end Go.Proofs.YtdniaamhbfadnaaGreat.AL
namespace Go.Proofs.YtdniaamhbfadnaaGreat.AL
open Go Go.RowKit Go.Proofs.YtdniaamhbfadnaaGreat.Base
set_option linter.unusedVariables false
set_option linter.unusedSimpArgs false
set_option maxRecDepth 4000
set_option synthInstance.maxSize 1000
set_option synthInstance.maxHeartbeats 200000
def widthF (t : Int) : Int := if t = 1 then 8 else if t = 2 ∨ t = 4 ∨ t = 10 ∨ t = 11 then 4 else 0
def fitsB (n : Int) : Bool := decide (0 ≤ n) && decide (n ≤ 2147483647)
def mayRelB (r : RelD) : Bool := fitsB r.off && fitsB r.sym && decide (0 < widthF r.typ)
theorem ref_fits (n : Int) (hn : I64 n) : A0 Tryz.prog 160 [.v (.int .i64 (n))] (fun ret => ret = .v (.bool (fitsB n))) := by
 refine A0.body 9 Tryz.func160 rfl rfl Tryz.ntmps160 fun base n0 => ?_
 refine AW.seq' ?_
 refine AW.region ?_
 refine AO.c ?_
 refine AO.nil ?_
 refine SQ.normal ?_
 refine AW.seq' ?_
 refine AW.region ?_
 iterate 3 refine AO.c ?_
 iterate 2 refine AO.gx ?_
 iterate 2 refine AO.c ?_
 refine AO.nil ?_
 refine SQ.normal ?_
 refine AW.ret ?_
 refine Fin.ret (Gh.refl) noid1 ?_
 rfl
theorem ref_Width (t : Int) : A0 Tryz.prog 162 [.v (.int .i64 (t))] (fun ret => ret = .v (.int .i64 (widthF t))) := by
 refine A0.body 19 Tryz.func162 rfl rfl Tryz.ntmps162 fun base n0 => ?_
 refine AW.seq' ?_
 refine AW.region ?_
 refine AO.c ?_
 refine AO.nil ?_
 refine SQ.normal ?_
 refine AW.seq' ?_
 refine AW.seq' ?_
 refine AW.region ?_
 iterate 2 refine AO.c ?_
 refine AO.nil ?_
 refine SQ.normal ?_
 refine AW.iteB (GL.ev _) (fun h0 => ?_) (fun h0 => ?_)
 ·
  try simp only [Bool.and_eq_true, Bool.or_eq_true, Bool.not_eq_true', Bool.and_eq_false_iff, Bool.or_eq_false_iff, decide_eq_true_eq, decide_eq_false_iff_not, bys_length] at h0
  refine AW.seq' ?_
  refine AW.region ?_
  refine AO.c ?_
  refine AO.nil ?_
  refine SQ.normal ?_
  refine AW.ret ?_
  refine SQ.ret ?_
  refine Fin.ret (Gh.refl) noid1 ?_
  unfold widthF; rw [if_pos h0]; rfl
 ·
  try simp only [Bool.and_eq_true, Bool.or_eq_true, Bool.not_eq_true', Bool.and_eq_false_iff, Bool.or_eq_false_iff, decide_eq_true_eq, decide_eq_false_iff_not, bys_length] at h0
  refine AW.skip ?_
  refine SQ.normal ?_
  refine AW.seq' ?_
  refine AW.seq' ?_
  refine AW.region ?_
  iterate 3 refine AO.c ?_
  iterate 2 refine AO.gx ?_
  iterate 2 refine AO.c ?_
  iterate 2 refine AO.gx ?_
  iterate 2 refine AO.c ?_
  iterate 2 refine AO.gx ?_
  refine AO.c ?_
  refine AO.nil ?_
  refine SQ.normal ?_
  refine AW.iteB (GL.ev _) (fun h1 => ?_) (fun h1 => ?_)
  ·
   try simp only [Bool.and_eq_true, Bool.or_eq_true, Bool.not_eq_true', Bool.and_eq_false_iff, Bool.or_eq_false_iff, decide_eq_true_eq, decide_eq_false_iff_not, bys_length] at h1
   refine AW.seq' ?_
   refine AW.region ?_
   refine AO.c ?_
   refine AO.nil ?_
   refine SQ.normal ?_
   refine AW.ret ?_
   refine SQ.ret ?_
   refine Fin.ret (Gh.refl) noid1 ?_
   unfold widthF; rw [if_neg h0, if_pos (by omega)]; rfl
  ·
   try simp only [Bool.and_eq_true, Bool.or_eq_true, Bool.not_eq_true', Bool.and_eq_false_iff, Bool.or_eq_false_iff, decide_eq_true_eq, decide_eq_false_iff_not, bys_length] at h1
   refine AW.skip ?_
   refine SQ.normal ?_
   refine AW.seq' ?_
   refine AW.region ?_
   refine AO.c ?_
   refine AO.nil ?_
   refine SQ.normal ?_
   refine AW.ret ?_
   refine Fin.ret (Gh.refl) noid1 ?_
   unfold widthF; rw [if_neg h0, if_neg (by omega)]; rfl
theorem ref_MayRel (r : RelD) (hr : r.ok) : A0 Tryz.prog 132 [.agg (relA r)] (fun ret => ret = .v (.bool (mayRelB r))) := by
 have h1 := hr.1
 have h2 := hr.2.2.1
 refine A0.body 21 Tryz.func132 rfl rfl Tryz.ntmps132 fun base n0 => ?_
 refine AW.seq' ?_
 refine AW.region ?_
 refine AO.ww ?_
 refine AO.c ?_
 refine AO.nil ?_
 refine SQ.normal ?_
 refine AW.seq' ?_
 refine AW.region ?_
 iterate 2 refine AO.c ?_
 refine AO.call1 Tryz.func160 rfl rfl (ref_fits _ (by assumption)) ?_
 refine AO.c ?_
 refine AO.nil ?_
 refine SQ.normal ?_
 refine AW.seq' ?_
 refine AW.region ?_
 iterate 2 refine AO.c ?_
 refine AO.call1 Tryz.func160 rfl rfl (ref_fits _ (by assumption)) ?_
 refine AO.c ?_
 refine AO.nil ?_
 refine SQ.normal ?_
 refine AW.seq' ?_
 refine AW.region ?_
 iterate 2 refine AO.c ?_
 refine AO.gx ?_
 iterate 2 refine AO.c ?_
 iterate 2 refine AO.gx ?_
 refine AO.gxcall1 Tryz.func162 rfl rfl (fun hgd => ref_Width _) ?_
 refine AO.gx ?_
 iterate 2 refine AO.c ?_
 refine AO.nil ?_
 refine SQ.normal ?_
 refine AW.ret ?_
 refine Fin.ret (Gh.refl) noid1 ?_
 rfl
end Go.Proofs.YtdniaamhbfadnaaGreat.AL
namespace Go.Proofs.YtdniaamhbfadnaaGreat.AL
open Go Go.RowKit Go.Proofs.YtdniaamhbfadnaaGreat.Base
set_option linter.unusedVariables false
set_option linter.unusedSimpArgs false
set_option maxRecDepth 4000
set_option synthInstance.maxSize 1000
set_option synthInstance.maxHeartbeats 200000
def numAt (b : List Int) (at_ n : Int) : Int := num ((b.drop at_.toNat).take n.toNat)
theorem numAt_range {b : List Int} (hB : Bytes b) (at_ n : Int) : 0 ≤ numAt b at_ n ∧ numAt b at_ n < 256 ^ n.toNat := by
 have h := (hB.drop at_.toNat).take n.toNat
 refine ⟨num_nonneg h, Int.lt_of_lt_of_le (num_lt h) (pow_le_pow (by rw [List.length_take]; omega))⟩
theorem le_GetT (b : List Int) (at_ n : Int) (hB : Bytes b) (hb : b.length ≤ 9223372036854775807) (h : HasB b at_ n) : A0 Tryz.prog 109 [.rd 1 (bys b), .v (.int .i64 at_), .v (.int .i64 n)] (fun ret => ret = .tup [.v (.int .u64 (numAt b at_ n)), .v (.bool true)]) := by
 have h2 := h.2
 have h3 : 1 ≤ n ∧ n ≤ 8 := by have := h.1; unfold Wide at this; omega
 have := le_Get b at_ n hB hb (by omega) (by omega)
 rw [if_pos h, decide_eq_true h] at this
 exact this
theorem u64_range (a : Int) : 0 ≤ IntKind.u64.wrap a ∧ IntKind.u64.wrap a ≤ 18446744073709551615 := by rw [wu64_mod]; omega
def numsF : List Int → List Int
 | a :: w :: r => (if Wide w then dig (IntKind.u64.wrap a) w.toNat else []) ++ numsF r
 | _ => []
theorem put8_len (v w : Int) : (if Wide w then dig v w.toNat else []).length ≤ 8 := by
 split
 · rename_i h; rw [dig_length]; unfold Wide at h; omega
 · simp
theorem numsF_step {l : List Int} {i : Nat} (h : i + 1 < l.length) : numsF (l.drop i) = (if Wide (l.getD (i + 1) 0) then dig (IntKind.u64.wrap (l.getD i 0)) (l.getD (i + 1) 0).toNat else []) ++ numsF (l.drop (i + 2)) := by
 rw [drop_getD0 (show i < l.length by omega), drop_getD0 h, numsF]
theorem numsF_len : ∀ (k : Nat) (l : List Int), l.length ≤ k → (numsF l).length ≤ 8 * l.length := by
 intro k
 induction k with
 | zero => intro l h; have : l = [] := List.length_eq_zero_iff.1 (by omega); subst this; simp [numsF]
 | succ k ih =>
  intro l h
  match l with
  | [] => simp [numsF]
  | [a] => simp [numsF]
  | a :: w :: r =>
   have := ih r (by simp at h; omega)
   have h2 := put8_len (IntKind.u64.wrap a) w
   rw [numsF, List.length_append]
   simp only [List.length_cons]
   omega
theorem le_PutR (v n : Int) (hv : 0 ≤ v ∧ v ≤ 18446744073709551615) (hn : -9223372036854775808 ≤ n ∧ n ≤ 9223372036854775807) : A1 Tryz.prog 150 [.v (.int .u64 (v)), .v (.int .i64 (n))] 5 1 (bys (if Wide n then dig v n.toNat else [])) := by
 refine A1.body 38 (NIr.h) Tryz.func150 rfl rfl Tryz.ntmps150 fun base n0 => ?_
 refine AW.seq' ?_
 refine AW.region ?_
 refine AO.c ?_
 refine AO.nil ?_
 refine SQ.normal ?_
 refine AW.seq' ?_
 refine AW.seq' ?_
 refine AW.region ?_
 iterate 3 refine AO.c ?_
 iterate 2 refine AO.gx ?_
 iterate 2 refine AO.c ?_
 iterate 2 refine AO.gx ?_
 iterate 2 refine AO.c ?_
 iterate 2 refine AO.gx ?_
 refine AO.c ?_
 refine AO.nil ?_
 refine SQ.normal ?_
 refine AW.iteB (GL.ev _) (fun h0 => ?_) (fun h0 => ?_)
 ·
  try simp only [Bool.and_eq_true, Bool.or_eq_true, Bool.not_eq_true', Bool.and_eq_false_iff, Bool.or_eq_false_iff, decide_eq_true_eq, decide_eq_false_iff_not, bys_length] at h0
  refine AW.seq' ?_
  refine AW.region ?_
  refine AO.c ?_
  refine AO.nil ?_
  refine SQ.normal ?_
  refine AW.ret ?_
  refine SQ.ret ?_
  refine FinO.ret 4 (Gh.adoptB 4 5) rfl ?_ ?_ (.inr rfl)
  · have : ¬ Wide n := by unfold Wide; omega
    rw [if_neg this]
  · rw [if_neg (by unfold Wide; omega)]; rfl
 ·
  simp only [Bool.and_eq_false_iff, decide_eq_false_iff_not] at h0
  have hw : Wide n := by unfold Wide; omega
  have hn' : 1 ≤ n ∧ n ≤ 8 := by unfold Wide at hw; omega
  refine AW.skip ?_
  refine SQ.normal ?_
  refine AW.seq' ?_
  refine AW.region ?_
  refine AO.c ?_
  refine AO.ww ?_
  refine AO.c ?_
  refine AO.nil ?_
  refine SQ.normal ?_
  refine AW.seq' ?_
  refine AW.seq' ?_
  refine AW.region ?_
  iterate 3 refine AO.c ?_
  refine AO.nil ?_
  refine SQ.normal ?_
  refine AW.block' ?_
  refine AW.loopU [.k, .f, .f, .f, .f, .k, .F, .F, .f, .f, .k, .k, .F, .f, .f, .f, .f] (fun (i : Nat) => [(25, .v (.int .i64 (i)))]) (fun i => Hn n0 [some (.row 5 1 0 (bys (dig v i ++ List.replicate (n.toNat - i) 0)))]) (fun m i => i ≤ n.toNat ∧ m = n.toNat - i) (n.toNat) (0) ⟨by omega, by omega⟩ (by first | rfl | (simp; done)) (by simp [dig]) ?_
  rintro m0 i ⟨hx1, hx2⟩
  refine AW.seq' ?_
  refine AW.region ?_
  refine AO.c ?_
  refine AO.nil ?_
  refine SQ.normal ?_
  refine AW.seq' ?_
  refine AW.iteB (GL.ev _) (fun h1 => ?_) (fun h1 => ?_)
  ·
   rw [decide_eq_true_eq] at h1
   refine AW.skip ?_
   refine SQ.normal ?_
   refine AW.seq' ?_
   refine AW.block' ?_
   refine AW.seq' ?_
   refine AW.region ?_
   iterate 2 refine AO.c ?_
   refine AO.nil ?_
   refine SQ.normal ?_
   refine AW.region ?_
   iterate 4 refine AO.c ?_
   refine AO.oo ?_
   refine AO.o (by omega) ?_
   refine AO.pw ?_
   refine AO.o (by omega) ?_
   refine AO.st (by simp [dig_length]; omega) ?_
   refine AO.nil ?_
   refine BQ.normal ?_
   refine SQ.normal ?_
   refine AW.region ?_
   refine AO.oo ?_
   refine AO.c ?_
   refine AO.nil ?_
   have e1 : dig v (i + 1) = dig v i ++ [v / 256 ^ i % 256] := dig_snoc v i
   have e3 : IntKind.u8.wrap (v / 2 ^ (8 * (i : Int)).toNat) = v / 256 ^ i % 256 := by
    rw [IntKind.wrap_u8, show (8 * (i : Int)).toNat = 8 * i by omega, Int.pow_mul]; rfl
   have e2 : (dig v i ++ List.replicate (n.toNat - i) 0).set i (IntKind.u8.wrap (v / 2 ^ (8 * (i : Int)).toNat)) = dig v (i + 1) ++ List.replicate (n.toNat - (i + 1)) 0 := by
    rw [e3, e1, show n.toNat - i = (n.toNat - (i + 1)) + 1 by omega, List.replicate_succ]
    simp [dig_length]
   exact AW.backU [.k, .f, .f, .f, .f, .k, .F, .F, .f, .f, .k, .k, .F, .f, .f, .f, .f] (m0 - 1) (i + 1) (by omega) (by first | omega | (simp; done) | (simp; omega)) (by first | rfl | (simp; done)) (by simp only [Nat.zero_add, Int.toNat_natCast, e2])
  ·
   rw [decide_eq_false_iff_not] at h1
   refine AW.exit ?_
   refine SQ.exit <| AW.out <| LU.exit <| BQ.exit ?_
   refine SQ.normal ?_
   refine AW.seq' ?_
   refine AW.region ?_
   iterate 2 refine AO.c ?_
   refine AO.nil ?_
   refine SQ.normal ?_
   refine AW.ret ?_
   refine FinO.ret 4 (Gh.refl) rfl ?_ ?_ (.inr rfl)
   · rw [if_pos hw]
     have : i = n.toNat := by omega
     subst this
     simp
   · rw [if_pos hw, bys_length, dig_length]
theorem ref_num (b : List Int) (at_ n : Int) (hB : Bytes b) (hb : b.length ≤ 9223372036854775807) (h : HasB b at_ n) : A0 Tryz.prog 129 [.rd 1 (bys b), .v (.int .i64 (at_)), .v (.int .i64 (n))] (fun ret => ret = .v (.int .i64 (if numAt b at_ n > 2147483647 then -1 else numAt b at_ n))) := by
 have h2 := h.2
 have h3 : 1 ≤ n ∧ n ≤ 8 := by have := h.1; unfold Wide at this; omega
 have hr := numAt_range hB at_ n
 have e : (b.take (at_ + n).toNat).drop at_.toNat = (b.drop at_.toNat).take n.toNat := by
  rw [List.drop_take]; congr 1; omega
 refine A0.body 19 Tryz.func129 rfl rfl Tryz.ntmps129 fun base n0 => ?_
 refine AW.seq' ?_
 refine AW.region ?_
 refine AO.c ?_
 refine AO.nil ?_
 refine SQ.normal ?_
 refine AW.seq' ?_
 refine AW.region ?_
 iterate 4 refine AO.c ?_
 refine AO.oo ?_
 refine AO.o (by first | omega | (simp; omega)) ?_
 refine AO.eq 13 (av' := .rd 1 (bys ((b.drop at_.toNat).take n.toNat))) (by simp only [Option.getD_some, e]) ?_
 refine AO.call1 Tryz.func91 rfl rfl (ref_Num _ ((hB.drop _).take _) (by rw [List.length_take]; omega)) ?_
 refine AO.c ?_
 refine AO.nil ?_
 refine SQ.normal ?_
 refine AW.seq' ?_
 refine AW.seq' ?_
 refine AW.region ?_
 iterate 2 refine AO.c ?_
 refine AO.nil ?_
 refine SQ.normal ?_
 refine AW.iteB (GL.ev _) (fun h0 => ?_) (fun h0 => ?_)
 ·
  rw [decide_eq_true_eq] at h0
  refine AW.seq' ?_
  refine AW.region ?_
  refine AO.c ?_
  refine AO.nil ?_
  refine SQ.normal ?_
  refine AW.ret ?_
  refine SQ.ret ?_
  refine Fin.ret (Gh.refl) noid1 ?_
  unfold numAt; rw [if_pos h0]; rfl
 ·
  rw [decide_eq_false_iff_not] at h0
  have hr2 : numAt b at_ n ≤ 2147483647 := by unfold numAt; omega
  unfold numAt at hr hr2
  refine AW.skip ?_
  refine SQ.normal ?_
  refine AW.seq' ?_
  refine AW.region ?_
  refine AO.c ?_
  refine AO.oo ?_
  refine AO.c ?_
  refine AO.nil ?_
  refine SQ.normal ?_
  refine AW.ret ?_
  refine Fin.ret (Gh.refl) noid1 ?_
  unfold numAt; rw [if_neg h0]; rfl
theorem ref_Nums (l : List Int) (hl : l.length ≤ 1000000) (h64 : ∀ x ∈ l, I64 x) : A0 Tryz.prog 161 [.rd 1 (l.map iA)] (fun ret => ret = .rd 1 (bys (numsF l))) := by
 have h64g : ∀ i, I64 (l.getD i 0) := fun i => by
  rcases Nat.lt_or_ge i l.length with h | h
  · have := h64 l[i] (List.getElem_mem h); simpa [h] using this
  · simp [h]; decide
 have hdef : ∀ i, l.getD i default = l.getD i 0 := fun i => rfl
 refine A0.body 26 Tryz.func161 rfl rfl Tryz.ntmps161 fun base n0 => ?_
 refine AW.seq' ?_
 refine AW.region ?_
 refine AO.c ?_
 refine AO.nil ?_
 refine SQ.normal ?_
 refine AW.seq' ?_
 refine AW.region ?_
 refine AO.c ?_
 refine AO.nil ?_
 refine SQ.normal ?_
 refine AW.seq' ?_
 refine AW.seq' ?_
 refine AW.region ?_
 refine AO.c ?_
 refine AO.nil ?_
 refine SQ.normal ?_
 refine AW.block' ?_
 refine AW.ghost (Gh.adoptB 3 5) ?_
 refine AW.loopU3 [.k, .f, .f, .k, .k, .F, .F, .f, .f, .f, .f, .f] (fun (i ep : Nat) (out : List Int) => [(3, .own (n0 + 0) ep 0 out.length), (4, .v (.int .i64 (i)))]) (fun i ep out => Hn n0 [some (.row 5 1 ep (bys out))]) (fun m i ep out => i ≤ l.length + 1 ∧ m = l.length + 1 - i ∧ out.length ≤ 8 * i ∧ numsF l = out ++ numsF (l.drop i)) (l.length + 1) (0) (0) ([]) ⟨by omega, by omega, by simp, rfl⟩ (by first | rfl | (simp; done)) (by first | rfl | (simp; done)) ?_
 rintro m0 i ep out ⟨hx1, hx2, hx3, hx4⟩
 refine AW.seq' ?_
 refine AW.seq' ?_
 refine AW.region ?_
 refine AO.c ?_
 refine AO.oo ?_
 iterate 3 refine AO.c ?_
 refine AO.nil ?_
 refine SQ.normal ?_
 refine AW.iteB (GL.ev _) (fun h0 => ?_) (fun h0 => ?_)
 ·
  rw [decide_eq_true_eq] at h0
  have hi : i + 1 < l.length := by omega
  have hst := numsF_step hi
  have hpl := put8_len (IntKind.u64.wrap (l.getD i 0)) (l.getD (i + 1) 0)
  refine AW.skip ?_
  refine SQ.normal ?_
  refine AW.seq' ?_
  refine AW.block' ?_
  refine AW.drawsZ [12] (.one 0 false (.one 1 false (.one 2 false (.one 3 false (.one 4 false (.one 5 false (.one 6 false (.one 7 false (.one 8 false (.one 9 false (.one 10 false (.one 11 true (.one 12 true (.one 13 false .nil)))))))))))))) (by kernel_rfl) rfl (by kernel_rfl) ?_
  iterate 3 refine AZ.c rfl ?_
  refine AZ.o rfl (by omega) ?_
  refine AZ.c rfl ?_
  refine AZ.pw rfl ?_
  iterate 2 refine AZ.c rfl ?_
  iterate 2 refine AZ.oo rfl ?_
  refine AZ.c rfl ?_
  refine AZ.call1 rfl Tryz.func167 rfl rfl (ref_Put _ _ (u64_range _) (h64g (i + 1))) ?_
  refine AZ.ww rfl rfl ?_ ⟨rfl, by have := put8_len (IntKind.u64.wrap (l.getD i default)) (l.getD (i + 1) 0); omega⟩
  refine AZ.c rfl ?_
  refine AZ.done ?_
  refine BQ.normal ?_
  refine SQ.normal ?_
  refine AW.region ?_
  refine AO.c ?_
  refine AO.oo ?_
  refine AO.c ?_
  refine AO.nil ?_
  exact AW.backU [.k, .f, .f, .k, .k, .F, .F, .f, .f, .f, .f, .f] (m0 - 2) (i + 2, ep + 1, out ++ (if Wide (l.getD (i + 1) 0) then dig (IntKind.u64.wrap (l.getD i 0)) (l.getD (i + 1) 0).toNat else [])) (by omega) (by (try dsimp only); exact ⟨by omega, by omega, by rw [List.length_append]; omega, by rw [hx4, hst, List.append_assoc]⟩) (by (try dsimp only); rw [List.length_append] <;> rfl) (rfl)
 ·
  rw [decide_eq_false_iff_not] at h0
  refine AW.exit ?_
  refine SQ.exit <| AW.out <| LU.exit <| BQ.exit ?_
  refine SQ.normal ?_
  refine AW.seq' ?_
  refine AW.region ?_
  iterate 2 refine AO.c ?_
  refine AO.nil ?_
  refine SQ.normal ?_
  refine AW.ret ?_
  have hfin : out = numsF l := by
   rw [hx4]
   have : l.drop i = [] ∨ ∃ x, l.drop i = [x] := by
    rcases Nat.lt_or_ge i l.length with h | h
    · refine .inr ⟨l.getD i 0, ?_⟩
      rw [drop_getD0 h, List.drop_of_length_le (by omega)]
    · exact .inl (List.drop_of_length_le h)
   rcases this with h | ⟨x, h⟩ <;> rw [h] <;> simp [numsF]
  have hlen := numsF_len l.length l (Nat.le_refl _)
  refine Fin.ret (Gh.freezeE 2 hfin (by rw [← hfin]) ?_) noid1 ?_
  all_goals first
   | rfl
   | omega
   | (simp; done)
   | (simp; omega)
   | (rfl)
end Go.Proofs.YtdniaamhbfadnaaGreat.AL
namespace Go.Proofs.YtdniaamhbfadnaaGreat.AL
open Go Go.RowKit Go.Proofs.YtdniaamhbfadnaaGreat.Base
set_option linter.unusedVariables false
set_option linter.unusedSimpArgs false
set_option maxRecDepth 4000
set_option synthInstance.maxSize 1000
set_option synthInstance.maxHeartbeats 200000
structure EntD where
 name : Int
 bind : Int
 typ : Int
 idx : Int
 val : Int
 size : Int
 deriving Inhabited, DecidableEq
@[reducible] def entA (e : EntD) : List AV := [.v (.int .i64 e.name), .v (.int .i64 e.bind), .v (.int .i64 e.typ), .v (.int .i64 e.idx), .v (.int .i64 e.val), .v (.int .i64 e.size)]
def EntD.ok (e : EntD) : Prop := I64 e.name ∧ I64 e.bind ∧ I64 e.typ ∧ I64 e.idx ∧ I64 e.val ∧ I64 e.size
def withinB (n most : Int) : Bool := decide (n ≥ 0) && decide (n ≤ most)
def mayE (e : EntD) : Bool := (withinB e.name 2147483647 && withinB e.val 2147483647 && withinB e.size 2147483647) && withinB e.bind 2 && withinB e.typ 3 && withinB e.idx 65535
def mayR (e : EntD) : Bool := fitsB e.name && fitsB e.val && fitsB e.size && decide (e.bind ≥ 0) && decide (e.bind ≤ 2) && decide (e.typ ≥ 0) && decide (e.typ ≤ 3) && decide (e.idx ≥ 0) && decide (e.idx ≤ 65535)
def MayE (e : EntD) : Prop := (0 ≤ e.name ∧ e.name ≤ 2147483647) ∧ (0 ≤ e.bind ∧ e.bind ≤ 2) ∧ (0 ≤ e.typ ∧ e.typ ≤ 3) ∧ (0 ≤ e.idx ∧ e.idx ≤ 65535) ∧ (0 ≤ e.val ∧ e.val ≤ 2147483647) ∧ 0 ≤ e.size ∧ e.size ≤ 2147483647
instance (e : EntD) : Decidable (MayE e) := by unfold MayE; infer_instance
theorem mayE_eq (e : EntD) : mayE e = decide (MayE e) := by
 rw [Bool.eq_iff_iff, decide_eq_true_eq]
 unfold mayE MayE withinB
 simp only [Bool.and_eq_true, decide_eq_true_eq]
 omega
theorem mayR_eq (e : EntD) : mayR e = decide (MayE e) := by
 rw [Bool.eq_iff_iff, decide_eq_true_eq]
 unfold mayR MayE fitsB
 simp only [Bool.and_eq_true, decide_eq_true_eq]
 omega
def zeroEnt : EntD := ⟨0, 0, 0, 0, 0, 0⟩
def entOf (b : List Int) (a : Int) : EntD := ⟨numAt b a 4, b.getD (a + 4).toNat 0 / 16, b.getD (a + 4).toNat 0 % 16, numAt b (a + 6) 2, numAt b (a + 8) 8, numAt b (a + 16) 8⟩
def SymOk (b : List Int) (a : Int) : Prop := 0 ≤ a ∧ a + 24 ≤ b.length ∧ b.getD (a + 5).toNat 0 = 0 ∧ MayE (entOf b a)
instance (b : List Int) (a : Int) : Decidable (SymOk b a) := by unfold SymOk; infer_instance
def entB (e : EntD) : List Int := dig e.name 4 ++ [16 * e.bind + e.typ, 0] ++ dig e.idx 2 ++ dig e.val 8 ++ dig e.size 8
/-- The document's numbers: too large ones are -1. -/
def capN (n : Int) : Int := if n > 2147483647 then -1 else n
def numE (b : List Int) (a : Int) : EntD := ⟨capN (numAt b a 4), b.getD (a + 4).toNat 0 / 16, b.getD (a + 4).toNat 0 % 16, capN (numAt b (a + 6) 2), capN (numAt b (a + 8) 8), capN (numAt b (a + 16) 8)⟩
theorem capN_fit {n : Int} (h : 0 ≤ n) (m : Int) (hm : m ≤ 2147483647) : (0 ≤ capN n ∧ capN n ≤ m) ↔ (0 ≤ n ∧ n ≤ m) := by unfold capN; split <;> omega
theorem numE_may {b : List Int} {a : Int} (h1 : 0 ≤ numAt b a 4) (h2 : 0 ≤ numAt b (a + 6) 2) (h3 : 0 ≤ numAt b (a + 8) 8) (h4 : 0 ≤ numAt b (a + 16) 8) : MayE (numE b a) ↔ MayE (entOf b a) := by
 unfold MayE numE entOf
 simp only
 rw [capN_fit h1 _ (by omega), capN_fit h2 _ (by omega), capN_fit h3 _ (by omega), capN_fit h4 _ (by omega)]
theorem numE_same {b : List Int} {a : Int} (h : MayE (entOf b a)) : numE b a = entOf b a := by
 unfold MayE entOf at h
 simp only at h
 unfold numE entOf capN
 rw [if_neg (by omega), if_neg (by omega), if_neg (by omega), if_neg (by omega)]
theorem capN_64 (n : Int) (h : 0 ≤ n) : I64 (capN n) := by unfold capN I64; split <;> omega
theorem numE_ok {b : List Int} (hB : Bytes b) (a : Int) : (numE b a).ok := by
 have rb := bytes_getD hB (a + 4).toNat
 refine ⟨capN_64 _ (numAt_range hB _ _).1, ?_, ?_, capN_64 _ (numAt_range hB _ _).1, capN_64 _ (numAt_range hB _ _).1, capN_64 _ (numAt_range hB _ _).1⟩
 · show I64 (_ / 16); unfold I64; omega
 · show I64 (_ % 16); unfold I64; omega
theorem wu64n {x : Int} (h0 : 0 ≤ x) (h1 : x ≤ 2147483647) : IntKind.u64.wrap x = x := wu64 h0 (by omega)
theorem entB_len (e : EntD) : (entB e).length = 24 := by unfold entB; simp [dig_length]
theorem hasB_in {b : List Int} {a : Int} (h0 : 0 ≤ a) (h1 : a + 24 ≤ b.length) (o n : Int) (ho : 0 ≤ o) (hon : o + n ≤ 24) (hw : Wide n) : HasB b (a + o) n := ⟨hw, by omega, by omega⟩
theorem sym_within (n most : Int) : A0 Tryz.prog 153 [.v (.int .i64 (n)), .v (.int .i64 (most))] (fun ret => ret = .v (.bool (withinB n most))) := by
 refine A0.body 12 Tryz.func153 rfl rfl Tryz.ntmps153 fun base n0 => ?_
 refine AW.seq' ?_
 refine AW.region ?_
 refine AO.c ?_
 refine AO.nil ?_
 refine SQ.normal ?_
 refine AW.seq' ?_
 refine AW.region ?_
 iterate 3 refine AO.c ?_
 iterate 3 refine AO.gx ?_
 iterate 2 refine AO.c ?_
 refine AO.nil ?_
 refine SQ.normal ?_
 refine AW.ret ?_
 refine Fin.ret (Gh.refl) noid1 ?_
 rfl
theorem sym_may (e : EntD) : A0 Tryz.prog 116 [.agg (entA e)] (fun ret => ret = .v (.bool (mayE e))) := by
 refine A0.body 33 Tryz.func116 rfl rfl Tryz.ntmps116 fun base n0 => ?_
 refine AW.seq' ?_
 refine AW.region ?_
 refine AO.ww ?_
 refine AO.c ?_
 refine AO.nil ?_
 refine SQ.normal ?_
 refine AW.seq' ?_
 refine AW.region ?_
 iterate 2 refine AO.c ?_
 refine AO.call1 Tryz.func153 rfl rfl (sym_within _ _) ?_
 refine AO.c ?_
 iterate 2 refine AO.gx ?_
 refine AO.gxcall1 Tryz.func153 rfl rfl (fun hgd => sym_within _ _) ?_
 iterate 2 refine AO.c ?_
 iterate 2 refine AO.gx ?_
 refine AO.gxcall1 Tryz.func153 rfl rfl (fun hgd => sym_within _ _) ?_
 iterate 2 refine AO.c ?_
 refine AO.nil ?_
 refine SQ.normal ?_
 refine AW.seq' ?_
 refine AW.region ?_
 iterate 2 refine AO.c ?_
 iterate 2 refine AO.gx ?_
 refine AO.gxcall1 Tryz.func153 rfl rfl (fun hgd => sym_within _ _) ?_
 iterate 2 refine AO.c ?_
 iterate 2 refine AO.gx ?_
 refine AO.gxcall1 Tryz.func153 rfl rfl (fun hgd => sym_within _ _) ?_
 iterate 2 refine AO.c ?_
 iterate 2 refine AO.gx ?_
 refine AO.gxcall1 Tryz.func153 rfl rfl (fun hgd => sym_within _ _) ?_
 iterate 2 refine AO.c ?_
 refine AO.nil ?_
 refine SQ.normal ?_
 refine AW.ret ?_
 refine Fin.ret (Gh.refl) noid1 ?_
 rfl
theorem ref_MayEntry (e : EntD) (h : e.ok) : A0 Tryz.prog 131 [.agg (entA e)] (fun ret => ret = .v (.bool (mayR e))) := by
 obtain ⟨q1, q2, q3, q4, q5, q6⟩ := h
 refine A0.body 52 Tryz.func131 rfl rfl Tryz.ntmps131 fun base n0 => ?_
 refine AW.seq' ?_
 refine AW.region ?_
 refine AO.ww ?_
 refine AO.c ?_
 refine AO.nil ?_
 refine SQ.normal ?_
 refine AW.seq' ?_
 refine AW.region ?_
 iterate 2 refine AO.c ?_
 refine AO.call1 Tryz.func160 rfl rfl (ref_fits _ (by assumption)) ?_
 refine AO.c ?_
 refine AO.nil ?_
 refine SQ.normal ?_
 refine AW.seq' ?_
 refine AW.region ?_
 iterate 2 refine AO.c ?_
 refine AO.call1 Tryz.func160 rfl rfl (ref_fits _ (by assumption)) ?_
 refine AO.c ?_
 refine AO.nil ?_
 refine SQ.normal ?_
 refine AW.seq' ?_
 refine AW.region ?_
 iterate 2 refine AO.c ?_
 refine AO.call1 Tryz.func160 rfl rfl (ref_fits _ (by assumption)) ?_
 refine AO.c ?_
 refine AO.nil ?_
 refine SQ.normal ?_
 refine AW.seq' ?_
 refine AW.region ?_
 iterate 2 refine AO.c ?_
 refine AO.gx ?_
 iterate 2 refine AO.c ?_
 refine AO.gx ?_
 iterate 2 refine AO.c ?_
 iterate 3 refine AO.gx ?_
 iterate 2 refine AO.c ?_
 iterate 3 refine AO.gx ?_
 iterate 2 refine AO.c ?_
 iterate 3 refine AO.gx ?_
 iterate 2 refine AO.c ?_
 iterate 3 refine AO.gx ?_
 iterate 2 refine AO.c ?_
 iterate 3 refine AO.gx ?_
 iterate 2 refine AO.c ?_
 iterate 3 refine AO.gx ?_
 iterate 2 refine AO.c ?_
 refine AO.nil ?_
 refine SQ.normal ?_
 refine AW.ret ?_
 refine Fin.ret (Gh.refl) noid1 ?_
 rfl
theorem sym_Get (b : List Int) (a : Int) (hB : Bytes b) (hb : b.length ≤ 1000000000000) (ha : I64 a) : A0 Tryz.prog 74 [.rd 1 (bys b), .v (.int .i64 (a))] (fun ret => ret = .tup [.agg (entA (if SymOk b a then entOf b a else zeroEnt)), .v (.bool (decide (SymOk b a)))]) := by
 have ha0 := ha
 unfold I64 at ha
 refine A0.body 95 Tryz.func74 rfl rfl Tryz.ntmps74 fun base n0 => ?_
 refine AW.seq' ?_
 refine AW.region ?_
 refine AO.ww ?_
 refine AO.c ?_
 refine AO.nil ?_
 refine SQ.normal ?_
 refine AW.seq' ?_
 refine AW.seq' ?_
 refine AW.region ?_
 iterate 3 refine AO.c ?_
 iterate 3 refine AO.gx ?_
 refine AO.gxoo ?_
 refine AO.gx ?_
 refine AO.c ?_
 refine AO.nil ?_
 refine SQ.normal ?_
 refine AW.iteB (GL.ev _) (fun h0 => ?_) (fun h0 => ?_)
 ·
  simp only [Bool.or_eq_true, decide_eq_true_eq] at h0
  have hno : ¬ SymOk b a := fun h => by unfold SymOk at h; omega
  refine AW.seq' ?_
  refine AW.region ?_
  refine AO.c ?_
  refine AO.sst ?_
  refine AO.c ?_
  refine AO.nil ?_
  refine SQ.normal ?_
  refine AW.ret ?_
  refine SQ.ret ?_
  refine Fin.ret (Gh.refl) noid2 ?_
  show AV.tup _ = AV.tup _
  first | (rw [if_neg hno, decide_eq_false hno]; rfl) | (rw [if_pos hyes, decide_eq_true hyes]; rfl)
 ·
  simp only [Bool.or_eq_false_iff, decide_eq_false_iff_not] at h0
  have ha1 : 0 ≤ a := by omega
  have ha2 : a + 24 ≤ b.length := by omega
  have k0 := hasB_in ha1 ha2 0 4 (by omega) (by omega) (by decide)
  rw [Int.add_zero] at k0
  have k6 := hasB_in ha1 ha2 6 2 (by omega) (by omega) (by decide)
  have k8 := hasB_in ha1 ha2 8 8 (by omega) (by omega) (by decide)
  have k16 := hasB_in ha1 ha2 16 8 (by omega) (by omega) (by decide)
  have r0 := numAt_range hB a 4
  have r6 := numAt_range hB (a + 6) 2
  have r8 := numAt_range hB (a + 8) 8
  have r16 := numAt_range hB (a + 16) 8
  have rb := bytes_getD hB (a + 4).toNat
  simp only [show (4 : Int).toNat = 4 from rfl, show (2 : Int).toNat = 2 from rfl, show (8 : Int).toNat = 8 from rfl] at r0 r6 r8 r16
  refine AW.skip ?_
  refine SQ.normal ?_
  refine AW.seq' ?_
  refine AW.region ?_
  iterate 2 refine AO.c ?_
  refine AO.call1 Tryz.func109 rfl rfl (le_GetT b a 4 hB (by omega) k0) ?_
  iterate 5 refine AO.c ?_
  refine AO.nil ?_
  refine SQ.normal ?_
  refine AW.seq' ?_
  refine AW.region ?_
  iterate 2 refine AO.c ?_
  refine AO.oo ?_
  refine AO.call1 Tryz.func109 rfl rfl (le_GetT b (a + 6) 2 hB (by omega) k6) ?_
  iterate 5 refine AO.c ?_
  refine AO.nil ?_
  refine SQ.normal ?_
  refine AW.seq' ?_
  refine AW.region ?_
  iterate 2 refine AO.c ?_
  refine AO.oo ?_
  refine AO.call1 Tryz.func109 rfl rfl (le_GetT b (a + 8) 8 hB (by omega) k8) ?_
  iterate 5 refine AO.c ?_
  refine AO.nil ?_
  refine SQ.normal ?_
  refine AW.seq' ?_
  refine AW.region ?_
  iterate 2 refine AO.c ?_
  refine AO.oo ?_
  refine AO.call1 Tryz.func109 rfl rfl (le_GetT b (a + 16) 8 hB (by omega) k16) ?_
  iterate 5 refine AO.c ?_
  refine AO.nil ?_
  refine SQ.normal ?_
  refine AW.seq' ?_
  refine AW.seq' ?_
  refine AW.region ?_
  iterate 2 refine AO.c ?_
  iterate 2 refine AO.oo ?_
  iterate 3 refine AO.c ?_
  iterate 2 refine AO.gx ?_
  iterate 2 refine AO.c ?_
  iterate 2 refine AO.gx ?_
  refine AO.c ?_
  refine AO.nil ?_
  refine SQ.normal ?_
  refine AW.iteB (GL.ev _) (fun h1 => ?_) (fun h1 => ?_)
  ·
   simp only [Bool.or_eq_true, decide_eq_true_eq] at h1
   have hno : ¬ SymOk b a := fun h => by
    obtain ⟨_, _, g1, _, _, _, _, g2, g3⟩ := h
    simp only [entOf] at g2 g3
    omega
   refine AW.seq' ?_
   refine AW.region ?_
   refine AO.c ?_
   refine AO.sst ?_
   refine AO.c ?_
   refine AO.nil ?_
   refine SQ.normal ?_
   refine AW.ret ?_
   refine SQ.ret ?_
   refine Fin.ret (Gh.refl) noid2 ?_
   show AV.tup _ = AV.tup _
   first | (rw [if_neg hno, decide_eq_false hno]; rfl) | (rw [if_pos hyes, decide_eq_true hyes]; rfl)
  ·
   simp only [Bool.or_eq_false_iff, decide_eq_false_iff_not] at h1
   have hz5 : b.getD (a + 5).toNat 0 = 0 := by omega
   refine AW.skip ?_
   refine SQ.normal ?_
   refine AW.seq' ?_
   refine AW.drawsZ [24] (.one 0 false (.one 1 false (.one 2 false (.one 3 false (.one 4 false (.one 5 false (.one 6 false (.one 7 false (.one 8 false (.one 9 false (.one 10 false (.one 11 false (.one 12 false (.one 13 false (.one 14 false (.one 15 false (.one 16 false (.one 17 false (.one 18 false (.one 19 false (.one 20 false (.one 21 false (.one 22 false (.one 23 true (.one 24 true .nil))))))))))))))))))))))))) (by kernel_rfl) rfl (by kernel_rfl) ?_
   refine AZ.c rfl ?_
   refine AZ.oo rfl ?_
   iterate 2 refine AZ.c rfl ?_
   iterate 2 refine AZ.oo rfl ?_
   refine AZ.c rfl ?_
   refine AZ.o rfl (by omega) ?_
   refine AZ.oo rfl ?_
   iterate 2 refine AZ.c rfl ?_
   iterate 2 refine AZ.oo rfl ?_
   refine AZ.c rfl ?_
   iterate 2 refine AZ.oo rfl ?_
   refine AZ.c rfl ?_
   refine AZ.oo rfl ?_
   refine AZ.c rfl ?_
   refine AZ.oo rfl ?_
   refine AZ.c rfl ?_
   refine AZ.oo rfl ?_
   refine AZ.c rfl ?_
   refine AZ.mkk rfl ?_
   refine AZ.sst rfl rfl ?_
   refine AZ.done ?_
   refine SQ.normal ?_
   refine AW.seq' ?_
   refine AW.seq' ?_
   refine AW.region ?_
   refine AO.c ?_
   refine AO.call1 Tryz.func116 rfl rfl (sym_may (entOf b a)) ?_
   refine AO.c ?_
   refine AO.nil ?_
   refine SQ.normal ?_
   refine AW.iteB (GL.ev _) (fun h2 => ?_) (fun h2 => ?_)
   ·
    rw [mayE_eq, Bool.not_eq_true', decide_eq_false_iff_not] at h2
    have hno : ¬ SymOk b a := fun h => h2 h.2.2.2
    refine AW.seq' ?_
    refine AW.region ?_
    refine AO.c ?_
    refine AO.sst ?_
    refine AO.c ?_
    refine AO.nil ?_
    refine SQ.normal ?_
    refine AW.ret ?_
    refine SQ.ret ?_
    refine Fin.ret (Gh.refl) noid2 ?_
    show AV.tup _ = AV.tup _
    first | (rw [if_neg hno, decide_eq_false hno]; rfl) | (rw [if_pos hyes, decide_eq_true hyes]; rfl)
   ·
    rw [mayE_eq, Bool.not_eq_false', decide_eq_true_eq] at h2
    have hyes : SymOk b a := ⟨ha1, ha2, hz5, h2⟩
    refine AW.skip ?_
    refine SQ.normal ?_
    refine AW.seq' ?_
    refine AW.region ?_
    refine AO.c ?_
    refine AO.sst ?_
    refine AO.c ?_
    refine AO.nil ?_
    refine SQ.normal ?_
    refine AW.ret ?_
    refine Fin.ret (Gh.refl) noid2 ?_
    show AV.tup _ = AV.tup _
    first | (rw [if_neg hno, decide_eq_false hno]; rfl) | (rw [if_pos hyes, decide_eq_true hyes]; rfl)
theorem ref_Symbol (b : List Int) (a : Int) (hB : Bytes b) (hb : b.length ≤ 1000000000000) (ha : I64 a) : A0 Tryz.prog 89 [.rd 1 (bys b), .v (.int .i64 (a))] (fun ret => ret = .tup [.agg (entA (if SymOk b a then entOf b a else zeroEnt)), .v (.bool (decide (SymOk b a)))]) := by
 have ha0 := ha
 unfold I64 at ha
 refine A0.body 68 Tryz.func89 rfl rfl Tryz.ntmps89 fun base n0 => ?_
 refine AW.seq' ?_
 refine AW.region ?_
 refine AO.ww ?_
 refine AO.c ?_
 refine AO.nil ?_
 refine SQ.normal ?_
 refine AW.seq' ?_
 refine AW.seq' ?_
 refine AW.region ?_
 iterate 3 refine AO.c ?_
 iterate 4 refine AO.gx ?_
 iterate 2 refine AO.c ?_
 iterate 3 refine AO.gx ?_
 refine AO.gxoo ?_
 refine AO.gx ?_
 refine AO.c ?_
 refine AO.nil ?_
 refine SQ.normal ?_
 refine AW.iteB (GL.ev _) (fun h0 => ?_) (fun h0 => ?_)
 ·
  simp only [Bool.or_eq_true, decide_eq_true_eq] at h0
  have hno : ¬ SymOk b a := fun h => by unfold SymOk at h; omega
  refine AW.seq' ?_
  refine AW.region ?_
  refine AO.c ?_
  refine AO.sst ?_
  refine AO.c ?_
  refine AO.nil ?_
  refine SQ.normal ?_
  refine AW.ret ?_
  refine SQ.ret ?_
  refine Fin.ret (Gh.refl) noid2 ?_
  show AV.tup _ = AV.tup _
  rw [if_neg hno, decide_eq_false hno]; rfl
 ·
  simp only [Bool.or_eq_false_iff, decide_eq_false_iff_not] at h0
  have ha1 : 0 ≤ a := by omega
  have ha2 : a + 24 ≤ b.length := by omega
  have k0 := hasB_in ha1 ha2 0 4 (by omega) (by omega) (by decide)
  rw [Int.add_zero] at k0
  have k6 := hasB_in ha1 ha2 6 2 (by omega) (by omega) (by decide)
  have k8 := hasB_in ha1 ha2 8 8 (by omega) (by omega) (by decide)
  have k16 := hasB_in ha1 ha2 16 8 (by omega) (by omega) (by decide)
  have r0 := numAt_range hB a 4
  have r6 := numAt_range hB (a + 6) 2
  have r8 := numAt_range hB (a + 8) 8
  have r16 := numAt_range hB (a + 16) 8
  have rb := bytes_getD hB (a + 4).toNat
  have hent : MayE (numE b a) ↔ MayE (entOf b a) := numE_may r0.1 r6.1 r8.1 r16.1
  have hnok := numE_ok hB a
  refine AW.skip ?_
  refine SQ.normal ?_
  refine AW.seq' ?_
  apply AW.mid
  case h =>
   refine AW.drawsZ [31] (.one 0 false (.one 1 false (.one 3 false (.one 4 false (.one 5 false (.one 6 false (.one 7 false (.one 8 false (.one 9 false (.one 10 false (.one 11 false (.one 12 false (.one 13 false (.one 14 false (.one 15 false (.one 16 false (.one 17 false (.one 18 false (.one 19 false (.one 21 false (.one 22 false (.one 23 false (.one 25 false (.one 26 false (.one 27 false (.two 2 30 (.two 20 30 (.two 24 30 (.two 28 30 (.one 29 false (.one 30 true (.one 31 true .nil))) (.one 28 true (.one 29 false (.one 31 true .nil)))) (.one 24 true (.one 28 true (.one 29 false (.one 31 true .nil))))) (.one 20 true (.one 24 true (.one 28 true (.one 29 false (.one 31 true .nil)))))) (.one 2 true (.one 20 true (.one 24 true (.one 28 true (.one 29 false (.one 31 true .nil)))))))))))))))))))))))))))))))) (by kernel_rfl) rfl (by kernel_rfl) ?_
   iterate 4 refine AZ.c rfl ?_
   iterate 2 refine AZ.oo rfl ?_
   refine AZ.c rfl ?_
   refine AZ.oo rfl ?_
   refine AZ.o rfl (by omega) ?_
   iterate 2 refine AZ.c rfl ?_
   iterate 2 refine AZ.oo rfl ?_
   refine AZ.c rfl ?_
   refine AZ.oo rfl ?_
   refine AZ.o rfl (by omega) ?_
   iterate 2 refine AZ.c rfl ?_
   refine AZ.oo rfl ?_
   iterate 2 refine AZ.c rfl ?_
   refine AZ.oo rfl ?_
   iterate 2 refine AZ.c rfl ?_
   refine AZ.oo rfl ?_
   refine AZ.two ?_ ?_
   · refine AZi.call1 rfl Tryz.func129 rfl rfl (ref_num b a 4 hB (by omega) k0) ?_
     refine AZ.two ?_ ?_
     · refine AZi.call1 rfl Tryz.func129 rfl rfl (ref_num b (a + 6) 2 hB (by omega) k6) ?_
       refine AZ.two ?_ ?_
       · refine AZi.call1 rfl Tryz.func129 rfl rfl (ref_num b (a + 8) 8 hB (by omega) k8) ?_
         refine AZ.two ?_ ?_
         · refine AZi.call1 rfl Tryz.func129 rfl rfl (ref_num b (a + 16) 8 hB (by omega) k16) ?_
           refine AZ.c rfl ?_
           refine AZ.mkk rfl ?_
           refine AZ.sst rfl rfl ?_
           exact AZ.done ⟨rfl, rfl⟩
         · refine AZi.mkk rfl ?_
           refine AZ.call1 rfl Tryz.func129 rfl rfl (ref_num b (a + 16) 8 hB (by omega) k16) ?_
           refine AZ.c rfl ?_
           refine AZ.sst rfl rfl ?_
           exact AZ.done ⟨rfl, rfl⟩
       · refine AZi.mkk rfl ?_
         refine AZ.call1 rfl Tryz.func129 rfl rfl (ref_num b (a + 8) 8 hB (by omega) k8) ?_
         refine AZ.call1 rfl Tryz.func129 rfl rfl (ref_num b (a + 16) 8 hB (by omega) k16) ?_
         refine AZ.c rfl ?_
         refine AZ.sst rfl rfl ?_
         exact AZ.done ⟨rfl, rfl⟩
     · refine AZi.mkk rfl ?_
       refine AZ.call1 rfl Tryz.func129 rfl rfl (ref_num b (a + 6) 2 hB (by omega) k6) ?_
       refine AZ.call1 rfl Tryz.func129 rfl rfl (ref_num b (a + 8) 8 hB (by omega) k8) ?_
       refine AZ.call1 rfl Tryz.func129 rfl rfl (ref_num b (a + 16) 8 hB (by omega) k16) ?_
       refine AZ.c rfl ?_
       refine AZ.sst rfl rfl ?_
       exact AZ.done ⟨rfl, rfl⟩
   · refine AZi.mkk rfl ?_
     refine AZ.call1 rfl Tryz.func129 rfl rfl (ref_num b a 4 hB (by omega) k0) ?_
     refine AZ.call1 rfl Tryz.func129 rfl rfl (ref_num b (a + 6) 2 hB (by omega) k6) ?_
     refine AZ.call1 rfl Tryz.func129 rfl rfl (ref_num b (a + 8) 8 hB (by omega) k8) ?_
     refine AZ.call1 rfl Tryz.func129 rfl rfl (ref_num b (a + 16) 8 hB (by omega) k16) ?_
     refine AZ.c rfl ?_
     refine AZ.sst rfl rfl ?_
     exact AZ.done ⟨rfl, rfl⟩
  refine SQ.normal ?_
  refine AW.seq' ?_
  refine AW.region ?_
  refine AO.c ?_
  refine AO.call1 Tryz.func131 rfl rfl (ref_MayEntry (numE b a) hnok) ?_
  refine AO.c ?_
  refine AO.nil ?_
  refine SQ.normal ?_
  refine AW.seq' ?_
  refine AW.seq' ?_
  refine AW.region ?_
  iterate 3 refine AO.c ?_
  iterate 2 refine AO.gx ?_
  iterate 2 refine AO.gxoo ?_
  iterate 2 refine AO.gx ?_
  refine AO.c ?_
  refine AO.nil ?_
  refine SQ.normal ?_
  refine AW.iteB (GL.ev _) (fun h1 => ?_) (fun h1 => ?_)
  ·
   rw [mayR_eq] at h1
   simp only [Bool.or_eq_true, decide_eq_true_eq, Bool.not_eq_true', decide_eq_false_iff_not] at h1
   have hno : ¬ SymOk b a := fun h => by
    rcases h1 with h1 | h1
    · exact h1 (hent.2 h.2.2.2)
    · exact h1 h.2.2.1
   refine AW.seq' ?_
   refine AW.region ?_
   refine AO.c ?_
   refine AO.sst ?_
   refine AO.c ?_
   refine AO.nil ?_
   refine SQ.normal ?_
   refine AW.ret ?_
   refine SQ.ret ?_
   refine Fin.ret (Gh.refl) noid2 ?_
   show AV.tup _ = AV.tup _
   rw [if_neg hno, decide_eq_false hno]; rfl
  ·
   rw [mayR_eq] at h1
   simp only [Bool.or_eq_false_iff, decide_eq_false_iff_not, Bool.not_eq_false', decide_eq_true_eq, Decidable.not_not] at h1
   have hyes : SymOk b a := ⟨ha1, ha2, by simpa using h1.2, hent.1 h1.1⟩
   have hsame := numE_same (hent.1 h1.1)
   refine AW.skip ?_
   refine SQ.normal ?_
   refine AW.seq' ?_
   refine AW.region ?_
   refine AO.c ?_
   refine AO.sst ?_
   refine AO.c ?_
   refine AO.nil ?_
   refine SQ.normal ?_
   refine AW.ret ?_
   refine Fin.ret (Gh.refl) noid2 ?_
   show AV.tup [AV.agg (entA (numE b a)), _] = AV.tup _
   rw [if_pos hyes, decide_eq_true hyes, hsame]
theorem sym_Put (e : EntD) (he : e.ok) : A0 Tryz.prog 171 [.agg (entA e)] (fun ret => ret = .rd 1 (bys (if MayE e then entB e else []))) := by
 refine A0.body 38 Tryz.func171 rfl rfl Tryz.ntmps171 fun base n0 => ?_
 refine AW.seq' ?_
 refine AW.region ?_
 refine AO.ww ?_
 refine AO.c ?_
 refine AO.nil ?_
 refine SQ.normal ?_
 refine AW.seq' ?_
 refine AW.seq' ?_
 refine AW.region ?_
 refine AO.c ?_
 refine AO.call1 Tryz.func116 rfl rfl (sym_may _) ?_
 refine AO.c ?_
 refine AO.nil ?_
 refine SQ.normal ?_
 refine AW.iteB (GL.ev _) (fun h0 => ?_) (fun h0 => ?_)
 ·
  rw [mayE_eq, Bool.not_eq_true', decide_eq_false_iff_not] at h0
  refine AW.seq' ?_
  refine AW.region ?_
  refine AO.c ?_
  refine AO.nil ?_
  refine SQ.normal ?_
  refine AW.ret ?_
  refine SQ.ret ?_
  refine Fin.ret (Gh.nilB 2) noid1 ?_
  rw [if_neg h0]; rfl
 ·
  rw [mayE_eq, Bool.not_eq_false', decide_eq_true_eq] at h0
  have hm := h0
  unfold MayE at hm
  have l2 : (if Wide 2 then dig e.idx 2 else []).length ≤ 8 := put8_len e.idx 2
  have l8 : (if Wide 8 then dig e.val 8 else []).length ≤ 8 := put8_len e.val 8
  have l9 : (if Wide 8 then dig e.size 8 else []).length ≤ 8 := put8_len e.size 8
  refine AW.skip ?_
  refine SQ.normal ?_
  refine AW.seq' ?_
  apply AW.mid
  case h =>
   refine AW.drawsZ [12] (.one 0 false (.one 1 false (.one 2 false (.one 4 false (.one 5 false (.one 6 false (.one 7 false (.one 8 false (.one 9 false (.one 10 false (.two 3 11 (.one 11 true (.one 12 true (.one 13 false .nil))) (.one 3 true (.one 12 true (.one 13 false .nil)))))))))))))) (by kernel_rfl) rfl (by kernel_rfl) ?_
   iterate 2 refine AZ.c rfl ?_
   refine AZ.oo rfl ?_
   iterate 2 refine AZ.c rfl ?_
   refine AZ.oo rfl ?_
   iterate 2 refine AZ.c rfl ?_
   iterate 2 refine AZ.oo rfl ?_
   refine AZ.two ?_ ?_
   · refine AZi.callR rfl Tryz.func150 rfl rfl (le_PutR e.name 4 (by omega) (by omega)) (by rw [bys_length, if_pos (by decide), dig_length]) ?_
     refine AZ.rr rfl ?_
     refine AZ.ww rfl rfl ?_
     refine AZ.c rfl ?_
     exact AZ.done ⟨rfl, rfl⟩
   · refine AZi.rr rfl ?_
     refine AZ.callR rfl Tryz.func150 rfl rfl (le_PutR e.name 4 (by omega) (by omega)) (by rw [bys_length, if_pos (by decide), dig_length]) ?_
     refine AZ.ww rfl rfl ?_
     refine AZ.c rfl ?_
     exact AZ.done ⟨rfl, rfl⟩
  refine SQ.normal ?_
  refine AW.seq' ?_
  refine AW.region ?_
  iterate 3 refine AO.c ?_
  refine AO.oo ?_
  refine AO.call1 Tryz.func150 rfl rfl ((le_PutR _ 2 (by omega) (by omega)).a0 (by rw [bys_length]; exact Nat.le_trans (put8_len _ _) (by decide))) ?_
  refine AO.ww ?_
  refine AO.c ?_
  refine AO.nil ?_
  refine SQ.normal ?_
  refine AW.seq' ?_
  refine AW.region ?_
  iterate 3 refine AO.c ?_
  refine AO.oo ?_
  refine AO.call1 Tryz.func150 rfl rfl ((le_PutR _ 8 (by omega) (by omega)).a0 (by rw [bys_length]; exact Nat.le_trans (put8_len _ _) (by decide))) ?_
  refine AO.ww ?_
  refine AO.c ?_
  refine AO.nil ?_
  refine SQ.normal ?_
  refine AW.seq' ?_
  refine AW.region ?_
  iterate 3 refine AO.c ?_
  refine AO.oo ?_
  refine AO.call1 Tryz.func150 rfl rfl ((le_PutR _ 8 (by omega) (by omega)).a0 (by rw [bys_length]; exact Nat.le_trans (put8_len _ _) (by decide))) ?_
  refine AO.ww ?_
  refine AO.c ?_
  refine AO.nil ?_
  refine SQ.normal ?_
  refine AW.ret ?_
  refine Fin.ret (Gh.freezeE 2 (li' := entB e) ?_ ?_ ?_) noid1 ?_
  · rw [if_pos (show Wide 4 by decide), if_pos (show Wide 2 by decide), if_pos (show Wide 8 by decide), if_pos (show Wide 8 by decide)]; rfl
  · rw [entB_len, if_pos (show Wide 2 by decide), if_pos (show Wide 8 by decide), if_pos (show Wide 8 by decide), dig_length, dig_length, dig_length]; rfl
  · rw [entB_len]; decide
  · rw [if_pos h0]; rfl
end Go.Proofs.YtdniaamhbfadnaaGreat.AL
namespace Go.Proofs.YtdniaamhbfadnaaGreat.AL
open Go Go.RowKit Go.Proofs.YtdniaamhbfadnaaGreat.Base
set_option linter.unusedVariables false
set_option linter.unusedSimpArgs false
set_option maxRecDepth 4000
set_option synthInstance.maxSize 1000
set_option synthInstance.maxHeartbeats 200000
theorem i64_wr (x : Int) : I64 (IntKind.i64.wrap x) := by
 rw [wi64_eq]; unfold wrap64 I64; omega
def mayF (r : RelD) : Bool := decide (r.off ≥ 0) && decide (r.off ≤ 2147483647) && decide (r.sym ≥ 0) && decide (r.sym ≤ 2147483647) && decide (widthF r.typ > 0)
theorem mayF_eq (r : RelD) : mayF r = mayRelB r := by
 rw [Bool.eq_iff_iff]
 unfold mayF mayRelB fitsB
 simp only [Bool.and_eq_true, decide_eq_true_eq]
 omega
theorem mayRel_all {r : RelD} (h : mayRelB r = true) : (0 ≤ r.off ∧ r.off ≤ 2147483647) ∧ (0 ≤ r.sym ∧ r.sym ≤ 2147483647) ∧ 0 < widthF r.typ ∧ 0 ≤ r.typ ∧ r.typ ≤ 11 := by
 unfold mayRelB fitsB at h
 simp only [Bool.and_eq_true, decide_eq_true_eq] at h
 refine ⟨h.1.1, h.1.2, h.2, ?_⟩
 have h2 := h.2
 unfold widthF at h2
 split at h2
 · omega
 · split at h2 <;> omega
def zeroRel : RelD := ⟨0, 0, 0, 0⟩
def relOf (b : List Int) (a : Int) : RelD := ⟨numAt b a 8, numAt b (a + 8) 4, numAt b (a + 12) 4, IntKind.i64.wrap (numAt b (a + 16) 8)⟩
def RelOk (b : List Int) (a : Int) : Prop := 0 ≤ a ∧ a + 24 ≤ b.length ∧ mayRelB (relOf b a) = true
instance (b : List Int) (a : Int) : Decidable (RelOk b a) := by unfold RelOk; infer_instance
def relB (r : RelD) : List Int := dig r.off 8 ++ dig r.typ 4 ++ dig r.sym 4 ++ dig (IntKind.u64.wrap r.add) 8
theorem relB_len (r : RelD) : (relB r).length = 24 := by unfold relB; simp [dig_length]
/-- The document's numbers: too large ones are -1. -/
def numR (b : List Int) (a : Int) : RelD := ⟨capN (numAt b a 8), capN (numAt b (a + 8) 4), capN (numAt b (a + 12) 4), IntKind.i64.wrap (numAt b (a + 16) 8)⟩
theorem numR_may {b : List Int} {a : Int} (h1 : 0 ≤ numAt b a 8) (h2 : 0 ≤ numAt b (a + 8) 4) (h3 : 0 ≤ numAt b (a + 12) 4) : mayRelB (numR b a) = mayRelB (relOf b a) := by
 unfold mayRelB numR relOf
 have e : ∀ n : Int, 0 ≤ n → fitsB (capN n) = fitsB n := fun n h => by
  unfold fitsB capN
  rw [Bool.eq_iff_iff]
  simp only [Bool.and_eq_true, decide_eq_true_eq]
  split <;> omega
 have e2 : ∀ n : Int, 0 ≤ n → widthF (capN n) = widthF n := fun n h => by
  unfold capN
  split
  · unfold widthF
    rw [if_neg (by omega), if_neg (by omega), if_neg (by omega), if_neg (by omega)]
  · rfl
 simp only
 rw [e _ h1, e _ h3, e2 _ h2]
theorem numR_same {b : List Int} {a : Int} (h : mayRelB (relOf b a) = true) : numR b a = relOf b a := by
 have h := mayRel_all h
 unfold relOf at h
 simp only at h
 unfold numR relOf capN
 rw [if_neg (by omega), if_neg (by omega), if_neg (by omega)]
theorem numR_ok {b : List Int} (hB : Bytes b) (a : Int) : (numR b a).ok :=
 ⟨capN_64 _ (numAt_range hB _ _).1, capN_64 _ (numAt_range hB _ _).1, capN_64 _ (numAt_range hB _ _).1, i64_wr _⟩
theorem rela_Width (t : Int) : A0 Tryz.prog 159 [.v (.int .i64 (t))] (fun ret => ret = .v (.int .i64 (widthF t))) := by
 refine A0.body 11 Tryz.func159 rfl rfl Tryz.ntmps159 fun base n0 => ?_
 refine AW.seq' ?_
 refine AW.region ?_
 refine AO.c ?_
 refine AO.nil ?_
 refine SQ.normal ?_
 refine AW.seq' ?_
 refine AW.seq' ?_
 refine AW.region ?_
 refine AO.c ?_
 refine AO.nil ?_
 refine SQ.normal ?_
 refine AW.block' ?_
 refine AW.seq' ?_
 refine AW.region ?_
 iterate 2 refine AO.c ?_
 refine AO.nil ?_
 refine SQ.normal ?_
 refine AW.iteB (GL.ev _) (fun h0 => ?_) (fun h0 => ?_)
 ·
  try simp only [Bool.and_eq_true, Bool.or_eq_true, Bool.not_eq_true', Bool.and_eq_false_iff, Bool.or_eq_false_iff, decide_eq_true_eq, decide_eq_false_iff_not, bys_length] at h0
  refine AW.seq' ?_
  refine AW.region ?_
  refine AO.c ?_
  refine AO.nil ?_
  refine SQ.normal ?_
  refine AW.ret ?_
  refine BQ.ret <| SQ.ret ?_
  refine Fin.ret (Gh.refl) noid1 ?_
  show AV.v (.int .i64 _) = AV.v (.int .i64 (widthF t))
  congr 2
  unfold widthF
  split
  · omega
  · first | omega | (split <;> omega)
 ·
  try simp only [Bool.and_eq_true, Bool.or_eq_true, Bool.not_eq_true', Bool.and_eq_false_iff, Bool.or_eq_false_iff, decide_eq_true_eq, decide_eq_false_iff_not, bys_length] at h0
  refine AW.seq' ?_
  refine AW.seq' ?_
  refine AW.region ?_
  iterate 2 refine AO.c ?_
  refine AO.nil ?_
  refine SQ.normal ?_
  refine AW.iteB (GL.ev _) (fun h1 => ?_) (fun h1 => ?_)
  ·
   try simp only [Bool.and_eq_true, Bool.or_eq_true, Bool.not_eq_true', Bool.and_eq_false_iff, Bool.or_eq_false_iff, decide_eq_true_eq, decide_eq_false_iff_not, bys_length] at h1
   refine AW.skip ?_
   refine SQ.normal ?_
   refine AW.iteB (GL.ev _) (fun h4 => ?_) (fun h4 => ?_)
   ·
    try simp only [Bool.and_eq_true, Bool.or_eq_true, Bool.not_eq_true', Bool.and_eq_false_iff, Bool.or_eq_false_iff, decide_eq_true_eq, decide_eq_false_iff_not, bys_length] at h4
    refine AW.seq' ?_
    refine AW.region ?_
    refine AO.c ?_
    refine AO.nil ?_
    refine SQ.normal ?_
    refine AW.ret ?_
    refine BQ.ret <| SQ.ret ?_
    refine Fin.ret (Gh.refl) noid1 ?_
    show AV.v (.int .i64 _) = AV.v (.int .i64 (widthF t))
    congr 2
    unfold widthF
    split
    · omega
    · first | omega | (split <;> omega)
   ·
    try simp only [Bool.and_eq_true, Bool.or_eq_true, Bool.not_eq_true', Bool.and_eq_false_iff, Bool.or_eq_false_iff, decide_eq_true_eq, decide_eq_false_iff_not, bys_length] at h4
    refine AW.skip ?_
    refine BQ.normal ?_
    refine SQ.normal ?_
    refine AW.seq' ?_
    refine AW.region ?_
    refine AO.c ?_
    refine AO.nil ?_
    refine SQ.normal ?_
    refine AW.ret ?_
    refine Fin.ret (Gh.refl) noid1 ?_
    show AV.v (.int .i64 _) = AV.v (.int .i64 (widthF t))
    congr 2
    unfold widthF
    split
    · omega
    · first | omega | (split <;> omega)
  ·
   try simp only [Bool.and_eq_true, Bool.or_eq_true, Bool.not_eq_true', Bool.and_eq_false_iff, Bool.or_eq_false_iff, decide_eq_true_eq, decide_eq_false_iff_not, bys_length] at h1
   refine AW.seq' ?_
   refine AW.region ?_
   iterate 2 refine AO.c ?_
   refine AO.nil ?_
   refine SQ.normal ?_
   refine AW.iteB (GL.ev _) (fun h2 => ?_) (fun h2 => ?_)
   ·
    try simp only [Bool.and_eq_true, Bool.or_eq_true, Bool.not_eq_true', Bool.and_eq_false_iff, Bool.or_eq_false_iff, decide_eq_true_eq, decide_eq_false_iff_not, bys_length] at h2
    refine AW.skip ?_
    refine SQ.normal ?_
    refine AW.iteB (GL.ev _) (fun h4 => ?_) (fun h4 => ?_)
    ·
     try simp only [Bool.and_eq_true, Bool.or_eq_true, Bool.not_eq_true', Bool.and_eq_false_iff, Bool.or_eq_false_iff, decide_eq_true_eq, decide_eq_false_iff_not, bys_length] at h4
     refine AW.seq' ?_
     refine AW.region ?_
     refine AO.c ?_
     refine AO.nil ?_
     refine SQ.normal ?_
     refine AW.ret ?_
     refine BQ.ret <| SQ.ret ?_
     refine Fin.ret (Gh.refl) noid1 ?_
     show AV.v (.int .i64 _) = AV.v (.int .i64 (widthF t))
     congr 2
     unfold widthF
     split
     · omega
     · first | omega | (split <;> omega)
    ·
     try simp only [Bool.and_eq_true, Bool.or_eq_true, Bool.not_eq_true', Bool.and_eq_false_iff, Bool.or_eq_false_iff, decide_eq_true_eq, decide_eq_false_iff_not, bys_length] at h4
     refine AW.skip ?_
     refine BQ.normal ?_
     refine SQ.normal ?_
     refine AW.seq' ?_
     refine AW.region ?_
     refine AO.c ?_
     refine AO.nil ?_
     refine SQ.normal ?_
     refine AW.ret ?_
     refine Fin.ret (Gh.refl) noid1 ?_
     show AV.v (.int .i64 _) = AV.v (.int .i64 (widthF t))
     congr 2
     unfold widthF
     split
     · omega
     · first | omega | (split <;> omega)
   ·
    try simp only [Bool.and_eq_true, Bool.or_eq_true, Bool.not_eq_true', Bool.and_eq_false_iff, Bool.or_eq_false_iff, decide_eq_true_eq, decide_eq_false_iff_not, bys_length] at h2
    refine AW.seq' ?_
    refine AW.region ?_
    iterate 2 refine AO.c ?_
    refine AO.nil ?_
    refine SQ.normal ?_
    refine AW.iteB (GL.ev _) (fun h3 => ?_) (fun h3 => ?_)
    ·
     try simp only [Bool.and_eq_true, Bool.or_eq_true, Bool.not_eq_true', Bool.and_eq_false_iff, Bool.or_eq_false_iff, decide_eq_true_eq, decide_eq_false_iff_not, bys_length] at h3
     refine AW.skip ?_
     refine SQ.normal ?_
     refine AW.iteB (GL.ev _) (fun h4 => ?_) (fun h4 => ?_)
     ·
      try simp only [Bool.and_eq_true, Bool.or_eq_true, Bool.not_eq_true', Bool.and_eq_false_iff, Bool.or_eq_false_iff, decide_eq_true_eq, decide_eq_false_iff_not, bys_length] at h4
      refine AW.seq' ?_
      refine AW.region ?_
      refine AO.c ?_
      refine AO.nil ?_
      refine SQ.normal ?_
      refine AW.ret ?_
      refine BQ.ret <| SQ.ret ?_
      refine Fin.ret (Gh.refl) noid1 ?_
      show AV.v (.int .i64 _) = AV.v (.int .i64 (widthF t))
      congr 2
      unfold widthF
      split
      · omega
      · first | omega | (split <;> omega)
     ·
      try simp only [Bool.and_eq_true, Bool.or_eq_true, Bool.not_eq_true', Bool.and_eq_false_iff, Bool.or_eq_false_iff, decide_eq_true_eq, decide_eq_false_iff_not, bys_length] at h4
      refine AW.skip ?_
      refine BQ.normal ?_
      refine SQ.normal ?_
      refine AW.seq' ?_
      refine AW.region ?_
      refine AO.c ?_
      refine AO.nil ?_
      refine SQ.normal ?_
      refine AW.ret ?_
      refine Fin.ret (Gh.refl) noid1 ?_
      show AV.v (.int .i64 _) = AV.v (.int .i64 (widthF t))
      congr 2
      unfold widthF
      split
      · omega
      · first | omega | (split <;> omega)
    ·
     try simp only [Bool.and_eq_true, Bool.or_eq_true, Bool.not_eq_true', Bool.and_eq_false_iff, Bool.or_eq_false_iff, decide_eq_true_eq, decide_eq_false_iff_not, bys_length] at h3
     refine AW.region ?_
     iterate 2 refine AO.c ?_
     refine AO.nil ?_
     refine SQ.normal ?_
     refine AW.iteB (GL.ev _) (fun h4 => ?_) (fun h4 => ?_)
     ·
      try simp only [Bool.and_eq_true, Bool.or_eq_true, Bool.not_eq_true', Bool.and_eq_false_iff, Bool.or_eq_false_iff, decide_eq_true_eq, decide_eq_false_iff_not, bys_length] at h4
      refine AW.seq' ?_
      refine AW.region ?_
      refine AO.c ?_
      refine AO.nil ?_
      refine SQ.normal ?_
      refine AW.ret ?_
      refine BQ.ret <| SQ.ret ?_
      refine Fin.ret (Gh.refl) noid1 ?_
      show AV.v (.int .i64 _) = AV.v (.int .i64 (widthF t))
      congr 2
      unfold widthF
      split
      · omega
      · first | omega | (split <;> omega)
     ·
      try simp only [Bool.and_eq_true, Bool.or_eq_true, Bool.not_eq_true', Bool.and_eq_false_iff, Bool.or_eq_false_iff, decide_eq_true_eq, decide_eq_false_iff_not, bys_length] at h4
      refine AW.skip ?_
      refine BQ.normal ?_
      refine SQ.normal ?_
      refine AW.seq' ?_
      refine AW.region ?_
      refine AO.c ?_
      refine AO.nil ?_
      refine SQ.normal ?_
      refine AW.ret ?_
      refine Fin.ret (Gh.refl) noid1 ?_
      show AV.v (.int .i64 _) = AV.v (.int .i64 (widthF t))
      congr 2
      unfold widthF
      split
      · omega
      · first | omega | (split <;> omega)
theorem rela_may (r : RelD) : A0 Tryz.prog 154 [.agg (relA r)] (fun ret => ret = .v (.bool (mayF r))) := by
 refine A0.body 27 Tryz.func154 rfl rfl Tryz.ntmps154 fun base n0 => ?_
 refine AW.seq' ?_
 refine AW.region ?_
 refine AO.ww ?_
 refine AO.c ?_
 refine AO.nil ?_
 refine SQ.normal ?_
 refine AW.seq' ?_
 refine AW.region ?_
 iterate 4 refine AO.c ?_
 iterate 3 refine AO.gx ?_
 iterate 2 refine AO.c ?_
 iterate 3 refine AO.gx ?_
 iterate 2 refine AO.c ?_
 iterate 3 refine AO.gx ?_
 iterate 2 refine AO.c ?_
 iterate 2 refine AO.gx ?_
 refine AO.gxcall1 Tryz.func159 rfl rfl (fun hgd => rela_Width _) ?_
 refine AO.gx ?_
 iterate 2 refine AO.c ?_
 refine AO.nil ?_
 refine SQ.normal ?_
 refine AW.ret ?_
 refine Fin.ret (Gh.refl) noid1 ?_
 rfl
theorem rela_Get (b : List Int) (a : Int) (hB : Bytes b) (hb : b.length ≤ 1000000000000) (ha : I64 a) : A0 Tryz.prog 117 [.rd 1 (bys b), .v (.int .i64 (a))] (fun ret => ret = .tup [.agg (relA (if RelOk b a then relOf b a else zeroRel)), .v (.bool (decide (RelOk b a)))]) := by
 have ha0 := ha
 unfold I64 at ha
 refine A0.body 69 Tryz.func117 rfl rfl Tryz.ntmps117 fun base n0 => ?_
 refine AW.seq' ?_
 refine AW.region ?_
 refine AO.ww ?_
 refine AO.c ?_
 refine AO.nil ?_
 refine SQ.normal ?_
 refine AW.seq' ?_
 refine AW.seq' ?_
 refine AW.region ?_
 iterate 3 refine AO.c ?_
 iterate 3 refine AO.gx ?_
 refine AO.gxoo ?_
 refine AO.gx ?_
 refine AO.c ?_
 refine AO.nil ?_
 refine SQ.normal ?_
 refine AW.iteB (GL.ev _) (fun h0 => ?_) (fun h0 => ?_)
 ·
  simp only [Bool.or_eq_true, decide_eq_true_eq] at h0
  have hno : ¬ RelOk b a := fun h => by unfold RelOk at h; omega
  refine AW.seq' ?_
  refine AW.region ?_
  refine AO.c ?_
  refine AO.sst ?_
  refine AO.c ?_
  refine AO.nil ?_
  refine SQ.normal ?_
  refine AW.ret ?_
  refine SQ.ret ?_
  refine Fin.ret (Gh.refl) noid2 ?_
  show AV.tup _ = AV.tup _
  first | (rw [if_neg hno, decide_eq_false hno]; rfl) | (rw [if_pos hyes, decide_eq_true hyes]; rfl)
 ·
  simp only [Bool.or_eq_false_iff, decide_eq_false_iff_not] at h0
  have ha1 : 0 ≤ a := by omega
  have ha2 : a + 24 ≤ b.length := by omega
  have k0 := hasB_in ha1 ha2 0 8 (by omega) (by omega) (by decide)
  rw [Int.add_zero] at k0
  have k8 := hasB_in ha1 ha2 8 4 (by omega) (by omega) (by decide)
  have k12 := hasB_in ha1 ha2 12 4 (by omega) (by omega) (by decide)
  have k16 := hasB_in ha1 ha2 16 8 (by omega) (by omega) (by decide)
  have r0 := numAt_range hB a 8
  have r8 := numAt_range hB (a + 8) 4
  have r12 := numAt_range hB (a + 12) 4
  have r16 := numAt_range hB (a + 16) 8
  simp only [show (4 : Int).toNat = 4 from rfl, show (8 : Int).toNat = 8 from rfl] at r0 r8 r12 r16
  refine AW.skip ?_
  refine SQ.normal ?_
  refine AW.seq' ?_
  refine AW.region ?_
  iterate 2 refine AO.c ?_
  refine AO.call1 Tryz.func109 rfl rfl (le_GetT b a 8 hB (by omega) k0) ?_
  iterate 5 refine AO.c ?_
  refine AO.nil ?_
  refine SQ.normal ?_
  refine AW.seq' ?_
  refine AW.region ?_
  iterate 2 refine AO.c ?_
  refine AO.oo ?_
  refine AO.call1 Tryz.func109 rfl rfl (le_GetT b (a + 8) 4 hB (by omega) k8) ?_
  iterate 5 refine AO.c ?_
  refine AO.nil ?_
  refine SQ.normal ?_
  refine AW.seq' ?_
  refine AW.region ?_
  iterate 2 refine AO.c ?_
  refine AO.oo ?_
  refine AO.call1 Tryz.func109 rfl rfl (le_GetT b (a + 12) 4 hB (by omega) k12) ?_
  iterate 5 refine AO.c ?_
  refine AO.nil ?_
  refine SQ.normal ?_
  refine AW.seq' ?_
  refine AW.region ?_
  iterate 2 refine AO.c ?_
  refine AO.oo ?_
  refine AO.call1 Tryz.func109 rfl rfl (le_GetT b (a + 16) 8 hB (by omega) k16) ?_
  iterate 5 refine AO.c ?_
  refine AO.nil ?_
  refine SQ.normal ?_
  refine AW.seq' ?_
  refine AW.seq' ?_
  refine AW.region ?_
  iterate 2 refine AO.c ?_
  refine AO.nil ?_
  refine SQ.normal ?_
  refine AW.iteB (GL.ev _) (fun h1 => ?_) (fun h1 => ?_)
  ·
   rw [decide_eq_true_eq] at h1
   have hno : ¬ RelOk b a := fun h => by
    have := (mayRel_all h.2.2).1
    unfold relOf at this
    simp only at this
    omega
   refine AW.seq' ?_
   refine AW.region ?_
   refine AO.c ?_
   refine AO.sst ?_
   refine AO.c ?_
   refine AO.nil ?_
   refine SQ.normal ?_
   refine AW.ret ?_
   refine SQ.ret ?_
   refine Fin.ret (Gh.refl) noid2 ?_
   show AV.tup _ = AV.tup _
   first | (rw [if_neg hno, decide_eq_false hno]; rfl) | (rw [if_pos hyes, decide_eq_true hyes]; rfl)
  ·
   rw [decide_eq_false_iff_not] at h1
   refine AW.skip ?_
   refine SQ.normal ?_
   refine AW.seq' ?_
   refine AW.region ?_
   refine AO.c ?_
   refine AO.oo ?_
   refine AO.c ?_
   refine AO.oo ?_
   refine AO.c ?_
   refine AO.oo ?_
   refine AO.c ?_
   refine AO.pw ?_
   refine AO.c ?_
   refine AO.ww ?_
   refine AO.sst ?_
   refine AO.nil ?_
   refine SQ.normal ?_
   refine AW.seq' ?_
   refine AW.seq' ?_
   refine AW.region ?_
   refine AO.c ?_
   refine AO.call1 Tryz.func154 rfl rfl (rela_may (relOf b a)) ?_
   refine AO.c ?_
   refine AO.nil ?_
   refine SQ.normal ?_
   refine AW.iteB (GL.ev _) (fun h2 => ?_) (fun h2 => ?_)
   ·
    rw [mayF_eq] at h2
    have hno : ¬ RelOk b a := fun h => by rw [h.2.2] at h2; cases h2
    refine AW.seq' ?_
    refine AW.region ?_
    refine AO.c ?_
    refine AO.sst ?_
    refine AO.c ?_
    refine AO.nil ?_
    refine SQ.normal ?_
    refine AW.ret ?_
    refine SQ.ret ?_
    refine Fin.ret (Gh.refl) noid2 ?_
    show AV.tup _ = AV.tup _
    first | (rw [if_neg hno, decide_eq_false hno]; rfl) | (rw [if_pos hyes, decide_eq_true hyes]; rfl)
   ·
    rw [mayF_eq, Bool.not_eq_false'] at h2
    have hyes : RelOk b a := ⟨ha1, ha2, h2⟩
    refine AW.skip ?_
    refine SQ.normal ?_
    refine AW.seq' ?_
    refine AW.region ?_
    refine AO.c ?_
    refine AO.sst ?_
    refine AO.c ?_
    refine AO.nil ?_
    refine SQ.normal ?_
    refine AW.ret ?_
    refine Fin.ret (Gh.refl) noid2 ?_
    show AV.tup _ = AV.tup _
    first | (rw [if_neg hno, decide_eq_false hno]; rfl) | (rw [if_pos hyes, decide_eq_true hyes]; rfl)
theorem ref_Rel (b : List Int) (a : Int) (hB : Bytes b) (hb : b.length ≤ 1000000000000) (ha : I64 a) : A0 Tryz.prog 90 [.rd 1 (bys b), .v (.int .i64 (a))] (fun ret => ret = .tup [.agg (relA (if RelOk b a then relOf b a else zeroRel)), .v (.bool (decide (RelOk b a)))]) := by
 have ha0 := ha
 unfold I64 at ha
 refine A0.body 50 Tryz.func90 rfl rfl Tryz.ntmps90 fun base n0 => ?_
 refine AW.seq' ?_
 refine AW.region ?_
 refine AO.ww ?_
 refine AO.c ?_
 refine AO.nil ?_
 refine SQ.normal ?_
 refine AW.seq' ?_
 refine AW.seq' ?_
 refine AW.region ?_
 iterate 3 refine AO.c ?_
 iterate 4 refine AO.gx ?_
 iterate 2 refine AO.c ?_
 iterate 3 refine AO.gx ?_
 refine AO.gxoo ?_
 refine AO.gx ?_
 refine AO.c ?_
 refine AO.nil ?_
 refine SQ.normal ?_
 refine AW.iteB (GL.ev _) (fun h0 => ?_) (fun h0 => ?_)
 ·
  simp only [Bool.or_eq_true, decide_eq_true_eq] at h0
  have hno : ¬ RelOk b a := fun h => by unfold RelOk at h; omega
  refine AW.seq' ?_
  refine AW.region ?_
  refine AO.c ?_
  refine AO.sst ?_
  refine AO.c ?_
  refine AO.nil ?_
  refine SQ.normal ?_
  refine AW.ret ?_
  refine SQ.ret ?_
  refine Fin.ret (Gh.refl) noid2 ?_
  show AV.tup _ = AV.tup _
  rw [if_neg hno, decide_eq_false hno]; rfl
 ·
  simp only [Bool.or_eq_false_iff, decide_eq_false_iff_not] at h0
  have ha1 : 0 ≤ a := by omega
  have ha2 : a + 24 ≤ b.length := by omega
  have k0 := hasB_in ha1 ha2 0 8 (by omega) (by omega) (by decide)
  rw [Int.add_zero] at k0
  have k8 := hasB_in ha1 ha2 8 4 (by omega) (by omega) (by decide)
  have k12 := hasB_in ha1 ha2 12 4 (by omega) (by omega) (by decide)
  have k16 := hasB_in ha1 ha2 16 8 (by omega) (by omega) (by decide)
  have r0 := numAt_range hB a 8
  have r8 := numAt_range hB (a + 8) 4
  have r12 := numAt_range hB (a + 12) 4
  have r16 := numAt_range hB (a + 16) 8
  simp only [show (4 : Int).toNat = 4 from rfl, show (8 : Int).toNat = 8 from rfl] at r0 r8 r12 r16
  have hmay := numR_may r0.1 r8.1 r12.1
  have hnok := numR_ok hB a
  have e16 : (b.take (a + 24).toNat).drop (a + 16).toNat = (b.drop (a + 16).toNat).take 8 := by
   rw [List.drop_take]; congr 1; omega
  refine AW.skip ?_
  refine SQ.normal ?_
  refine AW.seq' ?_
  apply AW.mid
  case h =>
   refine AW.drawsZ [21] (.one 0 false (.one 1 false (.one 3 false (.one 4 false (.one 5 false (.one 7 false (.one 8 false (.one 9 false (.one 11 false (.one 12 false (.one 13 false (.one 14 false (.one 15 false (.one 16 false (.two 2 20 (.two 6 20 (.two 10 20 (.two 17 20 (.one 18 false (.one 19 false (.one 20 true (.one 21 true .nil)))) (.one 17 true (.one 18 false (.one 19 false (.one 21 true .nil))))) (.one 10 true (.one 17 true (.one 18 false (.one 19 false (.one 21 true .nil)))))) (.one 6 true (.one 10 true (.one 17 true (.one 18 false (.one 19 false (.one 21 true .nil))))))) (.one 2 true (.one 6 true (.one 10 true (.one 17 true (.one 18 false (.one 19 false (.one 21 true .nil)))))))))))))))))))))) (by kernel_rfl) rfl (by kernel_rfl) ?_
   iterate 4 refine AZ.c rfl ?_
   refine AZ.oo rfl ?_
   iterate 2 refine AZ.c rfl ?_
   refine AZ.oo rfl ?_
   iterate 2 refine AZ.c rfl ?_
   refine AZ.oo rfl ?_
   refine AZ.c rfl ?_
   refine AZ.oo rfl ?_
   refine AZ.o rfl (by first | omega | (simp; omega)) ?_
   refine AZ.eq 40 (av' := .rd 1 (bys ((b.drop (a + 16).toNat).take 8))) (by simp only [Option.getD_some, e16]) ?_
   refine AZ.two ?_ ?_
   · refine AZi.call1 rfl Tryz.func129 rfl rfl (ref_num b a 8 hB (by omega) k0) ?_
     refine AZ.two ?_ ?_
     · refine AZi.call1 rfl Tryz.func129 rfl rfl (ref_num b (a + 8) 4 hB (by omega) k8) ?_
       refine AZ.two ?_ ?_
       · refine AZi.call1 rfl Tryz.func129 rfl rfl (ref_num b (a + 12) 4 hB (by omega) k12) ?_
         refine AZ.two ?_ ?_
         · refine AZi.call1 rfl Tryz.func91 rfl rfl (ref_Num _ ((hB.drop _).take _) (by rw [List.length_take]; omega)) ?_
           refine AZ.pw rfl ?_
           refine AZ.c rfl ?_
           refine AZ.mkk rfl ?_
           refine AZ.sst rfl rfl ?_
           exact AZ.done ⟨rfl, rfl⟩
         · refine AZi.mkk rfl ?_
           refine AZ.call1 rfl Tryz.func91 rfl rfl (ref_Num _ ((hB.drop _).take _) (by rw [List.length_take]; omega)) ?_
           refine AZ.pw rfl ?_
           refine AZ.c rfl ?_
           refine AZ.sst rfl rfl ?_
           exact AZ.done ⟨rfl, rfl⟩
       · refine AZi.mkk rfl ?_
         refine AZ.call1 rfl Tryz.func129 rfl rfl (ref_num b (a + 12) 4 hB (by omega) k12) ?_
         refine AZ.call1 rfl Tryz.func91 rfl rfl (ref_Num _ ((hB.drop _).take _) (by rw [List.length_take]; omega)) ?_
         refine AZ.pw rfl ?_
         refine AZ.c rfl ?_
         refine AZ.sst rfl rfl ?_
         exact AZ.done ⟨rfl, rfl⟩
     · refine AZi.mkk rfl ?_
       refine AZ.call1 rfl Tryz.func129 rfl rfl (ref_num b (a + 8) 4 hB (by omega) k8) ?_
       refine AZ.call1 rfl Tryz.func129 rfl rfl (ref_num b (a + 12) 4 hB (by omega) k12) ?_
       refine AZ.call1 rfl Tryz.func91 rfl rfl (ref_Num _ ((hB.drop _).take _) (by rw [List.length_take]; omega)) ?_
       refine AZ.pw rfl ?_
       refine AZ.c rfl ?_
       refine AZ.sst rfl rfl ?_
       exact AZ.done ⟨rfl, rfl⟩
   · refine AZi.mkk rfl ?_
     refine AZ.call1 rfl Tryz.func129 rfl rfl (ref_num b a 8 hB (by omega) k0) ?_
     refine AZ.call1 rfl Tryz.func129 rfl rfl (ref_num b (a + 8) 4 hB (by omega) k8) ?_
     refine AZ.call1 rfl Tryz.func129 rfl rfl (ref_num b (a + 12) 4 hB (by omega) k12) ?_
     refine AZ.call1 rfl Tryz.func91 rfl rfl (ref_Num _ ((hB.drop _).take _) (by rw [List.length_take]; omega)) ?_
     refine AZ.pw rfl ?_
     refine AZ.c rfl ?_
     refine AZ.sst rfl rfl ?_
     exact AZ.done ⟨rfl, rfl⟩
  refine SQ.normal ?_
  refine AW.seq' ?_
  refine AW.region ?_
  refine AO.c ?_
  refine AO.call1 Tryz.func132 rfl rfl (ref_MayRel (numR b a) hnok) ?_
  refine AO.c ?_
  refine AO.nil ?_
  refine SQ.normal ?_
  refine AW.seq' ?_
  refine AW.seq' ?_
  refine AW.region ?_
  iterate 2 refine AO.c ?_
  refine AO.nil ?_
  refine SQ.normal ?_
  refine AW.iteB (GL.ev _) (fun h1 => ?_) (fun h1 => ?_)
  ·
   rw [hmay] at h1
   have hno : ¬ RelOk b a := fun h => by rw [h.2.2] at h1; cases h1
   refine AW.seq' ?_
   refine AW.region ?_
   refine AO.c ?_
   refine AO.sst ?_
   refine AO.c ?_
   refine AO.nil ?_
   refine SQ.normal ?_
   refine AW.ret ?_
   refine SQ.ret ?_
   refine Fin.ret (Gh.refl) noid2 ?_
   show AV.tup _ = AV.tup _
   rw [if_neg hno, decide_eq_false hno]; rfl
  ·
   rw [hmay, Bool.not_eq_false'] at h1
   have hyes : RelOk b a := ⟨ha1, ha2, h1⟩
   have hsame := numR_same h1
   refine AW.skip ?_
   refine SQ.normal ?_
   refine AW.seq' ?_
   refine AW.region ?_
   refine AO.c ?_
   refine AO.sst ?_
   refine AO.c ?_
   refine AO.nil ?_
   refine SQ.normal ?_
   refine AW.ret ?_
   refine Fin.ret (Gh.refl) noid2 ?_
   show AV.tup [AV.agg (relA (numR b a)), _] = AV.tup _
   rw [if_pos hyes, decide_eq_true hyes, hsame]
theorem rela_Put (r : RelD) (hr : r.ok) : A0 Tryz.prog 158 [.agg (relA r)] (fun ret => ret = .rd 1 (bys (if mayRelB r = true then relB r else []))) := by
 refine A0.body 29 Tryz.func158 rfl rfl Tryz.ntmps158 fun base n0 => ?_
 refine AW.seq' ?_
 refine AW.region ?_
 refine AO.ww ?_
 refine AO.c ?_
 refine AO.nil ?_
 refine SQ.normal ?_
 refine AW.seq' ?_
 refine AW.seq' ?_
 refine AW.region ?_
 refine AO.c ?_
 refine AO.call1 Tryz.func154 rfl rfl (rela_may _) ?_
 refine AO.c ?_
 refine AO.nil ?_
 refine SQ.normal ?_
 refine AW.iteB (GL.ev _) (fun h0 => ?_) (fun h0 => ?_)
 ·
  rw [mayF_eq, Bool.not_eq_true'] at h0
  have hno : ¬ mayRelB r = true := by rw [h0]; decide
  refine AW.seq' ?_
  refine AW.region ?_
  refine AO.c ?_
  refine AO.nil ?_
  refine SQ.normal ?_
  refine AW.ret ?_
  refine SQ.ret ?_
  refine Fin.ret (Gh.nilB 2) noid1 ?_
  rw [if_neg hno]; rfl
 ·
  rw [mayF_eq, Bool.not_eq_false'] at h0
  have hm := mayRel_all h0
  have l4 : (if Wide 4 then dig r.typ 4 else []).length ≤ 8 := put8_len r.typ 4
  have l5 : (if Wide 4 then dig r.sym 4 else []).length ≤ 8 := put8_len r.sym 4
  have l8 : (if Wide 8 then dig (IntKind.u64.wrap r.add) 8 else []).length ≤ 8 := put8_len _ 8
  refine AW.skip ?_
  refine SQ.normal ?_
  refine AW.seq' ?_
  refine AW.region ?_
  iterate 2 refine AO.c ?_
  refine AO.oo ?_
  refine AO.callR Tryz.func150 rfl rfl (le_PutR r.off 8 (by omega) (by omega)) (by rw [bys_length, if_pos (by decide), dig_length]) ?_
  refine AO.c ?_
  refine AO.nil ?_
  refine SQ.normal ?_
  refine AW.seq' ?_
  refine AW.region ?_
  iterate 3 refine AO.c ?_
  refine AO.oo ?_
  refine AO.call1 Tryz.func150 rfl rfl ((le_PutR _ 4 (by omega) (by omega)).a0 (by rw [bys_length]; exact Nat.le_trans (put8_len _ _) (by decide))) ?_
  refine AO.ww ?_
  refine AO.c ?_
  refine AO.nil ?_
  refine SQ.normal ?_
  refine AW.seq' ?_
  refine AW.region ?_
  iterate 3 refine AO.c ?_
  refine AO.oo ?_
  refine AO.call1 Tryz.func150 rfl rfl ((le_PutR _ 4 (by omega) (by omega)).a0 (by rw [bys_length]; exact Nat.le_trans (put8_len _ _) (by decide))) ?_
  refine AO.ww ?_
  refine AO.c ?_
  refine AO.nil ?_
  refine SQ.normal ?_
  refine AW.seq' ?_
  refine AW.region ?_
  iterate 3 refine AO.c ?_
  refine AO.pw ?_
  refine AO.call1 Tryz.func150 rfl rfl ((le_PutR _ 8 (u64_range _) (by omega)).a0 (by rw [bys_length]; exact Nat.le_trans (put8_len _ _) (by decide))) ?_
  refine AO.ww ?_
  refine AO.c ?_
  refine AO.nil ?_
  refine SQ.normal ?_
  refine AW.ret ?_
  refine Fin.ret (Gh.freezeE 2 (li' := relB r) ?_ ?_ ?_) noid1 ?_
  · rw [if_pos (show Wide 8 by decide), if_pos (show Wide 4 by decide), if_pos (show Wide 4 by decide), if_pos (show Wide 8 by decide)]; rfl
  · rw [relB_len, if_pos (show Wide 4 by decide), if_pos (show Wide 4 by decide), if_pos (show Wide 8 by decide), dig_length, dig_length, dig_length]; rfl
  · rw [relB_len]; decide
  · rw [if_pos h0]; rfl
end Go.Proofs.YtdniaamhbfadnaaGreat.AL
namespace Go.Proofs.YtdniaamhbfadnaaGreat.AL
open Go Go.RowKit Go.Proofs.YtdniaamhbfadnaaGreat.Base
set_option linter.unusedVariables false
set_option linter.unusedSimpArgs false
set_option maxRecDepth 4000
set_option synthInstance.maxSize 1000
set_option synthInstance.maxHeartbeats 200000
structure HdD where
 at_ : Int
 many : Int
 names : Int
 deriving Inhabited, DecidableEq
@[reducible] def hdA (h : HdD) : List AV := [.v (.int .i64 h.at_), .v (.int .i64 h.many), .v (.int .i64 h.names)]
@[reducible] def pairA (p : Int × Int) : List AV := [.v (.int .u64 p.1), .v (.int .i64 p.2)]
def HdD.ok (h : HdD) : Prop := I64 h.at_ ∧ I64 h.many ∧ I64 h.names
def HdD.may (h : HdD) : Prop := MayHd h.at_ h.many h.names
instance hdMayDec (h : HdD) : Decidable h.may := by unfold HdD.may; infer_instance
def HdD.bytes (h : HdD) : List Int := Hd h.at_ h.many h.names
def mayHB (h : HdD) : Bool := decide (h.at_ ≥ 0) && decide (h.at_ ≤ 2147483647) && decide (h.many ≥ 1) && decide (h.many ≤ 65535) && decide (h.names ≥ 1) && decide (h.names < h.many)
theorem mayHB_eq (h : HdD) : mayHB h = decide h.may := by
 rw [Bool.eq_iff_iff, decide_eq_true_eq]
 unfold mayHB HdD.may MayHd
 simp only [Bool.and_eq_true, decide_eq_true_eq]
 omega
def zeroHd : HdD := ⟨0, 0, 0⟩
def hdOf (b : List Int) : HdD := ⟨numAt b 40 8, numAt b 60 2, numAt b 62 2⟩
def HdOk (b : List Int) : Prop := 64 ≤ b.length ∧ (hdOf b).may ∧ b.take 64 = (hdOf b).bytes
instance hdOkDec (b : List Int) : Decidable (HdOk b) := by unfold HdOk; infer_instance
def numG (b : List Int) (at_ n : Int) : Int := if HasB b at_ n then numAt b at_ n else 0
theorem le_GetG (b : List Int) (at_ n : Int) (hB : Bytes b) (hb : b.length ≤ 9223372036854775807) (ha : -9223372036854775808 ≤ at_ ∧ at_ ≤ 9223372036854775807) (hn : -9223372036854775808 ≤ n ∧ n ≤ 9223372036854775807) : A0 Tryz.prog 109 [.rd 1 (bys b), .v (.int .i64 at_), .v (.int .i64 n)] (fun ret => ret = .tup [.v (.int .u64 (numG b at_ n)), .v (.bool (decide (HasB b at_ n)))]) := le_Get b at_ n hB hb ha hn
theorem numG_range {b : List Int} (hB : Bytes b) (at_ n : Int) : 0 ≤ numG b at_ n ∧ numG b at_ n < 256 ^ n.toNat := by
 unfold numG
 split
 · exact numAt_range hB at_ n
 · have : (0 : Int) < 256 ^ n.toNat := Int.pow_pos (by decide)
   omega
def identL : List Int := [127, 69, 76, 70, 2, 1, 1, 0, 0, 0, 0, 0, 0, 0, 0, 0]
def layL (h : HdD) : List (Int × Int) := [(1, 2), (62, 2), (1, 4), (0, 8), (0, 8), (h.at_, 8), (0, 4), (64, 2), (0, 2), (0, 2), (64, 2), (h.many, 2), (h.names, 2)]
def digsP : List (Int × Int) → List Int
 | [] => []
 | p :: r => dig p.1 p.2.toNat ++ digsP r
theorem digsP_append (a b : List (Int × Int)) : digsP (a ++ b) = digsP a ++ digsP b := by
 induction a with
 | nil => rfl
 | cons p r ih => simp only [List.cons_append, digsP, ih, List.append_assoc]
theorem digsP_step {l : List (Int × Int)} {i : Nat} (h : i < l.length) : digsP (l.take (i + 1)) = digsP (l.take i) ++ dig (l.getD i default).1 (l.getD i default).2.toNat := by
 have : l.getD i default = l[i] := by simp [h]
 rw [this, List.take_succ_eq_append_getElem h, digsP_append]
 simp [digsP]
theorem layL_at {h : HdD} (hm : h.may) {i : Nat} (hi : i < 13) : Wide ((layL h).getD i default).2 ∧ 0 ≤ ((layL h).getD i default).1 ∧ ((layL h).getD i default).1 ≤ 18446744073709551615 ∧ -9223372036854775808 ≤ ((layL h).getD i default).2 ∧ ((layL h).getD i default).2 ≤ 9223372036854775807 := by
 unfold HdD.may MayHd at hm
 have hc : i = 0 ∨ i = 1 ∨ i = 2 ∨ i = 3 ∨ i = 4 ∨ i = 5 ∨ i = 6 ∨ i = 7 ∨ i = 8 ∨ i = 9 ∨ i = 10 ∨ i = 11 ∨ i = 12 := by omega
 rcases hc with rfl | rfl | rfl | rfl | rfl | rfl | rfl | rfl | rfl | rfl | rfl | rfl | rfl <;> simp only [layL, List.getD_cons_zero, List.getD_cons_succ] <;> refine ⟨by decide, ?_, ?_, by decide, by decide⟩ <;> omega
theorem lay_all (h : HdD) : identL ++ digsP (layL h) = h.bytes := by
 simp [layL, digsP, HdD.bytes, Hd, identL]
theorem ehdr_may (h : HdD) : A0 Tryz.prog 110 [.agg (hdA h)] (fun ret => ret = .v (.bool (mayHB h))) := by
 refine A0.body 33 Tryz.func110 rfl rfl Tryz.ntmps110 fun base n0 => ?_
 refine AW.seq' ?_
 refine AW.region ?_
 refine AO.ww ?_
 refine AO.c ?_
 refine AO.nil ?_
 refine SQ.normal ?_
 refine AW.seq' ?_
 refine AW.region ?_
 iterate 4 refine AO.c ?_
 iterate 3 refine AO.gx ?_
 iterate 2 refine AO.c ?_
 iterate 3 refine AO.gx ?_
 iterate 2 refine AO.c ?_
 iterate 3 refine AO.gx ?_
 iterate 2 refine AO.c ?_
 iterate 3 refine AO.gx ?_
 iterate 2 refine AO.c ?_
 iterate 5 refine AO.gx ?_
 iterate 2 refine AO.c ?_
 refine AO.nil ?_
 refine SQ.normal ?_
 refine AW.ret ?_
 refine Fin.ret (Gh.refl) noid1 ?_
 rfl
theorem bytes_EqualE (x y : List Int) : A0 Tryz.prog 111 [.rd 1 (bys x), .rd 1 (bys y)] (fun ret => ret = .v (.bool (decide ((strOfNums x).toList = (strOfNums y).toList)))) := by
 refine A0.body 10 Tryz.func111 rfl rfl Tryz.ntmps111 fun base n0 => ?_
 refine AW.seq' ?_
 refine AW.region ?_
 refine AO.c ?_
 refine AO.nil ?_
 refine SQ.normal ?_
 refine AW.seq' ?_
 refine AW.region ?_
 iterate 6 refine AO.c ?_
 refine AO.nil ?_
 refine SQ.normal ?_
 refine AW.ret ?_
 refine Fin.ret (Gh.refl) noid1 ?_
 rfl
theorem ehdr_lay (h : HdD) (hm : h.may) : A1 Tryz.prog 112 [.agg (hdA h)] 5 1 (bys h.bytes) := by
 have hm2 := hm
 unfold HdD.may MayHd at hm2
 have hl13 : (layL h).length = 13 := rfl
 refine A1.body 44 (NIr.h) Tryz.func112 rfl rfl Tryz.ntmps112 fun base n0 => ?_
 refine AW.seq' ?_
 refine AW.region ?_
 refine AO.ww ?_
 refine AO.c ?_
 refine AO.nil ?_
 refine SQ.normal ?_
 refine AW.seq' ?_
 refine AW.region ?_
 refine AO.ww ?_
 refine AO.c ?_
 refine AO.nil ?_
 refine SQ.normal ?_
 refine AW.seq' ?_
 refine AW.seq' ?_
 refine AW.region ?_
 iterate 7 refine AO.c ?_
 refine AO.oo ?_
 iterate 8 refine AO.c ?_
 refine AO.oo ?_
 iterate 3 refine AO.c ?_
 refine AO.oo ?_
 refine AO.c ?_
 refine AO.rr ?_
 refine AO.eq 29 (av' := .rd 2 ((layL h).map pairA)) rfl ?_
 iterate 2 refine AO.c ?_
 refine AO.nil ?_
 refine SQ.normal ?_
 refine AW.block' ?_
 refine AW.loopU4 [.f, .f, .f, .k, .F, .F, .F, .f, .k, .k, .k, .F, .f, .f, .f, .f] (fun (i ep : Nat) (out : List Int) (j : Nat) => [(3, .own (n0 + 1) ep 0 out.length), (31, .v (.int .i64 (i)))]) (fun i ep out j => Hn n0 (([some (.box 154 (hdA h)), some (.row 5 1 ep (bys out))] ++ List.replicate j none) ++ [])) (fun m i ep out j => i ≤ 13 ∧ m = 13 - i ∧ out.length ≤ 16 + 8 * i ∧ out = identL ++ digsP ((layL h).take i)) (13) (0) (0) (identL) (0) ⟨by omega, by omega, by decide, by simp [digsP]⟩ (by first | rfl | (simp; done)) (by first | rfl | (simp; done)) ?_
 rintro m0 i ep out j ⟨hx1, hx2, hx3, hx4⟩
 refine AW.seq' ?_
 refine AW.region ?_
 refine AO.c ?_
 refine AO.nil ?_
 refine SQ.normal ?_
 refine AW.seq' ?_
 refine AW.iteB (GL.ev _) (fun h0 => ?_) (fun h0 => ?_)
 ·
  rw [decide_eq_true_eq] at h0
  have hi : i < 13 := by omega
  have hla := layL_at hm hi
  have hpl := put8_len ((layL h).getD i default).1 ((layL h).getD i default).2
  refine AW.skip ?_
  refine SQ.normal ?_
  refine AW.seq' ?_
  refine AW.block' ?_
  refine AW.seq' ?_
  refine AW.region ?_
  refine AO.oo ?_
  refine AO.c ?_
  refine AO.ww ?_
  refine AO.sst ?_
  refine AO.nil ?_
  refine SQ.normal ?_
  refine AW.region ?_
  iterate 5 refine AO.c ?_
  refine AO.call1 Tryz.func150 rfl rfl ((le_PutR ((layL h).getD i default).1 ((layL h).getD i default).2 ⟨hla.2.1, hla.2.2.1⟩ hla.2.2.2).a0 (by rw [bys_length]; exact Nat.le_trans (put8_len _ _) (by decide))) ?_
  refine AO.ww ?_
  refine AO.c ?_
  refine AO.nil ?_
  refine BQ.normal ?_
  refine SQ.normal ?_
  refine AW.region ?_
  refine AO.oo ?_
  refine AO.c ?_
  refine AO.nil ?_
  exact AW.backD [.f, .f, .f, .k, .F, .F, .F, .f, .k, .k, .k, .F, .f, .f, .f, .f] ([some (.box 154 (hdA h)), some (.row 5 1 (ep + 1) (bys (out ++ (if Wide ((layL h).getD i default).2 then dig ((layL h).getD i default).1 ((layL h).getD i default).2.toNat else []))))]) (j) (m0 - 1) (i + 1, ep + 1, out ++ (if Wide ((layL h).getD i default).2 then dig ((layL h).getD i default).1 ((layL h).getD i default).2.toNat else []), j + 1) (by omega) (by (try dsimp only); exact ⟨by omega, by omega, by rw [List.length_append]; omega, by rw [if_pos hla.1, digsP_step (by rw [hl13]; exact hi), hx4, List.append_assoc]⟩) (by (try dsimp only); rw [List.length_append] <;> rfl) (by first | rfl | (simp; done))
 ·
  rw [decide_eq_false_iff_not] at h0
  refine AW.exit ?_
  refine SQ.exit <| AW.out <| LU.exit <| BQ.exit ?_
  refine SQ.normal ?_
  refine AW.seq' ?_
  refine AW.region ?_
  iterate 2 refine AO.c ?_
  refine AO.nil ?_
  refine SQ.normal ?_
  refine AW.ret ?_
  have hfin : out = h.bytes := by
   have : i = 13 := by omega
   rw [hx4, this, List.take_of_length_le (by rw [hl13]; omega), lay_all]
  refine FinO.ret 2 (Gh.refl) rfl ?_ ?_ (.inr rfl)
  · rw [hfin]
  · rw [hfin, bys_length]
theorem hdB_len (h : HdD) : h.bytes.length = 64 := hd_length _ _ _
theorem hdB_bytes (h : HdD) : Bytes h.bytes := hd_bytes _ _ _
theorem hdI_len (h : HdD) : (if h.may then h.bytes else []).length ≤ 64 := by
 split
 · rw [hdB_len]; omega
 · simp
theorem nums_digs : ∀ l : List (Int × Int), (∀ p ∈ l, Wide p.2 ∧ 0 ≤ p.1 ∧ p.1 ≤ 2147483647) → numsF (l.flatMap fun p => [p.1, p.2]) = digsP l := by
 intro l
 induction l with
 | nil => intro _; rfl
 | cons p r ih =>
  intro h
  have hp := h p List.mem_cons_self
  show (if Wide p.2 then dig (IntKind.u64.wrap p.1) p.2.toNat else []) ++ numsF (r.flatMap fun p => [p.1, p.2]) = _
  rw [if_pos hp.1, wu64n hp.2.1 hp.2.2, ih fun q hq => h q (List.mem_cons_of_mem _ hq)]
  rfl
theorem layL_mem {h : HdD} (hm : h.may) : ∀ p ∈ layL h, Wide p.2 ∧ 0 ≤ p.1 ∧ p.1 ≤ 2147483647 := by
 unfold HdD.may MayHd at hm
 intro p hp
 simp only [layL, List.mem_cons, List.not_mem_nil, or_false] at hp
 rcases hp with rfl | rfl | rfl | rfl | rfl | rfl | rfl | rfl | rfl | rfl | rfl | rfl | rfl <;> refine ⟨?_, ?_, ?_⟩ <;> simp only <;> first | decide | omega
@[reducible] def numL (h : HdD) : List Int := [1, 2, 62, 2, 1, 4, 0, 8, 0, 8, h.at_, 8, 0, 4, 64, 2, 0, 2, 0, 2, 64, 2, h.many, 2, h.names, 2]
theorem nums_hd {h : HdD} (hm : h.may) : identL ++ numsF (numL h) = h.bytes := by
 rw [show numL h = (layL h).flatMap fun p => [p.1, p.2] from rfl, nums_digs _ (layL_mem hm), lay_all]
theorem numL_64 {h : HdD} (hh : h.ok) : ∀ x ∈ numL h, I64 x := by
 obtain ⟨q1, q2, q3⟩ := hh
 intro x hx
 simp only [numL, List.mem_cons, List.not_mem_nil, or_false] at hx
 rcases hx with rfl | rfl | rfl | rfl | rfl | rfl | rfl | rfl | rfl | rfl | rfl | rfl | rfl | rfl | rfl | rfl | rfl | rfl | rfl | rfl | rfl | rfl | rfl | rfl | rfl | rfl <;> first | assumption | decide
theorem ehdr_Get (b : List Int) (hB : Bytes b) (hb : b.length ≤ 1000000000000) : A0 Tryz.prog 67 [.rd 1 (bys b)] (fun ret => ret = .tup [.agg (hdA (if HdOk b then hdOf b else zeroHd)), .v (.bool (decide (HdOk b)))]) := by
 have g0 := numG_range hB 40 8
 have g1 := numG_range hB 60 2
 have g2 := numG_range hB 62 2
 simp only [show (2 : Int).toNat = 2 from rfl] at g1 g2
 refine A0.body 57 Tryz.func67 rfl rfl Tryz.ntmps67 fun base n0 => ?_
 refine AW.seq' ?_
 refine AW.region ?_
 refine AO.ww ?_
 refine AO.c ?_
 refine AO.nil ?_
 refine SQ.normal ?_
 refine AW.seq' ?_
 refine AW.region ?_
 refine AO.c ?_
 refine AO.call1 Tryz.func109 rfl rfl (le_GetG b 40 8 hB (by omega) (by decide) (by decide)) ?_
 iterate 5 refine AO.c ?_
 refine AO.nil ?_
 refine SQ.normal ?_
 refine AW.seq' ?_
 refine AW.region ?_
 refine AO.c ?_
 refine AO.call1 Tryz.func109 rfl rfl (le_GetG b 60 2 hB (by omega) (by decide) (by decide)) ?_
 iterate 5 refine AO.c ?_
 refine AO.nil ?_
 refine SQ.normal ?_
 refine AW.seq' ?_
 refine AW.region ?_
 refine AO.c ?_
 refine AO.call1 Tryz.func109 rfl rfl (le_GetG b 62 2 hB (by omega) (by decide) (by decide)) ?_
 iterate 5 refine AO.c ?_
 refine AO.nil ?_
 refine SQ.normal ?_
 refine AW.seq' ?_
 refine AW.seq' ?_
 refine AW.region ?_
 iterate 3 refine AO.c ?_
 iterate 2 refine AO.gx ?_
 iterate 2 refine AO.c ?_
 iterate 2 refine AO.gx ?_
 refine AO.c ?_
 refine AO.nil ?_
 refine SQ.normal ?_
 refine AW.iteB (GL.ev _) (fun h0 => ?_) (fun h0 => ?_)
 ·
  simp only [Bool.or_eq_true, Bool.not_eq_true', decide_eq_false_iff_not, decide_eq_true_eq] at h0
  have hno : ¬ HdOk b := by
   rintro ⟨hl, hm, _⟩
   unfold HdD.may MayHd hdOf at hm
   simp only at hm
   rcases h0 with (h0 | h0) | h0
   · exact h0 ⟨by decide, by decide, by omega⟩
   · exact h0 ⟨by decide, by decide, by omega⟩
   · rw [show numG b 40 8 = numAt b 40 8 from if_pos ⟨by decide, by decide, by omega⟩] at h0; omega
  refine AW.seq' ?_
  refine AW.region ?_
  refine AO.c ?_
  refine AO.sst ?_
  refine AO.c ?_
  refine AO.nil ?_
  refine SQ.normal ?_
  refine AW.ret ?_
  refine SQ.ret ?_
  refine Fin.ret (Gh.refl) noid2 ?_
  show AV.tup _ = AV.tup _
  first | (rw [if_neg hno, decide_eq_false hno]; rfl) | (rw [if_pos hyes, decide_eq_true hyes]; rfl)
 ·
  simp only [Bool.or_eq_false_iff, Bool.not_eq_false', decide_eq_true_eq, decide_eq_false_iff_not] at h0
  have hl : 64 ≤ b.length := by have := h0.1.2.2.2; omega
  rw [show numG b 40 8 = numAt b 40 8 from if_pos ⟨by decide, by decide, by omega⟩] at g0 h0 ⊢
  rw [show numG b 60 2 = numAt b 60 2 from if_pos ⟨by decide, by decide, by omega⟩] at g1 ⊢
  rw [show numG b 62 2 = numAt b 62 2 from if_pos ⟨by decide, by decide, by omega⟩] at g2 ⊢
  refine AW.skip ?_
  refine SQ.normal ?_
  refine AW.seq' ?_
  refine AW.region ?_
  refine AO.c ?_
  refine AO.oo ?_
  refine AO.c ?_
  refine AO.oo ?_
  refine AO.c ?_
  refine AO.oo ?_
  refine AO.c ?_
  refine AO.ww ?_
  refine AO.sst ?_
  refine AO.nil ?_
  refine SQ.normal ?_
  refine AW.seq' ?_
  refine AW.seq' ?_
  refine AW.drawsZ [] (.one 0 false (.one 1 true (.one 2 false (.one 3 false (.one 4 false (.one 6 false (.one 7 false (.one 5 true (.one 8 true (.one 9 false (.one 10 false .nil))))))))))) (by kernel_rfl) rfl (by kernel_rfl) ?_
  refine AZ.c rfl ?_
  refine AZ.call1 rfl Tryz.func110 rfl rfl (ehdr_may (hdOf b)) ?_
  iterate 2 refine AZ.c rfl ?_
  iterate 2 refine AZ.gx rfl ?_
  refine AZ.gxoo rfl ?_
  refine AZ.gxcall1 rfl Tryz.func112 rfl rfl (fun hgd => (ehdr_lay (hdOf b) (by simpa [mayHB_eq] using hgd)).a0 (by rw [bys_length, hdB_len]; decide)) ?_
  refine AZ.gxcall1 rfl Tryz.func111 rfl rfl (fun hgd => bytes_EqualE _ _) ?_
  refine AZ.gx rfl ?_
  refine AZ.c rfl ?_
  refine AZ.done ?_
  refine SQ.normal ?_
  refine AW.iteB (GL.ev _) (fun h1 => ?_) (fun h1 => ?_)
  ·
   simp only [Bool.or_eq_true, Bool.not_eq_true', decide_eq_false_iff_not] at h1
   have hno : ¬ HdOk b := by
    rintro ⟨_, hm, he⟩
    rcases h1 with h1 | h1
    · rw [mayHB_eq, decide_eq_true hm] at h1; cases h1
    · apply h1; rw [← he]; rfl
   refine AW.seq' ?_
   refine AW.region ?_
   refine AO.c ?_
   refine AO.sst ?_
   refine AO.c ?_
   refine AO.nil ?_
   refine SQ.normal ?_
   refine AW.ret ?_
   refine SQ.ret ?_
   refine Fin.ret (Gh.refl) noid2 ?_
   show AV.tup _ = AV.tup _
   first | (rw [if_neg hno, decide_eq_false hno]; rfl) | (rw [if_pos hyes, decide_eq_true hyes]; rfl)
  ·
   simp only [Bool.or_eq_false_iff, Bool.not_eq_false', decide_eq_true_eq] at h1
   have hyes : HdOk b := ⟨hl, by simpa [mayHB_eq] using h1.1, ((strOfNums_inj (hdB_bytes _) (hB.take 64)).1 (show (strOfNums (hdOf b).bytes).toList = (strOfNums (b.take 64)).toList from h1.2)).symm⟩
   refine AW.skip ?_
   refine SQ.normal ?_
   refine AW.seq' ?_
   refine AW.region ?_
   refine AO.c ?_
   refine AO.sst ?_
   refine AO.c ?_
   refine AO.nil ?_
   refine SQ.normal ?_
   refine AW.ret ?_
   refine Fin.ret (Gh.refl) noid2 ?_
   show AV.tup _ = AV.tup _
   first | (rw [if_neg hno, decide_eq_false hno]; rfl) | (rw [if_pos hyes, decide_eq_true hyes]; rfl)
theorem ehdr_Put (h : HdD) : A1 Tryz.prog 108 [.agg (hdA h)] 5 1 (bys (if h.may then h.bytes else [])) := by
 refine A1.body 8 (NIr.h) Tryz.func108 rfl rfl Tryz.ntmps108 fun base n0 => ?_
 refine AW.seq' ?_
 refine AW.region ?_
 refine AO.ww ?_
 refine AO.c ?_
 refine AO.nil ?_
 refine SQ.normal ?_
 refine AW.seq' ?_
 refine AW.seq' ?_
 refine AW.region ?_
 refine AO.c ?_
 refine AO.call1 Tryz.func110 rfl rfl (ehdr_may _) ?_
 refine AO.c ?_
 refine AO.nil ?_
 refine SQ.normal ?_
 refine AW.iteB (GL.ev _) (fun h0 => ?_) (fun h0 => ?_)
 ·
  rw [mayHB_eq, Bool.not_eq_true', decide_eq_false_iff_not] at h0
  refine AW.seq' ?_
  refine AW.region ?_
  refine AO.c ?_
  refine AO.nil ?_
  refine SQ.normal ?_
  refine AW.ret ?_
  refine SQ.ret ?_
  refine FinO.ret 2 (Gh.adoptB 2 5) rfl ?_ ?_ (.inr rfl)
  · rw [if_neg h0]
  · rw [if_neg h0]; rfl
 ·
  rw [mayHB_eq, Bool.not_eq_false', decide_eq_true_eq] at h0
  refine AW.skip ?_
  refine SQ.normal ?_
  refine AW.seq' ?_
  refine AW.region ?_
  refine AO.c ?_
  refine AO.callR Tryz.func112 rfl rfl (ehdr_lay h h0) (by rw [bys_length, hdB_len]) ?_
  refine AO.c ?_
  refine AO.nil ?_
  refine SQ.normal ?_
  refine AW.ret ?_
  refine FinO.ret 2 (Gh.refl) rfl ?_ ?_ (.inr rfl)
  · rw [if_pos h0]
  · rw [if_pos h0, bys_length, hdB_len]
theorem ref_Begin (h : HdD) (hh : h.ok) : A0 Tryz.prog 128 [.v (.int .i64 (h.at_)), .v (.int .i64 (h.many)), .v (.int .i64 (h.names))] (fun ret => ret = .rd 1 (bys (if h.may then h.bytes else []))) := by
 have hh0 := hh.1
 refine A0.body 38 Tryz.func128 rfl rfl Tryz.ntmps128 fun base n0 => ?_
 refine AW.seq' ?_
 refine AW.region ?_
 refine AO.c ?_
 refine AO.nil ?_
 refine SQ.normal ?_
 refine AW.seq' ?_
 refine AW.region ?_
 refine AO.c ?_
 refine AO.call1 Tryz.func160 rfl rfl (ref_fits _ (by assumption)) ?_
 refine AO.c ?_
 refine AO.nil ?_
 refine SQ.normal ?_
 refine AW.seq' ?_
 refine AW.seq' ?_
 refine AW.region ?_
 iterate 3 refine AO.c ?_
 iterate 2 refine AO.gx ?_
 iterate 2 refine AO.c ?_
 iterate 2 refine AO.gx ?_
 iterate 2 refine AO.c ?_
 iterate 2 refine AO.gx ?_
 iterate 2 refine AO.c ?_
 iterate 3 refine AO.gx ?_
 refine AO.c ?_
 refine AO.nil ?_
 refine SQ.normal ?_
 refine AW.iteB (GL.ev _) (fun h0 => ?_) (fun h0 => ?_)
 ·
  simp only [Bool.or_eq_true, Bool.not_eq_true', decide_eq_true_eq] at h0
  have hno : ¬ h.may := by
   intro hm
   unfold HdD.may MayHd at hm
   rcases h0 with (((h0 | h0) | h0) | h0) | h0
   · unfold fitsB at h0; simp at h0; omega
   all_goals omega
  refine AW.seq' ?_
  refine AW.region ?_
  refine AO.c ?_
  refine AO.nil ?_
  refine SQ.normal ?_
  refine AW.ret ?_
  refine SQ.ret ?_
  refine Fin.ret (Gh.nilB 6) noid1 ?_
  rw [if_neg hno]; rfl
 ·
  simp only [Bool.or_eq_false_iff, Bool.not_eq_false', decide_eq_false_iff_not] at h0
  have hm : h.may := by
   have h1 := h0.1.1.1.1
   unfold fitsB at h1
   simp only [Bool.and_eq_true, decide_eq_true_eq] at h1
   unfold HdD.may MayHd
   omega
  have hnu := nums_hd hm
  have h64 := numL_64 hh
  have hnl : (numsF (numL h)).length = 48 := by
   have h1 := congrArg List.length hnu
   rw [List.length_append, hdB_len] at h1
   have h2 : identL.length = 16 := rfl
   omega
  refine AW.skip ?_
  refine SQ.normal ?_
  refine AW.seq' ?_
  refine AW.region ?_
  refine AO.ww ?_
  refine AO.c ?_
  refine AO.nil ?_
  refine SQ.normal ?_
  refine AW.seq' ?_
  refine AW.region ?_
  iterate 4 refine AO.c ?_
  refine AO.rr ?_
  refine AO.eq 35 (av' := .rd 1 ((numL h).map iA)) rfl ?_
  refine AO.call1 Tryz.func161 rfl rfl (ref_Nums _ (by simp) h64) ?_
  refine AO.ww ?_
  refine AO.c ?_
  refine AO.nil ?_
  refine SQ.normal ?_
  refine AW.ret ?_
  refine Fin.ret (Gh.freezeE 6 (li' := h.bytes) (by rw [← hnu]; rfl) (by rw [hdB_len, hnl]) (by rw [hdB_len]; decide)) noid1 ?_
  rw [if_pos hm]; rfl
theorem ref_Begun (b : List Int) (hB : Bytes b) (hb : b.length ≤ 1000000000000) : A0 Tryz.prog 85 [.rd 1 (bys b)] (fun ret => ret = .tup [.v (.int .i64 ((if HdOk b then hdOf b else zeroHd).at_)), .v (.int .i64 ((if HdOk b then hdOf b else zeroHd).many)), .v (.int .i64 ((if HdOk b then hdOf b else zeroHd).names)), .v (.bool (decide (HdOk b)))]) := by
 have g0 := numAt_range hB 40 8
 have g1 := numAt_range hB 60 2
 have g2 := numAt_range hB 62 2
 simp only [show (2 : Int).toNat = 2 from rfl] at g1 g2
 refine A0.body 46 Tryz.func85 rfl rfl Tryz.ntmps85 fun base n0 => ?_
 refine AW.seq' ?_
 refine AW.region ?_
 iterate 4 refine AO.c ?_
 refine AO.nil ?_
 refine SQ.normal ?_
 refine AW.seq' ?_
 refine AW.seq' ?_
 refine AW.region ?_
 iterate 3 refine AO.c ?_
 refine AO.nil ?_
 refine SQ.normal ?_
 refine AW.iteB (GL.ev _) (fun h0 => ?_) (fun h0 => ?_)
 ·
  rw [decide_eq_true_eq] at h0
  have hno : ¬ HdOk b := fun h => by have := h.1; omega
  refine AW.seq' ?_
  refine AW.region ?_
  iterate 4 refine AO.c ?_
  refine AO.nil ?_
  refine SQ.normal ?_
  refine AW.ret ?_
  refine SQ.ret ?_
  refine Fin.ret (Gh.refl) noid4 ?_
  show AV.tup _ = AV.tup _
  first | (rw [if_neg hno, decide_eq_false hno]; rfl) | (rw [if_pos hyes, decide_eq_true hyes]; rfl)
 ·
  rw [decide_eq_false_iff_not] at h0
  have hl : 64 ≤ b.length := by omega
  refine AW.skip ?_
  refine SQ.normal ?_
  refine AW.seq' ?_
  refine AW.region ?_
  refine AO.c ?_
  refine AO.o (by first | omega | (simp; omega)) ?_
  refine AO.eq 14 (av' := .rd 1 (bys ((b.drop 40).take 8))) (by show AV.rd 1 (bys ((b.take 48).drop 40)) = _; rw [List.drop_take]) ?_
  refine AO.call1 Tryz.func91 rfl rfl ((show A0 Tryz.prog 91 [.rd 1 (bys ((b.drop 40).take 8))] (fun r => r = .v (.int .u64 (numAt b 40 8))) from ref_Num _ ((hB.drop _).take _) (by rw [List.length_take]; omega))) ?_
  refine AO.c ?_
  refine AO.nil ?_
  refine SQ.normal ?_
  refine AW.seq' ?_
  refine AW.region ?_
  refine AO.c ?_
  refine AO.o (by first | omega | (simp; omega)) ?_
  refine AO.eq 17 (av' := .rd 1 (bys ((b.drop 60).take 2))) (by show AV.rd 1 (bys ((b.take 62).drop 60)) = _; rw [List.drop_take]) ?_
  refine AO.call1 Tryz.func91 rfl rfl ((show A0 Tryz.prog 91 [.rd 1 (bys ((b.drop 60).take 2))] (fun r => r = .v (.int .u64 (numAt b 60 2))) from ref_Num _ ((hB.drop _).take _) (by rw [List.length_take]; omega))) ?_
  refine AO.oo ?_
  refine AO.c ?_
  refine AO.nil ?_
  refine SQ.normal ?_
  refine AW.seq' ?_
  refine AW.region ?_
  refine AO.c ?_
  refine AO.o (by first | omega | (simp; omega)) ?_
  refine AO.eq 21 (av' := .rd 1 (bys ((b.drop 62).take 2))) (by show AV.rd 1 (bys ((b.take 64).drop 62)) = _; rw [List.drop_take]) ?_
  refine AO.call1 Tryz.func91 rfl rfl ((show A0 Tryz.prog 91 [.rd 1 (bys ((b.drop 62).take 2))] (fun r => r = .v (.int .u64 (numAt b 62 2))) from ref_Num _ ((hB.drop _).take _) (by rw [List.length_take]; omega))) ?_
  refine AO.oo ?_
  refine AO.c ?_
  refine AO.nil ?_
  refine SQ.normal ?_
  refine AW.seq' ?_
  refine AW.seq' ?_
  refine AW.region ?_
  iterate 2 refine AO.c ?_
  refine AO.nil ?_
  refine SQ.normal ?_
  refine AW.iteB (GL.ev _) (fun h1 => ?_) (fun h1 => ?_)
  ·
   rw [decide_eq_true_eq] at h1
   have hno : ¬ HdOk b := by
    rintro ⟨_, hm, _⟩
    unfold HdD.may MayHd hdOf at hm
    simp only at hm
    omega
   refine AW.seq' ?_
   refine AW.region ?_
   iterate 4 refine AO.c ?_
   refine AO.nil ?_
   refine SQ.normal ?_
   refine AW.ret ?_
   refine SQ.ret ?_
   refine Fin.ret (Gh.refl) noid4 ?_
   show AV.tup _ = AV.tup _
   first | (rw [if_neg hno, decide_eq_false hno]; rfl) | (rw [if_pos hyes, decide_eq_true hyes]; rfl)
  ·
   rw [decide_eq_false_iff_not] at h1
   have hok : (hdOf b).ok := by
    unfold HdD.ok hdOf I64
    simp only
    omega
   refine AW.skip ?_
   refine SQ.normal ?_
   refine AW.seq' ?_
   refine AW.region ?_
   refine AO.c ?_
   refine AO.oo ?_
   iterate 2 refine AO.c ?_
   refine AO.call1 Tryz.func128 rfl rfl (ref_Begin (hdOf b) hok) ?_
   refine AO.c ?_
   refine AO.nil ?_
   refine SQ.normal ?_
   refine AW.seq' ?_
   refine AW.seq' ?_
   refine AW.drawsZ [] (.one 0 false (.one 1 false (.one 2 false (.one 3 false (.one 4 false (.one 5 false (.one 6 false (.one 7 false (.one 8 false (.one 9 false (.one 10 false .nil))))))))))) (by kernel_rfl) rfl (by kernel_rfl) ?_
   iterate 4 refine AZ.c rfl ?_
   iterate 3 refine AZ.gx rfl ?_
   refine AZ.gxoo rfl ?_
   iterate 2 refine AZ.gx rfl ?_
   refine AZ.c rfl ?_
   refine AZ.done ?_
   refine SQ.normal ?_
   refine AW.iteB (GL.ev _) (fun h2 => ?_) (fun h2 => ?_)
   ·
    simp only [Bool.or_eq_true, decide_eq_true_eq] at h2
    have hno : ¬ HdOk b := by
     rintro ⟨_, hm, he⟩
     rw [if_pos hm] at h2
     rcases h2 with h2 | h2
     · rw [hdB_len] at h2; omega
     · apply h2; rw [← he]; rfl
    refine AW.seq' ?_
    refine AW.region ?_
    iterate 4 refine AO.c ?_
    refine AO.nil ?_
    refine SQ.normal ?_
    refine AW.ret ?_
    refine SQ.ret ?_
    refine Fin.ret (Gh.refl) noid4 ?_
    show AV.tup _ = AV.tup _
    first | (rw [if_neg hno, decide_eq_false hno]; rfl) | (rw [if_pos hyes, decide_eq_true hyes]; rfl)
   ·
    simp only [Bool.or_eq_false_iff, decide_eq_false_iff_not, Decidable.not_not] at h2
    have hm : (hdOf b).may := by
     rcases Decidable.em (hdOf b).may with h | h
     · exact h
     · exfalso; rw [if_neg h] at h2; exact h2.1 rfl
    rw [if_pos hm] at h2
    have hyes : HdOk b := ⟨hl, hm, ((strOfNums_inj (hdB_bytes _) (hB.take 64)).1 (show (strOfNums (hdOf b).bytes).toList = (strOfNums (b.take 64)).toList from h2.2)).symm⟩
    refine AW.skip ?_
    refine SQ.normal ?_
    refine AW.seq' ?_
    refine AW.region ?_
    refine AO.c ?_
    refine AO.oo ?_
    iterate 6 refine AO.c ?_
    refine AO.nil ?_
    refine SQ.normal ?_
    refine AW.ret ?_
    refine Fin.ret (Gh.refl) noid4 ?_
    show AV.tup _ = AV.tup _
    first | (rw [if_neg hno, decide_eq_false hno]; rfl) | (rw [if_pos hyes, decide_eq_true hyes]; rfl)
end Go.Proofs.YtdniaamhbfadnaaGreat.AL
