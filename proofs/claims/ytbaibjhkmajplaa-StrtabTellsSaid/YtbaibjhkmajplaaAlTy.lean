/- The types of the program, as instances; no condition. -/
import Derived.Test.YtbaibjhkmajplaaAlG
import Derived.Test.YtbaibjhkmajplaaProg
import Derived.KernelRfl
namespace Go.Proofs.Ytbaibjhkmajplaa.AL
open Go Go.RowKit
set_option linter.unusedVariables false
@[reducible] def fl7 : List Field := [⟨"x", 2, 0, false, "", "runtime", 0⟩, ⟨"y", 3, 1, false, "", "runtime", 8⟩, ⟨"signed", 4, 2, false, "", "runtime", 16⟩, ⟨"code", 6, 3, false, "", "runtime", 17⟩]
def fs7 : Array Field := #[{ name := "x", type := 2, offset := 0, embedded := false, tag := "", pkgPath := "runtime", byteOffset := 0 }, { name := "y", type := 3, offset := 1, embedded := false, tag := "", pkgPath := "runtime", byteOffset := 8 }, { name := "signed", type := 4, offset := 2, embedded := false, tag := "", pkgPath := "runtime", byteOffset := 16 }, { name := "code", type := 6, offset := 3, embedded := false, tag := "", pkgPath := "runtime", byteOffset := 17 }]
@[reducible] def fl13 : List Field := [⟨"msg", 9, 0, false, "", "runtime", 0⟩, ⟨"addr", 12, 1, false, "", "runtime", 16⟩]
def fs13 : Array Field := #[{ name := "msg", type := 9, offset := 0, embedded := false, tag := "", pkgPath := "runtime", byteOffset := 0 }, { name := "addr", type := 12, offset := 1, embedded := false, tag := "", pkgPath := "runtime", byteOffset := 16 }]
def fs18 : Array Field := #[{ name := "typ", type := 17, offset := 0, embedded := false, tag := "", pkgPath := "internal/runtime/maps", byteOffset := 0 }]
def fs24 : Array Field := #[{ name := "Name", type := 9, offset := 0, embedded := false, tag := "", pkgPath := "", byteOffset := 0 }, { name := "Type", type := 3, offset := 1, embedded := false, tag := "", pkgPath := "", byteOffset := 16 }, { name := "Flags", type := 3, offset := 2, embedded := false, tag := "", pkgPath := "", byteOffset := 24 }, { name := "Align", type := 3, offset := 3, embedded := false, tag := "", pkgPath := "", byteOffset := 32 }, { name := "Ent", type := 3, offset := 4, embedded := false, tag := "", pkgPath := "", byteOffset := 40 }, { name := "Link", type := 3, offset := 5, embedded := false, tag := "", pkgPath := "", byteOffset := 48 }, { name := "Size", type := 3, offset := 6, embedded := false, tag := "", pkgPath := "", byteOffset := 56 }, { name := "Data", type := 22, offset := 7, embedded := false, tag := "", pkgPath := "", byteOffset := 64 }, { name := "Rels", type := 23, offset := 8, embedded := false, tag := "", pkgPath := "", byteOffset := 88 }]
@[reducible] def fl32 : List Field := [⟨"At", 3, 0, false, "", "", 0⟩, ⟨"Size", 3, 1, false, "", "", 8⟩]
def fs32 : Array Field := #[{ name := "At", type := 3, offset := 0, embedded := false, tag := "", pkgPath := "", byteOffset := 0 }, { name := "Size", type := 3, offset := 1, embedded := false, tag := "", pkgPath := "", byteOffset := 8 }]
@[reducible] def fl69 : List Field := [⟨"Name", 3, 0, false, "", "", 0⟩, ⟨"Bind", 3, 1, false, "", "", 8⟩, ⟨"Type", 3, 2, false, "", "", 16⟩, ⟨"Index", 3, 3, false, "", "", 24⟩, ⟨"Value", 3, 4, false, "", "", 32⟩, ⟨"Size", 3, 5, false, "", "", 40⟩]
def fs69 : Array Field := #[{ name := "Name", type := 3, offset := 0, embedded := false, tag := "", pkgPath := "", byteOffset := 0 }, { name := "Bind", type := 3, offset := 1, embedded := false, tag := "", pkgPath := "", byteOffset := 8 }, { name := "Type", type := 3, offset := 2, embedded := false, tag := "", pkgPath := "", byteOffset := 16 }, { name := "Index", type := 3, offset := 3, embedded := false, tag := "", pkgPath := "", byteOffset := 24 }, { name := "Value", type := 3, offset := 4, embedded := false, tag := "", pkgPath := "", byteOffset := 32 }, { name := "Size", type := 3, offset := 5, embedded := false, tag := "", pkgPath := "", byteOffset := 40 }]
@[reducible] def fl80 : List Field := [⟨"Name", 3, 0, false, "", "", 0⟩, ⟨"Type", 3, 1, false, "", "", 8⟩, ⟨"Flags", 3, 2, false, "", "", 16⟩, ⟨"Addr", 3, 3, false, "", "", 24⟩, ⟨"Off", 3, 4, false, "", "", 32⟩, ⟨"Size", 3, 5, false, "", "", 40⟩, ⟨"Link", 3, 6, false, "", "", 48⟩, ⟨"Info", 3, 7, false, "", "", 56⟩, ⟨"Align", 3, 8, false, "", "", 64⟩, ⟨"Ent", 3, 9, false, "", "", 72⟩]
def fs80 : Array Field := #[{ name := "Name", type := 3, offset := 0, embedded := false, tag := "", pkgPath := "", byteOffset := 0 }, { name := "Type", type := 3, offset := 1, embedded := false, tag := "", pkgPath := "", byteOffset := 8 }, { name := "Flags", type := 3, offset := 2, embedded := false, tag := "", pkgPath := "", byteOffset := 16 }, { name := "Addr", type := 3, offset := 3, embedded := false, tag := "", pkgPath := "", byteOffset := 24 }, { name := "Off", type := 3, offset := 4, embedded := false, tag := "", pkgPath := "", byteOffset := 32 }, { name := "Size", type := 3, offset := 5, embedded := false, tag := "", pkgPath := "", byteOffset := 40 }, { name := "Link", type := 3, offset := 6, embedded := false, tag := "", pkgPath := "", byteOffset := 48 }, { name := "Info", type := 3, offset := 7, embedded := false, tag := "", pkgPath := "", byteOffset := 56 }, { name := "Align", type := 3, offset := 8, embedded := false, tag := "", pkgPath := "", byteOffset := 64 }, { name := "Ent", type := 3, offset := 9, embedded := false, tag := "", pkgPath := "", byteOffset := 72 }]
@[reducible] def fl91 : List Field := [⟨"Off", 3, 0, false, "", "", 0⟩, ⟨"Type", 3, 1, false, "", "", 8⟩, ⟨"Sym", 3, 2, false, "", "", 16⟩, ⟨"Add", 3, 3, false, "", "", 24⟩]
def fs91 : Array Field := #[{ name := "Off", type := 3, offset := 0, embedded := false, tag := "", pkgPath := "", byteOffset := 0 }, { name := "Type", type := 3, offset := 1, embedded := false, tag := "", pkgPath := "", byteOffset := 8 }, { name := "Sym", type := 3, offset := 2, embedded := false, tag := "", pkgPath := "", byteOffset := 16 }, { name := "Add", type := 3, offset := 3, embedded := false, tag := "", pkgPath := "", byteOffset := 24 }]
@[reducible] def fl98 : List Field := [⟨"At", 3, 0, false, "", "", 0⟩, ⟨"Many", 3, 1, false, "", "", 8⟩, ⟨"Names", 3, 2, false, "", "", 16⟩]
def fs98 : Array Field := #[{ name := "At", type := 3, offset := 0, embedded := false, tag := "", pkgPath := "", byteOffset := 0 }, { name := "Many", type := 3, offset := 1, embedded := false, tag := "", pkgPath := "", byteOffset := 8 }, { name := "Names", type := 3, offset := 2, embedded := false, tag := "", pkgPath := "", byteOffset := 16 }]
@[reducible] def fl110 : List Field := [⟨"Name", 9, 0, false, "", "", 0⟩, ⟨"Bind", 3, 1, false, "", "", 16⟩, ⟨"Type", 3, 2, false, "", "", 24⟩, ⟨"Sec", 3, 3, false, "", "", 32⟩, ⟨"Value", 3, 4, false, "", "", 40⟩, ⟨"Size", 3, 5, false, "", "", 48⟩]
def fs110 : Array Field := #[{ name := "Name", type := 9, offset := 0, embedded := false, tag := "", pkgPath := "", byteOffset := 0 }, { name := "Bind", type := 3, offset := 1, embedded := false, tag := "", pkgPath := "", byteOffset := 16 }, { name := "Type", type := 3, offset := 2, embedded := false, tag := "", pkgPath := "", byteOffset := 24 }, { name := "Sec", type := 3, offset := 3, embedded := false, tag := "", pkgPath := "", byteOffset := 32 }, { name := "Value", type := 3, offset := 4, embedded := false, tag := "", pkgPath := "", byteOffset := 40 }, { name := "Size", type := 3, offset := 5, embedded := false, tag := "", pkgPath := "", byteOffset := 48 }]
def fs114 : Array Field := #[{ name := "Secs", type := 109, offset := 0, embedded := false, tag := "", pkgPath := "", byteOffset := 0 }, { name := "Syms", type := 112, offset := 1, embedded := false, tag := "", pkgPath := "", byteOffset := 24 }, { name := "Groups", type := 113, offset := 2, embedded := false, tag := "", pkgPath := "", byteOffset := 48 }, { name := "HasSig", type := 4, offset := 3, embedded := false, tag := "", pkgPath := "", byteOffset := 72 }, { name := "Sig", type := 54, offset := 4, embedded := false, tag := "", pkgPath := "", byteOffset := 80 }]
def fs135 : Array Field := #[{ name := "Sym", type := 3, offset := 0, embedded := false, tag := "", pkgPath := "", byteOffset := 0 }, { name := "Members", type := 54, offset := 1, embedded := false, tag := "", pkgPath := "", byteOffset := 8 }]
@[reducible] def fl141 : List Field := [⟨"v", 38, 0, false, "", "fishplate/ehdr", 0⟩, ⟨"n", 3, 1, false, "", "fishplate/ehdr", 8⟩]
def fs141 : Array Field := #[{ name := "v", type := 38, offset := 0, embedded := false, tag := "", pkgPath := "fishplate/ehdr", byteOffset := 0 }, { name := "n", type := 3, offset := 1, embedded := false, tag := "", pkgPath := "fishplate/ehdr", byteOffset := 8 }]
def fs147 : Array Field := #[{ name := "_interface", type := 17, offset := 0, embedded := false, tag := "", pkgPath := "runtime", byteOffset := 0 }, { name := "concrete", type := 17, offset := 1, embedded := false, tag := "", pkgPath := "runtime", byteOffset := 8 }, { name := "asserted", type := 17, offset := 2, embedded := false, tag := "", pkgPath := "runtime", byteOffset := 16 }, { name := "missingMethod", type := 9, offset := 3, embedded := false, tag := "", pkgPath := "runtime", byteOffset := 24 }]
def fs150 : Array Field := #[{ name := "_", type := 149, offset := 0, embedded := false, tag := "", pkgPath := "runtime", byteOffset := 0 }]
def fs160 : Array Field := #[{ name := "Size_", type := 12, offset := 0, embedded := false, tag := "", pkgPath := "", byteOffset := 0 }, { name := "PtrBytes", type := 12, offset := 1, embedded := false, tag := "", pkgPath := "", byteOffset := 8 }, { name := "Hash", type := 153, offset := 2, embedded := false, tag := "", pkgPath := "", byteOffset := 16 }, { name := "TFlag", type := 154, offset := 3, embedded := false, tag := "", pkgPath := "", byteOffset := 20 }, { name := "Align_", type := 5, offset := 4, embedded := false, tag := "", pkgPath := "", byteOffset := 21 }, { name := "FieldAlign_", type := 5, offset := 5, embedded := false, tag := "", pkgPath := "", byteOffset := 22 }, { name := "Kind_", type := 155, offset := 6, embedded := false, tag := "", pkgPath := "", byteOffset := 23 }, { name := "Equal", type := 156, offset := 7, embedded := false, tag := "", pkgPath := "", byteOffset := 24 }, { name := "GCData", type := 157, offset := 8, embedded := false, tag := "", pkgPath := "", byteOffset := 32 }, { name := "Str", type := 158, offset := 9, embedded := false, tag := "", pkgPath := "", byteOffset := 40 }, { name := "PtrToThis", type := 159, offset := 10, embedded := false, tag := "", pkgPath := "", byteOffset := 44 }]
instance : TU Try.prog 0 (.tuple #[]) := ⟨by kernel_rfl⟩
instance : TI Try.prog 0 (.tuple #[]) 1 0 := ⟨by kernel_rfl⟩
instance : TG Try.prog 0 false 1 := ⟨by kernel_rfl, by kernel_rfl⟩
instance : TU Try.prog 2 (.int .i64) := ⟨by kernel_rfl⟩
instance : TI Try.prog 2 (.int .i64 0) 1 8 := ⟨by kernel_rfl⟩
instance : TG Try.prog 2 false 1 := ⟨by kernel_rfl, by kernel_rfl⟩
instance : TU Try.prog 3 (.int .i64) := ⟨by kernel_rfl⟩
instance : TI Try.prog 3 (.int .i64 0) 1 8 := ⟨by kernel_rfl⟩
instance : TG Try.prog 3 false 1 := ⟨by kernel_rfl, by kernel_rfl⟩
instance : TU Try.prog 4 .bool := ⟨by kernel_rfl⟩
instance : TI Try.prog 4 (.bool false) 1 1 := ⟨by kernel_rfl⟩
instance : TG Try.prog 4 false 1 := ⟨by kernel_rfl, by kernel_rfl⟩
instance : TU Try.prog 5 (.int .u8) := ⟨by kernel_rfl⟩
instance : TI Try.prog 5 (.int .u8 0) 1 1 := ⟨by kernel_rfl⟩
instance : TG Try.prog 5 false 1 := ⟨by kernel_rfl, by kernel_rfl⟩
instance : TU Try.prog 6 (.int .u8) := ⟨by kernel_rfl⟩
instance : TI Try.prog 6 (.int .u8 0) 1 1 := ⟨by kernel_rfl⟩
instance : TG Try.prog 6 false 1 := ⟨by kernel_rfl, by kernel_rfl⟩
instance : TU Try.prog 7 (.struct fs7) := ⟨by kernel_rfl⟩
instance : TI Try.prog 7 (.agg #[.int .i64 0, .int .i64 0, .bool false, .int .u8 0]) 4 24 := ⟨by kernel_rfl⟩
instance : TG Try.prog 7 true 4 := ⟨by kernel_rfl, by kernel_rfl⟩
instance : TB Try.prog 7 [.v (.int .i64 0), .v (.int .i64 0), .v (.bool false), .v (.int .u8 0)] [(0, 1), (1, 1), (2, 1), (3, 1)] := tb_of (fs := fs7) (zs := [.int .i64 0, .int .i64 0, .bool false, .int .u8 0]) (by kernel_rfl) (by kernel_rfl) (by kernel_rfl) rfl (by kernel_rfl)
instance : TF Try.prog 7 0 0 1 false := ⟨⟨fs7, _, by kernel_rfl, rfl, rfl, by kernel_rfl, by decide, by kernel_rfl⟩⟩
instance : TF Try.prog 7 1 1 1 false := ⟨⟨fs7, _, by kernel_rfl, rfl, rfl, by kernel_rfl, by decide, by kernel_rfl⟩⟩
instance : TF Try.prog 7 2 2 1 false := ⟨⟨fs7, _, by kernel_rfl, rfl, rfl, by kernel_rfl, by decide, by kernel_rfl⟩⟩
instance : TF Try.prog 7 3 3 1 false := ⟨⟨fs7, _, by kernel_rfl, rfl, rfl, by kernel_rfl, by decide, by kernel_rfl⟩⟩
instance : TU Try.prog 8 (.struct fs7) := ⟨by kernel_rfl⟩
instance : TI Try.prog 8 (.agg #[.int .i64 0, .int .i64 0, .bool false, .int .u8 0]) 4 24 := ⟨by kernel_rfl⟩
instance : TG Try.prog 8 true 4 := ⟨by kernel_rfl, by kernel_rfl⟩
instance : TB Try.prog 8 [.v (.int .i64 0), .v (.int .i64 0), .v (.bool false), .v (.int .u8 0)] [(0, 1), (1, 1), (2, 1), (3, 1)] := tb_of (fs := fs7) (zs := [.int .i64 0, .int .i64 0, .bool false, .int .u8 0]) (by kernel_rfl) (by kernel_rfl) (by kernel_rfl) rfl (by kernel_rfl)
instance : TF Try.prog 8 0 0 1 false := ⟨⟨fs7, _, by kernel_rfl, rfl, rfl, by kernel_rfl, by decide, by kernel_rfl⟩⟩
instance : TF Try.prog 8 1 1 1 false := ⟨⟨fs7, _, by kernel_rfl, rfl, rfl, by kernel_rfl, by decide, by kernel_rfl⟩⟩
instance : TF Try.prog 8 2 2 1 false := ⟨⟨fs7, _, by kernel_rfl, rfl, rfl, by kernel_rfl, by decide, by kernel_rfl⟩⟩
instance : TF Try.prog 8 3 3 1 false := ⟨⟨fs7, _, by kernel_rfl, rfl, rfl, by kernel_rfl, by decide, by kernel_rfl⟩⟩
instance : TU Try.prog 9 .string := ⟨by kernel_rfl⟩
instance : TI Try.prog 9 (.string { data := #[] }) 1 16 := ⟨by kernel_rfl⟩
instance : TG Try.prog 9 false 1 := ⟨by kernel_rfl, by kernel_rfl⟩
instance : TU Try.prog 10 .string := ⟨by kernel_rfl⟩
instance : TI Try.prog 10 (.string { data := #[] }) 1 16 := ⟨by kernel_rfl⟩
instance : TG Try.prog 10 false 1 := ⟨by kernel_rfl, by kernel_rfl⟩
instance : TU Try.prog 11 .string := ⟨by kernel_rfl⟩
instance : TI Try.prog 11 (.string { data := #[] }) 1 16 := ⟨by kernel_rfl⟩
instance : TG Try.prog 11 false 1 := ⟨by kernel_rfl, by kernel_rfl⟩
instance : TU Try.prog 12 (.int .u64) := ⟨by kernel_rfl⟩
instance : TI Try.prog 12 (.int .u64 0) 1 8 := ⟨by kernel_rfl⟩
instance : TG Try.prog 12 false 1 := ⟨by kernel_rfl, by kernel_rfl⟩
instance : TU Try.prog 13 (.struct fs13) := ⟨by kernel_rfl⟩
instance : TI Try.prog 13 (.agg #[.string { data := #[] }, .int .u64 0]) 2 24 := ⟨by kernel_rfl⟩
instance : TG Try.prog 13 true 2 := ⟨by kernel_rfl, by kernel_rfl⟩
instance : TB Try.prog 13 [.v (.string { data := #[] }), .v (.int .u64 0)] [(0, 1), (1, 1)] := tb_of (fs := fs13) (zs := [.string { data := #[] }, .int .u64 0]) (by kernel_rfl) (by kernel_rfl) (by kernel_rfl) rfl (by kernel_rfl)
instance : TF Try.prog 13 0 0 1 false := ⟨⟨fs13, _, by kernel_rfl, rfl, rfl, by kernel_rfl, by decide, by kernel_rfl⟩⟩
instance : TF Try.prog 13 1 1 1 false := ⟨⟨fs13, _, by kernel_rfl, rfl, rfl, by kernel_rfl, by decide, by kernel_rfl⟩⟩
instance : TU Try.prog 14 (.struct fs13) := ⟨by kernel_rfl⟩
instance : TI Try.prog 14 (.agg #[.string { data := #[] }, .int .u64 0]) 2 24 := ⟨by kernel_rfl⟩
instance : TG Try.prog 14 true 2 := ⟨by kernel_rfl, by kernel_rfl⟩
instance : TB Try.prog 14 [.v (.string { data := #[] }), .v (.int .u64 0)] [(0, 1), (1, 1)] := tb_of (fs := fs13) (zs := [.string { data := #[] }, .int .u64 0]) (by kernel_rfl) (by kernel_rfl) (by kernel_rfl) rfl (by kernel_rfl)
instance : TF Try.prog 14 0 0 1 false := ⟨⟨fs13, _, by kernel_rfl, rfl, rfl, by kernel_rfl, by decide, by kernel_rfl⟩⟩
instance : TF Try.prog 14 1 1 1 false := ⟨⟨fs13, _, by kernel_rfl, rfl, rfl, by kernel_rfl, by decide, by kernel_rfl⟩⟩
instance : TU Try.prog 15 (.pointer 148) := ⟨by kernel_rfl⟩
instance : TI Try.prog 15 (.pointer none) 1 8 := ⟨by kernel_rfl⟩
instance : TG Try.prog 15 false 1 := ⟨by kernel_rfl, by kernel_rfl⟩
instance : TU Try.prog 16 (.pointer 151) := ⟨by kernel_rfl⟩
instance : TI Try.prog 16 (.pointer none) 1 8 := ⟨by kernel_rfl⟩
instance : TG Try.prog 16 false 1 := ⟨by kernel_rfl, by kernel_rfl⟩
instance : TU Try.prog 17 (.pointer 161) := ⟨by kernel_rfl⟩
instance : TI Try.prog 17 (.pointer none) 1 8 := ⟨by kernel_rfl⟩
instance : TG Try.prog 17 false 1 := ⟨by kernel_rfl, by kernel_rfl⟩
instance : TU Try.prog 18 (.struct fs18) := ⟨by kernel_rfl⟩
instance : TI Try.prog 18 (.agg #[.pointer none]) 1 8 := ⟨by kernel_rfl⟩
instance : TG Try.prog 18 true 1 := ⟨by kernel_rfl, by kernel_rfl⟩
instance : TB Try.prog 18 [.v (.pointer none)] [(0, 1)] := tb_of (fs := fs18) (zs := [.pointer none]) (by kernel_rfl) (by kernel_rfl) (by kernel_rfl) rfl (by kernel_rfl)
instance : TF Try.prog 18 0 0 1 false := ⟨⟨fs18, _, by kernel_rfl, rfl, rfl, by kernel_rfl, by decide, by kernel_rfl⟩⟩
instance : TU Try.prog 19 (.struct fs18) := ⟨by kernel_rfl⟩
instance : TI Try.prog 19 (.agg #[.pointer none]) 1 8 := ⟨by kernel_rfl⟩
instance : TG Try.prog 19 true 1 := ⟨by kernel_rfl, by kernel_rfl⟩
instance : TB Try.prog 19 [.v (.pointer none)] [(0, 1)] := tb_of (fs := fs18) (zs := [.pointer none]) (by kernel_rfl) (by kernel_rfl) (by kernel_rfl) rfl (by kernel_rfl)
instance : TF Try.prog 19 0 0 1 false := ⟨⟨fs18, _, by kernel_rfl, rfl, rfl, by kernel_rfl, by decide, by kernel_rfl⟩⟩
instance : TU Try.prog 21 (.int .i32) := ⟨by kernel_rfl⟩
instance : TI Try.prog 21 (.int .i32 0) 1 4 := ⟨by kernel_rfl⟩
instance : TG Try.prog 21 false 1 := ⟨by kernel_rfl, by kernel_rfl⟩
instance : TU Try.prog 22 (.slice 5) := ⟨by kernel_rfl⟩
instance : TI Try.prog 22 (.slice none 0 0) 1 24 := ⟨by kernel_rfl⟩
instance : TG Try.prog 22 false 1 := ⟨by kernel_rfl, by kernel_rfl⟩
instance : TU Try.prog 23 (.slice 92) := ⟨by kernel_rfl⟩
instance : TI Try.prog 23 (.slice none 0 0) 1 24 := ⟨by kernel_rfl⟩
instance : TG Try.prog 23 false 1 := ⟨by kernel_rfl, by kernel_rfl⟩
instance : TU Try.prog 24 (.struct fs24) := ⟨by kernel_rfl⟩
instance : TI Try.prog 24 (.agg #[.string { data := #[] }, .int .i64 0, .int .i64 0, .int .i64 0, .int .i64 0, .int .i64 0, .int .i64 0, .slice none 0 0, .slice none 0 0]) 9 112 := ⟨by kernel_rfl⟩
instance : TG Try.prog 24 true 9 := ⟨by kernel_rfl, by kernel_rfl⟩
instance : TB Try.prog 24 [.v (.string { data := #[] }), .v (.int .i64 0), .v (.int .i64 0), .v (.int .i64 0), .v (.int .i64 0), .v (.int .i64 0), .v (.int .i64 0), .v (.slice none 0 0), .v (.slice none 0 0)] [(0, 1), (1, 1), (2, 1), (3, 1), (4, 1), (5, 1), (6, 1), (7, 1), (8, 1)] := tb_of (fs := fs24) (zs := [.string { data := #[] }, .int .i64 0, .int .i64 0, .int .i64 0, .int .i64 0, .int .i64 0, .int .i64 0, .slice none 0 0, .slice none 0 0]) (by kernel_rfl) (by kernel_rfl) (by kernel_rfl) rfl (by kernel_rfl)
instance : TF Try.prog 24 0 0 1 false := ⟨⟨fs24, _, by kernel_rfl, rfl, rfl, by kernel_rfl, by decide, by kernel_rfl⟩⟩
instance : TF Try.prog 24 1 1 1 false := ⟨⟨fs24, _, by kernel_rfl, rfl, rfl, by kernel_rfl, by decide, by kernel_rfl⟩⟩
instance : TF Try.prog 24 2 2 1 false := ⟨⟨fs24, _, by kernel_rfl, rfl, rfl, by kernel_rfl, by decide, by kernel_rfl⟩⟩
instance : TF Try.prog 24 3 3 1 false := ⟨⟨fs24, _, by kernel_rfl, rfl, rfl, by kernel_rfl, by decide, by kernel_rfl⟩⟩
instance : TF Try.prog 24 4 4 1 false := ⟨⟨fs24, _, by kernel_rfl, rfl, rfl, by kernel_rfl, by decide, by kernel_rfl⟩⟩
instance : TF Try.prog 24 5 5 1 false := ⟨⟨fs24, _, by kernel_rfl, rfl, rfl, by kernel_rfl, by decide, by kernel_rfl⟩⟩
instance : TF Try.prog 24 6 6 1 false := ⟨⟨fs24, _, by kernel_rfl, rfl, rfl, by kernel_rfl, by decide, by kernel_rfl⟩⟩
instance : TF Try.prog 24 7 7 1 false := ⟨⟨fs24, _, by kernel_rfl, rfl, rfl, by kernel_rfl, by decide, by kernel_rfl⟩⟩
instance : TF Try.prog 24 8 8 1 false := ⟨⟨fs24, _, by kernel_rfl, rfl, rfl, by kernel_rfl, by decide, by kernel_rfl⟩⟩
instance : TU Try.prog 25 (.struct fs24) := ⟨by kernel_rfl⟩
instance : TI Try.prog 25 (.agg #[.string { data := #[] }, .int .i64 0, .int .i64 0, .int .i64 0, .int .i64 0, .int .i64 0, .int .i64 0, .slice none 0 0, .slice none 0 0]) 9 112 := ⟨by kernel_rfl⟩
instance : TG Try.prog 25 true 9 := ⟨by kernel_rfl, by kernel_rfl⟩
instance : TB Try.prog 25 [.v (.string { data := #[] }), .v (.int .i64 0), .v (.int .i64 0), .v (.int .i64 0), .v (.int .i64 0), .v (.int .i64 0), .v (.int .i64 0), .v (.slice none 0 0), .v (.slice none 0 0)] [(0, 1), (1, 1), (2, 1), (3, 1), (4, 1), (5, 1), (6, 1), (7, 1), (8, 1)] := tb_of (fs := fs24) (zs := [.string { data := #[] }, .int .i64 0, .int .i64 0, .int .i64 0, .int .i64 0, .int .i64 0, .int .i64 0, .slice none 0 0, .slice none 0 0]) (by kernel_rfl) (by kernel_rfl) (by kernel_rfl) rfl (by kernel_rfl)
instance : TF Try.prog 25 0 0 1 false := ⟨⟨fs24, _, by kernel_rfl, rfl, rfl, by kernel_rfl, by decide, by kernel_rfl⟩⟩
instance : TF Try.prog 25 1 1 1 false := ⟨⟨fs24, _, by kernel_rfl, rfl, rfl, by kernel_rfl, by decide, by kernel_rfl⟩⟩
instance : TF Try.prog 25 2 2 1 false := ⟨⟨fs24, _, by kernel_rfl, rfl, rfl, by kernel_rfl, by decide, by kernel_rfl⟩⟩
instance : TF Try.prog 25 3 3 1 false := ⟨⟨fs24, _, by kernel_rfl, rfl, rfl, by kernel_rfl, by decide, by kernel_rfl⟩⟩
instance : TF Try.prog 25 4 4 1 false := ⟨⟨fs24, _, by kernel_rfl, rfl, rfl, by kernel_rfl, by decide, by kernel_rfl⟩⟩
instance : TF Try.prog 25 5 5 1 false := ⟨⟨fs24, _, by kernel_rfl, rfl, rfl, by kernel_rfl, by decide, by kernel_rfl⟩⟩
instance : TF Try.prog 25 6 6 1 false := ⟨⟨fs24, _, by kernel_rfl, rfl, rfl, by kernel_rfl, by decide, by kernel_rfl⟩⟩
instance : TF Try.prog 25 7 7 1 false := ⟨⟨fs24, _, by kernel_rfl, rfl, rfl, by kernel_rfl, by decide, by kernel_rfl⟩⟩
instance : TF Try.prog 25 8 8 1 false := ⟨⟨fs24, _, by kernel_rfl, rfl, rfl, by kernel_rfl, by decide, by kernel_rfl⟩⟩
instance : TU Try.prog 28 (.slice 33) := ⟨by kernel_rfl⟩
instance : TI Try.prog 28 (.slice none 0 0) 1 24 := ⟨by kernel_rfl⟩
instance : TG Try.prog 28 false 1 := ⟨by kernel_rfl, by kernel_rfl⟩
instance : TU Try.prog 30 (.slice 34) := ⟨by kernel_rfl⟩
instance : TI Try.prog 30 (.slice none 0 0) 1 24 := ⟨by kernel_rfl⟩
instance : TG Try.prog 30 false 1 := ⟨by kernel_rfl, by kernel_rfl⟩
instance : TU Try.prog 32 (.struct fs32) := ⟨by kernel_rfl⟩
instance : TI Try.prog 32 (.agg #[.int .i64 0, .int .i64 0]) 2 16 := ⟨by kernel_rfl⟩
instance : TG Try.prog 32 true 2 := ⟨by kernel_rfl, by kernel_rfl⟩
instance : TB Try.prog 32 [.v (.int .i64 0), .v (.int .i64 0)] [(0, 1), (1, 1)] := tb_of (fs := fs32) (zs := [.int .i64 0, .int .i64 0]) (by kernel_rfl) (by kernel_rfl) (by kernel_rfl) rfl (by kernel_rfl)
instance : TF Try.prog 32 0 0 1 false := ⟨⟨fs32, _, by kernel_rfl, rfl, rfl, by kernel_rfl, by decide, by kernel_rfl⟩⟩
instance : TF Try.prog 32 1 1 1 false := ⟨⟨fs32, _, by kernel_rfl, rfl, rfl, by kernel_rfl, by decide, by kernel_rfl⟩⟩
instance : TU Try.prog 33 (.struct fs32) := ⟨by kernel_rfl⟩
instance : TI Try.prog 33 (.agg #[.int .i64 0, .int .i64 0]) 2 16 := ⟨by kernel_rfl⟩
instance : TG Try.prog 33 true 2 := ⟨by kernel_rfl, by kernel_rfl⟩
instance : SFL Try.prog 33 fl32 := ⟨fs32, by kernel_rfl, rfl, by kernel_rfl, by kernel_rfl, by kernel_rfl⟩
instance : TB Try.prog 33 [.v (.int .i64 0), .v (.int .i64 0)] [(0, 1), (1, 1)] := tb_of (fs := fs32) (zs := [.int .i64 0, .int .i64 0]) (by kernel_rfl) (by kernel_rfl) (by kernel_rfl) rfl (by kernel_rfl)
instance : TF Try.prog 33 0 0 1 false := ⟨⟨fs32, _, by kernel_rfl, rfl, rfl, by kernel_rfl, by decide, by kernel_rfl⟩⟩
instance : TF Try.prog 33 1 1 1 false := ⟨⟨fs32, _, by kernel_rfl, rfl, rfl, by kernel_rfl, by decide, by kernel_rfl⟩⟩
instance : TU Try.prog 34 (.struct fs32) := ⟨by kernel_rfl⟩
instance : TI Try.prog 34 (.agg #[.int .i64 0, .int .i64 0]) 2 16 := ⟨by kernel_rfl⟩
instance : TG Try.prog 34 true 2 := ⟨by kernel_rfl, by kernel_rfl⟩
instance : TB Try.prog 34 [.v (.int .i64 0), .v (.int .i64 0)] [(0, 1), (1, 1)] := tb_of (fs := fs32) (zs := [.int .i64 0, .int .i64 0]) (by kernel_rfl) (by kernel_rfl) (by kernel_rfl) rfl (by kernel_rfl)
instance : TF Try.prog 34 0 0 1 false := ⟨⟨fs32, _, by kernel_rfl, rfl, rfl, by kernel_rfl, by decide, by kernel_rfl⟩⟩
instance : TF Try.prog 34 1 1 1 false := ⟨⟨fs32, _, by kernel_rfl, rfl, rfl, by kernel_rfl, by decide, by kernel_rfl⟩⟩
instance : TU Try.prog 38 (.int .u64) := ⟨by kernel_rfl⟩
instance : TI Try.prog 38 (.int .u64 0) 1 8 := ⟨by kernel_rfl⟩
instance : TG Try.prog 38 false 1 := ⟨by kernel_rfl, by kernel_rfl⟩
instance : TU Try.prog 39 (.tuple #[38, 4]) := ⟨by kernel_rfl⟩
instance : TI Try.prog 39 (.tuple #[.int .u64 0, .bool false]) 1 0 := ⟨by kernel_rfl⟩
instance : TG Try.prog 39 false 1 := ⟨by kernel_rfl, by kernel_rfl⟩
instance : TU Try.prog 45 (.slice 9) := ⟨by kernel_rfl⟩
instance : TI Try.prog 45 (.slice none 0 0) 1 24 := ⟨by kernel_rfl⟩
instance : TG Try.prog 45 false 1 := ⟨by kernel_rfl, by kernel_rfl⟩
instance : TU Try.prog 50 (.tuple #[9, 4]) := ⟨by kernel_rfl⟩
instance : TI Try.prog 50 (.tuple #[.string { data := #[] }, .bool false]) 1 0 := ⟨by kernel_rfl⟩
instance : TG Try.prog 50 false 1 := ⟨by kernel_rfl, by kernel_rfl⟩
instance : TU Try.prog 54 (.slice 3) := ⟨by kernel_rfl⟩
instance : TI Try.prog 54 (.slice none 0 0) 1 24 := ⟨by kernel_rfl⟩
instance : TG Try.prog 54 false 1 := ⟨by kernel_rfl, by kernel_rfl⟩
instance : TU Try.prog 55 (.tuple #[22, 54]) := ⟨by kernel_rfl⟩
instance : TI Try.prog 55 (.tuple #[.slice none 0 0, .slice none 0 0]) 1 0 := ⟨by kernel_rfl⟩
instance : TG Try.prog 55 false 1 := ⟨by kernel_rfl, by kernel_rfl⟩
instance : TU Try.prog 60 (.tuple #[3, 3, 4]) := ⟨by kernel_rfl⟩
instance : TI Try.prog 60 (.tuple #[.int .i64 0, .int .i64 0, .bool false]) 1 0 := ⟨by kernel_rfl⟩
instance : TG Try.prog 60 false 1 := ⟨by kernel_rfl, by kernel_rfl⟩
instance : TU Try.prog 62 (.tuple #[3, 3]) := ⟨by kernel_rfl⟩
instance : TI Try.prog 62 (.tuple #[.int .i64 0, .int .i64 0]) 1 0 := ⟨by kernel_rfl⟩
instance : TG Try.prog 62 false 1 := ⟨by kernel_rfl, by kernel_rfl⟩
instance : TU Try.prog 64 (.tuple #[54, 4]) := ⟨by kernel_rfl⟩
instance : TI Try.prog 64 (.tuple #[.slice none 0 0, .bool false]) 1 0 := ⟨by kernel_rfl⟩
instance : TG Try.prog 64 false 1 := ⟨by kernel_rfl, by kernel_rfl⟩
instance : TU Try.prog 69 (.struct fs69) := ⟨by kernel_rfl⟩
instance : TI Try.prog 69 (.agg #[.int .i64 0, .int .i64 0, .int .i64 0, .int .i64 0, .int .i64 0, .int .i64 0]) 6 48 := ⟨by kernel_rfl⟩
instance : TG Try.prog 69 true 6 := ⟨by kernel_rfl, by kernel_rfl⟩
instance : TB Try.prog 69 [.v (.int .i64 0), .v (.int .i64 0), .v (.int .i64 0), .v (.int .i64 0), .v (.int .i64 0), .v (.int .i64 0)] [(0, 1), (1, 1), (2, 1), (3, 1), (4, 1), (5, 1)] := tb_of (fs := fs69) (zs := [.int .i64 0, .int .i64 0, .int .i64 0, .int .i64 0, .int .i64 0, .int .i64 0]) (by kernel_rfl) (by kernel_rfl) (by kernel_rfl) rfl (by kernel_rfl)
instance : TF Try.prog 69 0 0 1 false := ⟨⟨fs69, _, by kernel_rfl, rfl, rfl, by kernel_rfl, by decide, by kernel_rfl⟩⟩
instance : TF Try.prog 69 1 1 1 false := ⟨⟨fs69, _, by kernel_rfl, rfl, rfl, by kernel_rfl, by decide, by kernel_rfl⟩⟩
instance : TF Try.prog 69 2 2 1 false := ⟨⟨fs69, _, by kernel_rfl, rfl, rfl, by kernel_rfl, by decide, by kernel_rfl⟩⟩
instance : TF Try.prog 69 3 3 1 false := ⟨⟨fs69, _, by kernel_rfl, rfl, rfl, by kernel_rfl, by decide, by kernel_rfl⟩⟩
instance : TF Try.prog 69 4 4 1 false := ⟨⟨fs69, _, by kernel_rfl, rfl, rfl, by kernel_rfl, by decide, by kernel_rfl⟩⟩
instance : TF Try.prog 69 5 5 1 false := ⟨⟨fs69, _, by kernel_rfl, rfl, rfl, by kernel_rfl, by decide, by kernel_rfl⟩⟩
instance : TU Try.prog 70 (.struct fs69) := ⟨by kernel_rfl⟩
instance : TI Try.prog 70 (.agg #[.int .i64 0, .int .i64 0, .int .i64 0, .int .i64 0, .int .i64 0, .int .i64 0]) 6 48 := ⟨by kernel_rfl⟩
instance : TG Try.prog 70 true 6 := ⟨by kernel_rfl, by kernel_rfl⟩
instance : SFL Try.prog 70 fl69 := ⟨fs69, by kernel_rfl, rfl, by kernel_rfl, by kernel_rfl, by kernel_rfl⟩
instance : TB Try.prog 70 [.v (.int .i64 0), .v (.int .i64 0), .v (.int .i64 0), .v (.int .i64 0), .v (.int .i64 0), .v (.int .i64 0)] [(0, 1), (1, 1), (2, 1), (3, 1), (4, 1), (5, 1)] := tb_of (fs := fs69) (zs := [.int .i64 0, .int .i64 0, .int .i64 0, .int .i64 0, .int .i64 0, .int .i64 0]) (by kernel_rfl) (by kernel_rfl) (by kernel_rfl) rfl (by kernel_rfl)
instance : TF Try.prog 70 0 0 1 false := ⟨⟨fs69, _, by kernel_rfl, rfl, rfl, by kernel_rfl, by decide, by kernel_rfl⟩⟩
instance : TF Try.prog 70 1 1 1 false := ⟨⟨fs69, _, by kernel_rfl, rfl, rfl, by kernel_rfl, by decide, by kernel_rfl⟩⟩
instance : TF Try.prog 70 2 2 1 false := ⟨⟨fs69, _, by kernel_rfl, rfl, rfl, by kernel_rfl, by decide, by kernel_rfl⟩⟩
instance : TF Try.prog 70 3 3 1 false := ⟨⟨fs69, _, by kernel_rfl, rfl, rfl, by kernel_rfl, by decide, by kernel_rfl⟩⟩
instance : TF Try.prog 70 4 4 1 false := ⟨⟨fs69, _, by kernel_rfl, rfl, rfl, by kernel_rfl, by decide, by kernel_rfl⟩⟩
instance : TF Try.prog 70 5 5 1 false := ⟨⟨fs69, _, by kernel_rfl, rfl, rfl, by kernel_rfl, by decide, by kernel_rfl⟩⟩
instance : TU Try.prog 71 (.tuple #[70, 4]) := ⟨by kernel_rfl⟩
instance : TI Try.prog 71 (.tuple #[.agg #[.int .i64 0, .int .i64 0, .int .i64 0, .int .i64 0, .int .i64 0, .int .i64 0], .bool false]) 1 0 := ⟨by kernel_rfl⟩
instance : TG Try.prog 71 false 1 := ⟨by kernel_rfl, by kernel_rfl⟩
instance : TU Try.prog 73 (.struct fs69) := ⟨by kernel_rfl⟩
instance : TI Try.prog 73 (.agg #[.int .i64 0, .int .i64 0, .int .i64 0, .int .i64 0, .int .i64 0, .int .i64 0]) 6 48 := ⟨by kernel_rfl⟩
instance : TG Try.prog 73 true 6 := ⟨by kernel_rfl, by kernel_rfl⟩
instance : SFL Try.prog 73 fl69 := ⟨fs69, by kernel_rfl, rfl, by kernel_rfl, by kernel_rfl, by kernel_rfl⟩
instance : TB Try.prog 73 [.v (.int .i64 0), .v (.int .i64 0), .v (.int .i64 0), .v (.int .i64 0), .v (.int .i64 0), .v (.int .i64 0)] [(0, 1), (1, 1), (2, 1), (3, 1), (4, 1), (5, 1)] := tb_of (fs := fs69) (zs := [.int .i64 0, .int .i64 0, .int .i64 0, .int .i64 0, .int .i64 0, .int .i64 0]) (by kernel_rfl) (by kernel_rfl) (by kernel_rfl) rfl (by kernel_rfl)
instance : TF Try.prog 73 0 0 1 false := ⟨⟨fs69, _, by kernel_rfl, rfl, rfl, by kernel_rfl, by decide, by kernel_rfl⟩⟩
instance : TF Try.prog 73 1 1 1 false := ⟨⟨fs69, _, by kernel_rfl, rfl, rfl, by kernel_rfl, by decide, by kernel_rfl⟩⟩
instance : TF Try.prog 73 2 2 1 false := ⟨⟨fs69, _, by kernel_rfl, rfl, rfl, by kernel_rfl, by decide, by kernel_rfl⟩⟩
instance : TF Try.prog 73 3 3 1 false := ⟨⟨fs69, _, by kernel_rfl, rfl, rfl, by kernel_rfl, by decide, by kernel_rfl⟩⟩
instance : TF Try.prog 73 4 4 1 false := ⟨⟨fs69, _, by kernel_rfl, rfl, rfl, by kernel_rfl, by decide, by kernel_rfl⟩⟩
instance : TF Try.prog 73 5 5 1 false := ⟨⟨fs69, _, by kernel_rfl, rfl, rfl, by kernel_rfl, by decide, by kernel_rfl⟩⟩
instance : TU Try.prog 74 (.tuple #[73, 4]) := ⟨by kernel_rfl⟩
instance : TI Try.prog 74 (.tuple #[.agg #[.int .i64 0, .int .i64 0, .int .i64 0, .int .i64 0, .int .i64 0, .int .i64 0], .bool false]) 1 0 := ⟨by kernel_rfl⟩
instance : TG Try.prog 74 false 1 := ⟨by kernel_rfl, by kernel_rfl⟩
instance : TU Try.prog 80 (.struct fs80) := ⟨by kernel_rfl⟩
instance : TI Try.prog 80 (.agg #[.int .i64 0, .int .i64 0, .int .i64 0, .int .i64 0, .int .i64 0, .int .i64 0, .int .i64 0, .int .i64 0, .int .i64 0, .int .i64 0]) 10 80 := ⟨by kernel_rfl⟩
instance : TG Try.prog 80 true 10 := ⟨by kernel_rfl, by kernel_rfl⟩
instance : TB Try.prog 80 [.v (.int .i64 0), .v (.int .i64 0), .v (.int .i64 0), .v (.int .i64 0), .v (.int .i64 0), .v (.int .i64 0), .v (.int .i64 0), .v (.int .i64 0), .v (.int .i64 0), .v (.int .i64 0)] [(0, 1), (1, 1), (2, 1), (3, 1), (4, 1), (5, 1), (6, 1), (7, 1), (8, 1), (9, 1)] := tb_of (fs := fs80) (zs := [.int .i64 0, .int .i64 0, .int .i64 0, .int .i64 0, .int .i64 0, .int .i64 0, .int .i64 0, .int .i64 0, .int .i64 0, .int .i64 0]) (by kernel_rfl) (by kernel_rfl) (by kernel_rfl) rfl (by kernel_rfl)
instance : TF Try.prog 80 0 0 1 false := ⟨⟨fs80, _, by kernel_rfl, rfl, rfl, by kernel_rfl, by decide, by kernel_rfl⟩⟩
instance : TF Try.prog 80 1 1 1 false := ⟨⟨fs80, _, by kernel_rfl, rfl, rfl, by kernel_rfl, by decide, by kernel_rfl⟩⟩
instance : TF Try.prog 80 2 2 1 false := ⟨⟨fs80, _, by kernel_rfl, rfl, rfl, by kernel_rfl, by decide, by kernel_rfl⟩⟩
instance : TF Try.prog 80 3 3 1 false := ⟨⟨fs80, _, by kernel_rfl, rfl, rfl, by kernel_rfl, by decide, by kernel_rfl⟩⟩
instance : TF Try.prog 80 4 4 1 false := ⟨⟨fs80, _, by kernel_rfl, rfl, rfl, by kernel_rfl, by decide, by kernel_rfl⟩⟩
instance : TF Try.prog 80 5 5 1 false := ⟨⟨fs80, _, by kernel_rfl, rfl, rfl, by kernel_rfl, by decide, by kernel_rfl⟩⟩
instance : TF Try.prog 80 6 6 1 false := ⟨⟨fs80, _, by kernel_rfl, rfl, rfl, by kernel_rfl, by decide, by kernel_rfl⟩⟩
instance : TF Try.prog 80 7 7 1 false := ⟨⟨fs80, _, by kernel_rfl, rfl, rfl, by kernel_rfl, by decide, by kernel_rfl⟩⟩
instance : TF Try.prog 80 8 8 1 false := ⟨⟨fs80, _, by kernel_rfl, rfl, rfl, by kernel_rfl, by decide, by kernel_rfl⟩⟩
instance : TF Try.prog 80 9 9 1 false := ⟨⟨fs80, _, by kernel_rfl, rfl, rfl, by kernel_rfl, by decide, by kernel_rfl⟩⟩
instance : TU Try.prog 81 (.struct fs80) := ⟨by kernel_rfl⟩
instance : TI Try.prog 81 (.agg #[.int .i64 0, .int .i64 0, .int .i64 0, .int .i64 0, .int .i64 0, .int .i64 0, .int .i64 0, .int .i64 0, .int .i64 0, .int .i64 0]) 10 80 := ⟨by kernel_rfl⟩
instance : TG Try.prog 81 true 10 := ⟨by kernel_rfl, by kernel_rfl⟩
instance : SFL Try.prog 81 fl80 := ⟨fs80, by kernel_rfl, rfl, by kernel_rfl, by kernel_rfl, by kernel_rfl⟩
instance : TB Try.prog 81 [.v (.int .i64 0), .v (.int .i64 0), .v (.int .i64 0), .v (.int .i64 0), .v (.int .i64 0), .v (.int .i64 0), .v (.int .i64 0), .v (.int .i64 0), .v (.int .i64 0), .v (.int .i64 0)] [(0, 1), (1, 1), (2, 1), (3, 1), (4, 1), (5, 1), (6, 1), (7, 1), (8, 1), (9, 1)] := tb_of (fs := fs80) (zs := [.int .i64 0, .int .i64 0, .int .i64 0, .int .i64 0, .int .i64 0, .int .i64 0, .int .i64 0, .int .i64 0, .int .i64 0, .int .i64 0]) (by kernel_rfl) (by kernel_rfl) (by kernel_rfl) rfl (by kernel_rfl)
instance : TF Try.prog 81 0 0 1 false := ⟨⟨fs80, _, by kernel_rfl, rfl, rfl, by kernel_rfl, by decide, by kernel_rfl⟩⟩
instance : TF Try.prog 81 1 1 1 false := ⟨⟨fs80, _, by kernel_rfl, rfl, rfl, by kernel_rfl, by decide, by kernel_rfl⟩⟩
instance : TF Try.prog 81 2 2 1 false := ⟨⟨fs80, _, by kernel_rfl, rfl, rfl, by kernel_rfl, by decide, by kernel_rfl⟩⟩
instance : TF Try.prog 81 3 3 1 false := ⟨⟨fs80, _, by kernel_rfl, rfl, rfl, by kernel_rfl, by decide, by kernel_rfl⟩⟩
instance : TF Try.prog 81 4 4 1 false := ⟨⟨fs80, _, by kernel_rfl, rfl, rfl, by kernel_rfl, by decide, by kernel_rfl⟩⟩
instance : TF Try.prog 81 5 5 1 false := ⟨⟨fs80, _, by kernel_rfl, rfl, rfl, by kernel_rfl, by decide, by kernel_rfl⟩⟩
instance : TF Try.prog 81 6 6 1 false := ⟨⟨fs80, _, by kernel_rfl, rfl, rfl, by kernel_rfl, by decide, by kernel_rfl⟩⟩
instance : TF Try.prog 81 7 7 1 false := ⟨⟨fs80, _, by kernel_rfl, rfl, rfl, by kernel_rfl, by decide, by kernel_rfl⟩⟩
instance : TF Try.prog 81 8 8 1 false := ⟨⟨fs80, _, by kernel_rfl, rfl, rfl, by kernel_rfl, by decide, by kernel_rfl⟩⟩
instance : TF Try.prog 81 9 9 1 false := ⟨⟨fs80, _, by kernel_rfl, rfl, rfl, by kernel_rfl, by decide, by kernel_rfl⟩⟩
instance : TU Try.prog 82 (.tuple #[81, 4]) := ⟨by kernel_rfl⟩
instance : TI Try.prog 82 (.tuple #[.agg #[.int .i64 0, .int .i64 0, .int .i64 0, .int .i64 0, .int .i64 0, .int .i64 0, .int .i64 0, .int .i64 0, .int .i64 0, .int .i64 0], .bool false]) 1 0 := ⟨by kernel_rfl⟩
instance : TG Try.prog 82 false 1 := ⟨by kernel_rfl, by kernel_rfl⟩
instance : TU Try.prog 84 (.struct fs80) := ⟨by kernel_rfl⟩
instance : TI Try.prog 84 (.agg #[.int .i64 0, .int .i64 0, .int .i64 0, .int .i64 0, .int .i64 0, .int .i64 0, .int .i64 0, .int .i64 0, .int .i64 0, .int .i64 0]) 10 80 := ⟨by kernel_rfl⟩
instance : TG Try.prog 84 true 10 := ⟨by kernel_rfl, by kernel_rfl⟩
instance : SFL Try.prog 84 fl80 := ⟨fs80, by kernel_rfl, rfl, by kernel_rfl, by kernel_rfl, by kernel_rfl⟩
instance : TB Try.prog 84 [.v (.int .i64 0), .v (.int .i64 0), .v (.int .i64 0), .v (.int .i64 0), .v (.int .i64 0), .v (.int .i64 0), .v (.int .i64 0), .v (.int .i64 0), .v (.int .i64 0), .v (.int .i64 0)] [(0, 1), (1, 1), (2, 1), (3, 1), (4, 1), (5, 1), (6, 1), (7, 1), (8, 1), (9, 1)] := tb_of (fs := fs80) (zs := [.int .i64 0, .int .i64 0, .int .i64 0, .int .i64 0, .int .i64 0, .int .i64 0, .int .i64 0, .int .i64 0, .int .i64 0, .int .i64 0]) (by kernel_rfl) (by kernel_rfl) (by kernel_rfl) rfl (by kernel_rfl)
instance : TF Try.prog 84 0 0 1 false := ⟨⟨fs80, _, by kernel_rfl, rfl, rfl, by kernel_rfl, by decide, by kernel_rfl⟩⟩
instance : TF Try.prog 84 1 1 1 false := ⟨⟨fs80, _, by kernel_rfl, rfl, rfl, by kernel_rfl, by decide, by kernel_rfl⟩⟩
instance : TF Try.prog 84 2 2 1 false := ⟨⟨fs80, _, by kernel_rfl, rfl, rfl, by kernel_rfl, by decide, by kernel_rfl⟩⟩
instance : TF Try.prog 84 3 3 1 false := ⟨⟨fs80, _, by kernel_rfl, rfl, rfl, by kernel_rfl, by decide, by kernel_rfl⟩⟩
instance : TF Try.prog 84 4 4 1 false := ⟨⟨fs80, _, by kernel_rfl, rfl, rfl, by kernel_rfl, by decide, by kernel_rfl⟩⟩
instance : TF Try.prog 84 5 5 1 false := ⟨⟨fs80, _, by kernel_rfl, rfl, rfl, by kernel_rfl, by decide, by kernel_rfl⟩⟩
instance : TF Try.prog 84 6 6 1 false := ⟨⟨fs80, _, by kernel_rfl, rfl, rfl, by kernel_rfl, by decide, by kernel_rfl⟩⟩
instance : TF Try.prog 84 7 7 1 false := ⟨⟨fs80, _, by kernel_rfl, rfl, rfl, by kernel_rfl, by decide, by kernel_rfl⟩⟩
instance : TF Try.prog 84 8 8 1 false := ⟨⟨fs80, _, by kernel_rfl, rfl, rfl, by kernel_rfl, by decide, by kernel_rfl⟩⟩
instance : TF Try.prog 84 9 9 1 false := ⟨⟨fs80, _, by kernel_rfl, rfl, rfl, by kernel_rfl, by decide, by kernel_rfl⟩⟩
instance : TU Try.prog 85 (.tuple #[84, 4]) := ⟨by kernel_rfl⟩
instance : TI Try.prog 85 (.tuple #[.agg #[.int .i64 0, .int .i64 0, .int .i64 0, .int .i64 0, .int .i64 0, .int .i64 0, .int .i64 0, .int .i64 0, .int .i64 0, .int .i64 0], .bool false]) 1 0 := ⟨by kernel_rfl⟩
instance : TG Try.prog 85 false 1 := ⟨by kernel_rfl, by kernel_rfl⟩
instance : TU Try.prog 91 (.struct fs91) := ⟨by kernel_rfl⟩
instance : TI Try.prog 91 (.agg #[.int .i64 0, .int .i64 0, .int .i64 0, .int .i64 0]) 4 32 := ⟨by kernel_rfl⟩
instance : TG Try.prog 91 true 4 := ⟨by kernel_rfl, by kernel_rfl⟩
instance : TB Try.prog 91 [.v (.int .i64 0), .v (.int .i64 0), .v (.int .i64 0), .v (.int .i64 0)] [(0, 1), (1, 1), (2, 1), (3, 1)] := tb_of (fs := fs91) (zs := [.int .i64 0, .int .i64 0, .int .i64 0, .int .i64 0]) (by kernel_rfl) (by kernel_rfl) (by kernel_rfl) rfl (by kernel_rfl)
instance : TF Try.prog 91 0 0 1 false := ⟨⟨fs91, _, by kernel_rfl, rfl, rfl, by kernel_rfl, by decide, by kernel_rfl⟩⟩
instance : TF Try.prog 91 1 1 1 false := ⟨⟨fs91, _, by kernel_rfl, rfl, rfl, by kernel_rfl, by decide, by kernel_rfl⟩⟩
instance : TF Try.prog 91 2 2 1 false := ⟨⟨fs91, _, by kernel_rfl, rfl, rfl, by kernel_rfl, by decide, by kernel_rfl⟩⟩
instance : TF Try.prog 91 3 3 1 false := ⟨⟨fs91, _, by kernel_rfl, rfl, rfl, by kernel_rfl, by decide, by kernel_rfl⟩⟩
instance : TU Try.prog 92 (.struct fs91) := ⟨by kernel_rfl⟩
instance : TI Try.prog 92 (.agg #[.int .i64 0, .int .i64 0, .int .i64 0, .int .i64 0]) 4 32 := ⟨by kernel_rfl⟩
instance : TG Try.prog 92 true 4 := ⟨by kernel_rfl, by kernel_rfl⟩
instance : SFL Try.prog 92 fl91 := ⟨fs91, by kernel_rfl, rfl, by kernel_rfl, by kernel_rfl, by kernel_rfl⟩
instance : TB Try.prog 92 [.v (.int .i64 0), .v (.int .i64 0), .v (.int .i64 0), .v (.int .i64 0)] [(0, 1), (1, 1), (2, 1), (3, 1)] := tb_of (fs := fs91) (zs := [.int .i64 0, .int .i64 0, .int .i64 0, .int .i64 0]) (by kernel_rfl) (by kernel_rfl) (by kernel_rfl) rfl (by kernel_rfl)
instance : TF Try.prog 92 0 0 1 false := ⟨⟨fs91, _, by kernel_rfl, rfl, rfl, by kernel_rfl, by decide, by kernel_rfl⟩⟩
instance : TF Try.prog 92 1 1 1 false := ⟨⟨fs91, _, by kernel_rfl, rfl, rfl, by kernel_rfl, by decide, by kernel_rfl⟩⟩
instance : TF Try.prog 92 2 2 1 false := ⟨⟨fs91, _, by kernel_rfl, rfl, rfl, by kernel_rfl, by decide, by kernel_rfl⟩⟩
instance : TF Try.prog 92 3 3 1 false := ⟨⟨fs91, _, by kernel_rfl, rfl, rfl, by kernel_rfl, by decide, by kernel_rfl⟩⟩
instance : TU Try.prog 93 (.tuple #[92, 4]) := ⟨by kernel_rfl⟩
instance : TI Try.prog 93 (.tuple #[.agg #[.int .i64 0, .int .i64 0, .int .i64 0, .int .i64 0], .bool false]) 1 0 := ⟨by kernel_rfl⟩
instance : TG Try.prog 93 false 1 := ⟨by kernel_rfl, by kernel_rfl⟩
instance : TU Try.prog 98 (.struct fs98) := ⟨by kernel_rfl⟩
instance : TI Try.prog 98 (.agg #[.int .i64 0, .int .i64 0, .int .i64 0]) 3 24 := ⟨by kernel_rfl⟩
instance : TG Try.prog 98 true 3 := ⟨by kernel_rfl, by kernel_rfl⟩
instance : TB Try.prog 98 [.v (.int .i64 0), .v (.int .i64 0), .v (.int .i64 0)] [(0, 1), (1, 1), (2, 1)] := tb_of (fs := fs98) (zs := [.int .i64 0, .int .i64 0, .int .i64 0]) (by kernel_rfl) (by kernel_rfl) (by kernel_rfl) rfl (by kernel_rfl)
instance : TF Try.prog 98 0 0 1 false := ⟨⟨fs98, _, by kernel_rfl, rfl, rfl, by kernel_rfl, by decide, by kernel_rfl⟩⟩
instance : TF Try.prog 98 1 1 1 false := ⟨⟨fs98, _, by kernel_rfl, rfl, rfl, by kernel_rfl, by decide, by kernel_rfl⟩⟩
instance : TF Try.prog 98 2 2 1 false := ⟨⟨fs98, _, by kernel_rfl, rfl, rfl, by kernel_rfl, by decide, by kernel_rfl⟩⟩
instance : TU Try.prog 99 (.struct fs98) := ⟨by kernel_rfl⟩
instance : TI Try.prog 99 (.agg #[.int .i64 0, .int .i64 0, .int .i64 0]) 3 24 := ⟨by kernel_rfl⟩
instance : TG Try.prog 99 true 3 := ⟨by kernel_rfl, by kernel_rfl⟩
instance : SFL Try.prog 99 fl98 := ⟨fs98, by kernel_rfl, rfl, by kernel_rfl, by kernel_rfl, by kernel_rfl⟩
instance : TB Try.prog 99 [.v (.int .i64 0), .v (.int .i64 0), .v (.int .i64 0)] [(0, 1), (1, 1), (2, 1)] := tb_of (fs := fs98) (zs := [.int .i64 0, .int .i64 0, .int .i64 0]) (by kernel_rfl) (by kernel_rfl) (by kernel_rfl) rfl (by kernel_rfl)
instance : TF Try.prog 99 0 0 1 false := ⟨⟨fs98, _, by kernel_rfl, rfl, rfl, by kernel_rfl, by decide, by kernel_rfl⟩⟩
instance : TF Try.prog 99 1 1 1 false := ⟨⟨fs98, _, by kernel_rfl, rfl, rfl, by kernel_rfl, by decide, by kernel_rfl⟩⟩
instance : TF Try.prog 99 2 2 1 false := ⟨⟨fs98, _, by kernel_rfl, rfl, rfl, by kernel_rfl, by decide, by kernel_rfl⟩⟩
instance : TU Try.prog 100 (.tuple #[99, 4]) := ⟨by kernel_rfl⟩
instance : TI Try.prog 100 (.tuple #[.agg #[.int .i64 0, .int .i64 0, .int .i64 0], .bool false]) 1 0 := ⟨by kernel_rfl⟩
instance : TG Try.prog 100 false 1 := ⟨by kernel_rfl, by kernel_rfl⟩
instance : TU Try.prog 102 (.tuple #[3, 3, 3, 4]) := ⟨by kernel_rfl⟩
instance : TI Try.prog 102 (.tuple #[.int .i64 0, .int .i64 0, .int .i64 0, .bool false]) 1 0 := ⟨by kernel_rfl⟩
instance : TG Try.prog 102 false 1 := ⟨by kernel_rfl, by kernel_rfl⟩
instance : TU Try.prog 109 (.slice 25) := ⟨by kernel_rfl⟩
instance : TI Try.prog 109 (.slice none 0 0) 1 24 := ⟨by kernel_rfl⟩
instance : TG Try.prog 109 false 1 := ⟨by kernel_rfl, by kernel_rfl⟩
instance : TU Try.prog 110 (.struct fs110) := ⟨by kernel_rfl⟩
instance : TI Try.prog 110 (.agg #[.string { data := #[] }, .int .i64 0, .int .i64 0, .int .i64 0, .int .i64 0, .int .i64 0]) 6 56 := ⟨by kernel_rfl⟩
instance : TG Try.prog 110 true 6 := ⟨by kernel_rfl, by kernel_rfl⟩
instance : TB Try.prog 110 [.v (.string { data := #[] }), .v (.int .i64 0), .v (.int .i64 0), .v (.int .i64 0), .v (.int .i64 0), .v (.int .i64 0)] [(0, 1), (1, 1), (2, 1), (3, 1), (4, 1), (5, 1)] := tb_of (fs := fs110) (zs := [.string { data := #[] }, .int .i64 0, .int .i64 0, .int .i64 0, .int .i64 0, .int .i64 0]) (by kernel_rfl) (by kernel_rfl) (by kernel_rfl) rfl (by kernel_rfl)
instance : TF Try.prog 110 0 0 1 false := ⟨⟨fs110, _, by kernel_rfl, rfl, rfl, by kernel_rfl, by decide, by kernel_rfl⟩⟩
instance : TF Try.prog 110 1 1 1 false := ⟨⟨fs110, _, by kernel_rfl, rfl, rfl, by kernel_rfl, by decide, by kernel_rfl⟩⟩
instance : TF Try.prog 110 2 2 1 false := ⟨⟨fs110, _, by kernel_rfl, rfl, rfl, by kernel_rfl, by decide, by kernel_rfl⟩⟩
instance : TF Try.prog 110 3 3 1 false := ⟨⟨fs110, _, by kernel_rfl, rfl, rfl, by kernel_rfl, by decide, by kernel_rfl⟩⟩
instance : TF Try.prog 110 4 4 1 false := ⟨⟨fs110, _, by kernel_rfl, rfl, rfl, by kernel_rfl, by decide, by kernel_rfl⟩⟩
instance : TF Try.prog 110 5 5 1 false := ⟨⟨fs110, _, by kernel_rfl, rfl, rfl, by kernel_rfl, by decide, by kernel_rfl⟩⟩
instance : TU Try.prog 111 (.struct fs110) := ⟨by kernel_rfl⟩
instance : TI Try.prog 111 (.agg #[.string { data := #[] }, .int .i64 0, .int .i64 0, .int .i64 0, .int .i64 0, .int .i64 0]) 6 56 := ⟨by kernel_rfl⟩
instance : TG Try.prog 111 true 6 := ⟨by kernel_rfl, by kernel_rfl⟩
instance : TB Try.prog 111 [.v (.string { data := #[] }), .v (.int .i64 0), .v (.int .i64 0), .v (.int .i64 0), .v (.int .i64 0), .v (.int .i64 0)] [(0, 1), (1, 1), (2, 1), (3, 1), (4, 1), (5, 1)] := tb_of (fs := fs110) (zs := [.string { data := #[] }, .int .i64 0, .int .i64 0, .int .i64 0, .int .i64 0, .int .i64 0]) (by kernel_rfl) (by kernel_rfl) (by kernel_rfl) rfl (by kernel_rfl)
instance : TF Try.prog 111 0 0 1 false := ⟨⟨fs110, _, by kernel_rfl, rfl, rfl, by kernel_rfl, by decide, by kernel_rfl⟩⟩
instance : TF Try.prog 111 1 1 1 false := ⟨⟨fs110, _, by kernel_rfl, rfl, rfl, by kernel_rfl, by decide, by kernel_rfl⟩⟩
instance : TF Try.prog 111 2 2 1 false := ⟨⟨fs110, _, by kernel_rfl, rfl, rfl, by kernel_rfl, by decide, by kernel_rfl⟩⟩
instance : TF Try.prog 111 3 3 1 false := ⟨⟨fs110, _, by kernel_rfl, rfl, rfl, by kernel_rfl, by decide, by kernel_rfl⟩⟩
instance : TF Try.prog 111 4 4 1 false := ⟨⟨fs110, _, by kernel_rfl, rfl, rfl, by kernel_rfl, by decide, by kernel_rfl⟩⟩
instance : TF Try.prog 111 5 5 1 false := ⟨⟨fs110, _, by kernel_rfl, rfl, rfl, by kernel_rfl, by decide, by kernel_rfl⟩⟩
instance : TU Try.prog 112 (.slice 111) := ⟨by kernel_rfl⟩
instance : TI Try.prog 112 (.slice none 0 0) 1 24 := ⟨by kernel_rfl⟩
instance : TG Try.prog 112 false 1 := ⟨by kernel_rfl, by kernel_rfl⟩
instance : TU Try.prog 113 (.slice 136) := ⟨by kernel_rfl⟩
instance : TI Try.prog 113 (.slice none 0 0) 1 24 := ⟨by kernel_rfl⟩
instance : TG Try.prog 113 false 1 := ⟨by kernel_rfl, by kernel_rfl⟩
instance : TU Try.prog 114 (.struct fs114) := ⟨by kernel_rfl⟩
instance : TI Try.prog 114 (.agg #[.slice none 0 0, .slice none 0 0, .slice none 0 0, .bool false, .slice none 0 0]) 5 104 := ⟨by kernel_rfl⟩
instance : TG Try.prog 114 true 5 := ⟨by kernel_rfl, by kernel_rfl⟩
instance : TB Try.prog 114 [.v (.slice none 0 0), .v (.slice none 0 0), .v (.slice none 0 0), .v (.bool false), .v (.slice none 0 0)] [(0, 1), (1, 1), (2, 1), (3, 1), (4, 1)] := tb_of (fs := fs114) (zs := [.slice none 0 0, .slice none 0 0, .slice none 0 0, .bool false, .slice none 0 0]) (by kernel_rfl) (by kernel_rfl) (by kernel_rfl) rfl (by kernel_rfl)
instance : TF Try.prog 114 0 0 1 false := ⟨⟨fs114, _, by kernel_rfl, rfl, rfl, by kernel_rfl, by decide, by kernel_rfl⟩⟩
instance : TF Try.prog 114 1 1 1 false := ⟨⟨fs114, _, by kernel_rfl, rfl, rfl, by kernel_rfl, by decide, by kernel_rfl⟩⟩
instance : TF Try.prog 114 2 2 1 false := ⟨⟨fs114, _, by kernel_rfl, rfl, rfl, by kernel_rfl, by decide, by kernel_rfl⟩⟩
instance : TF Try.prog 114 3 3 1 false := ⟨⟨fs114, _, by kernel_rfl, rfl, rfl, by kernel_rfl, by decide, by kernel_rfl⟩⟩
instance : TF Try.prog 114 4 4 1 false := ⟨⟨fs114, _, by kernel_rfl, rfl, rfl, by kernel_rfl, by decide, by kernel_rfl⟩⟩
instance : TU Try.prog 115 (.struct fs114) := ⟨by kernel_rfl⟩
instance : TI Try.prog 115 (.agg #[.slice none 0 0, .slice none 0 0, .slice none 0 0, .bool false, .slice none 0 0]) 5 104 := ⟨by kernel_rfl⟩
instance : TG Try.prog 115 true 5 := ⟨by kernel_rfl, by kernel_rfl⟩
instance : TB Try.prog 115 [.v (.slice none 0 0), .v (.slice none 0 0), .v (.slice none 0 0), .v (.bool false), .v (.slice none 0 0)] [(0, 1), (1, 1), (2, 1), (3, 1), (4, 1)] := tb_of (fs := fs114) (zs := [.slice none 0 0, .slice none 0 0, .slice none 0 0, .bool false, .slice none 0 0]) (by kernel_rfl) (by kernel_rfl) (by kernel_rfl) rfl (by kernel_rfl)
instance : TF Try.prog 115 0 0 1 false := ⟨⟨fs114, _, by kernel_rfl, rfl, rfl, by kernel_rfl, by decide, by kernel_rfl⟩⟩
instance : TF Try.prog 115 1 1 1 false := ⟨⟨fs114, _, by kernel_rfl, rfl, rfl, by kernel_rfl, by decide, by kernel_rfl⟩⟩
instance : TF Try.prog 115 2 2 1 false := ⟨⟨fs114, _, by kernel_rfl, rfl, rfl, by kernel_rfl, by decide, by kernel_rfl⟩⟩
instance : TF Try.prog 115 3 3 1 false := ⟨⟨fs114, _, by kernel_rfl, rfl, rfl, by kernel_rfl, by decide, by kernel_rfl⟩⟩
instance : TF Try.prog 115 4 4 1 false := ⟨⟨fs114, _, by kernel_rfl, rfl, rfl, by kernel_rfl, by decide, by kernel_rfl⟩⟩
instance : TU Try.prog 118 (.slice 4) := ⟨by kernel_rfl⟩
instance : TI Try.prog 118 (.slice none 0 0) 1 24 := ⟨by kernel_rfl⟩
instance : TG Try.prog 118 false 1 := ⟨by kernel_rfl, by kernel_rfl⟩
instance : TU Try.prog 122 (.map 9 3) := ⟨by kernel_rfl⟩
instance : TI Try.prog 122 (.map none) 1 8 := ⟨by kernel_rfl⟩
instance : TG Try.prog 122 false 1 := ⟨by kernel_rfl, by kernel_rfl⟩
instance : TU Try.prog 123 (.tuple #[3, 4]) := ⟨by kernel_rfl⟩
instance : TI Try.prog 123 (.tuple #[.int .i64 0, .bool false]) 1 0 := ⟨by kernel_rfl⟩
instance : TG Try.prog 123 false 1 := ⟨by kernel_rfl, by kernel_rfl⟩
instance : TU Try.prog 128 (.slice 130) := ⟨by kernel_rfl⟩
instance : TI Try.prog 128 (.slice none 0 0) 1 24 := ⟨by kernel_rfl⟩
instance : TG Try.prog 128 false 1 := ⟨by kernel_rfl, by kernel_rfl⟩
instance : TU Try.prog 130 (.pointer 3) := ⟨by kernel_rfl⟩
instance : TI Try.prog 130 (.pointer none) 1 8 := ⟨by kernel_rfl⟩
instance : TG Try.prog 130 false 1 := ⟨by kernel_rfl, by kernel_rfl⟩
instance : TU Try.prog 135 (.struct fs135) := ⟨by kernel_rfl⟩
instance : TI Try.prog 135 (.agg #[.int .i64 0, .slice none 0 0]) 2 32 := ⟨by kernel_rfl⟩
instance : TG Try.prog 135 true 2 := ⟨by kernel_rfl, by kernel_rfl⟩
instance : TB Try.prog 135 [.v (.int .i64 0), .v (.slice none 0 0)] [(0, 1), (1, 1)] := tb_of (fs := fs135) (zs := [.int .i64 0, .slice none 0 0]) (by kernel_rfl) (by kernel_rfl) (by kernel_rfl) rfl (by kernel_rfl)
instance : TF Try.prog 135 0 0 1 false := ⟨⟨fs135, _, by kernel_rfl, rfl, rfl, by kernel_rfl, by decide, by kernel_rfl⟩⟩
instance : TF Try.prog 135 1 1 1 false := ⟨⟨fs135, _, by kernel_rfl, rfl, rfl, by kernel_rfl, by decide, by kernel_rfl⟩⟩
instance : TU Try.prog 136 (.struct fs135) := ⟨by kernel_rfl⟩
instance : TI Try.prog 136 (.agg #[.int .i64 0, .slice none 0 0]) 2 32 := ⟨by kernel_rfl⟩
instance : TG Try.prog 136 true 2 := ⟨by kernel_rfl, by kernel_rfl⟩
instance : TB Try.prog 136 [.v (.int .i64 0), .v (.slice none 0 0)] [(0, 1), (1, 1)] := tb_of (fs := fs135) (zs := [.int .i64 0, .slice none 0 0]) (by kernel_rfl) (by kernel_rfl) (by kernel_rfl) rfl (by kernel_rfl)
instance : TF Try.prog 136 0 0 1 false := ⟨⟨fs135, _, by kernel_rfl, rfl, rfl, by kernel_rfl, by decide, by kernel_rfl⟩⟩
instance : TF Try.prog 136 1 1 1 false := ⟨⟨fs135, _, by kernel_rfl, rfl, rfl, by kernel_rfl, by decide, by kernel_rfl⟩⟩
instance : TU Try.prog 140 (.pointer 81) := ⟨by kernel_rfl⟩
instance : TI Try.prog 140 (.pointer none) 1 8 := ⟨by kernel_rfl⟩
instance : TG Try.prog 140 false 1 := ⟨by kernel_rfl, by kernel_rfl⟩
instance : TU Try.prog 141 (.struct fs141) := ⟨by kernel_rfl⟩
instance : TI Try.prog 141 (.agg #[.int .u64 0, .int .i64 0]) 2 16 := ⟨by kernel_rfl⟩
instance : TG Try.prog 141 true 2 := ⟨by kernel_rfl, by kernel_rfl⟩
instance : TB Try.prog 141 [.v (.int .u64 0), .v (.int .i64 0)] [(0, 1), (1, 1)] := tb_of (fs := fs141) (zs := [.int .u64 0, .int .i64 0]) (by kernel_rfl) (by kernel_rfl) (by kernel_rfl) rfl (by kernel_rfl)
instance : TF Try.prog 141 0 0 1 false := ⟨⟨fs141, _, by kernel_rfl, rfl, rfl, by kernel_rfl, by decide, by kernel_rfl⟩⟩
instance : TF Try.prog 141 1 1 1 false := ⟨⟨fs141, _, by kernel_rfl, rfl, rfl, by kernel_rfl, by decide, by kernel_rfl⟩⟩
instance : TU Try.prog 142 (.slice 141) := ⟨by kernel_rfl⟩
instance : TI Try.prog 142 (.slice none 0 0) 1 24 := ⟨by kernel_rfl⟩
instance : TG Try.prog 142 false 1 := ⟨by kernel_rfl, by kernel_rfl⟩
instance : TU Try.prog 147 (.struct fs147) := ⟨by kernel_rfl⟩
instance : TI Try.prog 147 (.agg #[.pointer none, .pointer none, .pointer none, .string { data := #[] }]) 4 40 := ⟨by kernel_rfl⟩
instance : TG Try.prog 147 true 4 := ⟨by kernel_rfl, by kernel_rfl⟩
instance : TB Try.prog 147 [.v (.pointer none), .v (.pointer none), .v (.pointer none), .v (.string { data := #[] })] [(0, 1), (1, 1), (2, 1), (3, 1)] := tb_of (fs := fs147) (zs := [.pointer none, .pointer none, .pointer none, .string { data := #[] }]) (by kernel_rfl) (by kernel_rfl) (by kernel_rfl) rfl (by kernel_rfl)
instance : TF Try.prog 147 0 0 1 false := ⟨⟨fs147, _, by kernel_rfl, rfl, rfl, by kernel_rfl, by decide, by kernel_rfl⟩⟩
instance : TF Try.prog 147 1 1 1 false := ⟨⟨fs147, _, by kernel_rfl, rfl, rfl, by kernel_rfl, by decide, by kernel_rfl⟩⟩
instance : TF Try.prog 147 2 2 1 false := ⟨⟨fs147, _, by kernel_rfl, rfl, rfl, by kernel_rfl, by decide, by kernel_rfl⟩⟩
instance : TF Try.prog 147 3 3 1 false := ⟨⟨fs147, _, by kernel_rfl, rfl, rfl, by kernel_rfl, by decide, by kernel_rfl⟩⟩
instance : TU Try.prog 148 (.struct fs147) := ⟨by kernel_rfl⟩
instance : TI Try.prog 148 (.agg #[.pointer none, .pointer none, .pointer none, .string { data := #[] }]) 4 40 := ⟨by kernel_rfl⟩
instance : TG Try.prog 148 true 4 := ⟨by kernel_rfl, by kernel_rfl⟩
instance : TB Try.prog 148 [.v (.pointer none), .v (.pointer none), .v (.pointer none), .v (.string { data := #[] })] [(0, 1), (1, 1), (2, 1), (3, 1)] := tb_of (fs := fs147) (zs := [.pointer none, .pointer none, .pointer none, .string { data := #[] }]) (by kernel_rfl) (by kernel_rfl) (by kernel_rfl) rfl (by kernel_rfl)
instance : TF Try.prog 148 0 0 1 false := ⟨⟨fs147, _, by kernel_rfl, rfl, rfl, by kernel_rfl, by decide, by kernel_rfl⟩⟩
instance : TF Try.prog 148 1 1 1 false := ⟨⟨fs147, _, by kernel_rfl, rfl, rfl, by kernel_rfl, by decide, by kernel_rfl⟩⟩
instance : TF Try.prog 148 2 2 1 false := ⟨⟨fs147, _, by kernel_rfl, rfl, rfl, by kernel_rfl, by decide, by kernel_rfl⟩⟩
instance : TF Try.prog 148 3 3 1 false := ⟨⟨fs147, _, by kernel_rfl, rfl, rfl, by kernel_rfl, by decide, by kernel_rfl⟩⟩
instance : TU Try.prog 149 (.array 0 16) := ⟨by kernel_rfl⟩
instance : TI Try.prog 149 (.agg #[]) 0 0 := ⟨by kernel_rfl⟩
instance : TG Try.prog 149 true 0 := ⟨by kernel_rfl, by kernel_rfl⟩
instance : TU Try.prog 150 (.struct fs150) := ⟨by kernel_rfl⟩
instance : TI Try.prog 150 (.agg #[]) 0 0 := ⟨by kernel_rfl⟩
instance : TG Try.prog 150 true 0 := ⟨by kernel_rfl, by kernel_rfl⟩
instance : TB Try.prog 150 [] [(0, 0)] := tb_of (fs := fs150) (zs := []) (by kernel_rfl) (by kernel_rfl) (by kernel_rfl) rfl (by kernel_rfl)
instance : TU Try.prog 151 (.struct fs150) := ⟨by kernel_rfl⟩
instance : TI Try.prog 151 (.agg #[]) 0 0 := ⟨by kernel_rfl⟩
instance : TG Try.prog 151 true 0 := ⟨by kernel_rfl, by kernel_rfl⟩
instance : TB Try.prog 151 [] [(0, 0)] := tb_of (fs := fs150) (zs := []) (by kernel_rfl) (by kernel_rfl) (by kernel_rfl) rfl (by kernel_rfl)
instance : TU Try.prog 153 (.int .u32) := ⟨by kernel_rfl⟩
instance : TI Try.prog 153 (.int .u32 0) 1 4 := ⟨by kernel_rfl⟩
instance : TG Try.prog 153 false 1 := ⟨by kernel_rfl, by kernel_rfl⟩
instance : TU Try.prog 154 (.int .u8) := ⟨by kernel_rfl⟩
instance : TI Try.prog 154 (.int .u8 0) 1 1 := ⟨by kernel_rfl⟩
instance : TG Try.prog 154 false 1 := ⟨by kernel_rfl, by kernel_rfl⟩
instance : TU Try.prog 155 (.int .u8) := ⟨by kernel_rfl⟩
instance : TI Try.prog 155 (.int .u8 0) 1 1 := ⟨by kernel_rfl⟩
instance : TG Try.prog 155 false 1 := ⟨by kernel_rfl, by kernel_rfl⟩
instance : TU Try.prog 157 (.pointer 5) := ⟨by kernel_rfl⟩
instance : TI Try.prog 157 (.pointer none) 1 8 := ⟨by kernel_rfl⟩
instance : TG Try.prog 157 false 1 := ⟨by kernel_rfl, by kernel_rfl⟩
instance : TU Try.prog 158 (.int .i32) := ⟨by kernel_rfl⟩
instance : TI Try.prog 158 (.int .i32 0) 1 4 := ⟨by kernel_rfl⟩
instance : TG Try.prog 158 false 1 := ⟨by kernel_rfl, by kernel_rfl⟩
instance : TU Try.prog 159 (.int .i32) := ⟨by kernel_rfl⟩
instance : TI Try.prog 159 (.int .i32 0) 1 4 := ⟨by kernel_rfl⟩
instance : TG Try.prog 159 false 1 := ⟨by kernel_rfl, by kernel_rfl⟩
instance : TU Try.prog 160 (.struct fs160) := ⟨by kernel_rfl⟩
instance : TI Try.prog 160 (.agg #[.int .u64 0, .int .u64 0, .int .u32 0, .int .u8 0, .int .u8 0, .int .u8 0, .int .u8 0, .nilFunc, .pointer none, .int .i32 0, .int .i32 0]) 11 48 := ⟨by kernel_rfl⟩
instance : TG Try.prog 160 true 11 := ⟨by kernel_rfl, by kernel_rfl⟩
instance : TB Try.prog 160 [.v (.int .u64 0), .v (.int .u64 0), .v (.int .u32 0), .v (.int .u8 0), .v (.int .u8 0), .v (.int .u8 0), .v (.int .u8 0), .v (.nilFunc), .v (.pointer none), .v (.int .i32 0), .v (.int .i32 0)] [(0, 1), (1, 1), (2, 1), (3, 1), (4, 1), (5, 1), (6, 1), (7, 1), (8, 1), (9, 1), (10, 1)] := tb_of (fs := fs160) (zs := [.int .u64 0, .int .u64 0, .int .u32 0, .int .u8 0, .int .u8 0, .int .u8 0, .int .u8 0, .nilFunc, .pointer none, .int .i32 0, .int .i32 0]) (by kernel_rfl) (by kernel_rfl) (by kernel_rfl) rfl (by kernel_rfl)
instance : TF Try.prog 160 0 0 1 false := ⟨⟨fs160, _, by kernel_rfl, rfl, rfl, by kernel_rfl, by decide, by kernel_rfl⟩⟩
instance : TF Try.prog 160 1 1 1 false := ⟨⟨fs160, _, by kernel_rfl, rfl, rfl, by kernel_rfl, by decide, by kernel_rfl⟩⟩
instance : TF Try.prog 160 2 2 1 false := ⟨⟨fs160, _, by kernel_rfl, rfl, rfl, by kernel_rfl, by decide, by kernel_rfl⟩⟩
instance : TF Try.prog 160 3 3 1 false := ⟨⟨fs160, _, by kernel_rfl, rfl, rfl, by kernel_rfl, by decide, by kernel_rfl⟩⟩
instance : TF Try.prog 160 4 4 1 false := ⟨⟨fs160, _, by kernel_rfl, rfl, rfl, by kernel_rfl, by decide, by kernel_rfl⟩⟩
instance : TF Try.prog 160 5 5 1 false := ⟨⟨fs160, _, by kernel_rfl, rfl, rfl, by kernel_rfl, by decide, by kernel_rfl⟩⟩
instance : TF Try.prog 160 6 6 1 false := ⟨⟨fs160, _, by kernel_rfl, rfl, rfl, by kernel_rfl, by decide, by kernel_rfl⟩⟩
instance : TF Try.prog 160 7 7 1 false := ⟨⟨fs160, _, by kernel_rfl, rfl, rfl, by kernel_rfl, by decide, by kernel_rfl⟩⟩
instance : TF Try.prog 160 8 8 1 false := ⟨⟨fs160, _, by kernel_rfl, rfl, rfl, by kernel_rfl, by decide, by kernel_rfl⟩⟩
instance : TF Try.prog 160 9 9 1 false := ⟨⟨fs160, _, by kernel_rfl, rfl, rfl, by kernel_rfl, by decide, by kernel_rfl⟩⟩
instance : TF Try.prog 160 10 10 1 false := ⟨⟨fs160, _, by kernel_rfl, rfl, rfl, by kernel_rfl, by decide, by kernel_rfl⟩⟩
instance : TU Try.prog 161 (.struct fs160) := ⟨by kernel_rfl⟩
instance : TI Try.prog 161 (.agg #[.int .u64 0, .int .u64 0, .int .u32 0, .int .u8 0, .int .u8 0, .int .u8 0, .int .u8 0, .nilFunc, .pointer none, .int .i32 0, .int .i32 0]) 11 48 := ⟨by kernel_rfl⟩
instance : TG Try.prog 161 true 11 := ⟨by kernel_rfl, by kernel_rfl⟩
instance : TB Try.prog 161 [.v (.int .u64 0), .v (.int .u64 0), .v (.int .u32 0), .v (.int .u8 0), .v (.int .u8 0), .v (.int .u8 0), .v (.int .u8 0), .v (.nilFunc), .v (.pointer none), .v (.int .i32 0), .v (.int .i32 0)] [(0, 1), (1, 1), (2, 1), (3, 1), (4, 1), (5, 1), (6, 1), (7, 1), (8, 1), (9, 1), (10, 1)] := tb_of (fs := fs160) (zs := [.int .u64 0, .int .u64 0, .int .u32 0, .int .u8 0, .int .u8 0, .int .u8 0, .int .u8 0, .nilFunc, .pointer none, .int .i32 0, .int .i32 0]) (by kernel_rfl) (by kernel_rfl) (by kernel_rfl) rfl (by kernel_rfl)
instance : TF Try.prog 161 0 0 1 false := ⟨⟨fs160, _, by kernel_rfl, rfl, rfl, by kernel_rfl, by decide, by kernel_rfl⟩⟩
instance : TF Try.prog 161 1 1 1 false := ⟨⟨fs160, _, by kernel_rfl, rfl, rfl, by kernel_rfl, by decide, by kernel_rfl⟩⟩
instance : TF Try.prog 161 2 2 1 false := ⟨⟨fs160, _, by kernel_rfl, rfl, rfl, by kernel_rfl, by decide, by kernel_rfl⟩⟩
instance : TF Try.prog 161 3 3 1 false := ⟨⟨fs160, _, by kernel_rfl, rfl, rfl, by kernel_rfl, by decide, by kernel_rfl⟩⟩
instance : TF Try.prog 161 4 4 1 false := ⟨⟨fs160, _, by kernel_rfl, rfl, rfl, by kernel_rfl, by decide, by kernel_rfl⟩⟩
instance : TF Try.prog 161 5 5 1 false := ⟨⟨fs160, _, by kernel_rfl, rfl, rfl, by kernel_rfl, by decide, by kernel_rfl⟩⟩
instance : TF Try.prog 161 6 6 1 false := ⟨⟨fs160, _, by kernel_rfl, rfl, rfl, by kernel_rfl, by decide, by kernel_rfl⟩⟩
instance : TF Try.prog 161 7 7 1 false := ⟨⟨fs160, _, by kernel_rfl, rfl, rfl, by kernel_rfl, by decide, by kernel_rfl⟩⟩
instance : TF Try.prog 161 8 8 1 false := ⟨⟨fs160, _, by kernel_rfl, rfl, rfl, by kernel_rfl, by decide, by kernel_rfl⟩⟩
instance : TF Try.prog 161 9 9 1 false := ⟨⟨fs160, _, by kernel_rfl, rfl, rfl, by kernel_rfl, by decide, by kernel_rfl⟩⟩
instance : TF Try.prog 161 10 10 1 false := ⟨⟨fs160, _, by kernel_rfl, rfl, rfl, by kernel_rfl, by decide, by kernel_rfl⟩⟩
instance : TU Try.prog 162 .unsafePointer := ⟨by kernel_rfl⟩
instance : TI Try.prog 162 (.pointer none) 1 8 := ⟨by kernel_rfl⟩
instance : TG Try.prog 162 false 1 := ⟨by kernel_rfl, by kernel_rfl⟩

end Go.Proofs.Ytbaibjhkmajplaa.AL
