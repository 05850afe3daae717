/- A part of the proof: rules of an own logic over blocks, and what functions of the program compute, each by its own contract; the conditions stand with each. -/
import Derived.Test.YtkbbcenjklaglaaGreatCc
import Derived.Test.YtkbbcenjklaglaaGreatCd
import Derived.Test.YtkbbcenjklaglaaGreatProg
import Derived.KernelRfl
namespace Go.Proofs.YtkbbcenjklaglaaGreat.AL
open Go Go.RowKit
set_option linter.unusedVariables false
structure Hid (P : Prop) : Prop where
  h : P
theorem go {G P : Prop} (k : P) (h : Hid P → G := by
  intro h
  repeat with_reducible (first | refine AO.c ?_ | refine AW.seq' ?_ | refine AW.region ?_ | refine AO.nil ?_ | refine SQ.normal ?_ | refine AW.skip ?_ | refine AO.oo ?_ | refine AO.gx ?_ | refine AO.gxoo ?_ | refine AO.ww ?_ | refine AO.sst ?_ | refine AW.block' ?_)
  exact h.h) : G := h ⟨k⟩
theorem gr {G P : Prop} (k : P) (h : Hid P → G := by
  intro h
  repeat with_reducible (first | refine AO.c ?_ | refine AW.seq' ?_ | refine AW.region ?_ | refine AO.nil ?_ | refine SQ.normal ?_ | refine AW.skip ?_ | refine AO.oo ?_ | refine AO.gx ?_ | refine AO.gxoo ?_ | refine AO.sst ?_ | refine AW.block' ?_)
  exact h.h) : G := h ⟨k⟩
theorem gs {G P : Prop} (k : P) (h : Hid P → G := by
  intro h
  repeat with_reducible (first | refine AW.seq' ?_ | refine AW.region ?_ | refine AO.nil ?_ | refine SQ.normal ?_ | refine AW.skip ?_ | refine AW.block' ?_)
  exact h.h) : G := h ⟨k⟩
theorem gz {G P : Prop} (k : P) (h : Hid P → G := by
  intro h
  repeat with_reducible (first | refine AZ.c rfl ?_ | refine AZ.oo rfl ?_ | refine AZ.sst rfl rfl ?_ | refine AZ.gx rfl ?_)
  exact h.h) : G := h ⟨k⟩
theorem cr {G : Prop} (h : G := by first | rfl | (simp; done)) : G := h
theorem co {G : Prop} (h : G := by first | omega | (simp; done) | (simp; omega)) : G := h
theorem c2 {G : Prop} (h : G := by (try dsimp only); exact ⟨by omega, by omega⟩) : G := h
section
variable {P : Program} {base : Cx} {s : St} {Q : Exit → St → Prop} {d e : Code} {ops os : Array Oper} {i j : Nat}
theorem n1 (h : AW P base d s Q) : AO P base ops [] s (SQ P base d Q) := AO.nil h
theorem n2 (h : AO P base os os.toList s (SQ P base d Q)) : AW P base (.seq (.region i os false) d) s Q := AW.seq' (AW.region h)
theorem n3 (h : AO P base os os.toList s (SQ P base d Q)) : AO P base ops [] s (SQ P base (.seq (.region i os false) d) Q) := n1 (n2 h)
theorem n4 (h : AO P base os os.toList s (SQ P base d (SQ P base e Q))) : AO P base ops [] s (SQ P base (.seq (.seq (.region i os false) d) e) Q) := n1 (AW.seq' (n2 h))
theorem n5 (h : AW P base d s Q) : AW P base .skip s (SQ P base d Q) := AW.skip h
theorem n6 (h : AO P base os os.toList s (SQ P base d Q)) : AW P base .skip s (SQ P base (.seq (.region i os false) d) Q) := n5 (n2 h)
theorem n7 (h : AO P base os os.toList s Q) : AO P base ops [] s (BQ i (SQ P base (.region j os false) Q)) := AO.nil (AW.region h)
theorem n8 (h : AO P base os os.toList s (SQ P base d (SQ P base e Q))) : AW P base (.seq (.seq (.region i os false) d) e) s Q := AW.seq' (n2 h)
theorem n9 (h : AO P base os os.toList s Q) : AW P base .skip s (BQ i (SQ P base (.region j os false) Q)) := AW.skip (AW.region h)
theorem na (h : Q .ret s) : AO P base ops [] s (SQ P base .ret Q) := AO.nil (AW.ret h)
theorem nb (h : AW P base d s (BQ i Q)) : AO P base ops [] s (SQ P base (.block i d) Q) := n1 (AW.block' h)
theorem nc (h : AO P base os os.toList s (SQ P base d (BQ j (SQ P base e Q)))) : AW P base .skip s (SQ P base (.seq (.block j (.seq (.region i os false) d)) e) Q) := n5 (AW.seq' (AW.block' (n2 h)))
end
def fs27 : Array Field := #[{ name := "Nodes", type := 25, offset := 0, embedded := false, tag := "", pkgPath := "", byteOffset := 0 }, { name := "To", type := 3, offset := 1, embedded := false, tag := "", pkgPath := "", byteOffset := 24 }, { name := "At", type := 3, offset := 2, embedded := false, tag := "", pkgPath := "", byteOffset := 32 }, { name := "Names", type := 26, offset := 3, embedded := false, tag := "", pkgPath := "", byteOffset := 40 }]
def fs40 : Array Field := #[{ name := "Name", type := 9, offset := 0, embedded := false, tag := "", pkgPath := "", byteOffset := 0 }, { name := "Type", type := 3, offset := 1, embedded := false, tag := "", pkgPath := "", byteOffset := 16 }, { name := "Flags", type := 3, offset := 2, embedded := false, tag := "", pkgPath := "", byteOffset := 24 }, { name := "Align", type := 3, offset := 3, embedded := false, tag := "", pkgPath := "", byteOffset := 32 }, { name := "Ent", type := 3, offset := 4, embedded := false, tag := "", pkgPath := "", byteOffset := 40 }, { name := "Link", type := 3, offset := 5, embedded := false, tag := "", pkgPath := "", byteOffset := 48 }, { name := "Size", type := 3, offset := 6, embedded := false, tag := "", pkgPath := "", byteOffset := 56 }, { name := "Data", type := 38, offset := 7, embedded := false, tag := "", pkgPath := "", byteOffset := 64 }, { name := "Rels", type := 39, offset := 8, embedded := false, tag := "", pkgPath := "", byteOffset := 88 }]
def fs43 : Array Field := #[{ name := "Off", type := 3, offset := 0, embedded := false, tag := "", pkgPath := "", byteOffset := 0 }, { name := "Type", type := 3, offset := 1, embedded := false, tag := "", pkgPath := "", byteOffset := 8 }, { name := "Sym", type := 3, offset := 2, embedded := false, tag := "", pkgPath := "", byteOffset := 16 }, { name := "Add", type := 3, offset := 3, embedded := false, tag := "", pkgPath := "", byteOffset := 24 }]
@[reducible] def fl46 : List Field := [⟨"Name", 9, 0, false, "", "", 0⟩, ⟨"Bind", 3, 1, false, "", "", 16⟩, ⟨"Type", 3, 2, false, "", "", 24⟩, ⟨"Sec", 3, 3, false, "", "", 32⟩, ⟨"Value", 3, 4, false, "", "", 40⟩, ⟨"Size", 3, 5, false, "", "", 48⟩]
def fs46 : Array Field := #[{ name := "Name", type := 9, offset := 0, embedded := false, tag := "", pkgPath := "", byteOffset := 0 }, { name := "Bind", type := 3, offset := 1, embedded := false, tag := "", pkgPath := "", byteOffset := 16 }, { name := "Type", type := 3, offset := 2, embedded := false, tag := "", pkgPath := "", byteOffset := 24 }, { name := "Sec", type := 3, offset := 3, embedded := false, tag := "", pkgPath := "", byteOffset := 32 }, { name := "Value", type := 3, offset := 4, embedded := false, tag := "", pkgPath := "", byteOffset := 40 }, { name := "Size", type := 3, offset := 5, embedded := false, tag := "", pkgPath := "", byteOffset := 48 }]
def fs51 : Array Field := #[{ name := "Secs", type := 45, offset := 0, embedded := false, tag := "", pkgPath := "", byteOffset := 0 }, { name := "Syms", type := 48, offset := 1, embedded := false, tag := "", pkgPath := "", byteOffset := 24 }, { name := "Groups", type := 49, offset := 2, embedded := false, tag := "", pkgPath := "", byteOffset := 48 }, { name := "HasSig", type := 4, offset := 3, embedded := false, tag := "", pkgPath := "", byteOffset := 72 }, { name := "Sig", type := 50, offset := 4, embedded := false, tag := "", pkgPath := "", byteOffset := 80 }]
def fs55 : Array Field := #[{ name := "Obj", type := 3, offset := 0, embedded := false, tag := "", pkgPath := "", byteOffset := 0 }, { name := "Sec", type := 3, offset := 1, embedded := false, tag := "", pkgPath := "", byteOffset := 8 }, { name := "Pos", type := 3, offset := 2, embedded := false, tag := "", pkgPath := "", byteOffset := 16 }, { name := "Name", type := 9, offset := 3, embedded := false, tag := "", pkgPath := "", byteOffset := 24 }, { name := "Type", type := 3, offset := 4, embedded := false, tag := "", pkgPath := "", byteOffset := 40 }, { name := "Flags", type := 3, offset := 5, embedded := false, tag := "", pkgPath := "", byteOffset := 48 }, { name := "Align", type := 3, offset := 6, embedded := false, tag := "", pkgPath := "", byteOffset := 56 }, { name := "Ent", type := 3, offset := 7, embedded := false, tag := "", pkgPath := "", byteOffset := 64 }, { name := "Size", type := 3, offset := 8, embedded := false, tag := "", pkgPath := "", byteOffset := 72 }, { name := "Data", type := 38, offset := 9, embedded := false, tag := "", pkgPath := "", byteOffset := 80 }, { name := "Edges", type := 54, offset := 10, embedded := false, tag := "", pkgPath := "", byteOffset := 104 }, { name := "Unique", type := 4, offset := 11, embedded := false, tag := "", pkgPath := "", byteOffset := 128 }, { name := "Group", type := 3, offset := 12, embedded := false, tag := "", pkgPath := "", byteOffset := 136 }, { name := "Link", type := 3, offset := 13, embedded := false, tag := "", pkgPath := "", byteOffset := 144 }]
@[reducible] def fl57 : List Field := [⟨"Off", 3, 0, false, "", "", 0⟩, ⟨"Type", 3, 1, false, "", "", 8⟩, ⟨"Add", 3, 2, false, "", "", 16⟩, ⟨"To", 3, 3, false, "", "", 24⟩, ⟨"At", 3, 4, false, "", "", 32⟩]
def fs57 : Array Field := #[{ name := "Off", type := 3, offset := 0, embedded := false, tag := "", pkgPath := "", byteOffset := 0 }, { name := "Type", type := 3, offset := 1, embedded := false, tag := "", pkgPath := "", byteOffset := 8 }, { name := "Add", type := 3, offset := 2, embedded := false, tag := "", pkgPath := "", byteOffset := 16 }, { name := "To", type := 3, offset := 3, embedded := false, tag := "", pkgPath := "", byteOffset := 24 }, { name := "At", type := 3, offset := 4, embedded := false, tag := "", pkgPath := "", byteOffset := 32 }]
def fs62 : Array Field := #[{ name := "Dropped", type := 60, offset := 0, embedded := false, tag := "", pkgPath := "", byteOffset := 0 }, { name := "Defs", type := 61, offset := 1, embedded := false, tag := "", pkgPath := "", byteOffset := 24 }]
def fs69 : Array Field := #[{ name := "l", type := 22, offset := 0, embedded := false, tag := "", pkgPath := "fishplate/graph", byteOffset := 0 }, { name := "table", type := 63, offset := 1, embedded := false, tag := "", pkgPath := "fishplate/graph", byteOffset := 24 }, { name := "nodes", type := 25, offset := 3, embedded := false, tag := "", pkgPath := "fishplate/graph", byteOffset := 72 }, { name := "pieces", type := 67, offset := 4, embedded := false, tag := "", pkgPath := "fishplate/graph", byteOffset := 96 }, { name := "begin", type := 68, offset := 5, embedded := false, tag := "", pkgPath := "fishplate/graph", byteOffset := 104 }, { name := "unique", type := 68, offset := 6, embedded := false, tag := "", pkgPath := "fishplate/graph", byteOffset := 112 }]
@[reducible] def fl74 : List Field := [⟨"Name", 9, 0, false, "", "", 0⟩, ⟨"To", 3, 1, false, "", "", 16⟩, ⟨"At", 3, 2, false, "", "", 24⟩]
def fs74 : Array Field := #[{ name := "Name", type := 9, offset := 0, embedded := false, tag := "", pkgPath := "", byteOffset := 0 }, { name := "To", type := 3, offset := 1, embedded := false, tag := "", pkgPath := "", byteOffset := 16 }, { name := "At", type := 3, offset := 2, embedded := false, tag := "", pkgPath := "", byteOffset := 24 }]
def fs77 : Array Field := #[{ name := "Dropped", type := 60, offset := 0, embedded := false, tag := "", pkgPath := "", byteOffset := 0 }, { name := "Defs", type := 76, offset := 1, embedded := false, tag := "", pkgPath := "", byteOffset := 24 }]
def fs83 : Array Field := #[{ name := "Obj", type := 3, offset := 0, embedded := false, tag := "", pkgPath := "", byteOffset := 0 }, { name := "Sec", type := 3, offset := 1, embedded := false, tag := "", pkgPath := "", byteOffset := 8 }, { name := "At", type := 3, offset := 2, embedded := false, tag := "", pkgPath := "", byteOffset := 16 }]
def fs89 : Array Field := #[{ name := "Name", type := 9, offset := 0, embedded := false, tag := "", pkgPath := "", byteOffset := 0 }, { name := "Obj", type := 3, offset := 1, embedded := false, tag := "", pkgPath := "", byteOffset := 16 }, { name := "Sym", type := 3, offset := 2, embedded := false, tag := "", pkgPath := "", byteOffset := 24 }]
def fs92 : Array Field := #[{ name := "Sym", type := 3, offset := 0, embedded := false, tag := "", pkgPath := "", byteOffset := 0 }, { name := "Members", type := 50, offset := 1, embedded := false, tag := "", pkgPath := "", byteOffset := 8 }]
def fs105 : Array Field := #[{ name := "obj", type := 3, offset := 0, embedded := false, tag := "", pkgPath := "fishplate/graph", byteOffset := 0 }, { name := "sec", type := 3, offset := 1, embedded := false, tag := "", pkgPath := "fishplate/graph", byteOffset := 8 }]
def fs119 : Array Field := #[{ name := "At", type := 3, offset := 0, embedded := false, tag := "", pkgPath := "", byteOffset := 0 }, { name := "Size", type := 3, offset := 1, embedded := false, tag := "", pkgPath := "", byteOffset := 8 }]
def fs142 : Array Field := #[{ name := "Name", type := 3, offset := 0, embedded := false, tag := "", pkgPath := "", byteOffset := 0 }, { name := "Type", type := 3, offset := 1, embedded := false, tag := "", pkgPath := "", byteOffset := 8 }, { name := "Flags", type := 3, offset := 2, embedded := false, tag := "", pkgPath := "", byteOffset := 16 }, { name := "Addr", type := 3, offset := 3, embedded := false, tag := "", pkgPath := "", byteOffset := 24 }, { name := "Off", type := 3, offset := 4, embedded := false, tag := "", pkgPath := "", byteOffset := 32 }, { name := "Size", type := 3, offset := 5, embedded := false, tag := "", pkgPath := "", byteOffset := 40 }, { name := "Link", type := 3, offset := 6, embedded := false, tag := "", pkgPath := "", byteOffset := 48 }, { name := "Info", type := 3, offset := 7, embedded := false, tag := "", pkgPath := "", byteOffset := 56 }, { name := "Align", type := 3, offset := 8, embedded := false, tag := "", pkgPath := "", byteOffset := 64 }, { name := "Ent", type := 3, offset := 9, embedded := false, tag := "", pkgPath := "", byteOffset := 72 }]
def fs144 : Array Field := #[{ name := "h", type := 143, offset := 0, embedded := false, tag := "", pkgPath := "fishplate/obj", byteOffset := 0 }, { name := "name", type := 9, offset := 10, embedded := false, tag := "", pkgPath := "fishplate/obj", byteOffset := 80 }, { name := "b", type := 38, offset := 11, embedded := false, tag := "", pkgPath := "fishplate/obj", byteOffset := 96 }]
def fs148 : Array Field := #[{ name := "At", type := 3, offset := 0, embedded := false, tag := "", pkgPath := "", byteOffset := 0 }, { name := "Many", type := 3, offset := 1, embedded := false, tag := "", pkgPath := "", byteOffset := 8 }, { name := "Names", type := 3, offset := 2, embedded := false, tag := "", pkgPath := "", byteOffset := 16 }]
def fs155 : Array Field := #[{ name := "H", type := 154, offset := 0, embedded := false, tag := "", pkgPath := "", byteOffset := 0 }, { name := "Name", type := 9, offset := 10, embedded := false, tag := "", pkgPath := "", byteOffset := 80 }, { name := "B", type := 38, offset := 11, embedded := false, tag := "", pkgPath := "", byteOffset := 96 }]
def fs184 : Array Field := #[{ name := "Name", type := 3, offset := 0, embedded := false, tag := "", pkgPath := "", byteOffset := 0 }, { name := "Bind", type := 3, offset := 1, embedded := false, tag := "", pkgPath := "", byteOffset := 8 }, { name := "Type", type := 3, offset := 2, embedded := false, tag := "", pkgPath := "", byteOffset := 16 }, { name := "Index", type := 3, offset := 3, embedded := false, tag := "", pkgPath := "", byteOffset := 24 }, { name := "Value", type := 3, offset := 4, embedded := false, tag := "", pkgPath := "", byteOffset := 32 }, { name := "Size", type := 3, offset := 5, embedded := false, tag := "", pkgPath := "", byteOffset := 40 }]
def fs195 : Array Field := #[{ name := "v", type := 177, offset := 0, embedded := false, tag := "", pkgPath := "fishplate/ehdr", byteOffset := 0 }, { name := "n", type := 3, offset := 1, embedded := false, tag := "", pkgPath := "fishplate/ehdr", byteOffset := 8 }]
instance : TU Tryz.prog 3 (.int .i64) := ⟨by kernel_rfl⟩
instance : TI Tryz.prog 3 (.int .i64 0) 1 8 := ⟨by kernel_rfl⟩
instance : TG Tryz.prog 3 false 1 := ⟨by kernel_rfl, by kernel_rfl⟩
instance : TU Tryz.prog 4 .bool := ⟨by kernel_rfl⟩
instance : TI Tryz.prog 4 (.bool false) 1 1 := ⟨by kernel_rfl⟩
instance : TG Tryz.prog 4 false 1 := ⟨by kernel_rfl, by kernel_rfl⟩
instance : TU Tryz.prog 5 (.int .u8) := ⟨by kernel_rfl⟩
instance : TI Tryz.prog 5 (.int .u8 0) 1 1 := ⟨by kernel_rfl⟩
instance : TG Tryz.prog 5 false 1 := ⟨by kernel_rfl, by kernel_rfl⟩
instance : TU Tryz.prog 9 .string := ⟨by kernel_rfl⟩
instance : TI Tryz.prog 9 (.string { data := #[] }) 1 16 := ⟨by kernel_rfl⟩
instance : TG Tryz.prog 9 false 1 := ⟨by kernel_rfl, by kernel_rfl⟩
instance : TU Tryz.prog 22 (.slice 52) := ⟨by kernel_rfl⟩
instance : TG Tryz.prog 22 false 1 := ⟨by kernel_rfl, by kernel_rfl⟩
instance : TU Tryz.prog 25 (.slice 56) := ⟨by kernel_rfl⟩
instance : TG Tryz.prog 25 false 1 := ⟨by kernel_rfl, by kernel_rfl⟩
instance : TU Tryz.prog 26 (.slice 75) := ⟨by kernel_rfl⟩
instance : TG Tryz.prog 26 false 1 := ⟨by kernel_rfl, by kernel_rfl⟩
instance : TI Tryz.prog 28 (.agg #[.slice none 0 0, .int .i64 0, .int .i64 0, .slice none 0 0]) 4 64 := ⟨by kernel_rfl⟩
instance : TG Tryz.prog 28 true 4 := ⟨by kernel_rfl, by kernel_rfl⟩
instance : TB Tryz.prog 28 [.v (.slice none 0 0), .v (.int .i64 0), .v (.int .i64 0), .v (.slice none 0 0)] [(0, 1), (1, 1), (2, 1), (3, 1)] := tb_of (fs := fs27) (zs := [.slice none 0 0, .int .i64 0, .int .i64 0, .slice none 0 0]) (by kernel_rfl) (by kernel_rfl) (by kernel_rfl) rfl (by kernel_rfl)
instance : TF Tryz.prog 28 0 0 1 false := ⟨⟨fs27, _, by kernel_rfl, rfl, rfl, by kernel_rfl, by decide, by kernel_rfl⟩⟩
instance : TF Tryz.prog 28 1 1 1 false := ⟨⟨fs27, _, by kernel_rfl, rfl, rfl, by kernel_rfl, by decide, by kernel_rfl⟩⟩
instance : TF Tryz.prog 28 2 2 1 false := ⟨⟨fs27, _, by kernel_rfl, rfl, rfl, by kernel_rfl, by decide, by kernel_rfl⟩⟩
instance : TF Tryz.prog 28 3 3 1 false := ⟨⟨fs27, _, by kernel_rfl, rfl, rfl, by kernel_rfl, by decide, by kernel_rfl⟩⟩
instance : TU Tryz.prog 38 (.slice 5) := ⟨by kernel_rfl⟩
instance : TG Tryz.prog 38 false 1 := ⟨by kernel_rfl, by kernel_rfl⟩
instance : TU Tryz.prog 39 (.slice 44) := ⟨by kernel_rfl⟩
instance : TG Tryz.prog 39 false 1 := ⟨by kernel_rfl, by kernel_rfl⟩
instance : TU Tryz.prog 41 (.struct fs40) := ⟨by kernel_rfl⟩
instance : TI Tryz.prog 41 (.agg #[.string { data := #[] }, .int .i64 0, .int .i64 0, .int .i64 0, .int .i64 0, .int .i64 0, .int .i64 0, .slice none 0 0, .slice none 0 0]) 9 112 := ⟨by kernel_rfl⟩
instance : TG Tryz.prog 41 true 9 := ⟨by kernel_rfl, by kernel_rfl⟩
instance : TB Tryz.prog 41 [.v (.string { data := #[] }), .v (.int .i64 0), .v (.int .i64 0), .v (.int .i64 0), .v (.int .i64 0), .v (.int .i64 0), .v (.int .i64 0), .v (.slice none 0 0), .v (.slice none 0 0)] [(0, 1), (1, 1), (2, 1), (3, 1), (4, 1), (5, 1), (6, 1), (7, 1), (8, 1)] := tb_of (fs := fs40) (zs := [.string { data := #[] }, .int .i64 0, .int .i64 0, .int .i64 0, .int .i64 0, .int .i64 0, .int .i64 0, .slice none 0 0, .slice none 0 0]) (by kernel_rfl) (by kernel_rfl) (by kernel_rfl) rfl (by kernel_rfl)
instance : TF Tryz.prog 41 0 0 1 false := ⟨⟨fs40, _, by kernel_rfl, rfl, rfl, by kernel_rfl, by decide, by kernel_rfl⟩⟩
instance : TF Tryz.prog 41 1 1 1 false := ⟨⟨fs40, _, by kernel_rfl, rfl, rfl, by kernel_rfl, by decide, by kernel_rfl⟩⟩
instance : TF Tryz.prog 41 2 2 1 false := ⟨⟨fs40, _, by kernel_rfl, rfl, rfl, by kernel_rfl, by decide, by kernel_rfl⟩⟩
instance : TF Tryz.prog 41 3 3 1 false := ⟨⟨fs40, _, by kernel_rfl, rfl, rfl, by kernel_rfl, by decide, by kernel_rfl⟩⟩
instance : TF Tryz.prog 41 4 4 1 false := ⟨⟨fs40, _, by kernel_rfl, rfl, rfl, by kernel_rfl, by decide, by kernel_rfl⟩⟩
instance : TF Tryz.prog 41 5 5 1 false := ⟨⟨fs40, _, by kernel_rfl, rfl, rfl, by kernel_rfl, by decide, by kernel_rfl⟩⟩
instance : TF Tryz.prog 41 6 6 1 false := ⟨⟨fs40, _, by kernel_rfl, rfl, rfl, by kernel_rfl, by decide, by kernel_rfl⟩⟩
instance : TF Tryz.prog 41 7 7 1 false := ⟨⟨fs40, _, by kernel_rfl, rfl, rfl, by kernel_rfl, by decide, by kernel_rfl⟩⟩
instance : TF Tryz.prog 41 8 8 1 false := ⟨⟨fs40, _, by kernel_rfl, rfl, rfl, by kernel_rfl, by decide, by kernel_rfl⟩⟩
instance : TU Tryz.prog 44 (.struct fs43) := ⟨by kernel_rfl⟩
instance : TI Tryz.prog 44 (.agg #[.int .i64 0, .int .i64 0, .int .i64 0, .int .i64 0]) 4 32 := ⟨by kernel_rfl⟩
instance : TG Tryz.prog 44 true 4 := ⟨by kernel_rfl, by kernel_rfl⟩
instance : TB Tryz.prog 44 [.v (.int .i64 0), .v (.int .i64 0), .v (.int .i64 0), .v (.int .i64 0)] [(0, 1), (1, 1), (2, 1), (3, 1)] := tb_of (fs := fs43) (zs := [.int .i64 0, .int .i64 0, .int .i64 0, .int .i64 0]) (by kernel_rfl) (by kernel_rfl) (by kernel_rfl) rfl (by kernel_rfl)
instance : TF Tryz.prog 44 0 0 1 false := ⟨⟨fs43, _, by kernel_rfl, rfl, rfl, by kernel_rfl, by decide, by kernel_rfl⟩⟩
instance : TF Tryz.prog 44 1 1 1 false := ⟨⟨fs43, _, by kernel_rfl, rfl, rfl, by kernel_rfl, by decide, by kernel_rfl⟩⟩
instance : TF Tryz.prog 44 2 2 1 false := ⟨⟨fs43, _, by kernel_rfl, rfl, rfl, by kernel_rfl, by decide, by kernel_rfl⟩⟩
instance : TF Tryz.prog 44 3 3 1 false := ⟨⟨fs43, _, by kernel_rfl, rfl, rfl, by kernel_rfl, by decide, by kernel_rfl⟩⟩
instance : TU Tryz.prog 45 (.slice 41) := ⟨by kernel_rfl⟩
instance : TG Tryz.prog 45 false 1 := ⟨by kernel_rfl, by kernel_rfl⟩
instance : TU Tryz.prog 47 (.struct fs46) := ⟨by kernel_rfl⟩
instance : TI Tryz.prog 47 (.agg #[.string { data := #[] }, .int .i64 0, .int .i64 0, .int .i64 0, .int .i64 0, .int .i64 0]) 6 56 := ⟨by kernel_rfl⟩
instance : TG Tryz.prog 47 true 6 := ⟨by kernel_rfl, by kernel_rfl⟩
instance : SFL Tryz.prog 47 fl46 := ⟨fs46, by kernel_rfl, rfl, by kernel_rfl, by kernel_rfl, by kernel_rfl⟩
instance : TB Tryz.prog 47 [.v (.string { data := #[] }), .v (.int .i64 0), .v (.int .i64 0), .v (.int .i64 0), .v (.int .i64 0), .v (.int .i64 0)] [(0, 1), (1, 1), (2, 1), (3, 1), (4, 1), (5, 1)] := tb_of (fs := fs46) (zs := [.string { data := #[] }, .int .i64 0, .int .i64 0, .int .i64 0, .int .i64 0, .int .i64 0]) (by kernel_rfl) (by kernel_rfl) (by kernel_rfl) rfl (by kernel_rfl)
instance : TF Tryz.prog 47 0 0 1 false := ⟨⟨fs46, _, by kernel_rfl, rfl, rfl, by kernel_rfl, by decide, by kernel_rfl⟩⟩
instance : TF Tryz.prog 47 1 1 1 false := ⟨⟨fs46, _, by kernel_rfl, rfl, rfl, by kernel_rfl, by decide, by kernel_rfl⟩⟩
instance : TF Tryz.prog 47 2 2 1 false := ⟨⟨fs46, _, by kernel_rfl, rfl, rfl, by kernel_rfl, by decide, by kernel_rfl⟩⟩
instance : TF Tryz.prog 47 3 3 1 false := ⟨⟨fs46, _, by kernel_rfl, rfl, rfl, by kernel_rfl, by decide, by kernel_rfl⟩⟩
instance : TF Tryz.prog 47 4 4 1 false := ⟨⟨fs46, _, by kernel_rfl, rfl, rfl, by kernel_rfl, by decide, by kernel_rfl⟩⟩
instance : TF Tryz.prog 47 5 5 1 false := ⟨⟨fs46, _, by kernel_rfl, rfl, rfl, by kernel_rfl, by decide, by kernel_rfl⟩⟩
instance : TU Tryz.prog 48 (.slice 47) := ⟨by kernel_rfl⟩
instance : TG Tryz.prog 48 false 1 := ⟨by kernel_rfl, by kernel_rfl⟩
instance : TU Tryz.prog 49 (.slice 93) := ⟨by kernel_rfl⟩
instance : TG Tryz.prog 49 false 1 := ⟨by kernel_rfl, by kernel_rfl⟩
instance : TU Tryz.prog 50 (.slice 3) := ⟨by kernel_rfl⟩
instance : TG Tryz.prog 50 false 1 := ⟨by kernel_rfl, by kernel_rfl⟩
instance : TU Tryz.prog 52 (.struct fs51) := ⟨by kernel_rfl⟩
instance : TI Tryz.prog 52 (.agg #[.slice none 0 0, .slice none 0 0, .slice none 0 0, .bool false, .slice none 0 0]) 5 104 := ⟨by kernel_rfl⟩
instance : TG Tryz.prog 52 true 5 := ⟨by kernel_rfl, by kernel_rfl⟩
instance : TB Tryz.prog 52 [.v (.slice none 0 0), .v (.slice none 0 0), .v (.slice none 0 0), .v (.bool false), .v (.slice none 0 0)] [(0, 1), (1, 1), (2, 1), (3, 1), (4, 1)] := tb_of (fs := fs51) (zs := [.slice none 0 0, .slice none 0 0, .slice none 0 0, .bool false, .slice none 0 0]) (by kernel_rfl) (by kernel_rfl) (by kernel_rfl) rfl (by kernel_rfl)
instance : TF Tryz.prog 52 0 0 1 false := ⟨⟨fs51, _, by kernel_rfl, rfl, rfl, by kernel_rfl, by decide, by kernel_rfl⟩⟩
instance : TF Tryz.prog 52 1 1 1 false := ⟨⟨fs51, _, by kernel_rfl, rfl, rfl, by kernel_rfl, by decide, by kernel_rfl⟩⟩
instance : TF Tryz.prog 52 2 2 1 false := ⟨⟨fs51, _, by kernel_rfl, rfl, rfl, by kernel_rfl, by decide, by kernel_rfl⟩⟩
instance : TF Tryz.prog 52 3 3 1 false := ⟨⟨fs51, _, by kernel_rfl, rfl, rfl, by kernel_rfl, by decide, by kernel_rfl⟩⟩
instance : TF Tryz.prog 52 4 4 1 false := ⟨⟨fs51, _, by kernel_rfl, rfl, rfl, by kernel_rfl, by decide, by kernel_rfl⟩⟩
instance : TU Tryz.prog 53 (.int .i64) := ⟨by kernel_rfl⟩
instance : TU Tryz.prog 54 (.slice 58) := ⟨by kernel_rfl⟩
instance : TG Tryz.prog 54 false 1 := ⟨by kernel_rfl, by kernel_rfl⟩
instance : TI Tryz.prog 56 (.agg #[.int .i64 0, .int .i64 0, .int .i64 0, .string { data := #[] }, .int .i64 0, .int .i64 0, .int .i64 0, .int .i64 0, .int .i64 0, .slice none 0 0, .slice none 0 0, .bool false, .int .i64 0, .int .i64 0]) 14 152 := ⟨by kernel_rfl⟩
instance : TG Tryz.prog 56 true 14 := ⟨by kernel_rfl, by kernel_rfl⟩
instance : TB Tryz.prog 56 [.v (.int .i64 0), .v (.int .i64 0), .v (.int .i64 0), .v (.string { data := #[] }), .v (.int .i64 0), .v (.int .i64 0), .v (.int .i64 0), .v (.int .i64 0), .v (.int .i64 0), .v (.slice none 0 0), .v (.slice none 0 0), .v (.bool false), .v (.int .i64 0), .v (.int .i64 0)] [(0, 1), (1, 1), (2, 1), (3, 1), (4, 1), (5, 1), (6, 1), (7, 1), (8, 1), (9, 1), (10, 1), (11, 1), (12, 1), (13, 1)] := tb_of (fs := fs55) (zs := [.int .i64 0, .int .i64 0, .int .i64 0, .string { data := #[] }, .int .i64 0, .int .i64 0, .int .i64 0, .int .i64 0, .int .i64 0, .slice none 0 0, .slice none 0 0, .bool false, .int .i64 0, .int .i64 0]) (by kernel_rfl) (by kernel_rfl) (by kernel_rfl) rfl (by kernel_rfl)
instance : TF Tryz.prog 56 0 0 1 false := ⟨⟨fs55, _, by kernel_rfl, rfl, rfl, by kernel_rfl, by decide, by kernel_rfl⟩⟩
instance : TF Tryz.prog 56 1 1 1 false := ⟨⟨fs55, _, by kernel_rfl, rfl, rfl, by kernel_rfl, by decide, by kernel_rfl⟩⟩
instance : TF Tryz.prog 56 2 2 1 false := ⟨⟨fs55, _, by kernel_rfl, rfl, rfl, by kernel_rfl, by decide, by kernel_rfl⟩⟩
instance : TF Tryz.prog 56 3 3 1 false := ⟨⟨fs55, _, by kernel_rfl, rfl, rfl, by kernel_rfl, by decide, by kernel_rfl⟩⟩
instance : TF Tryz.prog 56 4 4 1 false := ⟨⟨fs55, _, by kernel_rfl, rfl, rfl, by kernel_rfl, by decide, by kernel_rfl⟩⟩
instance : TF Tryz.prog 56 5 5 1 false := ⟨⟨fs55, _, by kernel_rfl, rfl, rfl, by kernel_rfl, by decide, by kernel_rfl⟩⟩
instance : TF Tryz.prog 56 6 6 1 false := ⟨⟨fs55, _, by kernel_rfl, rfl, rfl, by kernel_rfl, by decide, by kernel_rfl⟩⟩
instance : TF Tryz.prog 56 7 7 1 false := ⟨⟨fs55, _, by kernel_rfl, rfl, rfl, by kernel_rfl, by decide, by kernel_rfl⟩⟩
instance : TF Tryz.prog 56 8 8 1 false := ⟨⟨fs55, _, by kernel_rfl, rfl, rfl, by kernel_rfl, by decide, by kernel_rfl⟩⟩
instance : TF Tryz.prog 56 9 9 1 false := ⟨⟨fs55, _, by kernel_rfl, rfl, rfl, by kernel_rfl, by decide, by kernel_rfl⟩⟩
instance : TF Tryz.prog 56 10 10 1 false := ⟨⟨fs55, _, by kernel_rfl, rfl, rfl, by kernel_rfl, by decide, by kernel_rfl⟩⟩
instance : TF Tryz.prog 56 11 11 1 false := ⟨⟨fs55, _, by kernel_rfl, rfl, rfl, by kernel_rfl, by decide, by kernel_rfl⟩⟩
instance : TF Tryz.prog 56 12 12 1 false := ⟨⟨fs55, _, by kernel_rfl, rfl, rfl, by kernel_rfl, by decide, by kernel_rfl⟩⟩
instance : TF Tryz.prog 56 13 13 1 false := ⟨⟨fs55, _, by kernel_rfl, rfl, rfl, by kernel_rfl, by decide, by kernel_rfl⟩⟩
instance : TI Tryz.prog 58 (.agg #[.int .i64 0, .int .i64 0, .int .i64 0, .int .i64 0, .int .i64 0]) 5 40 := ⟨by kernel_rfl⟩
instance : TG Tryz.prog 58 true 5 := ⟨by kernel_rfl, by kernel_rfl⟩
instance : SFL Tryz.prog 58 fl57 := ⟨fs57, by kernel_rfl, rfl, by kernel_rfl, by kernel_rfl, by kernel_rfl⟩
instance : TB Tryz.prog 58 [.v (.int .i64 0), .v (.int .i64 0), .v (.int .i64 0), .v (.int .i64 0), .v (.int .i64 0)] [(0, 1), (1, 1), (2, 1), (3, 1), (4, 1)] := tb_of (fs := fs57) (zs := [.int .i64 0, .int .i64 0, .int .i64 0, .int .i64 0, .int .i64 0]) (by kernel_rfl) (by kernel_rfl) (by kernel_rfl) rfl (by kernel_rfl)
instance : TF Tryz.prog 58 3 3 1 false := ⟨⟨fs57, _, by kernel_rfl, rfl, rfl, by kernel_rfl, by decide, by kernel_rfl⟩⟩
instance : TF Tryz.prog 58 4 4 1 false := ⟨⟨fs57, _, by kernel_rfl, rfl, rfl, by kernel_rfl, by decide, by kernel_rfl⟩⟩
instance : TU Tryz.prog 60 (.slice 98) := ⟨by kernel_rfl⟩
instance : TG Tryz.prog 60 false 1 := ⟨by kernel_rfl, by kernel_rfl⟩
instance : TU Tryz.prog 61 (.slice 100) := ⟨by kernel_rfl⟩
instance : TG Tryz.prog 61 false 1 := ⟨by kernel_rfl, by kernel_rfl⟩
instance : TI Tryz.prog 63 (.agg #[.slice none 0 0, .slice none 0 0]) 2 48 := ⟨by kernel_rfl⟩
instance : TG Tryz.prog 63 true 2 := ⟨by kernel_rfl, by kernel_rfl⟩
instance : TB Tryz.prog 63 [.v (.slice none 0 0), .v (.slice none 0 0)] [(0, 1), (1, 1)] := tb_of (fs := fs62) (zs := [.slice none 0 0, .slice none 0 0]) (by kernel_rfl) (by kernel_rfl) (by kernel_rfl) rfl (by kernel_rfl)
instance : TF Tryz.prog 63 0 0 1 false := ⟨⟨fs62, _, by kernel_rfl, rfl, rfl, by kernel_rfl, by decide, by kernel_rfl⟩⟩
instance : TF Tryz.prog 63 1 1 1 false := ⟨⟨fs62, _, by kernel_rfl, rfl, rfl, by kernel_rfl, by decide, by kernel_rfl⟩⟩
instance : TU Tryz.prog 67 (.map 106 131) := ⟨by kernel_rfl⟩
instance : TG Tryz.prog 67 false 1 := ⟨by kernel_rfl, by kernel_rfl⟩
instance : TU Tryz.prog 68 (.map 106 3) := ⟨by kernel_rfl⟩
instance : TG Tryz.prog 68 false 1 := ⟨by kernel_rfl, by kernel_rfl⟩
instance : TB Tryz.prog 70 [.v (.slice none 0 0), .v (.slice none 0 0), .v (.slice none 0 0), .v (.slice none 0 0), .v (.map none), .v (.map none), .v (.map none)] [(0, 1), (1, 2), (3, 1), (4, 1), (5, 1), (6, 1)] := tb_of (fs := fs69) (zs := [.slice none 0 0, .slice none 0 0, .slice none 0 0, .slice none 0 0, .map none, .map none, .map none]) (by kernel_rfl) (by kernel_rfl) (by kernel_rfl) rfl (by kernel_rfl)
instance : TF Tryz.prog 70 0 0 1 false := ⟨⟨fs69, _, by kernel_rfl, rfl, rfl, by kernel_rfl, by decide, by kernel_rfl⟩⟩
instance : TF Tryz.prog 70 1 1 2 true := ⟨⟨fs69, _, by kernel_rfl, rfl, rfl, by kernel_rfl, by decide, by kernel_rfl⟩⟩
instance : TF Tryz.prog 70 2 3 1 false := ⟨⟨fs69, _, by kernel_rfl, rfl, rfl, by kernel_rfl, by decide, by kernel_rfl⟩⟩
instance : TF Tryz.prog 70 3 4 1 false := ⟨⟨fs69, _, by kernel_rfl, rfl, rfl, by kernel_rfl, by decide, by kernel_rfl⟩⟩
instance : TF Tryz.prog 70 4 5 1 false := ⟨⟨fs69, _, by kernel_rfl, rfl, rfl, by kernel_rfl, by decide, by kernel_rfl⟩⟩
instance : TF Tryz.prog 70 5 6 1 false := ⟨⟨fs69, _, by kernel_rfl, rfl, rfl, by kernel_rfl, by decide, by kernel_rfl⟩⟩
instance : TI Tryz.prog 75 (.agg #[.string { data := #[] }, .int .i64 0, .int .i64 0]) 3 32 := ⟨by kernel_rfl⟩
instance : TG Tryz.prog 75 true 3 := ⟨by kernel_rfl, by kernel_rfl⟩
instance : SFL Tryz.prog 75 fl74 := ⟨fs74, by kernel_rfl, rfl, by kernel_rfl, by kernel_rfl, by kernel_rfl⟩
instance : TB Tryz.prog 75 [.v (.string { data := #[] }), .v (.int .i64 0), .v (.int .i64 0)] [(0, 1), (1, 1), (2, 1)] := tb_of (fs := fs74) (zs := [.string { data := #[] }, .int .i64 0, .int .i64 0]) (by kernel_rfl) (by kernel_rfl) (by kernel_rfl) rfl (by kernel_rfl)
instance : TF Tryz.prog 75 0 0 1 false := ⟨⟨fs74, _, by kernel_rfl, rfl, rfl, by kernel_rfl, by decide, by kernel_rfl⟩⟩
instance : TF Tryz.prog 75 1 1 1 false := ⟨⟨fs74, _, by kernel_rfl, rfl, rfl, by kernel_rfl, by decide, by kernel_rfl⟩⟩
instance : TF Tryz.prog 75 2 2 1 false := ⟨⟨fs74, _, by kernel_rfl, rfl, rfl, by kernel_rfl, by decide, by kernel_rfl⟩⟩
instance : TU Tryz.prog 76 (.slice 90) := ⟨by kernel_rfl⟩
instance : TG Tryz.prog 76 false 1 := ⟨by kernel_rfl, by kernel_rfl⟩
instance : TI Tryz.prog 78 (.agg #[.slice none 0 0, .slice none 0 0]) 2 48 := ⟨by kernel_rfl⟩
instance : TG Tryz.prog 78 true 2 := ⟨by kernel_rfl, by kernel_rfl⟩
instance : TB Tryz.prog 78 [.v (.slice none 0 0), .v (.slice none 0 0)] [(0, 1), (1, 1)] := tb_of (fs := fs77) (zs := [.slice none 0 0, .slice none 0 0]) (by kernel_rfl) (by kernel_rfl) (by kernel_rfl) rfl (by kernel_rfl)
instance : TF Tryz.prog 78 0 0 1 false := ⟨⟨fs77, _, by kernel_rfl, rfl, rfl, by kernel_rfl, by decide, by kernel_rfl⟩⟩
instance : TF Tryz.prog 78 1 1 1 false := ⟨⟨fs77, _, by kernel_rfl, rfl, rfl, by kernel_rfl, by decide, by kernel_rfl⟩⟩
instance : TI Tryz.prog 84 (.agg #[.int .i64 0, .int .i64 0, .int .i64 0]) 3 24 := ⟨by kernel_rfl⟩
instance : TG Tryz.prog 84 true 3 := ⟨by kernel_rfl, by kernel_rfl⟩
instance : TB Tryz.prog 84 [.v (.int .i64 0), .v (.int .i64 0), .v (.int .i64 0)] [(0, 1), (1, 1), (2, 1)] := tb_of (fs := fs83) (zs := [.int .i64 0, .int .i64 0, .int .i64 0]) (by kernel_rfl) (by kernel_rfl) (by kernel_rfl) rfl (by kernel_rfl)
instance : TF Tryz.prog 84 0 0 1 false := ⟨⟨fs83, _, by kernel_rfl, rfl, rfl, by kernel_rfl, by decide, by kernel_rfl⟩⟩
instance : TF Tryz.prog 84 1 1 1 false := ⟨⟨fs83, _, by kernel_rfl, rfl, rfl, by kernel_rfl, by decide, by kernel_rfl⟩⟩
instance : TF Tryz.prog 84 2 2 1 false := ⟨⟨fs83, _, by kernel_rfl, rfl, rfl, by kernel_rfl, by decide, by kernel_rfl⟩⟩
instance : TI Tryz.prog 90 (.agg #[.string { data := #[] }, .int .i64 0, .int .i64 0]) 3 32 := ⟨by kernel_rfl⟩
instance : TG Tryz.prog 90 true 3 := ⟨by kernel_rfl, by kernel_rfl⟩
instance : TB Tryz.prog 90 [.v (.string { data := #[] }), .v (.int .i64 0), .v (.int .i64 0)] [(0, 1), (1, 1), (2, 1)] := tb_of (fs := fs89) (zs := [.string { data := #[] }, .int .i64 0, .int .i64 0]) (by kernel_rfl) (by kernel_rfl) (by kernel_rfl) rfl (by kernel_rfl)
instance : TF Tryz.prog 90 0 0 1 false := ⟨⟨fs89, _, by kernel_rfl, rfl, rfl, by kernel_rfl, by decide, by kernel_rfl⟩⟩
instance : TF Tryz.prog 90 1 1 1 false := ⟨⟨fs89, _, by kernel_rfl, rfl, rfl, by kernel_rfl, by decide, by kernel_rfl⟩⟩
instance : TF Tryz.prog 90 2 2 1 false := ⟨⟨fs89, _, by kernel_rfl, rfl, rfl, by kernel_rfl, by decide, by kernel_rfl⟩⟩
instance : TU Tryz.prog 93 (.struct fs92) := ⟨by kernel_rfl⟩
instance : TI Tryz.prog 93 (.agg #[.int .i64 0, .slice none 0 0]) 2 32 := ⟨by kernel_rfl⟩
instance : TG Tryz.prog 93 true 2 := ⟨by kernel_rfl, by kernel_rfl⟩
instance : TF Tryz.prog 93 0 0 1 false := ⟨⟨fs92, _, by kernel_rfl, rfl, rfl, by kernel_rfl, by decide, by kernel_rfl⟩⟩
instance : TF Tryz.prog 93 1 1 1 false := ⟨⟨fs92, _, by kernel_rfl, rfl, rfl, by kernel_rfl, by decide, by kernel_rfl⟩⟩
instance : TU Tryz.prog 98 (.slice 4) := ⟨by kernel_rfl⟩
instance : TI Tryz.prog 98 (.slice none 0 0) 1 24 := ⟨by kernel_rfl⟩
instance : TG Tryz.prog 98 false 1 := ⟨by kernel_rfl, by kernel_rfl⟩
instance : TI Tryz.prog 100 (.agg #[.string { data := #[] }, .int .i64 0, .int .i64 0]) 3 32 := ⟨by kernel_rfl⟩
instance : TG Tryz.prog 100 true 3 := ⟨by kernel_rfl, by kernel_rfl⟩
instance : TB Tryz.prog 100 [.v (.string { data := #[] }), .v (.int .i64 0), .v (.int .i64 0)] [(0, 1), (1, 1), (2, 1)] := tb_of (fs := fs89) (zs := [.string { data := #[] }, .int .i64 0, .int .i64 0]) (by kernel_rfl) (by kernel_rfl) (by kernel_rfl) rfl (by kernel_rfl)
instance : TF Tryz.prog 100 0 0 1 false := ⟨⟨fs89, _, by kernel_rfl, rfl, rfl, by kernel_rfl, by decide, by kernel_rfl⟩⟩
instance : TF Tryz.prog 100 1 1 1 false := ⟨⟨fs89, _, by kernel_rfl, rfl, rfl, by kernel_rfl, by decide, by kernel_rfl⟩⟩
instance : TF Tryz.prog 100 2 2 1 false := ⟨⟨fs89, _, by kernel_rfl, rfl, rfl, by kernel_rfl, by decide, by kernel_rfl⟩⟩
instance : TU Tryz.prog 103 (.map 3 3) := ⟨by kernel_rfl⟩
instance : TI Tryz.prog 106 (.agg #[.int .i64 0, .int .i64 0]) 2 16 := ⟨by kernel_rfl⟩
instance : TG Tryz.prog 106 true 2 := ⟨by kernel_rfl, by kernel_rfl⟩
instance : TB Tryz.prog 106 [.v (.int .i64 0), .v (.int .i64 0)] [(0, 1), (1, 1)] := tb_of (fs := fs105) (zs := [.int .i64 0, .int .i64 0]) (by kernel_rfl) (by kernel_rfl) (by kernel_rfl) rfl (by kernel_rfl)
instance : TI Tryz.prog 107 (.agg #[.int .i64 0, .int .i64 0, .int .i64 0]) 3 24 := ⟨by kernel_rfl⟩
instance : TG Tryz.prog 107 true 3 := ⟨by kernel_rfl, by kernel_rfl⟩
instance : TB Tryz.prog 107 [.v (.int .i64 0), .v (.int .i64 0), .v (.int .i64 0)] [(0, 1), (1, 1), (2, 1)] := tb_of (fs := fs83) (zs := [.int .i64 0, .int .i64 0, .int .i64 0]) (by kernel_rfl) (by kernel_rfl) (by kernel_rfl) rfl (by kernel_rfl)
instance : TF Tryz.prog 107 0 0 1 false := ⟨⟨fs83, _, by kernel_rfl, rfl, rfl, by kernel_rfl, by decide, by kernel_rfl⟩⟩
instance : TF Tryz.prog 107 1 1 1 false := ⟨⟨fs83, _, by kernel_rfl, rfl, rfl, by kernel_rfl, by decide, by kernel_rfl⟩⟩
instance : TF Tryz.prog 107 2 2 1 false := ⟨⟨fs83, _, by kernel_rfl, rfl, rfl, by kernel_rfl, by decide, by kernel_rfl⟩⟩
instance : TU Tryz.prog 117 (.slice 120) := ⟨by kernel_rfl⟩
instance : TI Tryz.prog 120 (.agg #[.int .i64 0, .int .i64 0]) 2 16 := ⟨by kernel_rfl⟩
instance : TG Tryz.prog 120 true 2 := ⟨by kernel_rfl, by kernel_rfl⟩
instance : TB Tryz.prog 120 [.v (.int .i64 0), .v (.int .i64 0)] [(0, 1), (1, 1)] := tb_of (fs := fs119) (zs := [.int .i64 0, .int .i64 0]) (by kernel_rfl) (by kernel_rfl) (by kernel_rfl) rfl (by kernel_rfl)
instance : TF Tryz.prog 120 0 0 1 false := ⟨⟨fs119, _, by kernel_rfl, rfl, rfl, by kernel_rfl, by decide, by kernel_rfl⟩⟩
instance : TF Tryz.prog 120 1 1 1 false := ⟨⟨fs119, _, by kernel_rfl, rfl, rfl, by kernel_rfl, by decide, by kernel_rfl⟩⟩
instance : TU Tryz.prog 125 (.map 9 3) := ⟨by kernel_rfl⟩
instance : TU Tryz.prog 131 (.slice 133) := ⟨by kernel_rfl⟩
instance : TI Tryz.prog 131 (.slice none 0 0) 1 24 := ⟨by kernel_rfl⟩
instance : TI Tryz.prog 133 (.agg #[.int .i64 0, .int .i64 0]) 2 16 := ⟨by kernel_rfl⟩
instance : TG Tryz.prog 133 true 2 := ⟨by kernel_rfl, by kernel_rfl⟩
instance : TB Tryz.prog 133 [.v (.int .i64 0), .v (.int .i64 0)] [(0, 1), (1, 1)] := tb_of (fs := fs119) (zs := [.int .i64 0, .int .i64 0]) (by kernel_rfl) (by kernel_rfl) (by kernel_rfl) rfl (by kernel_rfl)
instance : TF Tryz.prog 133 0 0 1 false := ⟨⟨fs119, _, by kernel_rfl, rfl, rfl, by kernel_rfl, by decide, by kernel_rfl⟩⟩
instance : TF Tryz.prog 133 1 1 1 false := ⟨⟨fs119, _, by kernel_rfl, rfl, rfl, by kernel_rfl, by decide, by kernel_rfl⟩⟩
instance : TU Tryz.prog 140 (.slice 145) := ⟨by kernel_rfl⟩
instance : TG Tryz.prog 143 true 10 := ⟨by kernel_rfl, by kernel_rfl⟩
instance : TB Tryz.prog 143 [.v (.int .i64 0), .v (.int .i64 0), .v (.int .i64 0), .v (.int .i64 0), .v (.int .i64 0), .v (.int .i64 0), .v (.int .i64 0), .v (.int .i64 0), .v (.int .i64 0), .v (.int .i64 0)] [(0, 1), (1, 1), (2, 1), (3, 1), (4, 1), (5, 1), (6, 1), (7, 1), (8, 1), (9, 1)] := tb_of (fs := fs142) (zs := [.int .i64 0, .int .i64 0, .int .i64 0, .int .i64 0, .int .i64 0, .int .i64 0, .int .i64 0, .int .i64 0, .int .i64 0, .int .i64 0]) (by kernel_rfl) (by kernel_rfl) (by kernel_rfl) rfl (by kernel_rfl)
instance : TF Tryz.prog 143 0 0 1 false := ⟨⟨fs142, _, by kernel_rfl, rfl, rfl, by kernel_rfl, by decide, by kernel_rfl⟩⟩
instance : TF Tryz.prog 143 1 1 1 false := ⟨⟨fs142, _, by kernel_rfl, rfl, rfl, by kernel_rfl, by decide, by kernel_rfl⟩⟩
instance : TF Tryz.prog 143 2 2 1 false := ⟨⟨fs142, _, by kernel_rfl, rfl, rfl, by kernel_rfl, by decide, by kernel_rfl⟩⟩
instance : TF Tryz.prog 143 3 3 1 false := ⟨⟨fs142, _, by kernel_rfl, rfl, rfl, by kernel_rfl, by decide, by kernel_rfl⟩⟩
instance : TF Tryz.prog 143 4 4 1 false := ⟨⟨fs142, _, by kernel_rfl, rfl, rfl, by kernel_rfl, by decide, by kernel_rfl⟩⟩
instance : TF Tryz.prog 143 5 5 1 false := ⟨⟨fs142, _, by kernel_rfl, rfl, rfl, by kernel_rfl, by decide, by kernel_rfl⟩⟩
instance : TF Tryz.prog 143 6 6 1 false := ⟨⟨fs142, _, by kernel_rfl, rfl, rfl, by kernel_rfl, by decide, by kernel_rfl⟩⟩
instance : TF Tryz.prog 143 7 7 1 false := ⟨⟨fs142, _, by kernel_rfl, rfl, rfl, by kernel_rfl, by decide, by kernel_rfl⟩⟩
instance : TF Tryz.prog 143 8 8 1 false := ⟨⟨fs142, _, by kernel_rfl, rfl, rfl, by kernel_rfl, by decide, by kernel_rfl⟩⟩
instance : TF Tryz.prog 143 9 9 1 false := ⟨⟨fs142, _, by kernel_rfl, rfl, rfl, by kernel_rfl, by decide, by kernel_rfl⟩⟩
instance : TI Tryz.prog 145 (.agg #[.int .i64 0, .int .i64 0, .int .i64 0, .int .i64 0, .int .i64 0, .int .i64 0, .int .i64 0, .int .i64 0, .int .i64 0, .int .i64 0, .string { data := #[] }, .slice none 0 0]) 12 120 := ⟨by kernel_rfl⟩
instance : TG Tryz.prog 145 true 12 := ⟨by kernel_rfl, by kernel_rfl⟩
instance : TB Tryz.prog 145 [.v (.int .i64 0), .v (.int .i64 0), .v (.int .i64 0), .v (.int .i64 0), .v (.int .i64 0), .v (.int .i64 0), .v (.int .i64 0), .v (.int .i64 0), .v (.int .i64 0), .v (.int .i64 0), .v (.string { data := #[] }), .v (.slice none 0 0)] [(0, 10), (10, 1), (11, 1)] := tb_of (fs := fs144) (zs := [.int .i64 0, .int .i64 0, .int .i64 0, .int .i64 0, .int .i64 0, .int .i64 0, .int .i64 0, .int .i64 0, .int .i64 0, .int .i64 0, .string { data := #[] }, .slice none 0 0]) (by kernel_rfl) (by kernel_rfl) (by kernel_rfl) rfl (by kernel_rfl)
instance : TF Tryz.prog 145 0 0 10 true := ⟨⟨fs144, _, by kernel_rfl, rfl, rfl, by kernel_rfl, by decide, by kernel_rfl⟩⟩
instance : TF Tryz.prog 145 1 10 1 false := ⟨⟨fs144, _, by kernel_rfl, rfl, rfl, by kernel_rfl, by decide, by kernel_rfl⟩⟩
instance : TF Tryz.prog 145 2 11 1 false := ⟨⟨fs144, _, by kernel_rfl, rfl, rfl, by kernel_rfl, by decide, by kernel_rfl⟩⟩
instance : TG Tryz.prog 149 true 3 := ⟨by kernel_rfl, by kernel_rfl⟩
instance : TB Tryz.prog 149 [.v (.int .i64 0), .v (.int .i64 0), .v (.int .i64 0)] [(0, 1), (1, 1), (2, 1)] := tb_of (fs := fs148) (zs := [.int .i64 0, .int .i64 0, .int .i64 0]) (by kernel_rfl) (by kernel_rfl) (by kernel_rfl) rfl (by kernel_rfl)
instance : TF Tryz.prog 149 0 0 1 false := ⟨⟨fs148, _, by kernel_rfl, rfl, rfl, by kernel_rfl, by decide, by kernel_rfl⟩⟩
instance : TF Tryz.prog 149 1 1 1 false := ⟨⟨fs148, _, by kernel_rfl, rfl, rfl, by kernel_rfl, by decide, by kernel_rfl⟩⟩
instance : TF Tryz.prog 149 2 2 1 false := ⟨⟨fs148, _, by kernel_rfl, rfl, rfl, by kernel_rfl, by decide, by kernel_rfl⟩⟩
instance : TU Tryz.prog 150 (.int .u64) := ⟨by kernel_rfl⟩
instance : TI Tryz.prog 154 (.agg #[.int .i64 0, .int .i64 0, .int .i64 0, .int .i64 0, .int .i64 0, .int .i64 0, .int .i64 0, .int .i64 0, .int .i64 0, .int .i64 0]) 10 80 := ⟨by kernel_rfl⟩
instance : TG Tryz.prog 154 true 10 := ⟨by kernel_rfl, by kernel_rfl⟩
instance : TB Tryz.prog 154 [.v (.int .i64 0), .v (.int .i64 0), .v (.int .i64 0), .v (.int .i64 0), .v (.int .i64 0), .v (.int .i64 0), .v (.int .i64 0), .v (.int .i64 0), .v (.int .i64 0), .v (.int .i64 0)] [(0, 1), (1, 1), (2, 1), (3, 1), (4, 1), (5, 1), (6, 1), (7, 1), (8, 1), (9, 1)] := tb_of (fs := fs142) (zs := [.int .i64 0, .int .i64 0, .int .i64 0, .int .i64 0, .int .i64 0, .int .i64 0, .int .i64 0, .int .i64 0, .int .i64 0, .int .i64 0]) (by kernel_rfl) (by kernel_rfl) (by kernel_rfl) rfl (by kernel_rfl)
instance : TF Tryz.prog 154 0 0 1 false := ⟨⟨fs142, _, by kernel_rfl, rfl, rfl, by kernel_rfl, by decide, by kernel_rfl⟩⟩
instance : TF Tryz.prog 154 1 1 1 false := ⟨⟨fs142, _, by kernel_rfl, rfl, rfl, by kernel_rfl, by decide, by kernel_rfl⟩⟩
instance : TF Tryz.prog 154 2 2 1 false := ⟨⟨fs142, _, by kernel_rfl, rfl, rfl, by kernel_rfl, by decide, by kernel_rfl⟩⟩
instance : TF Tryz.prog 154 3 3 1 false := ⟨⟨fs142, _, by kernel_rfl, rfl, rfl, by kernel_rfl, by decide, by kernel_rfl⟩⟩
instance : TF Tryz.prog 154 4 4 1 false := ⟨⟨fs142, _, by kernel_rfl, rfl, rfl, by kernel_rfl, by decide, by kernel_rfl⟩⟩
instance : TF Tryz.prog 154 5 5 1 false := ⟨⟨fs142, _, by kernel_rfl, rfl, rfl, by kernel_rfl, by decide, by kernel_rfl⟩⟩
instance : TF Tryz.prog 154 6 6 1 false := ⟨⟨fs142, _, by kernel_rfl, rfl, rfl, by kernel_rfl, by decide, by kernel_rfl⟩⟩
instance : TF Tryz.prog 154 7 7 1 false := ⟨⟨fs142, _, by kernel_rfl, rfl, rfl, by kernel_rfl, by decide, by kernel_rfl⟩⟩
instance : TF Tryz.prog 154 8 8 1 false := ⟨⟨fs142, _, by kernel_rfl, rfl, rfl, by kernel_rfl, by decide, by kernel_rfl⟩⟩
instance : TF Tryz.prog 154 9 9 1 false := ⟨⟨fs142, _, by kernel_rfl, rfl, rfl, by kernel_rfl, by decide, by kernel_rfl⟩⟩
instance : TI Tryz.prog 156 (.agg #[.int .i64 0, .int .i64 0, .int .i64 0, .int .i64 0, .int .i64 0, .int .i64 0, .int .i64 0, .int .i64 0, .int .i64 0, .int .i64 0, .string { data := #[] }, .slice none 0 0]) 12 120 := ⟨by kernel_rfl⟩
instance : TG Tryz.prog 156 true 12 := ⟨by kernel_rfl, by kernel_rfl⟩
instance : TB Tryz.prog 156 [.v (.int .i64 0), .v (.int .i64 0), .v (.int .i64 0), .v (.int .i64 0), .v (.int .i64 0), .v (.int .i64 0), .v (.int .i64 0), .v (.int .i64 0), .v (.int .i64 0), .v (.int .i64 0), .v (.string { data := #[] }), .v (.slice none 0 0)] [(0, 10), (10, 1), (11, 1)] := tb_of (fs := fs155) (zs := [.int .i64 0, .int .i64 0, .int .i64 0, .int .i64 0, .int .i64 0, .int .i64 0, .int .i64 0, .int .i64 0, .int .i64 0, .int .i64 0, .string { data := #[] }, .slice none 0 0]) (by kernel_rfl) (by kernel_rfl) (by kernel_rfl) rfl (by kernel_rfl)
instance : TF Tryz.prog 156 0 0 10 true := ⟨⟨fs155, _, by kernel_rfl, rfl, rfl, by kernel_rfl, by decide, by kernel_rfl⟩⟩
instance : TF Tryz.prog 156 1 10 1 false := ⟨⟨fs155, _, by kernel_rfl, rfl, rfl, by kernel_rfl, by decide, by kernel_rfl⟩⟩
instance : TF Tryz.prog 156 2 11 1 false := ⟨⟨fs155, _, by kernel_rfl, rfl, rfl, by kernel_rfl, by decide, by kernel_rfl⟩⟩
instance : TU Tryz.prog 157 (.slice 156) := ⟨by kernel_rfl⟩
instance : TU Tryz.prog 159 (.slice 9) := ⟨by kernel_rfl⟩
instance : TU Tryz.prog 173 (.slice 175) := ⟨by kernel_rfl⟩
instance : TI Tryz.prog 175 (.pointer none) 1 8 := ⟨by kernel_rfl⟩
instance : TG Tryz.prog 175 false 1 := ⟨by kernel_rfl, by kernel_rfl⟩
instance : TU Tryz.prog 177 (.int .u64) := ⟨by kernel_rfl⟩
instance : TG Tryz.prog 177 false 1 := ⟨by kernel_rfl, by kernel_rfl⟩
instance : TI Tryz.prog 185 (.agg #[.int .i64 0, .int .i64 0, .int .i64 0, .int .i64 0, .int .i64 0, .int .i64 0]) 6 48 := ⟨by kernel_rfl⟩
instance : TG Tryz.prog 185 true 6 := ⟨by kernel_rfl, by kernel_rfl⟩
instance : TB Tryz.prog 185 [.v (.int .i64 0), .v (.int .i64 0), .v (.int .i64 0), .v (.int .i64 0), .v (.int .i64 0), .v (.int .i64 0)] [(0, 1), (1, 1), (2, 1), (3, 1), (4, 1), (5, 1)] := tb_of (fs := fs184) (zs := [.int .i64 0, .int .i64 0, .int .i64 0, .int .i64 0, .int .i64 0, .int .i64 0]) (by kernel_rfl) (by kernel_rfl) (by kernel_rfl) rfl (by kernel_rfl)
instance : TF Tryz.prog 185 0 0 1 false := ⟨⟨fs184, _, by kernel_rfl, rfl, rfl, by kernel_rfl, by decide, by kernel_rfl⟩⟩
instance : TF Tryz.prog 185 1 1 1 false := ⟨⟨fs184, _, by kernel_rfl, rfl, rfl, by kernel_rfl, by decide, by kernel_rfl⟩⟩
instance : TF Tryz.prog 185 2 2 1 false := ⟨⟨fs184, _, by kernel_rfl, rfl, rfl, by kernel_rfl, by decide, by kernel_rfl⟩⟩
instance : TF Tryz.prog 185 3 3 1 false := ⟨⟨fs184, _, by kernel_rfl, rfl, rfl, by kernel_rfl, by decide, by kernel_rfl⟩⟩
instance : TF Tryz.prog 185 4 4 1 false := ⟨⟨fs184, _, by kernel_rfl, rfl, rfl, by kernel_rfl, by decide, by kernel_rfl⟩⟩
instance : TF Tryz.prog 185 5 5 1 false := ⟨⟨fs184, _, by kernel_rfl, rfl, rfl, by kernel_rfl, by decide, by kernel_rfl⟩⟩
instance : TG Tryz.prog 193 true 6 := ⟨by kernel_rfl, by kernel_rfl⟩
instance : TB Tryz.prog 193 [.v (.int .i64 0), .v (.int .i64 0), .v (.int .i64 0), .v (.int .i64 0), .v (.int .i64 0), .v (.int .i64 0)] [(0, 1), (1, 1), (2, 1), (3, 1), (4, 1), (5, 1)] := tb_of (fs := fs184) (zs := [.int .i64 0, .int .i64 0, .int .i64 0, .int .i64 0, .int .i64 0, .int .i64 0]) (by kernel_rfl) (by kernel_rfl) (by kernel_rfl) rfl (by kernel_rfl)
instance : TF Tryz.prog 193 0 0 1 false := ⟨⟨fs184, _, by kernel_rfl, rfl, rfl, by kernel_rfl, by decide, by kernel_rfl⟩⟩
instance : TF Tryz.prog 193 1 1 1 false := ⟨⟨fs184, _, by kernel_rfl, rfl, rfl, by kernel_rfl, by decide, by kernel_rfl⟩⟩
instance : TF Tryz.prog 193 2 2 1 false := ⟨⟨fs184, _, by kernel_rfl, rfl, rfl, by kernel_rfl, by decide, by kernel_rfl⟩⟩
instance : TF Tryz.prog 193 3 3 1 false := ⟨⟨fs184, _, by kernel_rfl, rfl, rfl, by kernel_rfl, by decide, by kernel_rfl⟩⟩
instance : TF Tryz.prog 193 4 4 1 false := ⟨⟨fs184, _, by kernel_rfl, rfl, rfl, by kernel_rfl, by decide, by kernel_rfl⟩⟩
instance : TF Tryz.prog 193 5 5 1 false := ⟨⟨fs184, _, by kernel_rfl, rfl, rfl, by kernel_rfl, by decide, by kernel_rfl⟩⟩
instance : TI Tryz.prog 195 (.agg #[.int .u64 0, .int .i64 0]) 2 16 := ⟨by kernel_rfl⟩
instance : TG Tryz.prog 195 true 2 := ⟨by kernel_rfl, by kernel_rfl⟩
instance : TB Tryz.prog 195 [.v (.int .u64 0), .v (.int .i64 0)] [(0, 1), (1, 1)] := tb_of (fs := fs195) (zs := [.int .u64 0, .int .i64 0]) (by kernel_rfl) (by kernel_rfl) (by kernel_rfl) rfl (by kernel_rfl)
instance : TF Tryz.prog 195 0 0 1 false := ⟨⟨fs195, _, by kernel_rfl, rfl, rfl, by kernel_rfl, by decide, by kernel_rfl⟩⟩
instance : TF Tryz.prog 195 1 1 1 false := ⟨⟨fs195, _, by kernel_rfl, rfl, rfl, by kernel_rfl, by decide, by kernel_rfl⟩⟩
instance : TU Tryz.prog 196 (.slice 195) := ⟨by kernel_rfl⟩
end Go.Proofs.YtkbbcenjklaglaaGreat.AL
namespace Go.Proofs.YtkbbcenjklaglaaGreat.AL
open Go Go.RowKit Go.Proofs.YtkbbcenjklaglaaGreat.Base
set_option linter.unusedVariables false
set_option maxRecDepth 4000
@[reducible] def F88 (v n i : Int) (n0 : Nat) : List AV := [.v (.int .u64 v), .any, .any, .any, .v (.slice none 0 0), .own (n0 + 0) 0 0 n.toNat, .any, .any, .any, .any, .any, .any, .any, .any, .any, .any, .any, .any, .any, .any, .any, .any, .any, .any, .v (.int .i64 n.toNat), .v (.int .i64 i), .any, .any, .any, .any, .any, .any, .any, .any, .any, .any, .any, .any]
theorem dig_snoc : ∀ (v : Int) (i : Nat), dig v (i + 1) = dig v i ++ [v / 256 ^ i % 256] := by
  intro v i
  induction i generalizing v with
  | zero => simp [dig]
  | succ i ih =>
    rw [dig, ih (v / 256), dig, List.cons_append, Int.ediv_ediv_of_nonneg (by decide), Int.pow_succ, Int.mul_comm]
theorem le_Put (v n : Int) (hv : 0 ≤ v ∧ v ≤ 18446744073709551615) (hn : -9223372036854775808 ≤ n ∧ n ≤ 9223372036854775807) : A0 Tryz.prog 88 [.v (.int .u64 v), .v (.int .i64 n)] (fun r => r = .rd 1 (bys (if Wide n then dig v n.toNat else []))) := by
  refine A0.body 38 Tryz.func88 rfl rfl Tryz.ntmps88 fun base n0 => ?_
  repeat (first | refine AO.c ?_ | refine AO.m ?_ | refine AO.n ?_ | refine AW.seq' ?_ | refine AW.region ?_ | refine AW.block' ?_ | refine AO.nil (SQ.normal ?_))
  refine AW.iteB (GL.ev _) (fun h => ?_) (fun h => ?_)
  · refine AW.seq' (AW.region ?_)
    refine AO.c (AO.nil (SQ.normal (AW.ret (SQ.ret (Fin.ret (Gh.nilB 4) (by exact NoId.bys _) ?_)))))
    have : ¬ Wide n := by unfold Wide; simp at h; omega
    simp [packA, this]
  · have hw : Wide n := by unfold Wide; simp at h; omega
    refine AW.skip (SQ.normal ?_)
    have hn' : 1 ≤ n ∧ n ≤ 8 := by unfold Wide at hw; omega
    refine AW.seq' (AW.region ?_)
    refine AO.c ?_
    refine AO.w ⟨by omega, by omega, by omega⟩ ?_
    repeat (first | refine AO.c ?_ | refine AO.m ?_ | refine AO.n ?_ | refine AW.seq' ?_ | refine AW.region ?_ | refine AW.block' ?_ | refine AO.nil (SQ.normal ?_))
    refine AW.wk (F88 v n 0 n0) ?_
    refine AW.loopG (fun m s' => ∃ i : Nat, m + i = n.toNat ∧ s' = ⟨F88 v n i n0, Hn n0 [some (.row 5 1 0 (bys (dig v i ++ List.replicate (n.toNat - i) 0)))]⟩) n.toNat ⟨0, rfl, by simp [dig]⟩ ?_
    rintro m s' ⟨i, hm, rfl⟩
    repeat (first | refine AO.c ?_ | refine AO.m ?_ | refine AO.n ?_ | refine AW.seq' ?_ | refine AW.region ?_ | refine AW.block' ?_ | refine AO.nil (SQ.normal ?_))
    refine AW.iteB (GL.ev _) (fun h => ?_) (fun h => ?_)
    · have hi : i < n.toNat := by simp at h; omega
      refine AW.skip (SQ.normal ?_)
      repeat (first | refine AO.c ?_ | refine AO.m ?_ | refine AO.n ?_ | refine AW.seq' ?_ | refine AW.region ?_ | refine AW.block' ?_ | refine AO.nil (SQ.normal ?_))
      refine AO.o (by omega) ?_
      refine AO.o (by omega) ?_
      refine AO.v ?_
      refine AO.o (by omega) ?_
      refine AO.st (by simp [dig_length]; omega) (AO.nil (BQ.normal (SQ.normal ?_)))
      repeat (first | refine AO.c ?_ | refine AO.m ?_ | refine AO.n ?_ | refine AW.seq' ?_ | refine AW.region ?_ | refine AW.block' ?_ | refine AO.nil (SQ.normal ?_))
      refine AO.o (by omega) ?_
      refine AO.c (AO.nil ?_)
      refine AW.back (F88 v n (i + 1) n0) (m - 1) (by omega) ⟨i + 1, by omega, ?_⟩
      have e1 : dig v (i + 1) = dig v i ++ [v / 256 ^ i % 256] := dig_snoc v i
      have e2 : (dig v i ++ List.replicate (n.toNat - i) 0).set i (v / 256 ^ i % 256) = dig v (i + 1) ++ List.replicate (n.toNat - (i + 1)) 0 := by
        rw [e1, show n.toNat - i = (n.toNat - (i + 1)) + 1 by omega, List.replicate_succ]
        simp [dig_length]
      have e3 : IntKind.u8.wrap (v / 2 ^ (8 * (i : Int)).toNat) = v / 256 ^ i % 256 := by
        rw [IntKind.wrap_u8, show (8 * (i : Int)).toNat = 8 * i by omega, Int.pow_mul]; rfl
      simp only [Int.toNat_natCast, Nat.zero_add, e3, e2]
      rfl
    · have hi : i = n.toNat := by simp at h; omega
      subst hi
      refine AW.exit (SQ.exit (AW.out (LQ.exit (BQ.exit (SQ.normal ?_)))))
      refine AW.seq' (AW.region ?_)
      refine AO.c (AO.c (AO.nil (SQ.normal (AW.ret (Fin.ret (Gh.freezeB 4 (by simp [dig_length]) (by simp [dig_length]; omega)) (by exact NoId.bys _) ?_)))))
      simp [packA, hw]
theorem wide_b {n : Int} : ((decide (n = 1) || decide (n = 2) || decide (n = 4) || decide (n = 8)) = true) ↔ Wide n := by unfold Wide; simp [or_assoc]
theorem Gh.freezeE {base : Cx} {l l' : List AV} {n k ep m : Nat} {L L' : List (Option AB)} {e : TypeId} (t : Tmp) {li li' : List Int} [g : GL l t (.own (n + k) ep 0 m)] [gb : GB L k (.row e 1 ep (bys li))] (he : li = li') [sb : SB L k none L'] [sl : SL l t (.rd 1 (bys li')) l'] (hl : li'.length = m) (hm : li'.length ≤ 9223372036854775807) :
    Gh base ⟨l, Hn n L⟩ ⟨l', Hn n L'⟩ := by subst he; exact Gh.freezeB t hl hm
theorem ref_wide (n : Int) : A0 Tryz.prog 117 [.v (.int .i64 n)] (fun r => r = .v (.bool (decide (Wide n)))) := by
  refine A0.body 17 Tryz.func117 rfl rfl Tryz.ntmps117 fun base n0 => ?_
  repeat (first | refine AO.c ?_ | refine AO.m ?_ | refine AO.n ?_ | refine AW.seq' ?_ | refine AW.region ?_ | refine AW.block' ?_ | refine AO.nil (SQ.normal ?_))
  refine AW.ret (Fin.ret Gh.refl (by exact NoId.v _) ?_)
  show AV.v (.bool _) = AV.v (.bool _)
  congr 2
  rw [Bool.eq_iff_iff, decide_eq_true_iff, ← wide_b]
@[reducible] def F99 (v n : Int) (ok : Bool) (x5 x7 : AV) : List AV := [.v (.int .u64 v), .v (.int .i64 n), .any, .any, .v (.slice none 0 0), x5, .v (.bool ok), x7, .any, .any, .any, .any, .any, .any, .any, .any, .any, .any, .any, .any, .any, .any, .any, .any, .any, .any, .any]
theorem ref_Put (v n : Int) (hv : 0 ≤ v ∧ v ≤ 18446744073709551615) (hn : -9223372036854775808 ≤ n ∧ n ≤ 9223372036854775807) : A0 Tryz.prog 99 [.v (.int .u64 v), .v (.int .i64 n)] (fun r => r = .rd 1 (bys (if Wide n then dig v n.toNat else []))) := by
  refine A0.body 27 Tryz.func99 rfl rfl Tryz.ntmps99 fun base n0 => ?_
  refine AW.seq' <| AW.region <| AO.c <| AO.nil <| SQ.normal ?_
  refine AW.seq' <| AW.region <| AO.c <| AO.nil <| SQ.normal ?_
  refine AW.seq' <| AW.region <| AO.c <| AO.call1 Tryz.func117 rfl rfl (ref_wide n) <| AO.c <| AO.nil <| SQ.normal ?_
  refine AW.seq' <| AW.seq' <| AW.region <| AO.c <| AO.nil <| SQ.normal ?_
  refine AW.ghost (Gh.adoptB 5 5) ?_
  refine AW.block' ?_
  refine AW.wk (F99 v n (decide (Wide n)) (.own (n0 + 0) 0 0 0) (.v (.int .i64 0))) ?_
  refine AW.loopG (fun m s' => ∃ (i ep : Nat), m + i = n.toNat ∧ (Wide n ∨ i = 0) ∧ s' = ⟨F99 (v / 256 ^ i) n (decide (Wide n)) (.own (n0 + 0) ep 0 i) (.v (.int .i64 i)), Hn n0 [some (.row 5 1 ep (bys (dig v i)))]⟩) n.toNat ⟨0, 0, rfl, .inr rfl, by simp [dig]⟩ ?_
  rintro m s' ⟨i, ep, hm, hwi, rfl⟩
  repeat (first | refine AO.c ?_ | refine AO.m ?_ | refine AO.n ?_ | refine AW.seq' ?_ | refine AW.region ?_ | refine AO.nil (SQ.normal ?_))
  refine AW.iteB (GL.ev _) (fun h => ?_) (fun h => ?_)
  · have h' : Wide n ∧ (i : Int) < n := by simpa using h
    have hn1 : 1 ≤ n ∧ n ≤ 8 := by have := h'.1; unfold Wide at this; omega
    have hq0 : 0 ≤ v / 256 ^ i := Int.ediv_nonneg hv.1 (Int.le_of_lt (pow_pos i))
    have hq1 : v / 256 ^ i ≤ v := Int.ediv_le_self _ hv.1
    refine AW.skip <| SQ.normal ?_
    refine AW.seq' <| AW.block' <| AW.seq' <| AW.region <| AO.c <| AO.c <| AO.o ⟨by omega, by omega⟩ <| AO.o ⟨by omega, by omega⟩ <| AO.r rfl <| AO.w ⟨by simp [dig_length], by simp; omega⟩ <| AO.c <| AO.nil <| SQ.normal ?_
    refine AW.region <| AO.c <| AO.o ⟨by omega, by omega, by omega, by omega⟩ <| AO.c <| AO.nil <| BQ.normal <| SQ.normal ?_
    refine AW.region <| AO.c <| AO.o (by omega) <| AO.c ?_
    have e1 : v / 256 ^ i / 256 = v / 256 ^ (i + 1) := by rw [Int.ediv_ediv_of_nonneg (Int.le_of_lt (pow_pos i)), Int.pow_succ]
    refine AO.eq 0 (av' := .v (.int .u64 (v / 256 ^ (i + 1)))) (by rw [e1]) ?_
    refine AO.nil <| AW.back (F99 (v / 256 ^ (i + 1)) n (decide (Wide n)) (.own (n0 + 0) (ep + 1) 0 (i + 1)) (.v (.int .i64 (i + 1)))) (m - 1) (by omega) ⟨i + 1, ep + 1, by omega, .inl h'.1, by rw [dig_snoc]; rfl⟩
  · have h' : ¬ (Wide n ∧ (i : Int) < n) := by simpa using h
    have hi : dig v i = if Wide n then dig v n.toNat else [] := by
      by_cases hw : Wide n
      · have hn1 : 1 ≤ n ∧ n ≤ 8 := by have := hw; unfold Wide at this; omega
        have : ¬ (i : Int) < n := fun h => h' ⟨hw, h⟩
        rw [if_pos hw, show i = n.toNat by omega]
      · rw [if_neg hw]
        rcases hwi with h | rfl
        · exact absurd h hw
        · rfl
    refine AW.exit <| SQ.exit <| AW.out <| LQ.exit <| BQ.exit <| SQ.normal ?_
    refine AW.seq' <| AW.region <| AO.c <| AO.c <| AO.nil <| SQ.normal <| AW.ret <| Fin.ret (Gh.freezeE 4 hi ?_ ?_) (by exact NoId.bys _) rfl
    · rw [← hi, dig_length]
    · rw [← hi, dig_length]; omega
end Go.Proofs.YtkbbcenjklaglaaGreat.AL
namespace Go.Proofs.YtkbbcenjklaglaaGreat.AL
open Go Go.RowKit Go.Proofs.YtkbbcenjklaglaaGreat.Base
set_option linter.unusedVariables false
set_option linter.unusedSimpArgs false
set_option maxRecDepth 4000
set_option synthInstance.maxSize 1000
set_option synthInstance.maxHeartbeats 200000
structure RelD where
 off : Int
 typ : Int
 sym : Int
 add : Int
 deriving Inhabited, DecidableEq
structure SecD where
 name : ByteArray
 typ : Int
 flags : Int
 align : Int
 ent : Int
 link : Int
 size : Int
 data : List Int
 rels : List RelD
 deriving Inhabited
structure SymD where
 name : ByteArray
 bind : Int
 typ : Int
 sec : Int
 val : Int
 size : Int
 deriving Inhabited
structure GrpD where
 sym : Int
 mem : List Int
 deriving Inhabited
structure ObjD where
 secs : List SecD
 syms : List SymD
 groups : List GrpD
 hasSig : Bool
 sig : List Int
 deriving Inhabited
@[reducible] def relA (r : RelD) : List AV := [.v (.int .i64 r.off), .v (.int .i64 r.typ), .v (.int .i64 r.sym), .v (.int .i64 r.add)]
@[reducible] def secA (s : SecD) : List AV := [.v (.string s.name), .v (.int .i64 s.typ), .v (.int .i64 s.flags), .v (.int .i64 s.align), .v (.int .i64 s.ent), .v (.int .i64 s.link), .v (.int .i64 s.size), .rd 1 (bys s.data), .rd 4 (s.rels.map relA)]
@[reducible] def symA (s : SymD) : List AV := [.v (.string s.name), .v (.int .i64 s.bind), .v (.int .i64 s.typ), .v (.int .i64 s.sec), .v (.int .i64 s.val), .v (.int .i64 s.size)]
@[reducible] def grpA (g : GrpD) : List AV := [.v (.int .i64 g.sym), .rd 1 (g.mem.map iA)]
@[reducible] def objA (o : ObjD) : List AV := [.rd 9 (o.secs.map secA), .rd 6 (o.syms.map symA), .rd 2 (o.groups.map grpA), .v (.bool o.hasSig), .rd 1 (o.sig.map iA)]
@[reducible] def pcA (p : Int × Int) : List AV := [.v (.int .i64 p.1), .v (.int .i64 p.2)]
def I64 (x : Int) : Prop := -9223372036854775808 ≤ x ∧ x ≤ 9223372036854775807
instance (x : Int) : Decidable (I64 x) := by unfold I64; infer_instance
theorem drop_getD {α : Type} [Inhabited α] {l : List α} {i : Nat} (h : i < l.length) : l.drop i = l.getD i default :: l.drop (i + 1) := by
 rw [List.drop_eq_getElem_cons h]; simp [h]
theorem wi64' {x : Int} (h : -9223372036854775808 ≤ x ∧ x ≤ 9223372036854775807) : IntKind.i64.wrap x = x := by rw [wi64_eq]; exact w64 h.1 h.2
theorem drop_getD0 {l : List Int} {i : Nat} (h : i < l.length) : l.drop i = l.getD i 0 :: l.drop (i + 1) := by
 rw [List.drop_eq_getElem_cons h]; simp [h]
def RelD.ok (r : RelD) : Prop := I64 r.off ∧ I64 r.typ ∧ I64 r.sym ∧ I64 r.add
def SecD.ok (s : SecD) : Prop := s.name.size ≤ maxLen ∧ I64 s.typ ∧ I64 s.flags ∧ I64 s.align ∧ I64 s.ent ∧ I64 s.link ∧ I64 s.size ∧ s.data.length ≤ maxLen ∧ Bytes s.data ∧ s.rels.length ≤ maxLen ∧ ∀ r ∈ s.rels, r.ok
def SymD.ok (s : SymD) : Prop := s.name.size ≤ maxLen ∧ I64 s.bind ∧ I64 s.typ ∧ I64 s.sec ∧ I64 s.val ∧ I64 s.size
def GrpD.ok (g : GrpD) : Prop := I64 g.sym ∧ g.mem.length ≤ maxLen ∧ ∀ x ∈ g.mem, I64 x
def ObjD.ok (o : ObjD) : Prop := o.secs.length ≤ maxLen ∧ (∀ s ∈ o.secs, s.ok) ∧ o.syms.length ≤ maxLen ∧ (∀ s ∈ o.syms, s.ok) ∧ o.groups.length ≤ maxLen ∧ (∀ g ∈ o.groups, g.ok) ∧ o.sig.length ≤ maxLen ∧ ∀ x ∈ o.sig, I64 x
theorem maxLen_eq : maxLen = 9223372036854775807 := by unfold maxLen; rfl
def widthF (t : Int) : Int := if t = 1 then 8 else if t = 2 ∨ t = 4 ∨ t = 10 ∨ t = 11 then 4 else 0
def fitsB (n : Int) : Bool := decide (0 ≤ n) && decide (n ≤ 2147483647)
def mayRelB (r : RelD) : Bool := fitsB r.off && fitsB r.sym && decide (0 < widthF r.typ)
theorem ref_fits (n : Int) (hn : I64 n) : A0 Tryz.prog 104 [.v (.int .i64 (n))] (fun ret => ret = .v (.bool (fitsB n))) := by
 refine A0.body 9 Tryz.func104 rfl rfl Tryz.ntmps104 fun base n0 => ?_
 refine go ?_;refine AW.ret ?_;refine Fin.ret (Gh.refl) noid1 ?_;rfl
theorem ref_Width (t : Int) : A0 Tryz.prog 116 [.v (.int .i64 (t))] (fun ret => ret = .v (.int .i64 (widthF t))) := by
 refine A0.body 19 Tryz.func116 rfl rfl Tryz.ntmps116 fun base n0 => ?_
 refine go ?_;refine AW.iteB (GL.ev _) (fun h0 => ?_) (fun h0 => ?_)
 ·
  try simp only [Bool.and_eq_true, Bool.or_eq_true, Bool.not_eq_true', Bool.and_eq_false_iff, Bool.or_eq_false_iff, decide_eq_true_eq, decide_eq_false_iff_not, bys_length] at h0
  refine go ?_;refine AW.ret <|SQ.ret ?_;refine Fin.ret (Gh.refl) noid1 ?_;unfold widthF; rw [if_pos h0]; rfl
 ·
  try simp only [Bool.and_eq_true, Bool.or_eq_true, Bool.not_eq_true', Bool.and_eq_false_iff, Bool.or_eq_false_iff, decide_eq_true_eq, decide_eq_false_iff_not, bys_length] at h0
  refine go ?_;refine AW.iteB (GL.ev _) (fun h1 => ?_) (fun h1 => ?_)
  ·
   try simp only [Bool.and_eq_true, Bool.or_eq_true, Bool.not_eq_true', Bool.and_eq_false_iff, Bool.or_eq_false_iff, decide_eq_true_eq, decide_eq_false_iff_not, bys_length] at h1
   refine go ?_;refine AW.ret <|SQ.ret ?_;refine Fin.ret (Gh.refl) noid1 ?_;unfold widthF; rw [if_neg h0, if_pos (by omega)]; rfl
  ·
   try simp only [Bool.and_eq_true, Bool.or_eq_true, Bool.not_eq_true', Bool.and_eq_false_iff, Bool.or_eq_false_iff, decide_eq_true_eq, decide_eq_false_iff_not, bys_length] at h1
   refine go ?_;refine AW.ret ?_;refine Fin.ret (Gh.refl) noid1 ?_;unfold widthF; rw [if_neg h0, if_neg (by omega)]; rfl
theorem ref_MayRel (r : RelD) (hr : r.ok) : A0 Tryz.prog 115 [.agg (relA r)] (fun ret => ret = .v (.bool (mayRelB r))) := by
 have h1 := hr.1;have h2 := hr.2.2.1;refine A0.body 21 Tryz.func115 rfl rfl Tryz.ntmps115 fun base n0 => ?_
 refine go ?_;refine AO.call1 Tryz.func104 rfl rfl (ref_fits _ (by assumption)) ?_;refine go ?_;refine AO.call1 Tryz.func104 rfl rfl (ref_fits _ (by assumption)) ?_;refine go ?_;refine AO.gxcall1 Tryz.func116 rfl rfl (fun hgd => ref_Width _) ?_;refine go ?_;refine AW.ret ?_;refine Fin.ret (Gh.refl) noid1 ?_;rfl
theorem u64_range (a : Int) : 0 ≤ IntKind.u64.wrap a ∧ IntKind.u64.wrap a ≤ 18446744073709551615 := by rw [wu64_mod]; omega
def numsF : List Int → List Int
 | a :: w :: r => (if Wide w then dig (IntKind.u64.wrap a) w.toNat else []) ++ numsF r
 | _ => []
theorem put8_len (v w : Int) : (if Wide w then dig v w.toNat else []).length ≤ 8 := by
 split
 · rename_i h; rw [dig_length]; unfold Wide at h; omega
 · simp
theorem numsF_step {l : List Int} {i : Nat} (h : i + 1 < l.length) : numsF (l.drop i) = (if Wide (l.getD (i + 1) 0) then dig (IntKind.u64.wrap (l.getD i 0)) (l.getD (i + 1) 0).toNat else []) ++ numsF (l.drop (i + 2)) := by
 rw [drop_getD0 (show i < l.length by omega), drop_getD0 h, numsF]
theorem numsF_len : ∀ (k : Nat) (l : List Int), l.length ≤ k → (numsF l).length ≤ 8 * l.length := by
 intro k
 induction k with
 | zero => intro l h; have : l = [] := List.length_eq_zero_iff.1 (by omega); subst this; simp [numsF]
 | succ k ih =>
  intro l h
  match l with
  | [] => simp [numsF]
  | [a] => simp [numsF]
  | a :: w :: r =>
   have := ih r (by simp at h; omega);have h2 := put8_len (IntKind.u64.wrap a) w;rw [numsF, List.length_append];simp only [List.length_cons];omega
theorem le_PutR (v n : Int) (hv : 0 ≤ v ∧ v ≤ 18446744073709551615) (hn : -9223372036854775808 ≤ n ∧ n ≤ 9223372036854775807) : A1 Tryz.prog 88 [.v (.int .u64 (v)), .v (.int .i64 (n))] 5 1 (bys (if Wide n then dig v n.toNat else [])) := by
 refine A1.body 38 (NIr.h) Tryz.func88 rfl rfl Tryz.ntmps88 fun base n0 => ?_
 refine go ?_;refine AW.iteB (GL.ev _) (fun h0 => ?_) (fun h0 => ?_)
 ·
  try simp only [Bool.and_eq_true, Bool.or_eq_true, Bool.not_eq_true', Bool.and_eq_false_iff, Bool.or_eq_false_iff, decide_eq_true_eq, decide_eq_false_iff_not, bys_length] at h0
  refine go ?_;refine AW.ret <|SQ.ret ?_;refine FinO.ret 4 (Gh.adoptB 4 5) rfl ?_ ?_ (.inr rfl)
  · have : ¬ Wide n := by unfold Wide; omega
    rw [if_neg this]
  · rw [if_neg (by unfold Wide; omega)]; rfl
 ·
  simp only [Bool.and_eq_false_iff, decide_eq_false_iff_not] at h0;have hw : Wide n := by unfold Wide; omega
  have hn' : 1 ≤ n ∧ n ≤ 8 := by unfold Wide at hw; omega
  refine go ?_;refine AW.loopU [.k, .f, .f, .f, .f, .k, .F, .F, .f, .f, .k, .k, .F, .f, .f, .f, .f] (fun (i : Nat) => [(25, .v (.int .i64 (i)))]) (fun i => Hn n0 [some (.row 5 1 0 (bys (dig v i ++ List.replicate (n.toNat - i) 0)))]) (fun m i => i ≤ n.toNat ∧ m = n.toNat - i) (n.toNat) (0) ⟨by omega, by omega⟩ cr (by simp [dig]) ?_;rintro m0 i ⟨hx1, hx2⟩
  refine go ?_;refine AW.iteB (GL.ev _) (fun h1 => ?_) (fun h1 => ?_)
  ·
   rw [decide_eq_true_eq] at h1;refine gs ?_;iterate 2 refine AO.c ?_
   refine gs ?_;iterate 4 refine AO.c ?_
   refine AO.oo ?_;refine AO.o (by omega) ?_;refine AO.pw ?_;refine AO.o (by omega) ?_;refine AO.st (by simp [dig_length]; omega) ?_;refine AO.nil <|BQ.normal ?_;refine go ?_;have e1 : dig v (i + 1) = dig v i ++ [v / 256 ^ i % 256] := dig_snoc v i;have e3 : IntKind.u8.wrap (v / 2 ^ (8 * (i : Int)).toNat) = v / 256 ^ i % 256 := by
    rw [IntKind.wrap_u8, show (8 * (i : Int)).toNat = 8 * i by omega, Int.pow_mul]; rfl
   have e2 : (dig v i ++ List.replicate (n.toNat - i) 0).set i (IntKind.u8.wrap (v / 2 ^ (8 * (i : Int)).toNat)) = dig v (i + 1) ++ List.replicate (n.toNat - (i + 1)) 0 := by
    rw [e3, e1, show n.toNat - i = (n.toNat - (i + 1)) + 1 by omega, List.replicate_succ];simp [dig_length]
   exact AW.backU [.k, .f, .f, .f, .f, .k, .F, .F, .f, .f, .k, .k, .F, .f, .f, .f, .f] (m0 - 1) (i + 1) (by omega) co cr (by simp only [Nat.zero_add, Int.toNat_natCast, e2])
  ·
   rw [decide_eq_false_iff_not] at h1;refine AW.exit <|SQ.exit <|AW.out <|LU.exit <|BQ.exit ?_;refine go ?_;refine AW.ret ?_;refine FinO.ret 4 (Gh.refl) rfl ?_ ?_ (.inr rfl)
   · rw [if_pos hw]
     have : i = n.toNat := by omega
     subst this;simp
   · rw [if_pos hw, bys_length, dig_length]
theorem ref_Nums (l : List Int) (hl : l.length ≤ 1000000) (h64 : ∀ x ∈ l, I64 x) : A0 Tryz.prog 103 [.rd 1 (l.map iA)] (fun ret => ret = .rd 1 (bys (numsF l))) := by
 have h64g : ∀ i, I64 (l.getD i 0) := fun i => by
  rcases Nat.lt_or_ge i l.length with h | h
  · have := h64 l[i] (List.getElem_mem h); simpa [h] using this
  · simp [h]; decide
 have hdef : ∀ i, l.getD i default = l.getD i 0 := fun i => rfl
 refine A0.body 26 Tryz.func103 rfl rfl Tryz.ntmps103 fun base n0 => ?_
 refine n2 ?_;refine AO.c ?_;refine n3 ?_;refine AO.c ?_;refine n4 ?_;refine AO.c ?_;refine nb ?_;refine AW.ghost (Gh.adoptB 3 5) ?_
 refine AW.loopU3 [.k, .f, .f, .k, .k, .F, .F, .f, .f, .f, .f, .f] (fun (i ep : Nat) (out : List Int) => [(3, .own (n0 + 0) ep 0 out.length), (4, .v (.int .i64 (i)))]) (fun i ep out => Hn n0 [some (.row 5 1 ep (bys out))]) (fun m i ep out => i ≤ l.length + 1 ∧ m = l.length + 1 - i ∧ out.length ≤ 8 * i ∧ numsF l = out ++ numsF (l.drop i)) (l.length + 1) (0) (0) ([]) ⟨by omega, by omega, by simp, rfl⟩ (by first | rfl | (simp; done)) (by first | rfl | (simp; done)) ?_
 rintro m0 i ep out ⟨hx1, hx2, hx3, hx4⟩
 refine n8 ?_;refine AO.c ?_;refine AO.oo ?_;iterate 3 refine AO.c ?_
 refine n1 ?_;refine AW.iteB (GL.ev _) (fun h0 => ?_) (fun h0 => ?_)
 ·
  rw [decide_eq_true_eq] at h0;have hi : i + 1 < l.length := by omega
  have hst := numsF_step hi;have hpl := put8_len (IntKind.u64.wrap (l.getD i 0)) (l.getD (i + 1) 0);refine n5 <|AW.seq' <|AW.block' ?_
  refine AW.drawsZ [12] (.one 0 false (.one 1 false (.one 2 false (.one 3 false (.one 4 false (.one 5 false (.one 6 false (.one 7 false (.one 8 false (.one 9 false (.one 10 false (.one 11 true (.one 12 true (.one 13 false .nil)))))))))))))) (by kernel_rfl) rfl (by kernel_rfl) ?_;iterate 3 refine AZ.c rfl ?_
  refine AZ.o rfl (by omega) ?_;refine AZ.c rfl ?_;refine AZ.pw rfl ?_;iterate 2 refine AZ.c rfl ?_
  iterate 2 refine AZ.oo rfl ?_
  refine AZ.c rfl ?_;refine AZ.call1 rfl Tryz.func99 rfl rfl (ref_Put _ _ (u64_range _) (h64g (i + 1))) ?_;refine AZ.ww rfl rfl ?_ ⟨rfl, by have := put8_len (IntKind.u64.wrap (l.getD i default)) (l.getD (i + 1) 0); omega⟩;refine AZ.c rfl ?_;refine AZ.done ?_;refine BQ.normal <|SQ.normal <|AW.region ?_;refine AO.c ?_;refine AO.oo ?_;refine AO.c ?_;refine AO.nil ?_
  exact AW.backU [.k, .f, .f, .k, .k, .F, .F, .f, .f, .f, .f, .f] (m0 - 2) (i + 2, ep + 1, out ++ (if Wide (l.getD (i + 1) 0) then dig (IntKind.u64.wrap (l.getD i 0)) (l.getD (i + 1) 0).toNat else [])) (by omega) (by (try dsimp only); exact ⟨by omega, by omega, by rw [List.length_append]; omega, by rw [hx4, hst, List.append_assoc]⟩) (by (try dsimp only); rw [List.length_append] <;> rfl) (rfl)
 ·
  rw [decide_eq_false_iff_not] at h0;refine AW.exit <|SQ.exit <|AW.out <|LU.exit <|BQ.exit <|SQ.normal <|n2 ?_;iterate 2 refine AO.c ?_
  refine na ?_;have hfin : out = numsF l := by
   rw [hx4];have : l.drop i = [] ∨ ∃ x, l.drop i = [x] := by
    rcases Nat.lt_or_ge i l.length with h | h
    · refine .inr ⟨l.getD i 0, ?_⟩
      rw [drop_getD0 h, List.drop_of_length_le (by omega)]
    · exact .inl (List.drop_of_length_le h)
   rcases this with h | ⟨x, h⟩ <;> rw [h] <;> simp [numsF]
  have hlen := numsF_len l.length l (Nat.le_refl _);refine Fin.ret (Gh.freezeE 2 hfin (by rw [← hfin]) ?_) noid1 ?_
  all_goals first
   | rfl
   | omega
   | (simp; done)
   | (simp; omega)
   | (rfl)
structure EntD where
 name : Int
 bind : Int
 typ : Int
 idx : Int
 val : Int
 size : Int
 deriving Inhabited, DecidableEq
@[reducible] def entA (e : EntD) : List AV := [.v (.int .i64 e.name), .v (.int .i64 e.bind), .v (.int .i64 e.typ), .v (.int .i64 e.idx), .v (.int .i64 e.val), .v (.int .i64 e.size)]
def EntD.ok (e : EntD) : Prop := I64 e.name ∧ I64 e.bind ∧ I64 e.typ ∧ I64 e.idx ∧ I64 e.val ∧ I64 e.size
def withinB (n most : Int) : Bool := decide (n ≥ 0) && decide (n ≤ most)
def mayE (e : EntD) : Bool := (withinB e.name 2147483647 && withinB e.val 2147483647 && withinB e.size 2147483647) && withinB e.bind 2 && withinB e.typ 3 && withinB e.idx 65535
def mayR (e : EntD) : Bool := fitsB e.name && fitsB e.val && fitsB e.size && decide (e.bind ≥ 0) && decide (e.bind ≤ 2) && decide (e.typ ≥ 0) && decide (e.typ ≤ 3) && decide (e.idx ≥ 0) && decide (e.idx ≤ 65535)
def MayE (e : EntD) : Prop := (0 ≤ e.name ∧ e.name ≤ 2147483647) ∧ (0 ≤ e.bind ∧ e.bind ≤ 2) ∧ (0 ≤ e.typ ∧ e.typ ≤ 3) ∧ (0 ≤ e.idx ∧ e.idx ≤ 65535) ∧ (0 ≤ e.val ∧ e.val ≤ 2147483647) ∧ 0 ≤ e.size ∧ e.size ≤ 2147483647
instance (e : EntD) : Decidable (MayE e) := by unfold MayE; infer_instance
theorem mayE_eq (e : EntD) : mayE e = decide (MayE e) := by
 rw [Bool.eq_iff_iff, decide_eq_true_eq];unfold mayE MayE withinB;simp only [Bool.and_eq_true, decide_eq_true_eq];omega
theorem mayR_eq (e : EntD) : mayR e = decide (MayE e) := by
 rw [Bool.eq_iff_iff, decide_eq_true_eq];unfold mayR MayE fitsB;simp only [Bool.and_eq_true, decide_eq_true_eq];omega
def entB (e : EntD) : List Int := dig e.name 4 ++ [16 * e.bind + e.typ, 0] ++ dig e.idx 2 ++ dig e.val 8 ++ dig e.size 8
theorem dig_one (x : Int) (h0 : 0 ≤ x) (h1 : x < 256) : dig x 1 = [x] := by
 show [x % 256] = [x]
 rw [Int.emod_eq_of_lt h0 h1]
theorem wu64n {x : Int} (h0 : 0 ≤ x) (h1 : x ≤ 2147483647) : IntKind.u64.wrap x = x := wu64 h0 (by omega)
theorem nums_ent {e : EntD} (h : MayE e) : numsF [e.name, 4, 16 * e.bind + e.typ, 1, 0, 1, e.idx, 2, e.val, 8, e.size, 8] = entB e := by
 unfold MayE at h;simp only [numsF, List.append_nil];rw [if_pos (by decide), if_pos (by decide), if_pos (by decide), if_pos (by decide), if_pos (by decide), if_pos (by decide), wu64n (by omega) (by omega), wu64n (by omega) (by omega), wu64n (by omega) (by omega), wu64n (by omega) (by omega), wu64n (by omega) (by omega), wu64n (by omega) (by omega)]
 show dig e.name 4 ++ (dig (16 * e.bind + e.typ) 1 ++ (dig 0 1 ++ (dig e.idx 2 ++ (dig e.val 8 ++ dig e.size 8)))) = entB e
 rw [dig_one _ (by omega) (by omega)];unfold entB;simp [dig]
theorem entB_len (e : EntD) : (entB e).length = 24 := by unfold entB; simp [dig_length]
theorem ent_nums64 {e : EntD} (h : e.ok) (h1 : 0 ≤ e.bind ∧ e.bind ≤ 2) (h2 : 0 ≤ e.typ ∧ e.typ ≤ 3) : ∀ x ∈ [e.name, 4, 16 * e.bind + e.typ, 1, 0, 1, e.idx, 2, e.val, 8, e.size, 8], I64 x := by
 obtain ⟨q1, q2, q3, q4, q5, q6⟩ := h;intro x hx;simp only [List.mem_cons, List.not_mem_nil, or_false] at hx;rcases hx with rfl | rfl | rfl | rfl | rfl | rfl | rfl | rfl | rfl | rfl | rfl | rfl <;> first | assumption | decide | (unfold I64; omega)
theorem sym_within (n most : Int) : A0 Tryz.prog 123 [.v (.int .i64 (n)), .v (.int .i64 (most))] (fun ret => ret = .v (.bool (withinB n most))) := by
 refine A0.body 12 Tryz.func123 rfl rfl Tryz.ntmps123 fun base n0 => ?_
 refine go ?_;refine AW.ret ?_;refine Fin.ret (Gh.refl) noid1 ?_;rfl
theorem sym_may (e : EntD) : A0 Tryz.prog 121 [.agg (entA e)] (fun ret => ret = .v (.bool (mayE e))) := by
 refine A0.body 33 Tryz.func121 rfl rfl Tryz.ntmps121 fun base n0 => ?_
 refine go ?_;refine AO.call1 Tryz.func123 rfl rfl (sym_within _ _) ?_;refine go ?_;refine AO.gxcall1 Tryz.func123 rfl rfl (fun hgd => sym_within _ _) ?_;refine go ?_;refine AO.gxcall1 Tryz.func123 rfl rfl (fun hgd => sym_within _ _) ?_;refine go ?_;refine AO.gxcall1 Tryz.func123 rfl rfl (fun hgd => sym_within _ _) ?_;refine go ?_
 refine AO.gxcall1 Tryz.func123 rfl rfl (fun hgd => sym_within _ _) ?_;refine go ?_;refine AO.gxcall1 Tryz.func123 rfl rfl (fun hgd => sym_within _ _) ?_;refine go ?_;refine AW.ret ?_;refine Fin.ret (Gh.refl) noid1 ?_;rfl
theorem ref_MayEntry (e : EntD) (h : e.ok) : A0 Tryz.prog 118 [.agg (entA e)] (fun ret => ret = .v (.bool (mayR e))) := by
 obtain ⟨q1, q2, q3, q4, q5, q6⟩ := h;refine A0.body 52 Tryz.func118 rfl rfl Tryz.ntmps118 fun base n0 => ?_
 refine go ?_;refine AO.call1 Tryz.func104 rfl rfl (ref_fits _ (by assumption)) ?_;refine go ?_;refine AO.call1 Tryz.func104 rfl rfl (ref_fits _ (by assumption)) ?_;refine go ?_;refine AO.call1 Tryz.func104 rfl rfl (ref_fits _ (by assumption)) ?_;refine go ?_;refine AW.ret ?_;refine Fin.ret (Gh.refl) noid1 ?_;rfl
theorem sym_Put (e : EntD) (he : e.ok) : A0 Tryz.prog 111 [.agg (entA e)] (fun ret => ret = .rd 1 (bys (if MayE e then entB e else []))) := by
 refine A0.body 38 Tryz.func111 rfl rfl Tryz.ntmps111 fun base n0 => ?_
 refine n2 ?_;refine AO.ww ?_;refine AO.c ?_;refine n4 ?_;refine AO.c ?_;refine AO.call1 Tryz.func121 rfl rfl (sym_may _) ?_;refine AO.c ?_;refine n1 ?_;refine AW.iteB (GL.ev _) (fun h0 => ?_) (fun h0 => ?_)
 ·
  rw [mayE_eq, Bool.not_eq_true', decide_eq_false_iff_not] at h0;refine n2 ?_;refine AO.c ?_;refine na <|SQ.ret ?_;refine Fin.ret (Gh.nilB 2) noid1 ?_;rw [if_neg h0]; rfl
 ·
  rw [mayE_eq, Bool.not_eq_false', decide_eq_true_eq] at h0;have hm := h0;unfold MayE at hm;have l2 : (if Wide 2 then dig e.idx 2 else []).length ≤ 8 := put8_len e.idx 2;have l8 : (if Wide 8 then dig e.val 8 else []).length ≤ 8 := put8_len e.val 8;have l9 : (if Wide 8 then dig e.size 8 else []).length ≤ 8 := put8_len e.size 8;refine n5 <|AW.seq' ?_;apply AW.mid
  case h =>
   refine AW.drawsZ [12] (.one 0 false (.one 1 false (.one 2 false (.one 4 false (.one 5 false (.one 6 false (.one 7 false (.one 8 false (.one 9 false (.one 10 false (.two 3 11 (.one 11 true (.one 12 true (.one 13 false .nil))) (.one 3 true (.one 12 true (.one 13 false .nil)))))))))))))) (by kernel_rfl) rfl (by kernel_rfl) ?_;iterate 2 refine AZ.c rfl ?_
   refine AZ.oo rfl ?_;iterate 2 refine AZ.c rfl ?_
   refine AZ.oo rfl ?_;iterate 2 refine AZ.c rfl ?_
   iterate 2 refine AZ.oo rfl ?_
   refine AZ.two ?_ ?_
   · refine AZi.callR rfl Tryz.func88 rfl rfl (le_PutR e.name 4 (by omega) (by omega)) (by rw [bys_length, if_pos (by decide), dig_length]) ?_
     refine AZ.rr rfl ?_;refine AZ.ww rfl rfl ?_;refine AZ.c rfl ?_;exact AZ.done ⟨rfl, rfl⟩
   · refine AZi.rr rfl ?_
     refine AZ.callR rfl Tryz.func88 rfl rfl (le_PutR e.name 4 (by omega) (by omega)) (by rw [bys_length, if_pos (by decide), dig_length]) ?_;refine AZ.ww rfl rfl ?_;refine AZ.c rfl ?_;exact AZ.done ⟨rfl, rfl⟩
  refine SQ.normal <|n2 ?_;iterate 3 refine AO.c ?_
  refine AO.oo ?_;refine AO.call1 Tryz.func88 rfl rfl ((le_PutR _ 2 (by omega) (by omega)).a0 (by rw [bys_length]; exact Nat.le_trans (put8_len _ _) (by decide))) ?_;refine AO.ww ?_;refine AO.c ?_;refine n3 ?_;iterate 3 refine AO.c ?_
  refine AO.oo ?_;refine AO.call1 Tryz.func88 rfl rfl ((le_PutR _ 8 (by omega) (by omega)).a0 (by rw [bys_length]; exact Nat.le_trans (put8_len _ _) (by decide))) ?_;refine AO.ww ?_;refine AO.c ?_;refine n3 ?_;iterate 3 refine AO.c ?_
  refine AO.oo ?_;refine AO.call1 Tryz.func88 rfl rfl ((le_PutR _ 8 (by omega) (by omega)).a0 (by rw [bys_length]; exact Nat.le_trans (put8_len _ _) (by decide))) ?_;refine AO.ww ?_;refine AO.c ?_;refine na ?_;refine Fin.ret (Gh.freezeE 2 (li' := entB e) ?_ ?_ ?_) noid1 ?_
  · rw [if_pos (show Wide 4 by decide), if_pos (show Wide 2 by decide), if_pos (show Wide 8 by decide), if_pos (show Wide 8 by decide)]; rfl
  · rw [entB_len, if_pos (show Wide 2 by decide), if_pos (show Wide 8 by decide), if_pos (show Wide 8 by decide), dig_length, dig_length, dig_length]; rfl
  · rw [entB_len]; decide
  · rw [if_pos h0]; rfl
theorem ref_EntryBytes (e : EntD) (he : e.ok) : A0 Tryz.prog 101 [.agg (entA e)] (fun ret => ret = .rd 1 (bys (if MayE e then entB e else []))) := by
 have he0 := he;refine A0.body 24 Tryz.func101 rfl rfl Tryz.ntmps101 fun base n0 => ?_
 refine go ?_;refine AO.call1 Tryz.func118 rfl rfl (ref_MayEntry _ (by assumption)) ?_;refine go ?_;refine AW.iteB (GL.ev _) (fun h0 => ?_) (fun h0 => ?_)
 ·
  rw [mayR_eq, Bool.not_eq_true', decide_eq_false_iff_not] at h0;refine go ?_;refine AW.ret <|SQ.ret ?_;refine Fin.ret (Gh.nilB 2) noid1 ?_;rw [if_neg h0]; rfl
 ·
  rw [mayR_eq, Bool.not_eq_false', decide_eq_true_eq] at h0;have hm := h0;unfold MayE at hm;have hnu := nums_ent h0;have h64 := ent_nums64 he0 hm.2.1 hm.2.2.1;refine gr ?_;refine AO.rr ?_;refine AO.eq 22 (av' := .rd 1 (([e.name, 4, 16 * e.bind + e.typ, 1, 0, 1, e.idx, 2, e.val, 8, e.size, 8] : List Int).map iA)) rfl ?_;refine AO.call1 Tryz.func103 rfl rfl (ref_Nums _ (by simp) h64) ?_;refine go ?_
  refine AW.ret ?_;refine Fin.ret (Gh.refl) noid1 ?_;rw [if_pos h0, ← hnu]; rfl
def mayF (r : RelD) : Bool := decide (r.off ≥ 0) && decide (r.off ≤ 2147483647) && decide (r.sym ≥ 0) && decide (r.sym ≤ 2147483647) && decide (widthF r.typ > 0)
theorem mayF_eq (r : RelD) : mayF r = mayRelB r := by
 rw [Bool.eq_iff_iff];unfold mayF mayRelB fitsB;simp only [Bool.and_eq_true, decide_eq_true_eq];omega
theorem mayRel_all {r : RelD} (h : mayRelB r = true) : (0 ≤ r.off ∧ r.off ≤ 2147483647) ∧ (0 ≤ r.sym ∧ r.sym ≤ 2147483647) ∧ 0 < widthF r.typ ∧ 0 ≤ r.typ ∧ r.typ ≤ 11 := by
 unfold mayRelB fitsB at h;simp only [Bool.and_eq_true, decide_eq_true_eq] at h;refine ⟨h.1.1, h.1.2, h.2, ?_⟩;have h2 := h.2;unfold widthF at h2
 split at h2
 · omega
 · split at h2 <;> omega
def relB (r : RelD) : List Int := dig r.off 8 ++ dig r.typ 4 ++ dig r.sym 4 ++ dig (IntKind.u64.wrap r.add) 8
theorem relB_len (r : RelD) : (relB r).length = 24 := by unfold relB; simp [dig_length]
theorem nums_rel {r : RelD} (h : mayRelB r = true) : numsF [r.off, 8, r.typ, 4, r.sym, 4, r.add, 8] = relB r := by
 have h := mayRel_all h;simp only [numsF, List.append_nil];rw [if_pos (by decide), if_pos (by decide), if_pos (by decide), if_pos (by decide), wu64n (by omega) (by omega), wu64n (by omega) (by omega), wu64n (by omega) (by omega)];unfold relB;simp [List.append_assoc]
theorem rel_nums64 {r : RelD} (h : r.ok) : ∀ x ∈ [r.off, 8, r.typ, 4, r.sym, 4, r.add, 8], I64 x := by
 obtain ⟨q1, q2, q3, q4⟩ := h;intro x hx;simp only [List.mem_cons, List.not_mem_nil, or_false] at hx;rcases hx with rfl | rfl | rfl | rfl | rfl | rfl | rfl | rfl <;> first | assumption | decide
theorem rela_Width (t : Int) : A0 Tryz.prog 109 [.v (.int .i64 (t))] (fun ret => ret = .v (.int .i64 (widthF t))) := by
 refine A0.body 11 Tryz.func109 rfl rfl Tryz.ntmps109 fun base n0 => ?_
 refine go ?_;refine AW.iteB (GL.ev _) (fun h0 => ?_) (fun h0 => ?_)
 ·
  try simp only [Bool.and_eq_true, Bool.or_eq_true, Bool.not_eq_true', Bool.and_eq_false_iff, Bool.or_eq_false_iff, decide_eq_true_eq, decide_eq_false_iff_not, bys_length] at h0
  refine go ?_;refine AW.ret <|BQ.ret <|SQ.ret ?_;refine Fin.ret (Gh.refl) noid1 ?_;show AV.v (.int .i64 _) = AV.v (.int .i64 (widthF t))
  congr 2
  unfold widthF
  split
  · omega
  · first | omega | (split <;> omega)
 ·
  try simp only [Bool.and_eq_true, Bool.or_eq_true, Bool.not_eq_true', Bool.and_eq_false_iff, Bool.or_eq_false_iff, decide_eq_true_eq, decide_eq_false_iff_not, bys_length] at h0
  refine go ?_;refine AW.iteB (GL.ev _) (fun h1 => ?_) (fun h1 => ?_)
  ·
   try simp only [Bool.and_eq_true, Bool.or_eq_true, Bool.not_eq_true', Bool.and_eq_false_iff, Bool.or_eq_false_iff, decide_eq_true_eq, decide_eq_false_iff_not, bys_length] at h1
   refine go ?_;refine AW.iteB (GL.ev _) (fun h4 => ?_) (fun h4 => ?_)
   ·
    try simp only [Bool.and_eq_true, Bool.or_eq_true, Bool.not_eq_true', Bool.and_eq_false_iff, Bool.or_eq_false_iff, decide_eq_true_eq, decide_eq_false_iff_not, bys_length] at h4
    refine go ?_;refine AW.ret <|BQ.ret <|SQ.ret ?_;refine Fin.ret (Gh.refl) noid1 ?_;show AV.v (.int .i64 _) = AV.v (.int .i64 (widthF t))
    congr 2
    unfold widthF
    split
    · omega
    · first | omega | (split <;> omega)
   ·
    try simp only [Bool.and_eq_true, Bool.or_eq_true, Bool.not_eq_true', Bool.and_eq_false_iff, Bool.or_eq_false_iff, decide_eq_true_eq, decide_eq_false_iff_not, bys_length] at h4
    refine AW.skip <|BQ.normal ?_;refine go ?_;refine AW.ret ?_;refine Fin.ret (Gh.refl) noid1 ?_;show AV.v (.int .i64 _) = AV.v (.int .i64 (widthF t))
    congr 2
    unfold widthF
    split
    · omega
    · first | omega | (split <;> omega)
  ·
   try simp only [Bool.and_eq_true, Bool.or_eq_true, Bool.not_eq_true', Bool.and_eq_false_iff, Bool.or_eq_false_iff, decide_eq_true_eq, decide_eq_false_iff_not, bys_length] at h1
   refine go ?_;refine AW.iteB (GL.ev _) (fun h2 => ?_) (fun h2 => ?_)
   ·
    try simp only [Bool.and_eq_true, Bool.or_eq_true, Bool.not_eq_true', Bool.and_eq_false_iff, Bool.or_eq_false_iff, decide_eq_true_eq, decide_eq_false_iff_not, bys_length] at h2
    refine go ?_;refine AW.iteB (GL.ev _) (fun h4 => ?_) (fun h4 => ?_)
    ·
     try simp only [Bool.and_eq_true, Bool.or_eq_true, Bool.not_eq_true', Bool.and_eq_false_iff, Bool.or_eq_false_iff, decide_eq_true_eq, decide_eq_false_iff_not, bys_length] at h4
     refine go ?_;refine AW.ret <|BQ.ret <|SQ.ret ?_;refine Fin.ret (Gh.refl) noid1 ?_;show AV.v (.int .i64 _) = AV.v (.int .i64 (widthF t))
     congr 2
     unfold widthF
     split
     · omega
     · first | omega | (split <;> omega)
    ·
     try simp only [Bool.and_eq_true, Bool.or_eq_true, Bool.not_eq_true', Bool.and_eq_false_iff, Bool.or_eq_false_iff, decide_eq_true_eq, decide_eq_false_iff_not, bys_length] at h4
     refine AW.skip <|BQ.normal ?_;refine go ?_;refine AW.ret ?_;refine Fin.ret (Gh.refl) noid1 ?_;show AV.v (.int .i64 _) = AV.v (.int .i64 (widthF t))
     congr 2
     unfold widthF
     split
     · omega
     · first | omega | (split <;> omega)
   ·
    try simp only [Bool.and_eq_true, Bool.or_eq_true, Bool.not_eq_true', Bool.and_eq_false_iff, Bool.or_eq_false_iff, decide_eq_true_eq, decide_eq_false_iff_not, bys_length] at h2
    refine go ?_;refine AW.iteB (GL.ev _) (fun h3 => ?_) (fun h3 => ?_)
    ·
     try simp only [Bool.and_eq_true, Bool.or_eq_true, Bool.not_eq_true', Bool.and_eq_false_iff, Bool.or_eq_false_iff, decide_eq_true_eq, decide_eq_false_iff_not, bys_length] at h3
     refine go ?_;refine AW.iteB (GL.ev _) (fun h4 => ?_) (fun h4 => ?_)
     ·
      try simp only [Bool.and_eq_true, Bool.or_eq_true, Bool.not_eq_true', Bool.and_eq_false_iff, Bool.or_eq_false_iff, decide_eq_true_eq, decide_eq_false_iff_not, bys_length] at h4
      refine go ?_;refine AW.ret <|BQ.ret <|SQ.ret ?_;refine Fin.ret (Gh.refl) noid1 ?_;show AV.v (.int .i64 _) = AV.v (.int .i64 (widthF t))
      congr 2
      unfold widthF
      split
      · omega
      · first | omega | (split <;> omega)
     ·
      try simp only [Bool.and_eq_true, Bool.or_eq_true, Bool.not_eq_true', Bool.and_eq_false_iff, Bool.or_eq_false_iff, decide_eq_true_eq, decide_eq_false_iff_not, bys_length] at h4
      refine AW.skip <|BQ.normal ?_;refine go ?_;refine AW.ret ?_;refine Fin.ret (Gh.refl) noid1 ?_;show AV.v (.int .i64 _) = AV.v (.int .i64 (widthF t))
      congr 2
      unfold widthF
      split
      · omega
      · first | omega | (split <;> omega)
    ·
     try simp only [Bool.and_eq_true, Bool.or_eq_true, Bool.not_eq_true', Bool.and_eq_false_iff, Bool.or_eq_false_iff, decide_eq_true_eq, decide_eq_false_iff_not, bys_length] at h3
     refine go ?_;refine AW.iteB (GL.ev _) (fun h4 => ?_) (fun h4 => ?_)
     ·
      try simp only [Bool.and_eq_true, Bool.or_eq_true, Bool.not_eq_true', Bool.and_eq_false_iff, Bool.or_eq_false_iff, decide_eq_true_eq, decide_eq_false_iff_not, bys_length] at h4
      refine go ?_;refine AW.ret <|BQ.ret <|SQ.ret ?_;refine Fin.ret (Gh.refl) noid1 ?_;show AV.v (.int .i64 _) = AV.v (.int .i64 (widthF t))
      congr 2
      unfold widthF
      split
      · omega
      · first | omega | (split <;> omega)
     ·
      try simp only [Bool.and_eq_true, Bool.or_eq_true, Bool.not_eq_true', Bool.and_eq_false_iff, Bool.or_eq_false_iff, decide_eq_true_eq, decide_eq_false_iff_not, bys_length] at h4
      refine AW.skip <|BQ.normal ?_;refine go ?_;refine AW.ret ?_;refine Fin.ret (Gh.refl) noid1 ?_;show AV.v (.int .i64 _) = AV.v (.int .i64 (widthF t))
      congr 2
      unfold widthF
      split
      · omega
      · first | omega | (split <;> omega)
theorem rela_may (r : RelD) : A0 Tryz.prog 120 [.agg (relA r)] (fun ret => ret = .v (.bool (mayF r))) := by
 refine A0.body 27 Tryz.func120 rfl rfl Tryz.ntmps120 fun base n0 => ?_
 refine go ?_;refine AO.gxcall1 Tryz.func109 rfl rfl (fun hgd => rela_Width _) ?_;refine go ?_;refine AW.ret ?_;refine Fin.ret (Gh.refl) noid1 ?_;rfl
theorem rela_Put (r : RelD) (hr : r.ok) : A0 Tryz.prog 108 [.agg (relA r)] (fun ret => ret = .rd 1 (bys (if mayRelB r = true then relB r else []))) := by
 refine A0.body 29 Tryz.func108 rfl rfl Tryz.ntmps108 fun base n0 => ?_
 refine n2 ?_;refine AO.ww ?_;refine AO.c ?_;refine n4 ?_;refine AO.c ?_;refine AO.call1 Tryz.func120 rfl rfl (rela_may _) ?_;refine AO.c ?_;refine n1 ?_;refine AW.iteB (GL.ev _) (fun h0 => ?_) (fun h0 => ?_)
 ·
  rw [mayF_eq, Bool.not_eq_true'] at h0;have hno : ¬ mayRelB r = true := by rw [h0]; decide
  refine n2 ?_;refine AO.c ?_;refine na <|SQ.ret ?_;refine Fin.ret (Gh.nilB 2) noid1 ?_;rw [if_neg hno]; rfl
 ·
  rw [mayF_eq, Bool.not_eq_false'] at h0;have hm := mayRel_all h0;have l4 : (if Wide 4 then dig r.typ 4 else []).length ≤ 8 := put8_len r.typ 4;have l5 : (if Wide 4 then dig r.sym 4 else []).length ≤ 8 := put8_len r.sym 4;have l8 : (if Wide 8 then dig (IntKind.u64.wrap r.add) 8 else []).length ≤ 8 := put8_len _ 8;refine n6 ?_;iterate 2 refine AO.c ?_
  refine AO.oo ?_;refine AO.callR Tryz.func88 rfl rfl (le_PutR r.off 8 (by omega) (by omega)) (by rw [bys_length, if_pos (by decide), dig_length]) ?_;refine AO.c ?_;refine n3 ?_;iterate 3 refine AO.c ?_
  refine AO.oo ?_;refine AO.call1 Tryz.func88 rfl rfl ((le_PutR _ 4 (by omega) (by omega)).a0 (by rw [bys_length]; exact Nat.le_trans (put8_len _ _) (by decide))) ?_;refine AO.ww ?_;refine AO.c ?_;refine n3 ?_;iterate 3 refine AO.c ?_
  refine AO.oo ?_;refine AO.call1 Tryz.func88 rfl rfl ((le_PutR _ 4 (by omega) (by omega)).a0 (by rw [bys_length]; exact Nat.le_trans (put8_len _ _) (by decide))) ?_;refine AO.ww ?_;refine AO.c ?_;refine n3 ?_;iterate 3 refine AO.c ?_
  refine AO.pw ?_;refine AO.call1 Tryz.func88 rfl rfl ((le_PutR _ 8 (u64_range _) (by omega)).a0 (by rw [bys_length]; exact Nat.le_trans (put8_len _ _) (by decide))) ?_;refine AO.ww ?_;refine AO.c ?_;refine na ?_;refine Fin.ret (Gh.freezeE 2 (li' := relB r) ?_ ?_ ?_) noid1 ?_
  · rw [if_pos (show Wide 8 by decide), if_pos (show Wide 4 by decide), if_pos (show Wide 4 by decide), if_pos (show Wide 8 by decide)]; rfl
  · rw [relB_len, if_pos (show Wide 4 by decide), if_pos (show Wide 4 by decide), if_pos (show Wide 8 by decide), dig_length, dig_length, dig_length]; rfl
  · rw [relB_len]; decide
  · rw [if_pos h0]; rfl
theorem ref_RelBytes (r : RelD) (hr : r.ok) : A0 Tryz.prog 98 [.agg (relA r)] (fun ret => ret = .rd 1 (bys (if mayRelB r = true then relB r else []))) := by
 refine A0.body 18 Tryz.func98 rfl rfl Tryz.ntmps98 fun base n0 => ?_
 refine go ?_;refine AO.call1 Tryz.func115 rfl rfl (ref_MayRel _ (by assumption)) ?_;refine go ?_;refine AW.iteB (GL.ev _) (fun h0 => ?_) (fun h0 => ?_)
 ·
  rw [Bool.not_eq_true'] at h0;have hno : ¬ mayRelB r = true := by rw [h0]; decide
  refine go ?_;refine AW.ret <|SQ.ret ?_;refine Fin.ret (Gh.nilB 2) noid1 ?_;rw [if_neg hno]; rfl
 ·
  rw [Bool.not_eq_false'] at h0;have hnu := nums_rel h0;have h64 := rel_nums64 hr;refine gr ?_;refine AO.rr ?_;refine AO.eq 16 (av' := .rd 1 (([r.off, 8, r.typ, 4, r.sym, 4, r.add, 8] : List Int).map iA)) rfl ?_;refine AO.call1 Tryz.func103 rfl rfl (ref_Nums _ (by simp) h64) ?_;refine go ?_;refine AW.ret ?_;refine Fin.ret (Gh.refl) noid1 ?_;rw [if_pos h0, ← hnu]; rfl
structure HdD where
 at_ : Int
 many : Int
 names : Int
 deriving Inhabited, DecidableEq
@[reducible] def hdA (h : HdD) : List AV := [.v (.int .i64 h.at_), .v (.int .i64 h.many), .v (.int .i64 h.names)]
@[reducible] def pairA (p : Int × Int) : List AV := [.v (.int .u64 p.1), .v (.int .i64 p.2)]
def HdD.ok (h : HdD) : Prop := I64 h.at_ ∧ I64 h.many ∧ I64 h.names
def HdD.may (h : HdD) : Prop := MayHd h.at_ h.many h.names
instance hdMayDec (h : HdD) : Decidable h.may := by unfold HdD.may; infer_instance
def HdD.bytes (h : HdD) : List Int := Hd h.at_ h.many h.names
def mayHB (h : HdD) : Bool := decide (h.at_ ≥ 0) && decide (h.at_ ≤ 2147483647) && decide (h.many ≥ 1) && decide (h.many ≤ 65535) && decide (h.names ≥ 1) && decide (h.names < h.many)
theorem mayHB_eq (h : HdD) : mayHB h = decide h.may := by
 rw [Bool.eq_iff_iff, decide_eq_true_eq];unfold mayHB HdD.may MayHd;simp only [Bool.and_eq_true, decide_eq_true_eq];omega
def identL : List Int := [127, 69, 76, 70, 2, 1, 1, 0, 0, 0, 0, 0, 0, 0, 0, 0]
def layL (h : HdD) : List (Int × Int) := [(1, 2), (62, 2), (1, 4), (0, 8), (0, 8), (h.at_, 8), (0, 4), (64, 2), (0, 2), (0, 2), (64, 2), (h.many, 2), (h.names, 2)]
def digsP : List (Int × Int) → List Int
 | [] => []
 | p :: r => dig p.1 p.2.toNat ++ digsP r
theorem digsP_append (a b : List (Int × Int)) : digsP (a ++ b) = digsP a ++ digsP b := by
 induction a with
 | nil => rfl
 | cons p r ih => simp only [List.cons_append, digsP, ih, List.append_assoc]
theorem digsP_step {l : List (Int × Int)} {i : Nat} (h : i < l.length) : digsP (l.take (i + 1)) = digsP (l.take i) ++ dig (l.getD i default).1 (l.getD i default).2.toNat := by
 have : l.getD i default = l[i] := by simp [h]
 rw [this, List.take_succ_eq_append_getElem h, digsP_append];simp [digsP]
theorem layL_at {h : HdD} (hm : h.may) {i : Nat} (hi : i < 13) : Wide ((layL h).getD i default).2 ∧ 0 ≤ ((layL h).getD i default).1 ∧ ((layL h).getD i default).1 ≤ 18446744073709551615 ∧ -9223372036854775808 ≤ ((layL h).getD i default).2 ∧ ((layL h).getD i default).2 ≤ 9223372036854775807 := by
 unfold HdD.may MayHd at hm;have hc : i = 0 ∨ i = 1 ∨ i = 2 ∨ i = 3 ∨ i = 4 ∨ i = 5 ∨ i = 6 ∨ i = 7 ∨ i = 8 ∨ i = 9 ∨ i = 10 ∨ i = 11 ∨ i = 12 := by omega
 rcases hc with rfl | rfl | rfl | rfl | rfl | rfl | rfl | rfl | rfl | rfl | rfl | rfl | rfl <;> simp only [layL, List.getD_cons_zero, List.getD_cons_succ] <;> refine ⟨by decide, ?_, ?_, by decide, by decide⟩ <;> omega
theorem lay_all (h : HdD) : identL ++ digsP (layL h) = h.bytes := by
 simp [layL, digsP, HdD.bytes, Hd, identL]
theorem ehdr_may (h : HdD) : A0 Tryz.prog 90 [.agg (hdA h)] (fun ret => ret = .v (.bool (mayHB h))) := by
 refine A0.body 33 Tryz.func90 rfl rfl Tryz.ntmps90 fun base n0 => ?_
 refine go ?_;refine AW.ret ?_;refine Fin.ret (Gh.refl) noid1 ?_;rfl
theorem ehdr_lay (h : HdD) (hm : h.may) : A1 Tryz.prog 91 [.agg (hdA h)] 5 1 (bys h.bytes) := by
 have hm2 := hm;unfold HdD.may MayHd at hm2;have hl13 : (layL h).length = 13 := rfl;refine A1.body 44 (NIr.h) Tryz.func91 rfl rfl Tryz.ntmps91 fun base n0 => ?_
 refine n2 ?_;refine AO.ww ?_;refine AO.c ?_;refine n3 ?_;refine AO.ww ?_;refine AO.c ?_;refine n4 ?_;iterate 7 refine AO.c ?_
 refine AO.oo ?_;iterate 8 refine AO.c ?_
 refine AO.oo ?_;iterate 3 refine AO.c ?_
 refine AO.oo ?_;refine AO.c ?_;refine AO.rr ?_;refine AO.eq 29 (av' := .rd 2 ((layL h).map pairA)) rfl ?_;iterate 2 refine AO.c ?_
 refine nb ?_
 refine AW.loopU4 [.f, .f, .f, .k, .F, .F, .F, .f, .k, .k, .k, .F, .f, .f, .f, .f] (fun (i ep : Nat) (out : List Int) (j : Nat) => [(3, .own (n0 + 1) ep 0 out.length), (31, .v (.int .i64 (i)))]) (fun i ep out j => Hn n0 (([some (.box 149 (hdA h)), some (.row 5 1 ep (bys out))] ++ List.replicate j none) ++ [])) (fun m i ep out j => i ≤ 13 ∧ m = 13 - i ∧ out.length ≤ 16 + 8 * i ∧ out = identL ++ digsP ((layL h).take i)) (13) (0) (0) (identL) (0) ⟨by omega, by omega, by decide, by simp [digsP]⟩ (by first | rfl | (simp; done)) (by first | rfl | (simp; done)) ?_
 rintro m0 i ep out j ⟨hx1, hx2, hx3, hx4⟩
 refine n2 ?_;refine AO.c ?_;refine n1 <|AW.seq' ?_;refine AW.iteB (GL.ev _) (fun h0 => ?_) (fun h0 => ?_)
 ·
  rw [decide_eq_true_eq] at h0;have hi : i < 13 := by omega
  have hla := layL_at hm hi;have hpl := put8_len ((layL h).getD i default).1 ((layL h).getD i default).2;refine nc ?_;refine AO.oo ?_;refine AO.c ?_;refine AO.ww ?_;refine AO.sst ?_;refine n1 <|AW.region ?_;iterate 5 refine AO.c ?_
  refine AO.call1 Tryz.func88 rfl rfl ((le_PutR ((layL h).getD i default).1 ((layL h).getD i default).2 ⟨hla.2.1, hla.2.2.1⟩ hla.2.2.2).a0 (by rw [bys_length]; exact Nat.le_trans (put8_len _ _) (by decide))) ?_;refine AO.ww ?_;refine AO.c ?_;refine n7 ?_;refine AO.oo ?_;refine AO.c ?_;refine AO.nil ?_
  exact AW.backD [.f, .f, .f, .k, .F, .F, .F, .f, .k, .k, .k, .F, .f, .f, .f, .f] ([some (.box 149 (hdA h)), some (.row 5 1 (ep + 1) (bys (out ++ (if Wide ((layL h).getD i default).2 then dig ((layL h).getD i default).1 ((layL h).getD i default).2.toNat else []))))]) (j) (m0 - 1) (i + 1, ep + 1, out ++ (if Wide ((layL h).getD i default).2 then dig ((layL h).getD i default).1 ((layL h).getD i default).2.toNat else []), j + 1) (by omega) (by (try dsimp only); exact ⟨by omega, by omega, by rw [List.length_append]; omega, by rw [if_pos hla.1, digsP_step (by rw [hl13]; exact hi), hx4, List.append_assoc]⟩) (by (try dsimp only); rw [List.length_append] <;> rfl) (by first | rfl | (simp; done))
 ·
  rw [decide_eq_false_iff_not] at h0;refine AW.exit <|SQ.exit <|AW.out <|LU.exit <|BQ.exit <|SQ.normal <|n2 ?_;iterate 2 refine AO.c ?_
  refine na ?_;have hfin : out = h.bytes := by
   have : i = 13 := by omega
   rw [hx4, this, List.take_of_length_le (by rw [hl13]; omega), lay_all]
  refine FinO.ret 2 (Gh.refl) rfl ?_ ?_ (.inr rfl)
  · rw [hfin]
  · rw [hfin, bys_length]
theorem hdB_len (h : HdD) : h.bytes.length = 64 := hd_length _ _ _
theorem hdI_len (h : HdD) : (if h.may then h.bytes else []).length ≤ 64 := by
 split
 · rw [hdB_len]; omega
 · simp
theorem nums_digs : ∀ l : List (Int × Int), (∀ p ∈ l, Wide p.2 ∧ 0 ≤ p.1 ∧ p.1 ≤ 2147483647) → numsF (l.flatMap fun p => [p.1, p.2]) = digsP l := by
 intro l
 induction l with
 | nil => intro _; rfl
 | cons p r ih =>
  intro h;have hp := h p List.mem_cons_self;show (if Wide p.2 then dig (IntKind.u64.wrap p.1) p.2.toNat else []) ++ numsF (r.flatMap fun p => [p.1, p.2]) = _
  rw [if_pos hp.1, wu64n hp.2.1 hp.2.2, ih fun q hq => h q (List.mem_cons_of_mem _ hq)];rfl
theorem layL_mem {h : HdD} (hm : h.may) : ∀ p ∈ layL h, Wide p.2 ∧ 0 ≤ p.1 ∧ p.1 ≤ 2147483647 := by
 unfold HdD.may MayHd at hm;intro p hp;simp only [layL, List.mem_cons, List.not_mem_nil, or_false] at hp;rcases hp with rfl | rfl | rfl | rfl | rfl | rfl | rfl | rfl | rfl | rfl | rfl | rfl | rfl <;> refine ⟨?_, ?_, ?_⟩ <;> simp only <;> first | decide | omega
@[reducible] def numL (h : HdD) : List Int := [1, 2, 62, 2, 1, 4, 0, 8, 0, 8, h.at_, 8, 0, 4, 64, 2, 0, 2, 0, 2, 64, 2, h.many, 2, h.names, 2]
theorem nums_hd {h : HdD} (hm : h.may) : identL ++ numsF (numL h) = h.bytes := by
 rw [show numL h = (layL h).flatMap fun p => [p.1, p.2] from rfl, nums_digs _ (layL_mem hm), lay_all]
theorem numL_64 {h : HdD} (hh : h.ok) : ∀ x ∈ numL h, I64 x := by
 obtain ⟨q1, q2, q3⟩ := hh;intro x hx;simp only [numL, List.mem_cons, List.not_mem_nil, or_false] at hx;rcases hx with rfl | rfl | rfl | rfl | rfl | rfl | rfl | rfl | rfl | rfl | rfl | rfl | rfl | rfl | rfl | rfl | rfl | rfl | rfl | rfl | rfl | rfl | rfl | rfl | rfl | rfl <;> first | assumption | decide
theorem ehdr_Put (h : HdD) : A1 Tryz.prog 63 [.agg (hdA h)] 5 1 (bys (if h.may then h.bytes else [])) := by
 refine A1.body 8 (NIr.h) Tryz.func63 rfl rfl Tryz.ntmps63 fun base n0 => ?_
 refine go ?_;refine AO.call1 Tryz.func90 rfl rfl (ehdr_may _) ?_;refine go ?_;refine AW.iteB (GL.ev _) (fun h0 => ?_) (fun h0 => ?_)
 ·
  rw [mayHB_eq, Bool.not_eq_true', decide_eq_false_iff_not] at h0;refine go ?_;refine AW.ret <|SQ.ret ?_;refine FinO.ret 2 (Gh.adoptB 2 5) rfl ?_ ?_ (.inr rfl)
  · rw [if_neg h0]
  · rw [if_neg h0]; rfl
 ·
  rw [mayHB_eq, Bool.not_eq_false', decide_eq_true_eq] at h0;refine go ?_;refine AO.callR Tryz.func91 rfl rfl (ehdr_lay h h0) (by rw [bys_length, hdB_len]) ?_;refine go ?_;refine AW.ret ?_;refine FinO.ret 2 (Gh.refl) rfl ?_ ?_ (.inr rfl)
  · rw [if_pos h0]
  · rw [if_pos h0, bys_length, hdB_len]
structure ShD where
 (a0 a1 a2 a3 a4 a5 a6 a7 a8 a9 : Int)
 deriving Inhabited, DecidableEq
@[reducible] def shA (h : ShD) : List AV := [.v (.int .i64 h.a0), .v (.int .i64 h.a1), .v (.int .i64 h.a2), .v (.int .i64 h.a3), .v (.int .i64 h.a4), .v (.int .i64 h.a5), .v (.int .i64 h.a6), .v (.int .i64 h.a7), .v (.int .i64 h.a8), .v (.int .i64 h.a9)]
def ShD.list (h : ShD) : List Int := [h.a0, h.a1, h.a2, h.a3, h.a4, h.a5, h.a6, h.a7, h.a8, h.a9]
def ShD.ok (h : ShD) : Prop := ∀ x ∈ h.list, I64 x
def ShD.may (h : ShD) : Prop := ∀ x ∈ h.list, 0 ≤ x ∧ x ≤ 2147483647
instance shMayDec (h : ShD) : Decidable h.may := by unfold ShD.may; infer_instance
def shw (t : Int) : Int := if t < 2 ∨ t = 6 ∨ t = 7 then 4 else 8
def offL : List Int := [0, 4, 8, 16, 24, 32, 40, 44, 48, 56, 64]
def ShW : List Nat := [4, 4, 8, 8, 8, 8, 4, 4, 8, 8]
def ShD.bytes (h : ShD) : List Int := joinW ShW h.list
theorem ten {i : Nat} (h : i < 10) : i = 0 ∨ i = 1 ∨ i = 2 ∨ i = 3 ∨ i = 4 ∨ i = 5 ∨ i = 6 ∨ i = 7 ∨ i = 8 ∨ i = 9 := by omega
theorem off_step {i : Nat} (h : i < 10) : offL.getD (i + 1) 0 = offL.getD i 0 + shw i ∧ 0 ≤ offL.getD i 0 ∧ offL.getD i 0 + shw i ≤ 64 ∧ Wide (shw i) := by
 rcases ten h with rfl | rfl | rfl | rfl | rfl | rfl | rfl | rfl | rfl | rfl <;> decide
theorem list_len (h : ShD) : h.list.length = 10 := rfl
theorem may_at {h : ShD} (hm : h.may) {i : Nat} (hi : i < 10) : 0 ≤ h.list.getD i 0 ∧ h.list.getD i 0 ≤ 2147483647 := by
 have : h.list.getD i 0 = h.list[i]'(by rw [list_len]; exact hi) := by rw [List.getD_eq_getElem?_getD, List.getElem?_eq_getElem (by rw [list_len]; exact hi)]; rfl
 rw [this]; exact hm _ (List.getElem_mem _)
theorem may_of {h : ShD} (hm : ∀ i, i < 10 → 0 ≤ h.list.getD i 0 ∧ h.list.getD i 0 ≤ 2147483647) : h.may := by
 intro x hx;obtain ⟨i, hi, rfl⟩ := List.getElem_of_mem hx;have := hm i (by rw [list_len] at hi; exact hi);rw [List.getD_eq_getElem?_getD, List.getElem?_eq_getElem hi] at this;exact this
theorem shdr_width (t : Int) : A0 Tryz.prog 89 [.v (.int .i64 (t))] (fun ret => ret = .v (.int .i64 (shw t))) := by
 refine A0.body 13 Tryz.func89 rfl rfl Tryz.ntmps89 fun base n0 => ?_
 refine go ?_;refine AW.iteB (GL.ev _) (fun h0 => ?_) (fun h0 => ?_)
 ·
  try simp only [Bool.and_eq_true, Bool.or_eq_true, Bool.not_eq_true', Bool.and_eq_false_iff, Bool.or_eq_false_iff, decide_eq_true_eq, decide_eq_false_iff_not, bys_length] at h0
  refine go ?_;refine AW.ret <|SQ.ret ?_;refine Fin.ret (Gh.refl) noid1 ?_;show AV.v _ = AV.v _
  congr 2
  unfold shw;rw [if_pos (by omega)]
 ·
  try simp only [Bool.and_eq_true, Bool.or_eq_true, Bool.not_eq_true', Bool.and_eq_false_iff, Bool.or_eq_false_iff, decide_eq_true_eq, decide_eq_false_iff_not, bys_length] at h0
  refine go ?_;refine AW.ret ?_;refine Fin.ret (Gh.refl) noid1 ?_;show AV.v _ = AV.v _
  congr 2
  unfold shw;rw [if_neg (by omega)]
theorem shdr_fields (n k : Nat) (L : List (Option AB)) (cs : List AV) [gb : GB L k (.box 143 cs)] : AC Tryz.prog 87 (Hn n L) [.box (n + k) 0] (fun r H' => r = .rd 1 ((List.range 10).map fun i => [AV.box (n + k) i]) ∧ H' = Hn n L) := by
 refine AC.body 34 Tryz.func87 rfl rfl Tryz.ntmps87 fun base => ?_
 refine go ?_
 refine AW.drawsZ [] (.one 0 false (.one 1 false (.one 2 false (.one 3 false (.one 4 false (.one 5 false (.one 6 false (.one 7 false (.one 8 false (.one 9 false (.one 10 false (.one 11 false (.one 12 false (.one 13 false (.one 14 false (.one 15 false (.one 16 false (.one 17 false (.one 18 false (.one 19 false (.one 20 false (.one 21 false (.one 22 false (.one 23 false (.one 24 false (.one 25 false (.one 26 false (.one 27 false (.one 28 false (.one 29 false (.one 30 true (.one 31 false .nil)))))))))))))))))))))))))))))))) (by kernel_rfl) rfl (by kernel_rfl) ?_
 refine gz ?_;refine AZ.rr rfl ?_;refine AZ.c rfl ?_;refine AZ.done ?_;refine SQ.normal <|AW.ret ?_;exact FinC.ret Gh.refl ⟨rfl, rfl⟩ (.inr rfl)
theorem bytes_len (h : ShD) : h.bytes.length = 64 := joinW_length _ _ rfl
theorem joinW_snoc : ∀ (ws : List Nat) (vs : List Int) (i : Nat), i < ws.length → ws.length = vs.length → joinW (ws.take (i + 1)) (vs.take (i + 1)) = joinW (ws.take i) (vs.take i) ++ dig (vs.getD i 0) (ws.getD i 0) := by
 intro ws
 induction ws with
 | nil => intro vs i h; simp at h
 | cons w ws ih =>
  intro vs i h hl
  cases vs with
  | nil => simp at hl
  | cons v vs =>
   cases i with
   | zero => simp [joinW]
   | succ i =>
    have := ih vs i (by simpa using h) (by simpa using hl);simp only [List.take_succ_cons, joinW, List.getD_cons_succ, this, List.append_assoc]
theorem shw_nat {i : Nat} (h : i < 10) : (shw i).toNat = ShW.getD i 0 := by
 rcases ten h with rfl | rfl | rfl | rfl | rfl | rfl | rfl | rfl | rfl | rfl <;> decide
set_option maxHeartbeats 4000000 in
theorem shdr_Put (h : ShD) (hh : h.ok) : A0 Tryz.prog 62 [.agg (shA h)] (fun ret => ret = .rd 1 (bys (if h.may then h.bytes else []))) := by
 have hl10 : (List.range 10).length = 10 := rfl;refine A0.body 34 Tryz.func62 rfl rfl Tryz.ntmps62 fun base n0 => ?_
 refine go ?_;refine AO.callC Tryz.func87 rfl rfl (shdr_fields n0 0 _ _) ?_;iterate 2 refine AO.c ?_
 refine nb ?_;refine AW.ghost (Gh.adoptB 3 5) ?_;refine AW.eqH (H' := Hn n0 [some (.box 143 (h.list.map iV)), some (.row 5 1 0 (bys []))]) rfl ?_
 refine AW.loopU3 [.f, .f, .f, .k, .f, .f, .k, .k, .k, .F, .F, .F, .f] (fun (i ep : Nat) (out : List Int) => [(3, .own (n0 + 1) ep 0 out.length), (8, .v (.int .i64 (i)))]) (fun i ep out => Hn n0 [some (.box 143 (h.list.map iV)), some (.row 5 1 ep (bys out))]) (fun m i ep out => i ≤ 10 ∧ m = 10 - i ∧ (∀ k, k < i → 0 ≤ h.list.getD k 0 ∧ h.list.getD k 0 ≤ 2147483647) ∧ out.length ≤ 8 * i ∧ out = joinW (ShW.take i) (h.list.take i)) (10) (0) (0) ([]) ⟨by omega, by omega, fun k hk => by omega, by simp, rfl⟩ cr cr ?_
 rintro m0 i ep out ⟨hx1, hx2, hx3, hx4, hx5⟩
 refine go ?_;refine AW.iteB (GL.ev _) (fun h0 => ?_) (fun h0 => ?_)
 ·
  rw [decide_eq_true_eq] at h0;have hi : i < 10 := by omega
  obtain ⟨o1, o2, o3, o4⟩ := off_step hi;have hil : i < h.list.length := hi;have hok : I64 (h.list.getD i 0) := by
   have : h.list.getD i 0 = h.list[i] := by rw [List.getD_eq_getElem?_getD, List.getElem?_eq_getElem hil]; rfl
   rw [this]; exact hh _ (List.getElem_mem _)
  have hpl := put8_len (h.list.getD i 0) (shw i);have o5 : 0 ≤ shw (i : Int) := by unfold shw; split <;> omega
  refine gs ?_;refine AO.c ?_;refine AO.oo ?_;refine AO.c ?_;refine AO.eq 12 (av' := .box (n0 + 0) i) (by simp [List.getD_eq_getElem?_getD, hi]) ?_;refine go ?_;refine AW.iteB (GL.ev _) (fun h1 => ?_) (fun h1 => ?_)
  ·
   simp only [Bool.or_eq_true, decide_eq_true_eq] at h1;have hno : ¬ h.may := fun hm => by have := may_at hm hi; omega
   refine go ?_;refine AW.ret <|SQ.ret <|BQ.ret <|SQ.ret <|AW.out <|LU.ret <|BQ.ret <|SQ.ret ?_;refine Fin.ret (Gh.nilB 2) noid1 ?_;rw [if_neg hno]; rfl
  ·
   simp only [Bool.or_eq_false_iff, decide_eq_false_iff_not] at h1;refine go ?_;refine AW.drawsZ [8] (.one 0 false (.one 1 false (.one 2 false (.one 3 false (.one 4 false (.one 5 false (.one 6 true (.one 7 true (.one 8 true (.one 9 false .nil)))))))))) (by kernel_rfl) rfl (by kernel_rfl) ?_;refine gz ?_;refine AZ.call1 rfl Tryz.func89 rfl rfl (shdr_width _) ?_
   refine AZ.call1 rfl Tryz.func88 rfl rfl ((le_PutR (h.list.getD i 0) (shw i) (by omega) (by omega)).a0 (by rw [bys_length]; exact Nat.le_trans (put8_len _ _) (by decide))) ?_;refine AZ.ww rfl rfl ?_;refine AZ.c rfl ?_;refine AZ.done ?_;refine BQ.normal ?_;refine go ?_
   exact AW.backU [.f, .f, .f, .k, .f, .f, .k, .k, .k, .F, .F, .F, .f] (m0 - 1) (i + 1, ep + 1, out ++ (if Wide (shw i) then dig (h.list.getD i 0) (shw i).toNat else [])) (by omega) (by (try dsimp only); exact ⟨by omega, by omega, fun k hk => by rcases Nat.lt_succ_iff_lt_or_eq.1 hk with q | rfl; exact hx3 k q; omega, by rw [List.length_append]; omega, by rw [if_pos o4, joinW_snoc ShW h.list i hi rfl, shw_nat hi, ← hx5]⟩) (by (try dsimp only); rw [List.length_append] <;> rfl) (rfl)
 ·
  rw [decide_eq_false_iff_not] at h0;have hi : i = 10 := by omega
  subst hi;have hyes : h.may := may_of hx3;refine AW.exit <|SQ.exit <|AW.out <|LU.exit <|BQ.exit ?_;refine go ?_;refine AW.ret ?_;refine Fin.ret (Gh.freezeE 2 (li' := h.bytes) hx5 (by rw [← show out = h.bytes from hx5]) (by rw [bytes_len]; decide)) noid1 ?_;rw [if_pos hyes]; rfl
@[reducible] def numLS (h : ShD) : List Int := [h.a0, 4, h.a1, 4, h.a2, 8, h.a3, 8, h.a4, 8, h.a5, 8, h.a6, 4, h.a7, 4, h.a8, 8, h.a9, 8]
theorem nums_sh {h : ShD} (hm : h.may) : numsF (numLS h) = h.bytes := by
 have hm' : ∀ x, x ∈ h.list → IntKind.u64.wrap x = x := fun x hx => wu64n (hm x hx).1 (hm x hx).2
 simp only [numLS, numsF];rw [if_pos (by decide), if_pos (by decide), if_pos (by decide), if_pos (by decide), if_pos (by decide), if_pos (by decide), if_pos (by decide), if_pos (by decide), if_pos (by decide), if_pos (by decide)]
 rw [hm' h.a0 (by simp [ShD.list]), hm' h.a1 (by simp [ShD.list]), hm' h.a2 (by simp [ShD.list]), hm' h.a3 (by simp [ShD.list]), hm' h.a4 (by simp [ShD.list]), hm' h.a5 (by simp [ShD.list]), hm' h.a6 (by simp [ShD.list]), hm' h.a7 (by simp [ShD.list]), hm' h.a8 (by simp [ShD.list]), hm' h.a9 (by simp [ShD.list])];rfl
theorem numLS_64 {h : ShD} (hh : h.ok) : ∀ x ∈ numLS h, I64 x := by
 have q : ∀ x, x ∈ h.list → I64 x := hh;intro x hx;simp only [numLS, List.mem_cons, List.not_mem_nil, or_false] at hx;rcases hx with rfl | rfl | rfl | rfl | rfl | rfl | rfl | rfl | rfl | rfl | rfl | rfl | rfl | rfl | rfl | rfl | rfl | rfl | rfl | rfl <;> first | decide | exact q _ (by simp [ShD.list])
theorem ref_MayHead (h : ShD) (hh : h.ok) : A0 Tryz.prog 102 [.agg (shA h)] (fun ret => ret = .v (.bool (decide h.may))) := by
 have hll : h.list.length = 10 := rfl;have hdef : ∀ i, h.list.getD i default = h.list.getD i 0 := fun i => rfl
 refine A0.body 40 Tryz.func102 rfl rfl Tryz.ntmps102 fun base n0 => ?_
 refine n2 ?_;refine AO.ww ?_;refine gr ?_;refine AO.rr ?_;refine AO.eq 26 (av' := .rd 1 (h.list.map iA)) rfl ?_;refine go ?_
 refine AW.loopU [.f, .f, .f, .k, .k, .F, .F, .F, .F, .f, .f, .f] (fun (i : Nat) => [(4, .v (.int .i64 (i)))]) (fun i => Hn n0 [some (.box 154 (shA h))]) (fun m i => i ≤ 10 ∧ m = 10 - i ∧ ∀ k, k < i → 0 ≤ h.list.getD k 0 ∧ h.list.getD k 0 ≤ 2147483647) (10) (0) ⟨by omega, by omega, fun k hk => by omega⟩ cr cr ?_;rintro m0 i ⟨hx1, hx2, hx3⟩
 refine go ?_;refine AW.iteB (GL.ev _) (fun h0 => ?_) (fun h0 => ?_)
 ·
  rw [decide_eq_true_eq] at h0;have hi : i < 10 := by omega
  have hok : I64 (h.list.getD i default) := by
   have hil : i < h.list.length := hi;have : h.list.getD i default = h.list[i] := by rw [List.getD_eq_getElem?_getD, List.getElem?_eq_getElem hil]; rfl
   rw [this]; exact hh _ (List.getElem_mem _)
  refine go ?_;refine AO.call1 Tryz.func104 rfl rfl (ref_fits (h.list.getD i default) hok) ?_;refine go ?_;refine AW.iteB (GL.ev _) (fun h1 => ?_) (fun h1 => ?_)
  ·
   rw [hdef] at h1;unfold fitsB at h1;have hno : ¬ h.may := fun hm => by
    have := may_at hm hi;simp only [Bool.not_eq_true', Bool.and_eq_false_iff, decide_eq_false_iff_not] at h1;omega
   refine go ?_;refine AW.ret <|BQ.ret <|SQ.ret <|AW.out <|LU.ret <|BQ.ret <|SQ.ret ?_;refine Fin.ret (Gh.refl) noid1 ?_;rw [decide_eq_false hno]; rfl
  ·
   rw [hdef] at h1;unfold fitsB at h1;simp only [Bool.not_eq_false', Bool.and_eq_true, decide_eq_true_eq] at h1;refine AW.skip <|BQ.normal ?_;refine go ?_;exact AW.backU [.f, .f, .f, .k, .k, .F, .F, .F, .F, .f, .f, .f] (m0 - 1) (i + 1) (by omega) (by (try dsimp only); exact ⟨by omega, by omega, fun k hk => by rcases Nat.lt_succ_iff_lt_or_eq.1 hk with q | rfl; exact hx3 k q; exact h1⟩) cr cr
 ·
  rw [decide_eq_false_iff_not] at h0;have hyes : h.may := may_of fun k hk => hx3 k (by omega)
  refine AW.exit <|SQ.exit <|AW.out <|LU.exit <|BQ.exit ?_;refine go ?_;refine AW.ret ?_;refine Fin.ret (Gh.refl) noid1 ?_;rw [decide_eq_true hyes]; rfl
theorem ref_HeadBytes (h : ShD) (hh : h.ok) : A0 Tryz.prog 73 [.agg (shA h)] (fun ret => ret = .rd 1 (bys (if h.may then h.bytes else []))) := by
 refine A0.body 30 Tryz.func73 rfl rfl Tryz.ntmps73 fun base n0 => ?_
 refine go ?_;refine AO.call1 Tryz.func102 rfl rfl (ref_MayHead _ (by assumption)) ?_;refine go ?_;refine AW.iteB (GL.ev _) (fun h0 => ?_) (fun h0 => ?_)
 ·
  rw [Bool.not_eq_true', decide_eq_false_iff_not] at h0;refine go ?_;refine AW.ret <|SQ.ret ?_;refine Fin.ret (Gh.nilB 2) noid1 ?_;rw [if_neg h0]; rfl
 ·
  rw [Bool.not_eq_false', decide_eq_true_eq] at h0;have hnu := nums_sh h0;have h64 := numLS_64 hh;refine gr ?_;refine AO.rr ?_;refine AO.eq 28 (av' := .rd 1 ((numLS h).map iA)) rfl ?_;refine AO.call1 Tryz.func103 rfl rfl (ref_Nums _ (by simp) h64) ?_;refine go ?_;refine AW.ret ?_;refine Fin.ret (Gh.refl) noid1 ?_;rw [if_pos h0, ← hnu]; rfl
def encB (n : Int) : List Int := if 0 ≤ n ∧ n ≤ 2147483647 then enc 5 n else []
theorem encB_len (n : Int) : (encB n).length ≤ 5 := by unfold encB; split; exact enc_length 5 n; simp
theorem uleb_Put (n : Int) (hn : I64 n) : A0 Tryz.prog 110 [.v (.int .i64 (n))] (fun ret => ret = .rd 1 (bys (encB n))) := by
 unfold I64 at hn;refine A0.body 26 Tryz.func110 rfl rfl Tryz.ntmps110 fun base n0 => ?_
 refine go ?_;refine AW.iteB (GL.ev _) (fun h0 => ?_) (fun h0 => ?_)
 ·
  simp only [Bool.or_eq_true, decide_eq_true_eq] at h0;have hno : encB n = [] := by unfold encB; rw [if_neg (by omega)]
  refine go ?_;refine AW.ret <|SQ.ret ?_;refine Fin.ret (Gh.nilB 2) noid1 ?_;rw [hno]; rfl
 ·
  simp only [Bool.or_eq_false_iff, decide_eq_false_iff_not] at h0;have hyes : encB n = enc 5 n := by unfold encB; rw [if_pos (by omega)]
  refine gs ?_;refine AO.c ?_;refine n1 <|AW.seq' <|AW.block' ?_;refine AW.ghost (Gh.adoptB 3 5) ?_
  refine AW.loopU3 [.k, .f, .f, .k, .F, .F, .f, .f, .f, .f, .f, .f] (fun (ep : Nat) (x : Int) (out : List Int) => [(0, .v (.int .i64 (x))), (3, .own (n0 + 0) ep 0 out.length)]) (fun ep x out => Hn n0 [some (.row 5 1 ep (bys out))]) (fun m ep x out => enc 5 n = out ++ enc m x ∧ 0 ≤ x ∧ x < 128 ^ m ∧ (1 ≤ m ∧ out.length + m = 5)) (5) (0) (n) ([]) ⟨rfl, by omega, by omega, by simp⟩ cr cr ?_
  rintro m0 ep x out ⟨hx1, hx2, hx3, hx4⟩
  have hxb : x < 128 ^ 5 := Int.lt_of_lt_of_le hx3 (pow128_le (by omega));refine go ?_;refine AW.iteB (GL.ev _) (fun h1 => ?_) (fun h1 => ?_)
  ·
   rw [decide_eq_true_eq] at h1;have hm2 : 2 ≤ m0 := by
    rcases Nat.lt_or_ge m0 2 with h | h
    · have : m0 = 1 := by omega
      subst this; omega
    · exact h
   have hst : enc m0 x = (x % 128 + 128) :: enc (m0 - 1) (x / 128) := by
    obtain ⟨k, rfl⟩ : ∃ k, m0 = k + 1 := ⟨m0 - 1, by omega⟩;show (if x < 128 then [x] else _) = _
    rw [if_neg (by omega)]; rfl
   have hpp : x / 128 < 128 ^ (m0 - 1) := by
    obtain ⟨k, rfl⟩ : ∃ k, m0 = k + 1 := ⟨m0 - 1, by omega⟩;have := hx3; rw [Int.pow_succ] at this;show x / 128 < 128 ^ k
    omega
   refine gr ?_;refine AO.rr ?_;refine go ?_;refine BQ.normal ?_;refine go ?_;exact AW.backU [.k, .f, .f, .k, .F, .F, .f, .f, .f, .f, .f, .f] (m0 - 1) (ep + 1, x / 128, out ++ [x % 128 + 128]) (by omega) (by (try dsimp only); exact ⟨by rw [hx1, hst]; simp, by omega, hpp, by simp; omega⟩) cr cr
  ·
   rw [decide_eq_false_iff_not] at h1;have hst : enc m0 x = [x] := by
    obtain ⟨k, rfl⟩ : ∃ k, m0 = k + 1 := ⟨m0 - 1, by omega⟩;show (if x < 128 then [x] else _) = _
    rw [if_pos (by omega)]
   have hfin : out ++ [x] = encB n := by rw [hyes, hx1, hst]
   refine AW.exit <|SQ.exit <|AW.out <|LU.exit <|BQ.exit ?_;refine gr ?_;refine AO.rr ?_;refine go ?_;refine AW.ret ?_;refine Fin.ret (Gh.freezeE 2 hfin (by rw [← hfin]; simp) (by rw [← hfin]; simp; omega)) noid1 ?_;rfl
theorem ba_ext {a b : ByteArray} (h : a.data.toList = b.data.toList) : a = b := by
 cases a; cases b; simp at h; simp [h]
theorem ba_eq {a b : ByteArray} : a.toList = b.toList ↔ a = b := ⟨fun h => ba_ext (by rwa [ByteArray.toList_eq, ByteArray.toList_eq] at h), fun h => by rw [h]⟩
@[reducible] def noS : ByteArray := ⟨#[]⟩
abbrev TabS := List Int × List Int × List (ByteArray × Int)
def tabStep (st : TabS) (s : ByteArray) : TabS :=
 if s = noS then (st.1, st.2.1 ++ [0], st.2.2)
 else match aget st.2.2 s with
  | some a => (st.1, st.2.1 ++ [a], st.2.2)
  | none => (st.1 ++ strB s ++ [0], st.2.1 ++ [(st.1.length : Int)], aput st.2.2 s (st.1.length : Int))
def tabOf (l : List ByteArray) : TabS := l.foldl tabStep ([0], [], [])
theorem tabOf_succ {l : List ByteArray} {i : Nat} (h : i < l.length) : tabOf (l.take (i + 1)) = tabStep (tabOf (l.take i)) (l.getD i default) := by
 unfold tabOf;rw [List.take_succ_eq_append_getElem h, List.foldl_append];simp [h]
structure TabInv (l : List ByteArray) (st : TabS) : Prop where
 pl : st.2.1.length = l.length
 nil : ∀ k, k < l.length → l.getD k default = noS → st.2.1.getD k 0 = 0
 get : ∀ k, k < l.length → l.getD k default ≠ noS → aget st.2.2 (l.getD k default) = some (st.2.1.getD k 0)
 old : ∀ s a, aget st.2.2 s = some a → 0 ≤ a ∧ s ≠ noS ∧ ∃ k, k < l.length ∧ l.getD k default = s
 at_ : ∀ k, k < l.length → 0 ≤ st.2.1.getD k 0 ∧ ∃ r, st.1.drop (st.2.1.getD k 0).toNat = strB (l.getD k default) ++ 0 :: r
 t0 : ∃ r, st.1 = 0 :: r
theorem tab_start : TabInv [] ([0], [], []) := ⟨rfl, fun k h => by simp at h, fun k h => by simp at h, fun s a h => by simp [aget] at h, fun k h => by simp at h, ⟨[], rfl⟩⟩
theorem getD_snoc_lt {α : Type} {l : List α} {x d : α} {k : Nat} (h : k < l.length) : (l ++ [x]).getD k d = l.getD k d := by
 simp [List.getElem?_append_left h]
theorem getD_snoc_eq {α : Type} {l : List α} {x d : α} : (l ++ [x]).getD l.length d = x := by simp
theorem drop_app_of {T r u : List Int} {p : Nat} {h : List Int} (hp : T.drop p = h ++ 0 :: r) : (T ++ u).drop p = h ++ 0 :: (r ++ u) := by
 have hlt : p ≤ T.length := by
  rcases Nat.lt_or_ge T.length p with h1 | h1
  · rw [List.drop_of_length_le (by omega)] at hp
    have := congrArg List.length hp;simp at this
  · exact h1
 rw [List.drop_append_of_le_length hlt, hp];simp
theorem tab_step {l : List ByteArray} {st : TabS} (h : TabInv l st) (s : ByteArray) : TabInv (l ++ [s]) (tabStep st s) := by
 obtain ⟨T, P, S⟩ := st;obtain ⟨h1, h2, h3, h4, h5, h6⟩ := h;simp only at h1 h2 h3 h4 h5 h6;have hl : (l ++ [s]).length = l.length + 1 := by simp
 have split : ∀ {k : Nat}, k < (l ++ [s]).length → k < l.length ∨ k = l.length := fun h => by omega
 unfold tabStep;by_cases hs : s = noS
 · rw [if_pos hs]
   refine ⟨by simp [h1], fun k hk he => ?_, fun k hk he => ?_, fun s' a ha => ?_, fun k hk => ?_, h6⟩
   · rcases split hk with hk | rfl
     · rw [getD_snoc_lt hk] at he
       show (P ++ [0]).getD k 0 = 0
       rw [getD_snoc_lt (by omega)]; exact h2 k hk he
     · show (P ++ [0]).getD l.length 0 = 0
       rw [← h1, getD_snoc_eq]
   · rcases split hk with hk | rfl
     · rw [getD_snoc_lt hk] at he ⊢
       show _ = some ((P ++ [0]).getD k 0)
       rw [getD_snoc_lt (by omega)]; exact h3 k hk he
     · rw [getD_snoc_eq] at he; exact absurd hs he
   · obtain ⟨g1, g2, k, g3, g4⟩ := h4 s' a ha
     exact ⟨g1, g2, k, by omega, by rw [getD_snoc_lt g3]; exact g4⟩
   · rcases split hk with hk | rfl
     · show 0 ≤ (P ++ [0]).getD k 0 ∧ ∃ r, T.drop ((P ++ [0]).getD k 0).toNat = _
       rw [getD_snoc_lt (by omega), getD_snoc_lt hk]; exact h5 k hk
     · show 0 ≤ (P ++ [0]).getD l.length 0 ∧ ∃ r, T.drop ((P ++ [0]).getD l.length 0).toNat = _
       rw [getD_snoc_eq, ← h1, getD_snoc_eq, hs];obtain ⟨r, rfl⟩ := h6;exact ⟨by decide, r, rfl⟩
 · rw [if_neg hs]
   cases hg : aget S s with
   | some a =>
    simp only;obtain ⟨g1, g2, k0, g3, g4⟩ := h4 s a hg;have g5 := h3 k0 g3 (by rw [g4]; exact hs);rw [g4, hg] at g5;obtain rfl := Option.some.inj g5;refine ⟨by simp [h1], fun k hk he => ?_, fun k hk he => ?_, fun s' a ha => ?_, fun k hk => ?_, h6⟩
    · rcases split hk with hk | rfl
      · rw [getD_snoc_lt hk] at he
        show (P ++ [_]).getD k 0 = 0
        rw [getD_snoc_lt (by omega)]; exact h2 k hk he
      · rw [getD_snoc_eq] at he; exact absurd he hs
    · rcases split hk with hk | rfl
      · rw [getD_snoc_lt hk] at he ⊢
        show _ = some ((P ++ [_]).getD k 0)
        rw [getD_snoc_lt (by omega)]; exact h3 k hk he
      · show _ = some ((P ++ [_]).getD l.length 0)
        rw [getD_snoc_eq, ← h1, getD_snoc_eq]; exact hg
    · obtain ⟨g1, g2, k, g3, g4⟩ := h4 s' a ha
      exact ⟨g1, g2, k, by omega, by rw [getD_snoc_lt g3]; exact g4⟩
    · rcases split hk with hk | rfl
      · dsimp only
        rw [getD_snoc_lt (by omega), getD_snoc_lt hk]; exact h5 k hk
      · dsimp only
        rw [getD_snoc_eq, ← h1, getD_snoc_eq];have := h5 k0 g3;rw [g4] at this; exact this
   | none =>
    simp only;refine ⟨by simp [h1], fun k hk he => ?_, fun k hk he => ?_, fun s' a ha => ?_, fun k hk => ?_, ?_⟩
    · rcases split hk with hk | rfl
      · rw [getD_snoc_lt hk] at he
        show (P ++ [_]).getD k 0 = 0
        rw [getD_snoc_lt (by omega)]; exact h2 k hk he
      · rw [getD_snoc_eq] at he; exact absurd he hs
    · rcases split hk with hk | rfl
      · rw [getD_snoc_lt hk] at he ⊢
        show aget (aput S s _) _ = some ((P ++ [_]).getD k 0)
        rw [getD_snoc_lt (by omega), aget_aput];have := h3 k hk he;rw [if_neg, this];intro e;rw [← e, hg] at this; cases this
      · show aget (aput S s _) _ = some ((P ++ [_]).getD l.length 0)
        rw [getD_snoc_eq, ← h1, getD_snoc_eq, aget_aput, if_pos rfl]
    · have ha : aget (aput S s (T.length : Int)) s' = some a := ha
      rw [aget_aput] at ha;by_cases e : s = s'
      · rw [if_pos e] at ha
        obtain rfl := Option.some.inj ha;subst e;exact ⟨by omega, hs, l.length, by omega, getD_snoc_eq⟩
      · rw [if_neg e] at ha
        obtain ⟨g1, g2, k, g3, g4⟩ := h4 s' a ha;exact ⟨g1, g2, k, by omega, by rw [getD_snoc_lt g3]; exact g4⟩
    · rcases split hk with hk | rfl
      · dsimp only
        rw [getD_snoc_lt (by omega), getD_snoc_lt hk];obtain ⟨g1, r, g2⟩ := h5 k hk;rw [List.append_assoc];exact ⟨g1, _, drop_app_of g2⟩
      · dsimp only
        rw [getD_snoc_eq, ← h1, getD_snoc_eq];refine ⟨by omega, [], ?_⟩;rw [Int.toNat_natCast, List.append_assoc, List.drop_left]
    · obtain ⟨r, rfl⟩ := h6
      exact ⟨r ++ strB s ++ [0], by simp⟩
theorem tab_invG : ∀ (l2 l1 : List ByteArray) (st : TabS), TabInv l1 st → TabInv (l1 ++ l2) (l2.foldl tabStep st) := by
 intro l2
 induction l2 with
 | nil => intro l1 st h; rwa [List.append_nil]
 | cons s l2 ih =>
  intro l1 st h;have := ih (l1 ++ [s]) (tabStep st s) (tab_step h s);rwa [List.append_assoc] at this
theorem tab_inv (l : List ByteArray) : TabInv l (tabOf l) := tab_invG l [] _ tab_start
theorem getD_lt {l : List Int} {j : Nat} {d : Int} (h : j < l.length) : l.getD j d = l[j] := by simp [h]
theorem strB_getD (s : ByteArray) (j : Nat) : (strB s).getD j 0 = ((s.data.toList.getD j 0).toNat : Int) := by
 unfold strB;rw [List.getD_eq_getElem?_getD, List.getD_eq_getElem?_getD, List.getElem?_map]
 cases s.data.toList[j]? <;> rfl
theorem firstB_none {l : List Int} (h : ∀ j, j < l.length → l.getD j 0 ≠ 0) : firstB l 0 = -1 := by
 unfold firstB;exact idxF_none fun j hj => by simpa using h j hj
def mayS (s : ByteArray) : Bool := decide (s.size ≤ 32 ∧ firstB (strB s) 0 < 0)
theorem mayS_of {s : ByteArray} (h : s.size ≤ 32) (h0 : ∀ j, j < s.size → (s.data.toList.getD j 0).toNat ≠ 0) : mayS s = true := by
 unfold mayS;rw [decide_eq_true_eq];refine ⟨h, ?_⟩;rw [firstB_none]
 · decide
 · intro j hj
   rw [strB_len] at hj;have := h0 j hj;rw [strB_getD]; omega
theorem mayS_no {s : ByteArray} {j : Nat} (hj : j < s.size) (h : (s.data.toList.getD j 0).toNat = 0) : mayS s = false := by
 unfold mayS;rw [decide_eq_false_iff_not];intro ⟨_, h2⟩;have e : (strB s).getD j 0 = 0 := by rw [strB_getD, h]; rfl
 unfold firstB idxF at h2
 cases hf : (strB s).findIdx? (fun x => x == 0) with
 | none =>
  rw [List.findIdx?_eq_none_iff] at hf;have hm : (strB s).getD j 0 ∈ strB s := by
   have h1 : j < (strB s).length := by rw [strB_len]; exact hj
   rw [getD_lt h1]; exact List.getElem_mem h1
  have := hf _ hm;rw [e] at this;cases this
 | some i =>
  rw [hf] at h2;have h2 : (i : Int) < 0 := h2;omega
theorem tab_len : ∀ (l2 : List ByteArray) (st : TabS) (c : Nat), (∀ s ∈ l2, s.size ≤ 1000000) → st.1.length ≤ c → (l2.foldl tabStep st).1.length ≤ c + 1000001 * l2.length := by
 intro l2
 induction l2 with
 | nil => intro st c _ h; simpa using h
 | cons s l2 ih =>
  intro st c h hc;have := ih (tabStep st s) (c + 1000001) (fun x hx => h x (by simp [hx])) (by
   have hs := h s (by simp);unfold tabStep
   split
   · dsimp only; omega
   · split
     · dsimp only; omega
     · simp only [List.length_append, strB_len, List.length_cons, List.length_nil]; omega)
  simp only [List.foldl_cons, List.length_cons];omega
theorem tabOf_len {l : List ByteArray} (h : ∀ s ∈ l, s.size ≤ 1000000) : (tabOf l).1.length ≤ 1 + 1000001 * l.length := tab_len l _ 1 h (by simp)
theorem tabOf_pl (l : List ByteArray) : (tabOf l).2.1.length = l.length := (tab_inv l).pl
theorem szI {l : List ByteArray} (h : ∀ s ∈ l, s.size ≤ 1000000) (i : Nat) : (l.getD i default).size ≤ 1000000 := by
 rcases Nat.lt_or_ge i l.length with hi | hi
 · exact h _ (getD_in hi)
 · rw [List.getD_eq_getElem?_getD, List.getElem?_eq_none hi]; decide
theorem takeI {l : List ByteArray} (h : ∀ s ∈ l, s.size ≤ 1000000) (i : Nat) : ∀ s ∈ l.take i, s.size ≤ 1000000 := fun s hs => h s (List.mem_of_mem_take hs)
theorem step_no {st : TabS} {s : ByteArray} (h : s = noS) : tabStep st s = (st.1, st.2.1 ++ [0], st.2.2) := by unfold tabStep; rw [if_pos h]
theorem step_old {st : TabS} {s : ByteArray} {a : Int} (h : s ≠ noS) (h1 : aget st.2.2 s = some a) : tabStep st s = (st.1, st.2.1 ++ [a], st.2.2) := by unfold tabStep; rw [if_neg h, h1]
theorem step_new {st : TabS} {s : ByteArray} (h : s ≠ noS) (h1 : aget st.2.2 s = none) : tabStep st s = (st.1 ++ strB s ++ [0], st.2.1 ++ [(st.1.length : Int)], aput st.2.2 s (st.1.length : Int)) := by unfold tabStep; rw [if_neg h, h1]
theorem take_getD {α : Type} {l : List α} {i k : Nat} {d : α} (h : k < i) : (l.take i).getD k d = l.getD k d := by
 rw [List.getD_eq_getElem?_getD, List.getD_eq_getElem?_getD, List.getElem?_take, if_pos h]
theorem slite_IndexByte (s : ByteArray) (c : Int) (hc : 0 ≤ c ∧ c < 256) : A0 Tryz.prog 119 [.v (.string s), .v (.int .u8 c)] (fun ret => ret = .v (.int .i64 (firstB (strB s) c))) := by
 refine A0.body 8 Tryz.func119 rfl rfl Tryz.ntmps119 fun base n0 => ?_
 refine gs ?_;refine AO.c ?_;refine gs ?_;iterate 2 refine AO.c ?_
 refine AO.indexStr Tryz.func122 rfl rfl (by kernel_rfl) (by kernel_rfl) hc ?_;refine go ?_;refine AW.ret ?_;refine Fin.ret (Gh.refl) noid1 ?_;rfl
theorem strings_IndexByte (s : ByteArray) (c : Int) (hc : 0 ≤ c ∧ c < 256) : A0 Tryz.prog 105 [.v (.string s), .v (.int .u8 c)] (fun ret => ret = .v (.int .i64 (firstB (strB s) c))) := by
 refine A0.body 8 Tryz.func105 rfl rfl Tryz.ntmps105 fun base n0 => ?_
 refine go ?_;refine AO.call1 Tryz.func119 rfl rfl (slite_IndexByte _ _ (by omega)) ?_;refine go ?_;refine AW.ret ?_;refine Fin.ret (Gh.refl) noid1 ?_;rfl
theorem strtab_May (s : ByteArray) : A0 Tryz.prog 75 [.v (.string s)] (fun ret => ret = .v (.bool (mayS s))) := by
 refine A0.body 11 Tryz.func75 rfl rfl Tryz.ntmps75 fun base n0 => ?_
 refine go ?_;refine AO.gxcall1 Tryz.func105 rfl rfl (fun hgd => strings_IndexByte _ _ (by omega)) ?_;refine go ?_;refine AW.ret ?_;refine Fin.ret (Gh.refl) noid1 ?_;show AV.v (.bool _) = AV.v (.bool _)
 congr 2
 unfold mayS;rw [Bool.eq_iff_iff];simp only [Bool.and_eq_true, decide_eq_true_eq];omega
set_option maxHeartbeats 1000000 in
theorem strtab_Make (l : List ByteArray) (hl : l.length ≤ 1000000) (hsz : ∀ s ∈ l, s.size ≤ 1000000) : A0 Tryz.prog 86 [.rd 1 (l.map sA)] (fun ret => ret = .tup [.rd 1 (bys (tabOf l).1), .rd 1 ((tabOf l).2.1.map iA)]) := by
 refine A0.body 49 Tryz.func86 rfl rfl Tryz.ntmps86 fun base n0 => ?_
 refine n2 ?_;iterate 2 refine AO.c ?_
 refine n3 ?_;refine AO.ww ?_;refine AO.c ?_;refine n3 ?_;refine AO.ww ?_;refine AO.c ?_;refine n3 ?_;refine AO.ww ?_;refine AO.c ?_;refine n4 ?_;iterate 3 refine AO.c ?_
 refine nb ?_
 refine AW.loopU3 [.f, .f, .f, .f, .k, .k, .k, .F, .k, .k, .k, .F, .F, .F, .f, .f, .f, .f, .f, .f, .f] (fun (i ep : Nat) (st : TabS) => [(4, .own (n0 + 0) ep 0 st.1.length), (5, .own (n0 + 1) i 0 st.2.1.length), (17, .v (.int .i64 (i)))]) (fun i ep st => Hn n0 [some (.row 5 1 (ep) (bys st.1)), some (.row 3 1 (i) (st.2.1.map iA)), some (.map (st.2.2.map (mE kS vI)))]) (fun m i ep st => i ≤ l.length ∧ m = l.length - i ∧ st = tabOf (l.take i)) (l.length) (0) (0) (([0], [], [])) ⟨by omega, rfl, by simp [tabOf]⟩ (by first | rfl | (simp; done)) (by first | rfl | (simp; done)) ?_
 rintro m0 i ep st ⟨hx1, hx2, hx3⟩
 have hlen : st.1.length ≤ 1 + 1000001 * i := by
  have := tabOf_len (takeI hsz i);rw [← hx3, List.length_take] at this;omega
 have hpl : st.2.1.length = i := by
  have := tabOf_pl (l.take i);rw [← hx3, List.length_take] at this;omega
 have hsi := szI hsz i;refine n2 ?_;refine AO.c ?_;refine n1 <|AW.seq' ?_;refine AW.iteB (GL.ev _) (fun h0 => ?_) (fun h0 => ?_)
 ·
  rw [decide_eq_true_eq] at h0;have hi : i < l.length := by omega
  refine nc ?_;refine AO.oo ?_;iterate 2 refine AO.c ?_
  refine n3 ?_;refine AO.c ?_;refine n4 ?_;iterate 2 refine AO.c ?_
  refine n1 ?_;refine AW.iteB (GL.ev _) (fun h1 => ?_) (fun h1 => ?_)
  ·
   rw [decide_eq_true_eq, Ne, ba_eq] at h1;have hne : l.getD i default ≠ noS := h1;refine n2 ?_;iterate 8 refine AO.c ?_
   refine n3 ?_;iterate 2 refine AO.c ?_
   refine n3 ?_;iterate 2 refine AO.c ?_
   refine n1 ?_;refine AW.iteB (GL.ev _) (fun h2 => ?_) (fun h2 => ?_)
   ·
    rw [Bool.not_eq_true', Option.isSome_eq_false_iff, Option.isNone_iff_eq_none] at h2;have hag := h2;refine n2 ?_;iterate 3 refine AO.c ?_
    refine n3 ?_;iterate 3 refine AO.c ?_
    refine AO.sst ?_;refine n1 <|AW.region ?_;iterate 2 refine AO.c ?_
    refine AO.w ⟨rfl, by omega⟩ ?_;refine AO.rr ?_;refine AO.w ⟨by rw [List.length_append, strB_len], by show _ + 1 ≤ _; omega⟩ ?_;refine AO.c ?_;refine n1 <|AW.region ?_;iterate 2 refine AO.c ?_
    refine AO.rr ?_;refine AO.ww ?_;refine AO.c ?_;refine n7 ?_;refine AO.oo ?_;refine AO.c ?_;refine AO.nil ?_
    exact AW.backU [.f, .f, .f, .f, .k, .k, .k, .F, .k, .k, .k, .F, .F, .F, .f, .f, .f, .f, .f, .f, .f] (m0 - 1) (i + 1, ep + 2, (st.1 ++ strB (l.getD i default) ++ [0], st.2.1 ++ [(st.1.length : Int)], aput st.2.2 (l.getD i default) (st.1.length : Int))) (by omega) (by (try dsimp only); exact ⟨by omega, by omega, by rw [tabOf_succ hi, ← hx3, step_new hne hag]⟩) (by simp [strB_len, Nat.add_assoc]) (by first | rfl | (simp; done))
   ·
    rw [Bool.not_eq_false'] at h2;obtain ⟨pa, hag⟩ := Option.isSome_iff_exists.1 h2;refine n5 <|AW.region ?_;iterate 2 refine AO.c ?_
    refine AO.rr ?_;refine AO.ww ?_;refine AO.c ?_;refine n7 ?_;refine AO.oo ?_;refine AO.c ?_;refine AO.nil ?_
    exact AW.backU [.f, .f, .f, .f, .k, .k, .k, .F, .k, .k, .k, .F, .F, .F, .f, .f, .f, .f, .f, .f, .f] (m0 - 1) (i + 1, ep, (st.1, st.2.1 ++ [(aget st.2.2 (l.getD i default)).getD 0], st.2.2)) (by omega) (by (try dsimp only); exact ⟨by omega, by omega, by rw [tabOf_succ hi, ← hx3, step_old hne hag, hag]; rfl⟩) (by simp) (by first | rfl | (simp; done))
  ·
   rw [decide_eq_false_iff_not, Ne, Decidable.not_not, ba_eq] at h1;have hne : l.getD i default = noS := h1;refine n5 <|AW.region ?_;iterate 2 refine AO.c ?_
   refine AO.rr ?_;refine AO.ww ?_;refine AO.c ?_;refine n7 ?_;refine AO.oo ?_;refine AO.c ?_;refine AO.nil ?_
   exact AW.backU [.f, .f, .f, .f, .k, .k, .k, .F, .k, .k, .k, .F, .F, .F, .f, .f, .f, .f, .f, .f, .f] (m0 - 1) (i + 1, ep, (st.1, st.2.1 ++ [0], st.2.2)) (by omega) (by (try dsimp only); exact ⟨by omega, by omega, by rw [tabOf_succ hi, ← hx3, step_no hne]⟩) (by simp) (by first | rfl | (simp; done))
 ·
  rw [decide_eq_false_iff_not] at h0;refine AW.exit <|SQ.exit <|AW.out <|LU.exit <|BQ.exit <|SQ.normal <|n2 ?_;iterate 4 refine AO.c ?_
  refine na ?_;have hfin : st = tabOf l := by rw [hx3, List.take_of_length_le (by omega)]
  refine Fin.ret ((Gh.freezeE 2 (li' := st.1) rfl rfl (by omega)).trans (Gh.freezeM 3 iA st.2.1 rfl rfl (by omega))) noid2 ?_;rw [← hfin]; rfl
set_option maxHeartbeats 1000000 in
theorem ref_Make (l : List ByteArray) (hl : l.length ≤ 1000000) (hsz : ∀ s ∈ l, s.size ≤ 1000000) : A0 Tryz.prog 72 [.rd 1 (l.map sA)] (fun ret => ret = .tup [.rd 1 (bys (tabOf l).1), .rd 1 ((tabOf l).2.1.map iA)]) := by
 refine A0.body 62 Tryz.func72 rfl rfl Tryz.ntmps72 fun base n0 => ?_
 refine n2 ?_;iterate 2 refine AO.c ?_
 refine n3 ?_;refine AO.ww ?_;refine AO.c ?_;refine n3 ?_;refine AO.c ?_;refine n4 ?_;refine AO.c ?_;refine nb ?_;refine AW.ghost (Gh.adoptM 5 3 1) ?_
 refine AW.loopU3 [.k, .f, .f, .f, .k, .k, .k, .F, .F, .F, .F, .F, .F, .f, .f, .f, .f, .f, .f, .f] (fun (i ep : Nat) (st : TabS) => [(4, .own (n0 + 0) ep 0 st.1.length), (5, .own (n0 + 1) i 0 st.2.1.length), (6, .v (.int .i64 (i)))]) (fun i ep st => Hn n0 [some (.row 5 1 ep (bys st.1)), some (.row 3 1 i (st.2.1.map iA))]) (fun m i ep st => i ≤ l.length ∧ m = l.length - i ∧ st = tabOf (l.take i)) (l.length) (0) (0) (([0], [], [])) ⟨by omega, rfl, by simp [tabOf]⟩ (by first | rfl | (simp; done)) (by first | rfl | (simp; done)) ?_
 rintro m0 i ep st ⟨hx1, hx2, hx3⟩
 have hlen : st.1.length ≤ 1 + 1000001 * i := by
  have := tabOf_len (takeI hsz i);rw [← hx3, List.length_take] at this;omega
 have hpl : st.2.1.length = i := by
  have := tabOf_pl (l.take i);rw [← hx3, List.length_take] at this;omega
 have hsi := szI hsz i;have hinv := tab_inv (l.take i);rw [← hx3] at hinv;have htl : ∀ hi : i ≤ l.length, (l.take i).length = i := fun hi => by rw [List.length_take]; omega
 refine n8 ?_;iterate 4 refine AO.c ?_
 refine n1 ?_;refine AW.iteB (GL.ev _) (fun h0 => ?_) (fun h0 => ?_)
 ·
  rw [decide_eq_true_eq] at h0;have hi : i < l.length := by omega
  refine nc ?_;refine AO.c ?_;refine n1 ?_
  refine AW.joinM [.k, .f, .f, .f, .k, .k, .k, .k, .F, .F, .F, .F, .F, .F, .f, .f, .f, .f, .f, .f] (fun (a0 : Int) => [(7, .v (.int .i64 (a0)))]) (fun (a0 : Int) => Hn n0 [some (.row 5 1 ep (bys st.1)), some (.row 3 1 i (st.2.1.map iA))]) (fun (a0 : Int) => (a0 = -1 ∧ l.getD i default ≠ noS ∧ ∀ j, j < 0 → l.getD j default ≠ l.getD i default) ∨ (0 ≤ a0 ∧ tabStep st (l.getD i default) = (st.1, st.2.1 ++ [a0], st.2.2))) ?_ (fun (a0 : Int) ha0 => ?_)
  ·
   refine n2 ?_;iterate 2 refine AO.c ?_
   refine AO.oo ?_;iterate 2 refine AO.c ?_
   refine n1 ?_;refine AW.iteB (GL.ev _) (fun h1 => ?_) (fun h1 => ?_)
   ·
    rw [decide_eq_true_eq, ba_eq] at h1;refine AW.region ?_;refine AO.c ?_;refine AO.nil ?_;exact AW.backJ [.k, .f, .f, .f, .k, .k, .k, .k, .F, .F, .F, .F, .F, .F, .f, .f, .f, .f, .f, .f] (0) (.inr ⟨by decide, step_no h1⟩) (by first | rfl | (simp; done)) (by first | rfl | (simp; done))
   ·
    rw [decide_eq_false_iff_not, ba_eq] at h1;refine AW.skip ?_;exact AW.backJ [.k, .f, .f, .f, .k, .k, .k, .k, .F, .F, .F, .F, .F, .F, .f, .f, .f, .f, .f, .f] (-1) (.inl ⟨rfl, h1, fun j h => by omega⟩) (by first | rfl | (simp; done)) (by first | rfl | (simp; done))
  refine n8 ?_;refine AO.c ?_;refine nb ?_
  refine AW.loopU2 [.k, .f, .f, .f, .k, .k, .k, .k, .k, .F, .F, .F, .F, .F, .F, .f, .f, .f, .f, .f] (fun (k : Nat) (at_ : Int) => [(7, .v (.int .i64 (at_))), (8, .v (.int .i64 (k)))]) (fun k at_ => Hn n0 [some (.row 5 1 ep (bys st.1)), some (.row 3 1 i (st.2.1.map iA))]) (fun m k at_ => k ≤ i ∧ m = i - k ∧ ((at_ = -1 ∧ l.getD i default ≠ noS ∧ ∀ j, j < k → l.getD j default ≠ l.getD i default) ∨ (0 ≤ at_ ∧ tabStep st (l.getD i default) = (st.1, st.2.1 ++ [at_], st.2.2)))) (i) (0) (a0) ⟨by omega, rfl, ha0⟩ (by first | rfl | (simp; done)) (by first | rfl | (simp; done)) ?_
  rintro m1 k at_ ⟨hy1, hy2, hy3⟩
  refine n8 ?_;iterate 4 refine AO.c ?_
  iterate 2 refine AO.gx ?_
  refine AO.c ?_;refine n1 ?_;refine AW.iteB (GL.ev _) (fun h2 => ?_) (fun h2 => ?_)
  ·
   simp only [Bool.and_eq_true, decide_eq_true_eq] at h2;have hk : k < i := by omega
   have hno := hy3.resolve_right (fun h => by omega);refine n5 <|AW.seq' <|AW.block' <|AW.seq' ?_;refine AW.drawsZ [] (.one 0 false (.one 1 false (.one 2 false (.one 3 false (.one 4 false (.one 5 false (.one 6 false (.one 7 false (.one 8 false .nil))))))))) (by kernel_rfl) rfl (by kernel_rfl) ?_;iterate 2 refine AZ.c rfl ?_
   refine AZ.oo rfl ?_;iterate 3 refine AZ.c rfl ?_
   refine AZ.oo rfl ?_;iterate 2 refine AZ.c rfl ?_
   refine AZ.done ?_;refine SQ.normal ?_;refine AW.iteB (GL.ev _) (fun h3 => ?_) (fun h3 => ?_)
   ·
    rw [decide_eq_true_eq, ba_eq] at h3;have hgk : (l.take i).getD k default = l.getD i default := by rw [take_getD hk]; exact h3
    have hat : 0 ≤ st.2.1.getD k 0 ∧ tabStep st (l.getD i default) = (st.1, st.2.1 ++ [st.2.1.getD k 0], st.2.2) := by
     refine ⟨(hinv.at_ k (by rw [htl hx1]; exact hk)).1, step_old hno.2.1 ?_⟩;have := hinv.get k (by rw [htl hx1]; exact hk) (by rw [hgk]; exact hno.2.1);rw [hgk] at this; exact this
    refine AW.region ?_;iterate 2 refine AO.c ?_
    refine AO.oo ?_;refine AO.o (by omega) ?_;refine AO.c ?_;refine n7 ?_;refine AO.c ?_;refine AO.oo ?_;refine AO.c ?_;refine AO.nil ?_
    exact AW.backU [.k, .f, .f, .f, .k, .k, .k, .k, .k, .F, .F, .F, .F, .F, .F, .f, .f, .f, .f, .f] (m1 - 1) (k + 1, st.2.1.getD k 0) (by omega) (by (try dsimp only); exact ⟨by omega, by omega, .inr ⟨hat.1, hat.2⟩⟩) (by first | (rw [Nat.zero_add, Int.toNat_natCast]; done) | (rw [Nat.zero_add, Int.toNat_natCast]; rfl)) (by first | rfl | (simp; done))
   ·
    rw [decide_eq_false_iff_not, ba_eq] at h3;refine n9 ?_;refine AO.c ?_;refine AO.oo ?_;refine AO.c ?_;refine AO.nil ?_
    exact AW.backU [.k, .f, .f, .f, .k, .k, .k, .k, .k, .F, .F, .F, .F, .F, .F, .f, .f, .f, .f, .f] (m1 - 1) (k + 1, at_) (by omega) (by (try dsimp only); exact ⟨by omega, by omega, .inl ⟨hno.1, hno.2.1, fun j hj => (Nat.lt_or_eq_of_le (Nat.le_of_lt_succ hj)).elim (hno.2.2 j) (fun h => by rw [h]; exact h3)⟩⟩) (by first | rfl | (simp; done)) (by first | rfl | (simp; done))
  ·
   simp only [Bool.and_eq_false_iff, decide_eq_false_iff_not] at h2;refine AW.exit <|SQ.exit <|AW.out <|LU.exit <|BQ.exit <|SQ.normal <|n8 ?_;iterate 2 refine AO.c ?_
   refine n1 ?_;refine AW.iteB (GL.ev _) (fun h4 => ?_) (fun h4 => ?_)
   ·
    rw [decide_eq_true_eq] at h4;have hno := hy3.resolve_right (fun h => by omega);have hne := hno.2.1;have hag : aget st.2.2 (l.getD i default) = none := by
     cases hc : aget st.2.2 (l.getD i default) with
     | none => rfl
     | some a =>
      obtain ⟨_, _, j, g1, g2⟩ := hinv.old _ _ hc;rw [htl hx1] at g1;rw [take_getD g1] at g2;exact absurd g2 (hno.2.2 j (by omega))
    refine n2 ?_;iterate 3 refine AO.c ?_
    refine n3 ?_;iterate 3 refine AO.c ?_
    refine AO.oo ?_;refine AO.c ?_;refine AO.w ⟨rfl, by omega⟩ ?_;refine AO.c ?_;refine n1 <|AW.region ?_;refine AO.c ?_;refine AO.rr ?_;refine AO.w ⟨by rw [List.length_append, strB_len], by show _ + 1 ≤ _; omega⟩ ?_;refine AO.c ?_;refine n1 <|AW.region ?_;iterate 2 refine AO.c ?_
    refine AO.rr ?_;refine AO.ww ?_;refine AO.c ?_;refine n7 ?_;refine AO.c ?_;refine AO.oo ?_;refine AO.c ?_;refine AO.nil ?_
    exact AW.backU [.k, .f, .f, .f, .k, .k, .k, .F, .F, .F, .F, .F, .F, .f, .f, .f, .f, .f, .f, .f] (m0 - 1) (i + 1, ep + 2, (st.1 ++ strB (l.getD i default) ++ [0], st.2.1 ++ [(st.1.length : Int)], aput st.2.2 (l.getD i default) (st.1.length : Int))) (by omega) (by (try dsimp only); exact ⟨by omega, by omega, by rw [tabOf_succ hi, ← hx3, step_new hne hag]⟩) (by simp [strB_len, Nat.add_assoc]) (by first | rfl | (simp; done))
   ·
    rw [decide_eq_false_iff_not] at h4;have hstep := (hy3.resolve_left (fun h => by omega)).2;refine n5 <|AW.region ?_;iterate 2 refine AO.c ?_
    refine AO.rr ?_;refine AO.ww ?_;refine AO.c ?_;refine n7 ?_;refine AO.c ?_;refine AO.oo ?_;refine AO.c ?_;refine AO.nil ?_
    exact AW.backU [.k, .f, .f, .f, .k, .k, .k, .F, .F, .F, .F, .F, .F, .f, .f, .f, .f, .f, .f, .f] (m0 - 1) (i + 1, ep, (st.1, st.2.1 ++ [at_], st.2.2)) (by omega) (by (try dsimp only); exact ⟨by omega, by omega, by rw [tabOf_succ hi, ← hx3]; exact hstep.symm⟩) (by simp) (by first | rfl | (simp; done))
 ·
  rw [decide_eq_false_iff_not] at h0;refine AW.exit <|SQ.exit <|AW.out <|LU.exit <|BQ.exit <|SQ.normal <|n2 ?_;iterate 4 refine AO.c ?_
  refine na ?_;have hfin : st = tabOf l := by rw [hx3, List.take_of_length_le (by omega)]
  refine Fin.ret ((Gh.freezeE 2 (li' := st.1) rfl rfl (by omega)).trans (Gh.freezeM 3 iA st.2.1 rfl rfl (by omega))) noid2 ?_;rw [← hfin]; rfl
def findG (N at_ : Int) : Int → List (Int × Int) → Int
 | _, [] => -1
 | i, p :: ps => if (p.1 ≤ at_ ∧ at_ - p.1 < p.2) ∨ (i + 1 = N ∧ at_ - p.1 = p.2 ∧ 0 ≤ at_) then i else findG N at_ (i + 1) ps
def PcOk (l : List (Int × Int)) : Prop := l.length ≤ 1000000000 ∧ ∀ p ∈ l, 0 ≤ p.1 ∧ p.1 ≤ 2147483648 ∧ 0 ≤ p.2 ∧ p.2 ≤ 2147483648
theorem pcs_at {l : List (Int × Int)} (h : PcOk l) (i : Nat) : 0 ≤ (l.getD i default).1 ∧ (l.getD i default).1 ≤ 2147483648 ∧ 0 ≤ (l.getD i default).2 ∧ (l.getD i default).2 ≤ 2147483648 := by
 by_cases hi : i < l.length
 · have := h.2 l[i] (List.getElem_mem hi)
   simpa [hi] using this
 · simp [hi]; decide
theorem find_cond {a p s i n : Int} (ha : -9223372036854775808 ≤ a ∧ a ≤ 9223372036854775807) (hp : 0 ≤ p ∧ p ≤ 2147483648) : (decide (a ≥ p) && decide (a - p < s) || decide (i = n - 1) && decide (IntKind.i64.wrap (a - p) = s) && decide (a ≥ 0)) = decide ((p ≤ a ∧ a - p < s) ∨ (i + 1 = n ∧ a - p = s ∧ 0 ≤ a)) := by
 rw [Bool.eq_iff_iff];simp only [Bool.or_eq_true, Bool.and_eq_true, decide_eq_true_eq];by_cases h : 0 ≤ a
 · rw [wi64' (by omega)]; omega
 · omega
theorem piece_Find (l : List (Int × Int)) (at_ : Int) (hl : PcOk l) (ha : I64 at_) : A0 Tryz.prog 50 [.rd 2 (l.map pcA), .v (.int .i64 at_)] (fun ret => ret = .v (.int .i64 (findG l.length at_ 0 l))) := by
 have hl1 := hl.1;have hl2 := pcs_at hl;unfold I64 at ha;refine A0.body 51 Tryz.func50 rfl rfl Tryz.ntmps50 fun base n0 => ?_
 refine go ?_;refine AW.loopU2 [.k, .k, .f, .f, .f, .f, .f, .f, .k, .k, .k, .F, .F, .F, .F, .F] (fun (i j : Nat) => [(10, .v (.int .i64 i))]) (fun i j => Hn n0 (([] ++ List.replicate j none) ++ [])) (fun m i j => i ≤ l.length ∧ m = l.length - i ∧ findG l.length at_ 0 l = findG l.length at_ i (l.drop i)) (l.length) (0) (0) co cr cr ?_;rintro m0 i j ⟨hx1, hx2, hx3⟩
 have hp := hl2 i;refine go ?_;refine AW.iteB (GL.ev _) (fun h0 => ?_) (fun h0 => ?_)
 ·
  try simp only [Bool.and_eq_true, Bool.or_eq_true, Bool.not_eq_true', Bool.and_eq_false_iff, Bool.or_eq_false_iff, decide_eq_true_eq, decide_eq_false_iff_not, bys_length] at h0
  refine gs ?_;refine AO.c ?_;refine AO.oo ?_;refine AO.c ?_;refine AO.ww ?_;refine AO.c ?_;refine AO.sst ?_;refine gs ?_;iterate 5 refine AO.c ?_
  iterate 3 refine AO.gx ?_
  refine AO.gxoo ?_;iterate 3 refine AO.gx ?_
  iterate 2 refine AO.c ?_
  refine gs ?_;iterate 2 refine AO.c ?_
  iterate 3 refine AO.gx ?_
  refine AO.gxoo ?_;iterate 5 refine AO.gx ?_
  refine AO.gxpw ?_;refine go ?_;refine AW.iteB (GL.ev _) (fun h1 => ?_) (fun h1 => ?_)
  ·
   have hlt : i < l.length := by omega
   rw [find_cond ha ⟨hp.1, hp.2.1⟩, decide_eq_true_eq] at h1;rw [hx3, drop_getD hlt, findG, if_pos h1];refine go ?_;refine AW.ret <|BQ.ret <|SQ.ret <|AW.out <|LU.ret <|BQ.ret <|SQ.ret ?_;refine Fin.ret (Gh.refl) noid1 ?_;rfl
  ·
   have hlt : i < l.length := by omega
   rw [find_cond ha ⟨hp.1, hp.2.1⟩, decide_eq_false_iff_not] at h1;rw [drop_getD hlt, findG, if_neg h1] at hx3;refine AW.skip <|BQ.normal ?_;refine go ?_;exact AW.backD [.k, .k, .f, .f, .f, .f, .f, .f, .k, .k, .k, .F, .F, .F, .F, .F] ([]) (j) (m0 - 1) (i + 1, j + 1) (by omega) (by (try dsimp only); exact ⟨by omega, by omega, hx3⟩) cr cr
 ·
  try simp only [Bool.and_eq_true, Bool.or_eq_true, Bool.not_eq_true', Bool.and_eq_false_iff, Bool.or_eq_false_iff, decide_eq_true_eq, decide_eq_false_iff_not, bys_length] at h0
  refine AW.exit <|SQ.exit <|AW.out <|LU.exit <|BQ.exit ?_;refine go ?_;refine AW.ret ?_;refine Fin.ret (Gh.refl) noid1 ?_;rw [hx3, List.drop_of_length_le (by omega)]; rfl
end Go.Proofs.YtkbbcenjklaglaaGreat.AL
