/- What functions of the program compute, each by its own contract; the conditions stand with each. -/
import Derived.Test.YtlapfdfbgckfcaaFExec5
namespace Go.Proofs.Ytlapfdfbgckfcaa.AL
open Go Go.RowKit Go.Proofs.Ytlapfdfbgckfcaa.Base
set_option linter.unusedVariables false
set_option linter.unusedSimpArgs false
set_option maxRecDepth 4000
set_option synthInstance.maxSize 1000
set_option synthInstance.maxHeartbeats 200000

theorem load_good {b : List Int} {e : Int} {l : List SegD} (hB : Bytes b) (h : loadF b = some (e, l)) : fixedB b = true ∧ 64 ≤ b.length ∧ SegGood b 0 l ∧ (64 + 56 * l.length : Int) ≤ b.length ∧ l.length ≤ 16 := by
  unfold loadF at h
  split at h
  · rename_i hh
    cases hs : segsF b (numAt b 56 2).toNat 0 0 with
    | none => rw [hs] at h; cases h
    | some l' =>
      rw [hs] at h
      obtain ⟨rfl, rfl⟩ := Prod.mk.inj (Option.some.inj h)
      obtain ⟨g1, g2, g3⟩ := segs_good hB _ _ _ _ hs
      have hm := (numAt_range hB 56 2).1
      refine ⟨hh.2.1, hh.1, g1, ?_, by omega⟩
      rcases Nat.eq_zero_or_pos (numAt b 56 2).toNat with h0 | h0
      · rw [g2, h0]; omega
      · have := g3 h0; omega
  · cases h
theorem inN_succ {x : Int} {l : List SegD} {i : Nat} (h : i < l.length) : inN x (l.take (i + 1)) = inN x (l.take i) + (if (l.getD i default).addr ≤ x ∧ x < (l.getD i default).addr + (l.getD i default).size then 1 else 0) := by
  unfold inN
  rw [List.take_add_one, List.filter_append, List.length_append]
  simp only [List.getElem?_eq_getElem h, Option.toList_some, List.getD_eq_getElem?_getD, Option.getD_some, List.filter_cons, List.filter_nil]
  by_cases hc : l[i].addr ≤ x ∧ x < l[i].addr + l[i].size
  · rw [if_pos hc]; simp [hc]
  · rw [if_neg hc]
    have : (decide (l[i].addr ≤ x) && decide (x < l[i].addr + l[i].size)) = false := by rw [← Bool.not_eq_true]; simpa using hc
    simp [this]
theorem inN_le {x : Int} (l : List SegD) (i : Nat) : inN x (l.take i) ≤ i := by
  unfold inN
  exact Nat.le_trans (List.length_filter_le _ _) (by rw [List.length_take]; omega)
theorem xor_ne {a c : Int} (ha : 0 ≤ a ∧ a < 256) (hc : 0 ≤ c ∧ c ≤ 255) (h0 : c ≠ 0) : Go.bits .xor .u8 a c ≠ a := by
  have key : ∀ a c : BitVec 8, c ≠ 0 → a ^^^ c ≠ a := by
    intro a c hc h
    apply hc
    have := congrArg (fun z => a ^^^ z) h
    simpa [← BitVec.xor_assoc] using this
  have e0 : Go.bits .xor .u8 a c = IntKind.u8.wrap ((BitVec.ofInt 8 a ^^^ BitVec.ofInt 8 c).toNat : Int) := rfl
  have h8 : ∀ y : Int, IntKind.u8.wrap y = y % 256 := fun y => by simp [IntKind.wrap, IntKind.bits, IntKind.signed]
  have ea : ((BitVec.ofInt 8 a).toNat : Int) = a := by rw [BitVec.toNat_ofInt]; omega
  have ec : ((BitVec.ofInt 8 c).toNat : Int) = c := by rw [BitVec.toNat_ofInt]; omega
  have h1 := key (BitVec.ofInt 8 a) (BitVec.ofInt 8 c) (fun h => by
    rw [h] at ec
    simp at ec
    omega)
  have hlt := (BitVec.ofInt 8 a ^^^ BitVec.ofInt 8 c).isLt
  intro h
  apply h1
  apply BitVec.eq_of_toNat_eq
  rw [e0, h8] at h
  omega
theorem xor_byte {a c : Int} : 0 ≤ Go.bits .xor .u8 a c ∧ Go.bits .xor .u8 a c < 256 := by
  simp [Go.bits, IntKind.wrap, IntKind.bits, IntKind.signed]
  omega
theorem bytes_set {b : List Int} (hB : Bytes b) {i : Nat} {x : Int} (hx : 0 ≤ x ∧ x < 256) : Bytes (b.set i x) := fun y hy => by
  rcases List.mem_or_eq_of_mem_set hy with h | rfl
  · exact hB y h
  · exact hx

set_option maxHeartbeats 1000000 in
theorem ref_Write0 (p : PlanD) (hp : I64 p.entry) (hz : ∀ s, fullB p s = false) : A0 Try.prog 30 [.agg [.rd 14 [], .v (.int .i64 0), .v (.int .i64 0), .rd 3 []], .agg (planA p), .rd 1 []] (fun ret => ret = .tup [.rd 1 (bys (begL p.entry 0)), .v (.int .i64 0)]) := by
  refine A0.body 149 Try.func30 rfl rfl Try.ntmps30 fun base n0 => ?_
  refine AW.seq' ?_
  refine AW.region ?_
  refine AO.ww ?_
  refine AO.ww ?_
  refine AO.c ?_
  refine AO.c ?_
  refine AO.nil ?_
  refine SQ.normal ?_
  refine AW.seq' ?_
  refine AW.region ?_
  refine AO.c ?_
  refine AO.call1 Try.func63 rfl rfl (ref_Segs0 p hz) ?_
  refine AO.c ?_
  refine AO.nil ?_
  refine SQ.normal ?_
  refine AW.seq' ?_
  refine AW.region ?_
  refine AO.c ?_
  refine AO.c ?_
  refine AO.c ?_
  refine AO.c ?_
  refine AO.call1 Try.func64 rfl rfl (ref_begin p.entry 0 hp (by decide)) ?_
  refine AO.c ?_
  refine AO.nil ?_
  refine SQ.normal ?_
  refine AW.seq' ?_
  refine AW.seq' ?_
  refine AW.region ?_
  refine AO.c ?_
  refine AO.nil ?_
  refine SQ.normal ?_
  refine AW.block' ?_
  refine AW.loopU [.f, .f, .k, .k, .k, .f, .f, .f, .k, .k, .k, .F, .F, .F, .F, .F, .F, .F, .F, .F, .F, .F, .F, .F, .F, .F, .F, .F, .f, .f] (fun (i : Nat) => [(9, .rd 1 (bys (begL p.entry 0))), (10, .v (.int .i64 (i)))]) (fun i => Hn n0 [some (.box 67 [.rd 14 [], .v (.int .i64 0), .v (.int .i64 0), .rd 3 []]), some (.box 90 (planA p))]) (fun m i => i = 0 ∧ m = 0) (0) (0) ⟨rfl, rfl⟩ (by first | rfl | (simp; done)) (by first | rfl | (simp; done)) ?_
  rintro m0 i ⟨hx1, hx2⟩
  refine AW.seq' ?_
  refine AW.seq' ?_
  refine AW.region ?_
  refine AO.c ?_
  refine AO.c ?_
  refine AO.c ?_
  refine AO.c ?_
  refine AO.nil ?_
  refine SQ.normal ?_
  refine AW.iteB (GL.ev _) (fun h0 => ?_) (fun h0 => ?_)
  · skip
    exfalso
    simp at h0
    omega
  · skip
    skip
    refine AW.exit ?_
    refine SQ.exit <| AW.out <| LU.exit <| BQ.exit ?_
    refine SQ.normal ?_
    refine AW.seq' ?_
    refine AW.seq' ?_
    refine AW.region ?_
    refine AO.c ?_
    refine AO.nil ?_
    refine SQ.normal ?_
    refine AW.block' ?_
    refine AW.loopU [.f, .f, .k, .k, .k, .f, .f, .f, .k, .k, .f, .k, .F, .F, .F, .F, .F, .F, .F, .F, .F, .F, .F, .F, .F, .F, .F, .F, .F, .f] (fun (i : Nat) => [(9, .rd 1 (bys (begL p.entry 0))), (11, .v (.int .i64 (i)))]) (fun i => Hn n0 [some (.box 67 [.rd 14 [], .v (.int .i64 0), .v (.int .i64 0), .rd 3 []]), some (.box 90 (planA p))]) (fun m i => i = 0 ∧ m = 0) (0) (0) ⟨rfl, rfl⟩ (by first | rfl | (simp; done)) (by first | rfl | (simp; done)) ?_
    rintro m1 i ⟨hx1, hx2⟩
    refine AW.seq' ?_
    refine AW.seq' ?_
    refine AW.region ?_
    refine AO.c ?_
    refine AO.c ?_
    refine AO.c ?_
    refine AO.c ?_
    refine AO.nil ?_
    refine SQ.normal ?_
    refine AW.iteB (GL.ev _) (fun h1 => ?_) (fun h1 => ?_)
    · skip
      exfalso
      simp at h1
      omega
    · skip
      skip
      refine AW.exit ?_
      refine SQ.exit <| AW.out <| LU.exit <| BQ.exit ?_
      refine SQ.normal ?_
      refine AW.seq' ?_
      refine AW.seq' ?_
      refine AW.region ?_
      refine AO.c ?_
      refine AO.nil ?_
      refine SQ.normal ?_
      refine AW.block' ?_
      refine AW.loopU [.f, .f, .k, .k, .k, .f, .f, .f, .f, .k, .f, .f, .f, .k, .F, .F, .F, .F, .F, .F, .F, .F, .F, .F, .F, .F, .F, .F, .F, .F, .f, .f, .f, .f, .f, .f, .f] (fun (i : Nat) => [(9, .rd 1 (bys (begL p.entry 0))), (13, .v (.int .i64 (i)))]) (fun i => Hn n0 [some (.box 67 [.rd 14 [], .v (.int .i64 0), .v (.int .i64 0), .rd 3 []]), some (.box 90 (planA p))]) (fun m i => i = 0 ∧ m = 0) (0) (0) ⟨rfl, rfl⟩ (by first | rfl | (simp; done)) (by first | rfl | (simp; done)) ?_
      rintro m2 i ⟨hx1, hx2⟩
      refine AW.seq' ?_
      refine AW.seq' ?_
      refine AW.region ?_
      refine AO.c ?_
      refine AO.c ?_
      refine AO.c ?_
      refine AO.c ?_
      refine AO.c ?_
      refine AO.nil ?_
      refine SQ.normal ?_
      refine AW.iteB (GL.ev _) (fun h3 => ?_) (fun h3 => ?_)
      · skip
        exfalso
        simp at h3
        omega
      · skip
        skip
        refine AW.exit ?_
        refine SQ.exit <| AW.out <| LU.exit <| BQ.exit ?_
        refine SQ.normal ?_
        refine AW.seq' ?_
        refine AW.region ?_
        refine AO.c ?_
        refine AO.c ?_
        refine AO.c ?_
        refine AO.nil ?_
        refine SQ.normal ?_
        refine AW.ret ?_
        refine Fin.ret (Gh.refl) noid2 ?_
        rfl

def plan7 : PlanD := ⟨[], [], 7, 0⟩
theorem full7 (s : Int) : fullB plan7 s = false := by
  unfold fullB
  rw [List.any_eq_false]
  intro i hi
  have hi := List.mem_range.1 hi
  have e : (plan7.o i).size = 0 := rfl
  rw [e]; simp
theorem write7 : A0 Try.prog 30 [.agg [.v (.slice none 0 0), .v (.int .i64 0), .v (.int .i64 0), .v (.slice none 0 0)], .agg [.v (.slice none 0 0), .v (.int .i64 0), .v (.int .i64 0), .v (.int .i64 0), .v (.int .i64 0), .v (.int .i64 0), .v (.int .i64 0), .v (.int .i64 0), .v (.int .i64 0), .v (.int .i64 0), .v (.int .i64 0), .v (.int .i64 0), .v (.int .i64 0), .v (.int .i64 0), .v (.int .i64 0), .v (.int .i64 0), .v (.int .i64 0), .v (.int .i64 0), .v (.int .i64 0), .v (.int .i64 0), .v (.int .i64 0), .v (.int .i64 0), .v (.int .i64 0), .v (.int .i64 0), .v (.int .i64 0), .v (.int .i64 0), .v (.int .i64 0), .v (.int .i64 0), .v (.int .i64 0), .v (.int .i64 0), .v (.int .i64 0), .v (.int .i64 0), .v (.int .i64 0), .v (.int .i64 7), .v (.int .i64 0)], .v (.slice none 0 0)] (fun ret => ret = .tup [.rd 1 (bys (begL 7 0)), .v (.int .i64 0)]) := by
  have h := ref_Write0 plan7 (by decide) full7
  have h2 : A0 Try.prog 30 [.agg [.rd 14 [], .v (.int .i64 0), .v (.int .i64 0), .rd 3 []], .agg [.rd 1 [], .v (.int .i64 0), .v (.int .i64 0), .v (.int .i64 0), .v (.int .i64 0), .v (.int .i64 0), .v (.int .i64 0), .v (.int .i64 0), .v (.int .i64 0), .v (.int .i64 0), .v (.int .i64 0), .v (.int .i64 0), .v (.int .i64 0), .v (.int .i64 0), .v (.int .i64 0), .v (.int .i64 0), .v (.int .i64 0), .v (.int .i64 0), .v (.int .i64 0), .v (.int .i64 0), .v (.int .i64 0), .v (.int .i64 0), .v (.int .i64 0), .v (.int .i64 0), .v (.int .i64 0), .v (.int .i64 0), .v (.int .i64 0), .v (.int .i64 0), .v (.int .i64 0), .v (.int .i64 0), .v (.int .i64 0), .v (.int .i64 0), .v (.int .i64 0), .v (.int .i64 7), .v (.int .i64 0)], .rd 1 []] (fun ret => ret = .tup [.rd 1 (bys (begL 7 0)), .v (.int .i64 0)]) := h
  exact A0.tells (args := [.agg [.rd 14 [], .v (.int .i64 0), .v (.int .i64 0), .rd 3 []], .agg [.rd 1 [], .v (.int .i64 0), .v (.int .i64 0), .v (.int .i64 0), .v (.int .i64 0), .v (.int .i64 0), .v (.int .i64 0), .v (.int .i64 0), .v (.int .i64 0), .v (.int .i64 0), .v (.int .i64 0), .v (.int .i64 0), .v (.int .i64 0), .v (.int .i64 0), .v (.int .i64 0), .v (.int .i64 0), .v (.int .i64 0), .v (.int .i64 0), .v (.int .i64 0), .v (.int .i64 0), .v (.int .i64 0), .v (.int .i64 0), .v (.int .i64 0), .v (.int .i64 0), .v (.int .i64 0), .v (.int .i64 0), .v (.int .i64 0), .v (.int .i64 0), .v (.int .i64 0), .v (.int .i64 0), .v (.int .i64 0), .v (.int .i64 0), .v (.int .i64 0), .v (.int .i64 7), .v (.int .i64 0)], .rd 1 []]) h2
theorem load7 : A0 Try.prog 11 [.rd 1 (bys (begL 7 0))] (fun ret => ret = loadR (some (7, []))) := by
  have h := exec_Load (begL 7 0) beg_bytes (by have := begL_len 7 0; omega)
  rw [load_beg] at h; exact h
theorem loadNil : A0 Try.prog 11 [.v (.slice none 0 0)] (fun ret => ret = loadR none) := by
  have h := exec_Load [] (by intro x hx; cases hx) (by decide)
  rw [show loadF [] = none from rfl] at h
  exact A0.tells (args := [.rd 1 (bys [])]) h

theorem up19  : A0 Try.prog 10 [] (fun ret => ret = .v (.bool true)) := by
  refine A0.body 40 Try.func10 rfl rfl Try.ntmps10 fun base n0 => ?_
  refine AW.seq' ?_
  refine AW.region ?_
  refine AO.c ?_
  refine AO.nil ?_
  refine SQ.normal ?_
  refine AW.seq' ?_
  refine AW.region ?_
  refine AO.c ?_
  refine AO.c ?_
  refine AO.call1 Try.func30 rfl rfl (write7) ?_
  refine AO.c ?_
  refine AO.c ?_
  refine AO.c ?_
  refine AO.c ?_
  refine AO.c ?_
  refine AO.nil ?_
  refine SQ.normal ?_
  refine AW.seq' ?_
  refine AW.region ?_
  refine AO.c ?_
  refine AO.call1 Try.func11 rfl rfl (load7) ?_
  refine AO.c ?_
  refine AO.c ?_
  refine AO.c ?_
  refine AO.ww ?_
  refine AO.sst ?_
  refine AO.c ?_
  refine AO.nil ?_
  refine SQ.normal ?_
  refine AW.seq' ?_
  refine AW.region ?_
  refine AO.call1 Try.func11 rfl rfl (loadNil) ?_
  refine AO.c ?_
  refine AO.c ?_
  refine AO.c ?_
  refine AO.ww ?_
  refine AO.sst ?_
  refine AO.c ?_
  refine AO.nil ?_
  refine SQ.normal ?_
  refine AW.seq' ?_
  refine AW.region ?_
  refine AO.c ?_
  refine AO.c ?_
  refine AO.c ?_
  refine AO.gx ?_
  refine AO.gx ?_
  refine AO.gx ?_
  refine AO.c ?_
  refine AO.c ?_
  refine AO.gx ?_
  refine AO.gx ?_
  refine AO.gx ?_
  refine AO.gx ?_
  refine AO.c ?_
  refine AO.c ?_
  refine AO.gx ?_
  refine AO.gx ?_
  refine AO.gxoo ?_
  refine AO.c ?_
  refine AO.c ?_
  refine AO.nil ?_
  refine SQ.normal ?_
  refine AW.ret ?_
  refine Fin.ret (Gh.refl) noid1 ?_
  rfl
theorem exec_ApartN (b : List Int) (addr turn by_ cut : Int) (hB : Bytes b) (hbl : b.length ≤ maxLen) (ha : I64 addr) (ht : I64 turn) (hby : 0 ≤ by_ ∧ by_ ≤ 255) (hc : I64 cut) (hl : b.length ≤ 1000000000000 → loadF b = none) : A0 Try.prog 3 [.rd 1 (bys b), .v (.int .i64 (addr)), .v (.int .i64 (turn)), .v (.int .u8 by_), .v (.int .i64 (cut))] (fun ret => ret = .v (.bool true)) := by
  have hup := up19
  refine A0.body 178 Try.func3 rfl rfl Try.ntmps3 fun base n0 => ?_
  refine AW.seq' ?_
  refine AW.region ?_
  refine AO.c ?_
  refine AO.nil ?_
  refine SQ.normal ?_
  refine AW.seq' ?_
  refine AW.region ?_
  refine AO.call1 Try.func10 rfl rfl (up19) ?_
  refine AO.c ?_
  refine AO.nil ?_
  refine SQ.normal ?_
  refine AW.seq' ?_
  refine AW.seq' ?_
  refine AW.region ?_
  refine AO.c ?_
  refine AO.c ?_
  refine AO.c ?_
  refine AO.nil ?_
  refine SQ.normal ?_
  refine AW.iteB (GL.ev _) (fun h0 => ?_) (fun h0 => ?_)
  · skip
    skip
    refine AW.seq' ?_
    refine AW.region ?_
    refine AO.c ?_
    refine AO.c ?_
    refine AO.nil ?_
    refine SQ.normal ?_
    refine AW.ret ?_
    refine SQ.ret ?_
    refine Fin.ret (Gh.refl) noid1 ?_
    rfl
  · skip
    rw [decide_eq_false_iff_not] at h0
    have hb : b.length ≤ 1000000000000 := by omega
    have hld := exec_Load b hB hb
    rw [hl hb] at hld
    refine AW.skip ?_
    refine SQ.normal ?_
    refine AW.seq' ?_
    refine AW.region ?_
    refine AO.c ?_
    refine AO.call1 Try.func11 rfl rfl (hld) ?_
    refine AO.c ?_
    refine AO.c ?_
    refine AO.c ?_
    refine AO.ww ?_
    refine AO.sst ?_
    refine AO.c ?_
    refine AO.nil ?_
    refine SQ.normal ?_
    refine AW.seq' ?_
    refine AW.seq' ?_
    refine AW.region ?_
    refine AO.c ?_
    refine AO.c ?_
    refine AO.nil ?_
    refine SQ.normal ?_
    refine AW.iteB (GL.ev _) (fun h1 => ?_) (fun h1 => ?_)
    · skip
      skip
      refine AW.seq' ?_
      refine AW.region ?_
      refine AO.c ?_
      refine AO.c ?_
      refine AO.gx ?_
      refine AO.gx ?_
      refine AO.gx ?_
      refine AO.gx ?_
      refine AO.c ?_
      refine AO.c ?_
      refine AO.nil ?_
      refine SQ.normal ?_
      refine AW.ret ?_
      refine SQ.ret ?_
      refine Fin.ret (Gh.refl) noid1 ?_
      rfl
    · skip
      exfalso
      simp at h1
set_option maxHeartbeats 1000000 in
theorem exec_ApartY (b : List Int) (addr turn by_ cut e : Int) (l : List SegD) (hB : Bytes b) (hbl : b.length ≤ maxLen) (ha : I64 addr) (ht : I64 turn) (hby : 0 ≤ by_ ∧ by_ ≤ 255) (hc : I64 cut) (hl : b.length ≤ 1000000000000 → loadF b = some (e, l)) : A0 Try.prog 3 [.rd 1 (bys b), .v (.int .i64 (addr)), .v (.int .i64 (turn)), .v (.int .u8 by_), .v (.int .i64 (cut))] (fun ret => ret = .v (.bool true)) := by
  have hup := up19
  obtain ⟨ha1, ha2⟩ := id ha
  obtain ⟨ht1, ht2⟩ := id ht
  obtain ⟨hc1, hc2⟩ := id hc
  refine A0.body 178 Try.func3 rfl rfl Try.ntmps3 fun base n0 => ?_
  refine AW.seq' ?_
  refine AW.region ?_
  refine AO.c ?_
  refine AO.nil ?_
  refine SQ.normal ?_
  refine AW.seq' ?_
  refine AW.region ?_
  refine AO.call1 Try.func10 rfl rfl (up19) ?_
  refine AO.c ?_
  refine AO.nil ?_
  refine SQ.normal ?_
  refine AW.seq' ?_
  refine AW.seq' ?_
  refine AW.region ?_
  refine AO.c ?_
  refine AO.c ?_
  refine AO.c ?_
  refine AO.nil ?_
  refine SQ.normal ?_
  refine AW.iteB (GL.ev _) (fun h0 => ?_) (fun h0 => ?_)
  · skip
    skip
    refine AW.seq' ?_
    refine AW.region ?_
    refine AO.c ?_
    refine AO.c ?_
    refine AO.nil ?_
    refine SQ.normal ?_
    refine AW.ret ?_
    refine SQ.ret ?_
    refine Fin.ret (Gh.refl) noid1 ?_
    rfl
  · skip
    rw [decide_eq_false_iff_not] at h0
    have hb : b.length ≤ 1000000000000 := by omega
    have hlb := hl hb
    obtain ⟨k1, k2, k3, k4, k5⟩ := load_good hB hlb
    have hld : A0 Try.prog 11 [.rd 1 (bys b)] (fun ret => ret = .tup [.agg [.v (.int .i64 e), .rd 4 (l.map segA)], .v (ifV 33 0)]) := by
      have h := exec_Load b hB hb
      rw [hlb] at h; exact h
    refine AW.skip ?_
    refine SQ.normal ?_
    refine AW.seq' ?_
    refine AW.region ?_
    refine AO.c ?_
    refine AO.call1 Try.func11 rfl rfl (hld) ?_
    refine AO.c ?_
    refine AO.c ?_
    refine AO.c ?_
    refine AO.ww ?_
    refine AO.sst ?_
    refine AO.c ?_
    refine AO.nil ?_
    refine SQ.normal ?_
    refine AW.seq' ?_
    refine AW.seq' ?_
    refine AW.region ?_
    refine AO.c ?_
    refine AO.c ?_
    refine AO.nil ?_
    refine SQ.normal ?_
    refine AW.iteB (GL.ev _) (fun h1 => ?_) (fun h1 => ?_)
    · skip
      exfalso
      simp at h1
    · skip
      skip
      refine AW.skip ?_
      refine SQ.normal ?_
      refine AW.seq' ?_
      refine AW.region ?_
      refine AO.c ?_
      refine AO.nil ?_
      refine SQ.normal ?_
      refine AW.seq' ?_
      refine AW.seq' ?_
      refine AW.region ?_
      refine AO.c ?_
      refine AO.nil ?_
      refine SQ.normal ?_
      refine AW.block' ?_
      refine AW.loopU2 [.k, .k, .k, .k, .k, .f, .f, .f, .f, .f, .f, .k, .k, .f, .k, .k, .F, .F, .F, .F, .F, .F, .F, .F, .F, .F, .F, .F, .F, .F, .F, .F, .F, .F, .F, .F, .f, .f] (fun (i j : Nat) => [(14, .v (.int .i64 ((inN addr (l.take i) : Nat)))), (15, .v (.int .i64 (i)))]) (fun i j => Hn n0 (([some (.box 26 [.v (.int .i64 e), .rd 4 (l.map segA)])] ++ List.replicate j none) ++ [])) (fun m i j => i ≤ l.length ∧ m = l.length - i ∧ inN addr (l.take i) ≤ i) (l.length) (0) (0) ⟨by omega, by omega, inN_le _ _⟩ (by first | rfl | (simp; done)) (by first | rfl | (simp; done)) ?_
      rintro m0 i j ⟨hx1, hx2, hx3⟩
      refine AW.seq' ?_
      refine AW.seq' ?_
      refine AW.region ?_
      refine AO.c ?_
      refine AO.c ?_
      refine AO.c ?_
      refine AO.c ?_
      refine AO.c ?_
      refine AO.nil ?_
      refine SQ.normal ?_
      refine AW.iteB (GL.ev _) (fun h2 => ?_) (fun h2 => ?_)
      · skip
        rw [decide_eq_true_eq] at h2
        have hi : i < l.length := by omega
        obtain ⟨g1, g2, g3, g4, g5, g6⟩ := segGood_at l 0 i k3 hi
        have hst := inN_succ (x := addr) hi
        generalize hse : (l.getD i default) = s at g1 g2 g3 g4 g5 g6 hst
        refine AW.skip ?_
        refine SQ.normal ?_
        refine AW.seq' ?_
        refine AW.block' ?_
        refine AW.seq' ?_
        refine AW.region ?_
        refine AO.c ?_
        refine AO.c ?_
        refine AO.c ?_
        refine AO.oo ?_
        refine AO.c ?_
        refine AO.eq 52 (av' := .agg (segA s)) (by rw [hse]) ?_
        refine AO.ww ?_
        refine AO.sst ?_
        refine AO.nil ?_
        refine SQ.normal ?_
        refine AW.seq' ?_
        refine AW.seq' ?_
        refine AW.region ?_
        refine AO.c ?_
        refine AO.c ?_
        refine AO.c ?_
        refine AO.c ?_
        refine AO.gx ?_
        refine AO.gx ?_
        refine AO.gx ?_
        refine AO.c ?_
        refine AO.c ?_
        refine AO.gx ?_
        refine AO.gx ?_
        refine AO.gx ?_
        refine AO.c ?_
        refine AO.c ?_
        refine AO.gx ?_
        refine AO.gx ?_
        refine AO.gx ?_
        refine AO.gx ?_
        refine AO.gx ?_
        refine AO.gx ?_
        refine AO.c ?_
        refine AO.c ?_
        refine AO.gx ?_
        refine AO.gx ?_
        refine AO.gx ?_
        refine AO.c ?_
        refine AO.c ?_
        refine AO.gx ?_
        refine AO.gx ?_
        refine AO.gx ?_
        refine AO.gx ?_
        refine AO.gxoo ?_
        refine AO.gx ?_
        refine AO.c ?_
        refine AO.c ?_
        refine AO.gx ?_
        refine AO.gx ?_
        refine AO.gx ?_
        refine AO.gx ?_
        refine AO.gx ?_
        refine AO.gx ?_
        refine AO.c ?_
        refine AO.nil ?_
        refine SQ.normal ?_
        refine AW.iteB (GL.ev _) (fun h3 => ?_) (fun h3 => ?_)
        · skip
          exfalso
          simp only [Bool.or_eq_true, Bool.and_eq_true, decide_eq_true_eq] at h3
          omega
        · skip
          skip
          refine AW.skip ?_
          refine SQ.normal ?_
          refine AW.seq' ?_
          refine AW.region ?_
          refine AO.c ?_
          refine AO.c ?_
          refine AO.c ?_
          refine AO.c ?_
          refine AO.c ?_
          refine AO.gx ?_
          refine AO.gx ?_
          refine AO.gx ?_
          refine AO.gx ?_
          refine AO.gx ?_
          refine AO.gxoo ?_
          refine AO.gx ?_
          refine AO.c ?_
          refine AO.nil ?_
          refine SQ.normal ?_
          refine AW.iteB (GL.ev _) (fun h4 => ?_) (fun h4 => ?_)
          · skip
            simp only [Bool.and_eq_true, decide_eq_true_eq] at h4
            rw [if_pos (by omega)] at hst
            refine AW.region ?_
            refine AO.c ?_
            refine AO.oo ?_
            refine AO.c ?_
            refine AO.nil ?_
            refine BQ.normal ?_
            refine SQ.normal ?_
            refine AW.region ?_
            refine AO.c ?_
            refine AO.oo ?_
            refine AO.c ?_
            refine AO.nil ?_
            exact AW.backD [.k, .k, .k, .k, .k, .f, .f, .f, .f, .f, .f, .k, .k, .f, .k, .k, .F, .F, .F, .F, .F, .F, .F, .F, .F, .F, .F, .F, .F, .F, .F, .F, .F, .F, .F, .F, .f, .f] ([some (.box 26 [.v (.int .i64 e), .rd 4 (l.map segA)])]) (j) (m0 - 1) (i + 1, j + 1) (by omega) (by (try dsimp only); exact ⟨by omega, by omega, inN_le _ _⟩) (by (try dsimp only); rw [hst] <;> rfl) (by first | rfl | (simp; done))
          · skip
            simp only [Bool.and_eq_false_iff, decide_eq_false_iff_not] at h4
            rw [if_neg (by omega)] at hst
            refine AW.skip ?_
            refine BQ.normal ?_
            refine SQ.normal ?_
            refine AW.region ?_
            refine AO.c ?_
            refine AO.oo ?_
            refine AO.c ?_
            refine AO.nil ?_
            exact AW.backD [.k, .k, .k, .k, .k, .f, .f, .f, .f, .f, .f, .k, .k, .f, .k, .k, .F, .F, .F, .F, .F, .F, .F, .F, .F, .F, .F, .F, .F, .F, .F, .F, .F, .F, .F, .F, .f, .f] ([some (.box 26 [.v (.int .i64 e), .rd 4 (l.map segA)])]) (j) (m0 - 1) (i + 1, j + 1) (by omega) (by (try dsimp only); exact ⟨by omega, by omega, inN_le _ _⟩) (by (try dsimp only); rw [hst] <;> rfl) (by first | rfl | (simp; done))
      · skip
        rw [decide_eq_false_iff_not] at h2
        have htl : l.take i = l := List.take_of_length_le (by omega)
        have hle : inN addr (l.take i) ≤ 1 := by rw [htl]; exact inN_one l 0 k3
        refine AW.exit ?_
        refine SQ.exit <| AW.out <| LU.exit <| BQ.exit ?_
        refine SQ.normal ?_
        refine AW.seq' ?_
        refine AW.seq' ?_
        refine AW.region ?_
        refine AO.c ?_
        refine AO.c ?_
        refine AO.c ?_
        refine AO.gx ?_
        refine AO.gx ?_
        refine AO.gx ?_
        refine AO.gx ?_
        refine AO.gx ?_
        refine AO.gxoo ?_
        refine AO.gxoo ?_
        refine AO.gx ?_
        refine AO.c ?_
        refine AO.nil ?_
        refine SQ.normal ?_
        refine AW.iteB (GL.ev _) (fun h5 => ?_) (fun h5 => ?_)
        · skip
          exfalso
          simp only [Bool.or_eq_true, decide_eq_true_eq] at h5
          omega
        · skip
          skip
          refine AW.skip ?_
          refine SQ.normal ?_
          refine AW.seq' ?_
          refine AW.seq' ?_
          refine AW.region ?_
          refine AO.c ?_
          refine AO.c ?_
          refine AO.c ?_
          refine AO.gx ?_
          refine AO.gx ?_
          refine AO.gx ?_
          refine AO.gx ?_
          refine AO.gxoo ?_
          refine AO.gxoo ?_
          refine AO.gx ?_
          refine AO.c ?_
          refine AO.nil ?_
          refine SQ.normal ?_
          refine AW.iteB (GL.ev _) (fun h6 => ?_) (fun h6 => ?_)
          · skip
            simp only [Bool.and_eq_true, decide_eq_true_eq] at h6
            have hcut := load_cut hB hlb (c := cut.toNat) (by omega) (by omega)
            have hld2 := exec_Load (b.take cut.toNat) (hB.take _) (by rw [List.length_take]; omega)
            rw [hcut] at hld2
            refine AW.seq' ?_
            refine AW.region ?_
            refine AO.c ?_
            refine AO.c ?_
            refine AO.c ?_
            refine AO.oo ?_
            refine AO.call1 Try.func11 rfl rfl (hld2) ?_
            refine AO.c ?_
            refine AO.c ?_
            refine AO.c ?_
            refine AO.ww ?_
            refine AO.sst ?_
            refine AO.c ?_
            refine AO.nil ?_
            refine SQ.normal ?_
            refine AW.seq' ?_
            refine AW.region ?_
            refine AO.c ?_
            refine AO.c ?_
            refine AO.oo ?_
            refine AO.nil ?_
            refine SQ.normal ?_
            refine AW.iteB (GL.ev _) (fun h7 => ?_) (fun h7 => ?_)
            · skip
              exfalso
              simp at h7
            · skip
              skip
              refine AW.skip ?_
              refine SQ.normal ?_
              refine AW.seq' ?_
              refine AW.seq' ?_
              refine AW.region ?_
              refine AO.c ?_
              refine AO.c ?_
              refine AO.c ?_
              refine AO.gx ?_
              refine AO.gx ?_
              refine AO.c ?_
              refine AO.c ?_
              refine AO.gx ?_
              refine AO.gx ?_
              refine AO.c ?_
              refine AO.nil ?_
              refine SQ.normal ?_
              refine AW.iteB (GL.ev _) (fun h8 => ?_) (fun h8 => ?_)
              · skip
                skip
                refine AW.seq' ?_
                refine AW.region ?_
                refine AO.c ?_
                refine AO.c ?_
                refine AO.nil ?_
                refine SQ.normal ?_
                refine AW.ret ?_
                refine SQ.ret ?_
                refine Fin.ret (Gh.refl) noid1 ?_
                rfl
              · skip
                simp only [Bool.or_eq_false_iff, decide_eq_false_iff_not] at h8
                have hti : turn.toNat < 16 := by omega
                have htb := getD_b hB turn.toNat
                have hwb : b[turn.toNat]?.getD 0 = b.getD turn.toNat 0 := by simp
                have hne := xor_ne htb hby (by omega)
                have hxb := xor_byte (a := b.getD turn.toNat 0) (c := by_)
                have hno := load_turn k1 hti hne (by omega)
                have hld3 := exec_Load (b.set turn.toNat (Go.bits .xor .u8 (b.getD turn.toNat 0) by_)) (bytes_set hB hxb) (by rw [List.length_set]; omega)
                rw [hno] at hld3
                refine AW.skip ?_
                refine SQ.normal ?_
                refine AW.seq' ?_
                refine AW.region ?_
                refine AO.ww ?_
                refine AO.c ?_
                refine AO.ww ?_
                refine AO.c ?_
                refine AO.nil ?_
                refine SQ.normal ?_
                refine AW.seq' ?_
                refine AW.region ?_
                refine AO.c ?_
                refine AO.c ?_
                refine AO.c ?_
                refine AO.c ?_
                refine AO.oo ?_
                refine AO.o (by simp; omega) ?_
                refine AO.eq 163 (av' := .v (.int .u8 (b.getD turn.toNat 0))) (by rw [Nat.zero_add, List.nil_append]) ?_
                refine AO.c ?_
                refine AO.c ?_
                refine AO.oo ?_
                refine AO.sst ?_
                refine AO.nil ?_
                refine SQ.normal ?_
                refine AW.seq' ?_
                refine AW.region ?_
                refine AO.c ?_
                refine AO.ghost (Gh.freezeE 168 (li' := b.set turn.toNat (Go.bits .xor .u8 (b.getD turn.toNat 0) by_)) (by first | rfl | (simp; done)) (by simp) (by rw [List.length_set]; omega)) ?_
                refine AO.call1 Try.func11 rfl rfl (hld3) ?_
                refine AO.c ?_
                refine AO.c ?_
                refine AO.c ?_
                refine AO.ww ?_
                refine AO.sst ?_
                refine AO.c ?_
                refine AO.nil ?_
                refine SQ.normal ?_
                refine AW.seq' ?_
                refine AW.region ?_
                refine AO.c ?_
                refine AO.c ?_
                refine AO.gx ?_
                refine AO.gx ?_
                refine AO.gxoo ?_
                refine AO.c ?_
                refine AO.c ?_
                refine AO.nil ?_
                refine SQ.normal ?_
                refine AW.ret ?_
                refine Fin.ret (Gh.refl) noid1 ?_
                rfl
          · skip
            skip
            refine AW.skip ?_
            refine SQ.normal ?_
            refine AW.seq' ?_
            refine AW.seq' ?_
            refine AW.region ?_
            refine AO.c ?_
            refine AO.c ?_
            refine AO.c ?_
            refine AO.gx ?_
            refine AO.gx ?_
            refine AO.c ?_
            refine AO.c ?_
            refine AO.gx ?_
            refine AO.gx ?_
            refine AO.c ?_
            refine AO.nil ?_
            refine SQ.normal ?_
            refine AW.iteB (GL.ev _) (fun h8 => ?_) (fun h8 => ?_)
            · skip
              skip
              refine AW.seq' ?_
              refine AW.region ?_
              refine AO.c ?_
              refine AO.c ?_
              refine AO.nil ?_
              refine SQ.normal ?_
              refine AW.ret ?_
              refine SQ.ret ?_
              refine Fin.ret (Gh.refl) noid1 ?_
              rfl
            · skip
              simp only [Bool.or_eq_false_iff, decide_eq_false_iff_not] at h8
              have hti : turn.toNat < 16 := by omega
              have htb := getD_b hB turn.toNat
              have hwb : b[turn.toNat]?.getD 0 = b.getD turn.toNat 0 := by simp
              have hne := xor_ne htb hby (by omega)
              have hxb := xor_byte (a := b.getD turn.toNat 0) (c := by_)
              have hno := load_turn k1 hti hne (by omega)
              have hld3 := exec_Load (b.set turn.toNat (Go.bits .xor .u8 (b.getD turn.toNat 0) by_)) (bytes_set hB hxb) (by rw [List.length_set]; omega)
              rw [hno] at hld3
              refine AW.skip ?_
              refine SQ.normal ?_
              refine AW.seq' ?_
              refine AW.region ?_
              refine AO.ww ?_
              refine AO.c ?_
              refine AO.ww ?_
              refine AO.c ?_
              refine AO.nil ?_
              refine SQ.normal ?_
              refine AW.seq' ?_
              refine AW.region ?_
              refine AO.c ?_
              refine AO.c ?_
              refine AO.c ?_
              refine AO.c ?_
              refine AO.oo ?_
              refine AO.o (by simp; omega) ?_
              refine AO.eq 163 (av' := .v (.int .u8 (b.getD turn.toNat 0))) (by rw [Nat.zero_add, List.nil_append]) ?_
              refine AO.c ?_
              refine AO.c ?_
              refine AO.oo ?_
              refine AO.sst ?_
              refine AO.nil ?_
              refine SQ.normal ?_
              refine AW.seq' ?_
              refine AW.region ?_
              refine AO.c ?_
              refine AO.ghost (Gh.freezeE 168 (li' := b.set turn.toNat (Go.bits .xor .u8 (b.getD turn.toNat 0) by_)) (by first | rfl | (simp; done)) (by simp) (by rw [List.length_set]; omega)) ?_
              refine AO.call1 Try.func11 rfl rfl (hld3) ?_
              refine AO.c ?_
              refine AO.c ?_
              refine AO.c ?_
              refine AO.ww ?_
              refine AO.sst ?_
              refine AO.c ?_
              refine AO.nil ?_
              refine SQ.normal ?_
              refine AW.seq' ?_
              refine AW.region ?_
              refine AO.c ?_
              refine AO.c ?_
              refine AO.gx ?_
              refine AO.gx ?_
              refine AO.gxoo ?_
              refine AO.c ?_
              refine AO.c ?_
              refine AO.nil ?_
              refine SQ.normal ?_
              refine AW.ret ?_
              refine Fin.ret (Gh.refl) noid1 ?_
              rfl

theorem args_ExecApart {avs : List AV} (h : TArgs Try.prog [22, 3, 3, 5, 3] avs) : A0 Try.prog 3 avs (fun ret => ret = .v (.bool true)) := by
  obtain ⟨av1, b1, rfl, k1, h1⟩ := TArgs.inv_one rfl h
  obtain ⟨av2, b2, rfl, k2, h2⟩ := TArgs.inv_one rfl h1
  obtain ⟨av3, b3, rfl, k3, h3⟩ := TArgs.inv_one rfl h2
  obtain ⟨av4, b4, rfl, k4, h4⟩ := TArgs.inv_one rfl h3
  obtain ⟨av5, b5, rfl, k5, h5⟩ := TArgs.inv_one rfl h4
  obtain rfl := TArgs.inv_nil h5
  obtain ⟨b, he1, w1, q1⟩ := TA.inv_bytes (e := 5) k1
  cases he1
  obtain ⟨n2, he2, w2⟩ := k2.inv_int (k := .i64)
  cases he2
  obtain ⟨n3, he3, w3⟩ := k3.inv_int (k := .i64)
  cases he3
  obtain ⟨n4, he4, w4⟩ := k4.inv_int (k := .u8)
  cases he4
  obtain ⟨n5, he5, w5⟩ := k5.inv_int (k := .i64)
  cases he5
  have hby : 0 ≤ n4 ∧ n4 ≤ 255 := by
    simp [Lit.wf, IntKind.min, IntKind.max, IntKind.signed, IntKind.bits] at w4; omega
  cases hl : loadF b with
  | none => exact exec_ApartN b n2 n3 n4 n5 q1 w1 (wf_i64 w2) (wf_i64 w3) hby (wf_i64 w5) (fun _ => hl)
  | some p => obtain ⟨e, l⟩ := p; exact exec_ApartY b n2 n3 n4 n5 e l q1 w1 (wf_i64 w2) (wf_i64 w3) hby (wf_i64 w5) (fun _ => hl)


end Go.Proofs.Ytlapfdfbgckfcaa.AL
