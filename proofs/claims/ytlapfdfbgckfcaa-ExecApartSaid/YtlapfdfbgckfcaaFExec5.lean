/- What functions of the program compute, each by its own contract; the conditions stand with each. -/
import Derived.Test.YtlapfdfbgckfcaaFExec4
import Derived.Test.YtlapfdfbgckfcaaFSym
import Derived.Test.YtlapfdfbgckfcaaFShape4
namespace Go.Proofs.Ytlapfdfbgckfcaa.AL
open Go Go.RowKit Go.Proofs.Ytlapfdfbgckfcaa.Base
set_option linter.unusedVariables false
set_option linter.unusedSimpArgs false
set_option maxRecDepth 4000
set_option synthInstance.maxSize 1000
set_option synthInstance.maxHeartbeats 200000

def begL (entry many : Int) : List Int := magicL ++ numsF [2, 2, 62, 2, 1, 4, entry, 8, 64, 8, 0, 8, 0, 4, 64, 2, 56, 2, many, 2, 0, 2, 0, 2, 0, 2]
theorem numsF_len8 : ∀ l : List Int, (numsF l).length ≤ 8 * l.length
  | [] => by simp [numsF]
  | [_] => by simp [numsF]
  | a :: n :: r => by
    have := numsF_len8 r
    simp only [numsF, List.length_append, List.length_cons]
    have h : (if Wide n then dig (IntKind.u64.wrap a) n.toNat else []).length ≤ 8 := put8_len _ _
    omega
theorem begL_len (entry many : Int) : (begL entry many).length ≤ 300 := by
  unfold begL
  have := numsF_len8 [2, 2, 62, 2, 1, 4, entry, 8, 64, 8, 0, 8, 0, 4, 64, 2, 56, 2, many, 2, 0, 2, 0, 2, 0, 2]
  have h : magicL.length = 16 := rfl
  simp only [List.length_append, List.length_cons, List.length_nil] at this ⊢
  omega
theorem beg64 {entry many : Int} (h : I64 entry) (h' : I64 many) : ∀ x ∈ [2, 2, 62, 2, 1, 4, entry, 8, 64, 8, 0, 8, 0, 4, 64, 2, 56, 2, many, 2, 0, 2, 0, 2, 0, 2], I64 x := by
  intro x hx
  simp only [List.mem_cons, List.not_mem_nil, or_false] at hx
  rcases hx with rfl | rfl | rfl | rfl | rfl | rfl | rfl | rfl | rfl | rfl | rfl | rfl | rfl | rfl | rfl | rfl | rfl | rfl | rfl | rfl | rfl | rfl | rfl | rfl | rfl | rfl <;> first | assumption | (unfold I64; decide)
theorem load_beg : loadF (begL 7 0) = some (7, []) := by kernel_rfl
theorem beg_bytes : Bytes (begL 7 0) := by unfold Bytes; decide +kernel

theorem ref_begin (entry many : Int) (he : I64 entry) (hm : I64 many) : A0 Try.prog 64 [.v (.int .i64 (entry)), .v (.int .i64 (many))] (fun ret => ret = .rd 1 (bys (begL entry many))) := by
  have hbl := begL_len entry many
  have h64 := beg64 he hm
  have hn8 := numsF_len8 [2, 2, 62, 2, 1, 4, entry, 8, 64, 8, 0, 8, 0, 4, 64, 2, 56, 2, many, 2, 0, 2, 0, 2, 0, 2]
  have hn9 : ([2, 2, 62, 2, 1, 4, entry, 8, 64, 8, 0, 8, 0, 4, 64, 2, 56, 2, many, 2, 0, 2, 0, 2, 0, 2] : List Int).length = 26 := rfl
  refine A0.body 13 Try.func64 rfl rfl Try.ntmps64 fun base n0 => ?_
  refine AW.seq' ?_
  refine AW.region ?_
  refine AO.c ?_
  refine AO.nil ?_
  refine SQ.normal ?_
  refine AW.seq' ?_
  refine AW.region ?_
  refine AO.ww ?_
  refine AO.c ?_
  refine AO.nil ?_
  refine SQ.normal ?_
  refine AW.seq' ?_
  refine AW.region ?_
  refine AO.c ?_
  refine AO.c ?_
  refine AO.c ?_
  refine AO.rr ?_
  refine AO.eq 10 (av' := .rd 1 (List.map iA [2, 2, 62, 2, 1, 4, entry, 8, 64, 8, 0, 8, 0, 4, 64, 2, 56, 2, many, 2, 0, 2, 0, 2, 0, 2])) rfl ?_
  refine AO.call1 Try.func65 rfl rfl (ref_Nums _ (by simp) h64) ?_
  refine AO.ww ?_
  refine AO.c ?_
  refine AO.nil ?_
  refine SQ.normal ?_
  refine AW.ret ?_
  refine Fin.ret (Gh.freezeE 4 (li' := begL entry many) rfl (by show (magicL ++ _).length = _; rw [List.length_append]; rfl) (by omega)) noid1 ?_
  rfl
set_option maxHeartbeats 1000000 in
theorem ref_Segs0 (p : PlanD) (hz : ∀ s, fullB p s = false) : A0 Try.prog 63 [.agg (planA p)] (fun ret => ret = .rd 5 []) := by
  refine A0.body 72 Try.func63 rfl rfl Try.ntmps63 fun base n0 => ?_
  refine AW.seq' ?_
  refine AW.region ?_
  refine AO.ww ?_
  refine AO.c ?_
  refine AO.nil ?_
  refine SQ.normal ?_
  refine AW.seq' ?_
  refine AW.region ?_
  refine AO.c ?_
  refine AO.nil ?_
  refine SQ.normal ?_
  refine AW.seq' ?_
  refine AW.region ?_
  refine AO.rr ?_
  refine AO.c ?_
  refine AO.nil ?_
  refine SQ.normal ?_
  refine AW.seq' ?_
  refine AW.region ?_
  refine AO.rr ?_
  refine AO.c ?_
  refine AO.nil ?_
  refine SQ.normal ?_
  refine AW.seq' ?_
  refine AW.region ?_
  refine AO.rr ?_
  refine AO.c ?_
  refine AO.nil ?_
  refine SQ.normal ?_
  refine AW.seq' ?_
  refine AW.seq' ?_
  refine AW.region ?_
  refine AO.c ?_
  refine AO.nil ?_
  refine SQ.normal ?_
  refine AW.block' ?_
  refine AW.loopU [.f, .k, .f, .k, .k, .k, .k, .k, .F, .F, .F, .F, .F, .F, .F, .F] (fun (i : Nat) => [(3, .v (.slice none 0 0)), (7, .v (.int .i64 (i)))]) (fun i => Hn n0 [some (.box 90 (planA p))]) (fun m i => i ≤ 3 ∧ m = 3 - i) (3) (0) ⟨by omega, by omega⟩ (by first | rfl | (simp; done)) (by first | rfl | (simp; done)) ?_
  rintro m0 i ⟨hx1, hx2⟩
  refine AW.seq' ?_
  refine AW.seq' ?_
  refine AW.region ?_
  refine AO.c ?_
  refine AO.c ?_
  refine AO.nil ?_
  refine SQ.normal ?_
  refine AW.iteB (GL.ev _) (fun h0 => ?_) (fun h0 => ?_)
  · skip
    rw [decide_eq_true_eq] at h0
    refine AW.skip ?_
    refine SQ.normal ?_
    refine AW.seq' ?_
    refine AW.block' ?_
    refine AW.seq' ?_
    refine AW.region ?_
    refine AO.c ?_
    refine AO.c ?_
    refine AO.call1 Try.func112 rfl rfl ((show A0 Try.prog 112 [.agg (planA p), .v (.int .i64 (i : Int))] (fun r => r = .v (.bool false)) by have h := ref_Full p i; rw [hz] at h; exact h)) ?_
    refine AO.c ?_
    refine AO.nil ?_
    refine SQ.normal ?_
    refine AW.seq' ?_
    refine AW.seq' ?_
    refine AW.region ?_
    refine AO.c ?_
    refine AO.c ?_
    refine AO.nil ?_
    refine SQ.normal ?_
    refine AW.iteB (GL.ev _) (fun h1 => ?_) (fun h1 => ?_)
    · skip
      skip
      refine AW.exit ?_
      refine SQ.exit <| BQ.exit ?_
      refine SQ.normal ?_
      refine AW.region ?_
      refine AO.c ?_
      refine AO.oo ?_
      refine AO.c ?_
      refine AO.nil ?_
      exact AW.backU [.f, .k, .f, .k, .k, .k, .k, .k, .F, .F, .F, .F, .F, .F, .F, .F] (m0 - 1) (i + 1) (by omega) (by (try dsimp only); exact ⟨by omega, by omega⟩) (by first | rfl | (simp; done)) (by first | rfl | (simp; done))
    · skip
      exfalso
      cases h1
  · skip
    skip
    refine AW.exit ?_
    refine SQ.exit <| AW.out <| LU.exit <| BQ.exit ?_
    refine SQ.normal ?_
    refine AW.seq' ?_
    refine AW.region ?_
    refine AO.c ?_
    refine AO.c ?_
    refine AO.nil ?_
    refine SQ.normal ?_
    refine AW.ret ?_
    refine Fin.ret (Gh.tell 2 (.rd 5 [])) noid1 ?_
    rfl

end Go.Proofs.Ytlapfdfbgckfcaa.AL
