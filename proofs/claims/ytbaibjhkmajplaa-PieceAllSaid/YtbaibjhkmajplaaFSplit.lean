/- What functions of the program compute, each by its own contract; the conditions stand with each. -/
import Derived.Test.YtbaibjhkmajplaaFShape4
namespace Go.Proofs.Ytbaibjhkmajplaa.AL
open Go Go.RowKit Go.Proofs.Ytbaibjhkmajplaa.Base
set_option linter.unusedVariables false
set_option linter.unusedSimpArgs false
set_option maxRecDepth 4000

theorem and_pow {n : Int} (k : Nat) (h0 : 0 ≤ n) (h1 : n ≤ 9223372036854775807) (hk : k < 63) : IntKind.i64.wrap (BitVec.ofInt IntKind.i64.bits n &&& BitVec.ofInt IntKind.i64.bits (2 ^ k : Nat)).toNat = if n / (2 ^ k : Nat) % 2 = 1 then (2 ^ k : Nat) else 0 := by
  obtain ⟨m, rfl⟩ := Int.eq_ofNat_of_zero_le h0
  have hp : (2 : Nat) ^ k < 2 ^ 63 := Nat.pow_lt_pow_right (by decide) hk
  have e1 : (BitVec.ofInt IntKind.i64.bits (m : Int)).toNat = m := by
    simp only [IntKind.bits, BitVec.ofInt_natCast, BitVec.toNat_ofNat]
    exact Nat.mod_eq_of_lt (by omega)
  have e2 : (BitVec.ofInt IntKind.i64.bits ((2 ^ k : Nat) : Int)).toNat = 2 ^ k := by
    simp only [IntKind.bits, BitVec.ofInt_natCast, BitVec.toNat_ofNat]
    exact Nat.mod_eq_of_lt (by omega)
  have e3 : m &&& 2 ^ k = if m / 2 ^ k % 2 = 1 then 2 ^ k else 0 := by
    have hb : m.testBit k = decide (m / 2 ^ k % 2 = 1) := by rw [Nat.testBit_eq_decide_div_mod_eq]
    apply Nat.eq_of_testBit_eq
    intro i
    rw [Nat.testBit_and, Nat.testBit_two_pow]
    by_cases hi : k = i
    · subst hi
      rw [hb]
      by_cases h : m / 2 ^ k % 2 = 1 <;> simp [h, Nat.testBit_two_pow]
    · split <;> simp [hi, Nat.testBit_two_pow]
  rw [BitVec.toNat_and, e1, e2, e3]
  have hc : ((m : Int) / ((2 ^ k : Nat) : Int) % 2 = 1) ↔ (m / 2 ^ k % 2 = 1) := by
    rw [← Int.natCast_ediv]; omega
  by_cases h : m / 2 ^ k % 2 = 1
  · rw [if_pos h, if_pos (hc.2 h)]
    exact wi64' (by omega)
  · rw [if_neg h, if_neg (fun h' => h (hc.1 h'))]
    exact wi64' (by omega)
theorem and16 {n : Int} (h0 : 0 ≤ n) (h1 : n ≤ 9223372036854775807) : decide (IntKind.i64.wrap (BitVec.ofInt IntKind.i64.bits n &&& BitVec.ofInt IntKind.i64.bits 16).toNat = 0) = !hasF n 16 := by
  have := and_pow 4 h0 h1 (by decide)
  rw [show ((2 ^ 4 : Nat) : Int) = 16 from rfl] at this
  rw [this]
  unfold hasF
  by_cases h : n / 16 % 2 = 1 <;> simp [h, h0]
theorem and32 {n : Int} (h0 : 0 ≤ n) (h1 : n ≤ 9223372036854775807) : decide (IntKind.i64.wrap (BitVec.ofInt IntKind.i64.bits n &&& BitVec.ofInt IntKind.i64.bits 32).toNat ≠ 0) = hasF n 32 := by
  have := and_pow 5 h0 h1 (by decide)
  rw [show ((2 ^ 5 : Nat) : Int) = 32 from rfl] at this
  rw [this]
  unfold hasF
  by_cases h : n / 32 % 2 = 1 <;> simp [h, h0]
def splitZ : Int → Int → List Int → List (Int × Int)
  | _, _, [] => []
  | at_, i, x :: xs => if x = 0 then (at_, i + 1 - at_) :: splitZ (i + 1) (i + 1) xs else splitZ at_ (i + 1) xs
/-- Pieces of so many bytes; fuel: how many there may be. -/
def splitE (e len : Int) : Nat → Int → List (Int × Int)
  | 0, _ => []
  | k + 1, at_ => if at_ + e ≤ len then (at_, e) :: splitE e len k (at_ + e) else []
def splitB (s : SecD) : List (Int × Int) :=
  if hasF s.flags 16 = false then [(0, s.size)] else if hasF s.flags 32 = true then splitZ 0 0 s.data else if s.ent > 0 then splitE s.ent s.data.length s.data.length 0 else []
def splitR (str : Bool) (e : Int) : Int → Int → List Int → List (Int × Int)
  | _, _, [] => []
  | at_, i, x :: xs => if (if str then x = 0 else i + 1 - at_ = e) then (at_, i + 1 - at_) :: splitR str e (i + 1) (i + 1) xs else splitR str e at_ (i + 1) xs
def splitRB (s : SecD) : List (Int × Int) := if hasF s.flags 16 = false then [(0, s.size)] else splitR (hasF s.flags 32) s.ent 0 0 s.data
theorem drop_getD0 {l : List Int} {i : Nat} (h : i < l.length) : l.drop i = l.getD i 0 :: l.drop (i + 1) := by
  rw [List.drop_eq_getElem_cons h]; simp [h]

theorem piece_Split (s : SecD) (hs : s.ok) (hf : 0 ≤ s.flags) (hd : s.data.length ≤ 1000000000) (he : s.ent ≤ 1000000000) : A0 Try.prog 23 [.agg (secA s)] (fun ret => ret = .rd 2 ((splitB s).map pcA)) := by
  have hs0 := hs
  obtain ⟨q1, q2, q3, q4, q5, q6, q7, q8, q9, q10, q11⟩ := hs
  unfold I64 at q3 q5
  refine A0.body 68 Try.func23 rfl rfl Try.ntmps23 fun base n0 => ?_
  refine AW.seq' ?_
  refine AW.region ?_
  refine AO.ww ?_
  refine AO.c ?_
  refine AO.nil ?_
  refine SQ.normal ?_
  refine AW.seq' ?_
  refine AW.region ?_
  refine AO.c ?_
  refine AO.nil ?_
  refine SQ.normal ?_
  refine AW.seq' ?_
  refine AW.block' ?_
  refine AW.seq' ?_
  refine AW.region ?_
  refine AO.c ?_
  refine AO.c ?_
  refine AO.c ?_
  refine AO.c ?_
  refine AO.c ?_
  refine AO.nil ?_
  refine SQ.normal ?_
  refine AW.iteB (GL.ev _) (fun h0 => ?_) (fun h0 => ?_)
  · skip
    rw [and16 hf q3.2] at h0
    refine AW.seq' ?_
    refine AW.region ?_
    refine AO.c ?_
    refine AO.c ?_
    refine AO.c ?_
    refine AO.rr ?_
    refine AO.c ?_
    refine AO.nil ?_
    refine SQ.normal ?_
    refine AW.ret ?_
    refine BQ.ret <| SQ.ret ?_
    refine Fin.ret (Gh.refl) noid1 ?_
    unfold splitB; rw [if_pos (by simpa using h0)]; rfl
  · skip
    rw [and16 hf q3.2, Bool.not_eq_false'] at h0
    refine AW.seq' ?_
    refine AW.region ?_
    refine AO.c ?_
    refine AO.c ?_
    refine AO.c ?_
    refine AO.c ?_
    refine AO.c ?_
    refine AO.nil ?_
    refine SQ.normal ?_
    refine AW.iteB (GL.ev _) (fun h1 => ?_) (fun h1 => ?_)
    · skip
      rw [and32 hf q3.2] at h1
      refine AW.seq' ?_
      refine AW.region ?_
      refine AO.c ?_
      refine AO.nil ?_
      refine SQ.normal ?_
      refine AW.seq' ?_
      refine AW.region ?_
      refine AO.c ?_
      refine AO.c ?_
      refine AO.c ?_
      refine AO.c ?_
      refine AO.nil ?_
      refine SQ.normal ?_
      refine AW.block' ?_
      refine AW.ghost (Gh.adoptM 3 33 2) ?_
      refine AW.loopU4 [.f, .f, .f, .k, .k, .F, .F, .f, .f, .k, .k, .k, .F, .F, .F, .F, .F, .f, .f] (fun (i ep : Nat) (p : Int) (out : List (Int × Int)) => [(3, .own (n0 + 1) ep 0 out.length), (4, .v (.int .i64 (p))), (25, .v (.int .i64 (i)))]) (fun i ep p out => Hn n0 [some (.box 25 (secA s)), some (.row 33 2 (ep) ((out).map pcA))]) (fun m i ep p out => i ≤ s.data.length ∧ m = s.data.length - i ∧ (0 ≤ p ∧ p ≤ i ∧ out.length ≤ i) ∧ splitZ 0 0 s.data = out ++ splitZ p i (s.data.drop i)) (s.data.length) (0) (0) (0) ([]) ⟨by omega, by omega, by simp, rfl⟩ (by first | rfl | (simp; done)) (by first | rfl | (simp; done)) ?_
      rintro m0 i ep p out ⟨hx1, hx2, hx3, hx4⟩
      refine AW.seq' ?_
      refine AW.region ?_
      refine AO.c ?_
      refine AO.nil ?_
      refine SQ.normal ?_
      refine AW.seq' ?_
      refine AW.iteB (GL.ev _) (fun h2 => ?_) (fun h2 => ?_)
      · skip
        rw [decide_eq_true_eq] at h2
        have hlt : i < s.data.length := by omega
        rw [drop_getD0 hlt, splitZ] at hx4
        refine AW.skip ?_
        refine SQ.normal ?_
        refine AW.seq' ?_
        refine AW.block' ?_
        refine AW.seq' ?_
        refine AW.region ?_
        refine AO.c ?_
        refine AO.oo ?_
        refine AO.c ?_
        refine AO.c ?_
        refine AO.c ?_
        refine AO.nil ?_
        refine SQ.normal ?_
        refine AW.seq' ?_
        refine AW.region ?_
        refine AO.c ?_
        refine AO.c ?_
        refine AO.nil ?_
        refine SQ.normal ?_
        refine AW.iteB (GL.ev _) (fun h3 => ?_) (fun h3 => ?_)
        · skip
          rw [decide_eq_true_eq] at h3
          rw [if_pos h3] at hx4
          refine AW.seq' ?_
          refine AW.region ?_
          refine AO.c ?_
          refine AO.c ?_
          refine AO.c ?_
          refine AO.oo ?_
          refine AO.c ?_
          refine AO.oo ?_
          refine AO.c ?_
          refine AO.rr ?_
          refine AO.ww ?_
          refine AO.c ?_
          refine AO.nil ?_
          refine SQ.normal ?_
          refine AW.region ?_
          refine AO.c ?_
          refine AO.oo ?_
          refine AO.c ?_
          refine AO.nil ?_
          refine BQ.normal ?_
          refine SQ.normal ?_
          refine AW.region ?_
          refine AO.oo ?_
          refine AO.c ?_
          refine AO.nil ?_
          exact AW.backU [.f, .f, .f, .k, .k, .F, .F, .f, .f, .k, .k, .k, .F, .F, .F, .F, .F, .f, .f] (m0 - 1) (i + 1, ep + 1, (i : Int) + 1, out ++ [(p, (i : Int) + 1 - p)]) (by omega) (by (try dsimp only); exact ⟨by omega, by omega, ⟨by omega, by omega, by simp; omega⟩, by rw [hx4]; simp⟩) (by first | rfl | (simp; done)) (by first | rfl | (simp; done))
        · skip
          rw [decide_eq_false_iff_not] at h3
          rw [if_neg h3] at hx4
          refine AW.skip ?_
          refine BQ.normal ?_
          refine SQ.normal ?_
          refine AW.region ?_
          refine AO.oo ?_
          refine AO.c ?_
          refine AO.nil ?_
          exact AW.backU [.f, .f, .f, .k, .k, .F, .F, .f, .f, .k, .k, .k, .F, .F, .F, .F, .F, .f, .f] (m0 - 1) (i + 1, ep, p, out) (by omega) (by (try dsimp only); exact ⟨by omega, by omega, ⟨by omega, by omega, by omega⟩, hx4⟩) (by first | rfl | (simp; done)) (by first | rfl | (simp; done))
      · skip
        rw [decide_eq_false_iff_not] at h2
        refine AW.exit ?_
        refine SQ.exit <| AW.out <| LU.exit <| BQ.exit ?_
        refine BQ.normal ?_
        refine SQ.normal ?_
        refine AW.seq' ?_
        refine AW.region ?_
        refine AO.c ?_
        refine AO.c ?_
        refine AO.nil ?_
        refine SQ.normal ?_
        refine AW.ret ?_
        refine Fin.ret (Gh.freezeM 2 pcA out rfl rfl (by omega)) noid1 ?_
        unfold splitB; rw [if_neg (by simp [h0]), if_pos h1, hx4, List.drop_of_length_le (by omega), splitZ, List.append_nil]; rfl
    · skip
      rw [and32 hf q3.2] at h1
      refine AW.seq' ?_
      refine AW.region ?_
      refine AO.c ?_
      refine AO.c ?_
      refine AO.c ?_
      refine AO.c ?_
      refine AO.nil ?_
      refine SQ.normal ?_
      refine AW.iteB (GL.ev _) (fun h4 => ?_) (fun h4 => ?_)
      · skip
        rw [decide_eq_true_eq] at h4
        refine AW.seq' ?_
        refine AW.region ?_
        refine AO.c ?_
        refine AO.nil ?_
        refine SQ.normal ?_
        refine AW.block' ?_
        refine AW.ghost (Gh.adoptM 3 33 2) ?_
        refine AW.loopU3 [.f, .k, .f, .k, .f, .f, .f, .k, .F, .F, .F, .F, .F, .F, .F, .f, .f, .f, .f] (fun (ep : Nat) (p : Int) (out : List (Int × Int)) => [(3, .own (n0 + 1) ep 0 out.length), (7, .v (.int .i64 (p)))]) (fun ep p out => Hn n0 [some (.box 25 (secA s)), some (.row 33 2 (ep) ((out).map pcA))]) (fun m ep p out => (0 ≤ p ∧ p ≤ s.data.length ∧ (out.length : Int) ≤ p ∧ (s.data.length : Int) - p ≤ m) ∧ splitE s.ent s.data.length s.data.length 0 = out ++ splitE s.ent s.data.length m p) (s.data.length) (0) (0) ([]) ⟨by simp, rfl⟩ (by first | rfl | (simp; done)) (by first | rfl | (simp; done)) ?_
        rintro m1 ep p out ⟨hx3, hx4⟩
        refine AW.seq' ?_
        refine AW.seq' ?_
        refine AW.region ?_
        refine AO.c ?_
        refine AO.c ?_
        refine AO.c ?_
        refine AO.oo ?_
        refine AO.c ?_
        refine AO.c ?_
        refine AO.c ?_
        refine AO.c ?_
        refine AO.nil ?_
        refine SQ.normal ?_
        refine AW.iteB (GL.ev _) (fun h5 => ?_) (fun h5 => ?_)
        · skip
          rw [decide_eq_true_eq] at h5
          have hk0 : m1 ≠ 0 := fun h => by subst h; omega
          obtain ⟨k, rfl⟩ : ∃ k, m1 = k + 1 := ⟨m1 - 1, by omega⟩
          rw [splitE, if_pos h5] at hx4
          refine AW.skip ?_
          refine SQ.normal ?_
          refine AW.seq' ?_
          refine AW.block' ?_
          refine AW.region ?_
          refine AO.c ?_
          refine AO.c ?_
          refine AO.c ?_
          refine AO.c ?_
          refine AO.c ?_
          refine AO.rr ?_
          refine AO.ww ?_
          refine AO.c ?_
          refine AO.nil ?_
          refine BQ.normal ?_
          refine SQ.normal ?_
          refine AW.region ?_
          refine AO.c ?_
          refine AO.c ?_
          refine AO.c ?_
          refine AO.oo ?_
          refine AO.c ?_
          refine AO.nil ?_
          exact AW.backU [.f, .k, .f, .k, .f, .f, .f, .k, .F, .F, .F, .F, .F, .F, .F, .f, .f, .f, .f] (k) (ep + 1, p + s.ent, out ++ [(p, s.ent)]) (by omega) (by (try dsimp only); exact ⟨⟨by omega, by omega, by simp; omega, by omega⟩, by rw [hx4]; simp⟩) (by first | rfl | (simp; done)) (by first | rfl | (simp; done))
        · skip
          rw [decide_eq_false_iff_not] at h5
          refine AW.exit ?_
          refine SQ.exit <| AW.out <| LU.exit <| BQ.exit ?_
          refine BQ.normal ?_
          refine SQ.normal ?_
          refine AW.seq' ?_
          refine AW.region ?_
          refine AO.c ?_
          refine AO.c ?_
          refine AO.nil ?_
          refine SQ.normal ?_
          refine AW.ret ?_
          refine Fin.ret (Gh.freezeM 2 pcA out rfl rfl (by omega)) noid1 ?_
          unfold splitB; rw [if_neg (by simp [h0]), if_neg (by simp [h1]), if_pos h4, hx4]
          have : splitE s.ent s.data.length m1 p = [] := by
            cases m1 with
            | zero => rfl
            | succ k => rw [splitE, if_neg h5]
          rw [this, List.append_nil]; rfl
      · skip
        rw [decide_eq_false_iff_not] at h4
        refine AW.skip ?_
        refine BQ.normal ?_
        refine SQ.normal ?_
        refine AW.seq' ?_
        refine AW.region ?_
        refine AO.c ?_
        refine AO.c ?_
        refine AO.nil ?_
        refine SQ.normal ?_
        refine AW.ret ?_
        refine Fin.ret (Gh.nilM (α := Int × Int) 2 2 pcA) noid1 ?_
        unfold splitB; rw [if_neg (by simp [h0]), if_neg (by simp [h1]), if_neg h4]; rfl
theorem ref_Split (s : SecD) (hs : s.ok) (hd : s.data.length ≤ 1000000000) : A0 Try.prog 24 [.agg (secA s)] (fun ret => ret = .rd 2 ((splitRB s).map pcA)) := by
  have hs0 := hs
  obtain ⟨q1, q2, q3, q4, q5, q6, q7, q8, q9, q10, q11⟩ := hs
  unfold I64 at q3 q5
  refine A0.body 54 Try.func24 rfl rfl Try.ntmps24 fun base n0 => ?_
  refine AW.seq' ?_
  refine AW.region ?_
  refine AO.ww ?_
  refine AO.c ?_
  refine AO.nil ?_
  refine SQ.normal ?_
  refine AW.seq' ?_
  refine AW.region ?_
  refine AO.c ?_
  refine AO.call1 Try.func27 rfl rfl (ref_Has _ _ hs0 (by omega)) ?_
  refine AO.c ?_
  refine AO.nil ?_
  refine SQ.normal ?_
  refine AW.seq' ?_
  refine AW.region ?_
  refine AO.c ?_
  refine AO.call1 Try.func27 rfl rfl (ref_Has _ _ hs0 (by omega)) ?_
  refine AO.c ?_
  refine AO.nil ?_
  refine SQ.normal ?_
  refine AW.seq' ?_
  refine AW.seq' ?_
  refine AW.region ?_
  refine AO.c ?_
  refine AO.c ?_
  refine AO.nil ?_
  refine SQ.normal ?_
  refine AW.iteB (GL.ev _) (fun h0 => ?_) (fun h0 => ?_)
  · skip
    skip
    refine AW.seq' ?_
    refine AW.region ?_
    refine AO.c ?_
    refine AO.c ?_
    refine AO.c ?_
    refine AO.rr ?_
    refine AO.c ?_
    refine AO.nil ?_
    refine SQ.normal ?_
    refine AW.ret ?_
    refine SQ.ret ?_
    refine Fin.ret (Gh.refl) noid1 ?_
    unfold splitRB; rw [if_pos (by simpa using h0)]; rfl
  · skip
    rw [Bool.not_eq_false'] at h0
    refine AW.skip ?_
    refine SQ.normal ?_
    refine AW.seq' ?_
    refine AW.region ?_
    refine AO.c ?_
    refine AO.nil ?_
    refine SQ.normal ?_
    refine AW.seq' ?_
    refine AW.region ?_
    refine AO.c ?_
    refine AO.nil ?_
    refine SQ.normal ?_
    refine AW.seq' ?_
    refine AW.seq' ?_
    refine AW.region ?_
    refine AO.c ?_
    refine AO.nil ?_
    refine SQ.normal ?_
    refine AW.block' ?_
    refine AW.ghost (Gh.adoptM 5 34 2) ?_
    refine AW.loopU4 [.f, .k, .f, .f, .k, .k, .k, .k, .F, .F, .F, .F, .F, .f, .f, .f, .f, .f, .f] (fun (i ep : Nat) (p : Int) (out : List (Int × Int)) => [(5, .own (n0 + 1) ep 0 out.length), (6, .v (.int .i64 (p))), (7, .v (.int .i64 (i)))]) (fun i ep p out => Hn n0 [some (.box 25 (secA s)), some (.row 34 2 (ep) ((out).map pcA))]) (fun m i ep p out => i ≤ s.data.length ∧ m = s.data.length - i ∧ (0 ≤ p ∧ p ≤ i ∧ out.length ≤ i) ∧ splitR (hasF s.flags 32) s.ent 0 0 s.data = out ++ splitR (hasF s.flags 32) s.ent p i (s.data.drop i)) (s.data.length) (0) (0) (0) ([]) ⟨by omega, by omega, by simp, rfl⟩ (by first | rfl | (simp; done)) (by first | rfl | (simp; done)) ?_
    rintro m0 i ep p out ⟨hx1, hx2, hx3, hx4⟩
    refine AW.seq' ?_
    refine AW.seq' ?_
    refine AW.region ?_
    refine AO.c ?_
    refine AO.c ?_
    refine AO.c ?_
    refine AO.c ?_
    refine AO.c ?_
    refine AO.nil ?_
    refine SQ.normal ?_
    refine AW.iteB (GL.ev _) (fun h1 => ?_) (fun h1 => ?_)
    · skip
      rw [decide_eq_true_eq] at h1
      have hlt : i < s.data.length := by omega
      rw [drop_getD0 hlt, splitR] at hx4
      refine AW.skip ?_
      refine SQ.normal ?_
      refine AW.seq' ?_
      refine AW.block' ?_
      refine AW.seq' ?_
      refine AW.region ?_
      refine AO.c ?_
      refine AO.c ?_
      refine AO.c ?_
      refine AO.oo ?_
      refine AO.c ?_
      refine AO.c ?_
      refine AO.c ?_
      refine AO.nil ?_
      refine SQ.normal ?_
      refine AW.seq' ?_
      refine AW.seq' ?_
      refine AW.region ?_
      refine AO.c ?_
      refine AO.c ?_
      refine AO.nil ?_
      refine SQ.normal ?_
      refine AW.iteB (GL.ev _) (fun h2 => ?_) (fun h2 => ?_)
      · skip
        rw [Bool.not_eq_true'] at h2
        rw [h2] at hx4
        simp only [Bool.false_eq_true, if_false] at hx4
        refine AW.region ?_
        refine AO.c ?_
        refine AO.oo ?_
        refine AO.c ?_
        refine AO.oo ?_
        refine AO.c ?_
        refine AO.c ?_
        refine AO.c ?_
        refine AO.c ?_
        refine AO.nil ?_
        refine SQ.normal ?_
        refine AW.seq' ?_
        refine AW.region ?_
        refine AO.c ?_
        refine AO.nil ?_
        refine SQ.normal ?_
        refine AW.iteB (GL.ev _) (fun h3 => ?_) (fun h3 => ?_)
        · skip
          rw [decide_eq_true_eq] at h3
          rw [if_pos h3] at hx4
          refine AW.seq' ?_
          refine AW.region ?_
          refine AO.c ?_
          refine AO.c ?_
          refine AO.c ?_
          refine AO.oo ?_
          refine AO.c ?_
          refine AO.oo ?_
          refine AO.c ?_
          refine AO.rr ?_
          refine AO.ww ?_
          refine AO.c ?_
          refine AO.nil ?_
          refine SQ.normal ?_
          refine AW.region ?_
          refine AO.c ?_
          refine AO.oo ?_
          refine AO.c ?_
          refine AO.nil ?_
          refine BQ.normal ?_
          refine SQ.normal ?_
          refine AW.region ?_
          refine AO.c ?_
          refine AO.oo ?_
          refine AO.c ?_
          refine AO.nil ?_
          exact AW.backU [.f, .k, .f, .f, .k, .k, .k, .k, .F, .F, .F, .F, .F, .f, .f, .f, .f, .f, .f] (m0 - 1) (i + 1, ep + 1, (i : Int) + 1, out ++ [(p, (i : Int) + 1 - p)]) (by omega) (by (try dsimp only); exact ⟨by omega, by omega, ⟨by omega, by omega, by simp; omega⟩, by rw [h2]; rw [hx4]; simp⟩) (by first | rfl | (simp; done)) (by first | rfl | (simp; done))
        · skip
          rw [decide_eq_false_iff_not] at h3
          rw [if_neg h3] at hx4
          refine AW.skip ?_
          refine BQ.normal ?_
          refine SQ.normal ?_
          refine AW.region ?_
          refine AO.c ?_
          refine AO.oo ?_
          refine AO.c ?_
          refine AO.nil ?_
          exact AW.backU [.f, .k, .f, .f, .k, .k, .k, .k, .F, .F, .F, .F, .F, .f, .f, .f, .f, .f, .f] (m0 - 1) (i + 1, ep, p, out) (by omega) (by (try dsimp only); exact ⟨by omega, by omega, ⟨by omega, by omega, by omega⟩, by rw [h2]; exact hx4⟩) (by first | rfl | (simp; done)) (by first | rfl | (simp; done))
      · skip
        rw [Bool.not_eq_false'] at h2
        rw [h2] at hx4
        simp only [if_true] at hx4
        refine AW.skip ?_
        refine SQ.normal ?_
        refine AW.seq' ?_
        refine AW.region ?_
        refine AO.c ?_
        refine AO.nil ?_
        refine SQ.normal ?_
        refine AW.iteB (GL.ev _) (fun h3 => ?_) (fun h3 => ?_)
        · skip
          rw [decide_eq_true_eq] at h3
          rw [if_pos h3] at hx4
          refine AW.seq' ?_
          refine AW.region ?_
          refine AO.c ?_
          refine AO.c ?_
          refine AO.c ?_
          refine AO.oo ?_
          refine AO.c ?_
          refine AO.oo ?_
          refine AO.c ?_
          refine AO.rr ?_
          refine AO.ww ?_
          refine AO.c ?_
          refine AO.nil ?_
          refine SQ.normal ?_
          refine AW.region ?_
          refine AO.c ?_
          refine AO.oo ?_
          refine AO.c ?_
          refine AO.nil ?_
          refine BQ.normal ?_
          refine SQ.normal ?_
          refine AW.region ?_
          refine AO.c ?_
          refine AO.oo ?_
          refine AO.c ?_
          refine AO.nil ?_
          exact AW.backU [.f, .k, .f, .f, .k, .k, .k, .k, .F, .F, .F, .F, .F, .f, .f, .f, .f, .f, .f] (m0 - 1) (i + 1, ep + 1, (i : Int) + 1, out ++ [(p, (i : Int) + 1 - p)]) (by omega) (by (try dsimp only); exact ⟨by omega, by omega, ⟨by omega, by omega, by simp; omega⟩, by rw [h2]; rw [hx4]; simp⟩) (by first | rfl | (simp; done)) (by first | rfl | (simp; done))
        · skip
          rw [decide_eq_false_iff_not] at h3
          rw [if_neg h3] at hx4
          refine AW.skip ?_
          refine BQ.normal ?_
          refine SQ.normal ?_
          refine AW.region ?_
          refine AO.c ?_
          refine AO.oo ?_
          refine AO.c ?_
          refine AO.nil ?_
          exact AW.backU [.f, .k, .f, .f, .k, .k, .k, .k, .F, .F, .F, .F, .F, .f, .f, .f, .f, .f, .f] (m0 - 1) (i + 1, ep, p, out) (by omega) (by (try dsimp only); exact ⟨by omega, by omega, ⟨by omega, by omega, by omega⟩, by rw [h2]; exact hx4⟩) (by first | rfl | (simp; done)) (by first | rfl | (simp; done))
    · skip
      rw [decide_eq_false_iff_not] at h1
      refine AW.exit ?_
      refine SQ.exit <| AW.out <| LU.exit <| BQ.exit ?_
      refine SQ.normal ?_
      refine AW.seq' ?_
      refine AW.region ?_
      refine AO.c ?_
      refine AO.c ?_
      refine AO.nil ?_
      refine SQ.normal ?_
      refine AW.ret ?_
      refine Fin.ret (Gh.freezeM 2 pcA out rfl rfl (by omega)) noid1 ?_
      unfold splitRB; rw [if_neg (by simp [h0]), hx4, List.drop_of_length_le (by omega), splitR, List.append_nil]; rfl

end Go.Proofs.Ytbaibjhkmajplaa.AL
