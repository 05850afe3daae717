/- What functions of the program compute, each by its own contract; the conditions stand with each. -/
import Derived.Test.YtlapfdfbgckfcaaFData
import Derived.Test.YtlapfdfbgckfcaaAlH
namespace Go.Proofs.Ytlapfdfbgckfcaa.AL
open Go Go.RowKit Go.Proofs.Ytlapfdfbgckfcaa.Base
set_option linter.unusedVariables false
set_option linter.unusedSimpArgs false
set_option maxRecDepth 4000
set_option synthInstance.maxSize 1000
set_option synthInstance.maxHeartbeats 200000

def numAt (b : List Int) (at_ n : Int) : Int := num ((b.drop at_.toNat).take n.toNat)
theorem numAt_range {b : List Int} (hB : Bytes b) (at_ n : Int) : 0 ≤ numAt b at_ n ∧ numAt b at_ n < 256 ^ n.toNat := by
  have h := (hB.drop at_.toNat).take n.toNat
  refine ⟨num_nonneg h, Int.lt_of_lt_of_le (num_lt h) (pow_le_pow (by rw [List.length_take]; omega))⟩
theorem le_GetT (b : List Int) (at_ n : Int) (hB : Bytes b) (hb : b.length ≤ 9223372036854775807) (h : HasB b at_ n) : A0 Try.prog 33 [.rd 1 (bys b), .v (.int .i64 at_), .v (.int .i64 n)] (fun ret => ret = .tup [.v (.int .u64 (numAt b at_ n)), .v (.bool true)]) := by
  have h2 := h.2
  have h3 : 1 ≤ n ∧ n ≤ 8 := by have := h.1; unfold Wide at this; omega
  have := le_Get b at_ n hB hb (by omega) (by omega)
  rw [if_pos h, decide_eq_true h] at this
  exact this
theorem u64_range (a : Int) : 0 ≤ IntKind.u64.wrap a ∧ IntKind.u64.wrap a ≤ 18446744073709551615 := by rw [wu64_mod]; omega
def numsF : List Int → List Int
  | a :: w :: r => (if Wide w then dig (IntKind.u64.wrap a) w.toNat else []) ++ numsF r
  | _ => []
theorem put8_len (v w : Int) : (if Wide w then dig v w.toNat else []).length ≤ 8 := by
  split
  · rename_i h; rw [dig_length]; unfold Wide at h; omega
  · simp
theorem numsF_step {l : List Int} {i : Nat} (h : i + 1 < l.length) : numsF (l.drop i) = (if Wide (l.getD (i + 1) 0) then dig (IntKind.u64.wrap (l.getD i 0)) (l.getD (i + 1) 0).toNat else []) ++ numsF (l.drop (i + 2)) := by
  rw [drop_getD0 (show i < l.length by omega), drop_getD0 h, numsF]
theorem numsF_len : ∀ (k : Nat) (l : List Int), l.length ≤ k → (numsF l).length ≤ 8 * l.length := by
  intro k
  induction k with
  | zero => intro l h; have : l = [] := List.length_eq_zero_iff.1 (by omega); subst this; simp [numsF]
  | succ k ih =>
    intro l h
    match l with
    | [] => simp [numsF]
    | [a] => simp [numsF]
    | a :: w :: r =>
      have := ih r (by simp at h; omega)
      have h2 := put8_len (IntKind.u64.wrap a) w
      rw [numsF, List.length_append]
      simp only [List.length_cons]
      omega

theorem le_PutR (v n : Int) (hv : 0 ≤ v ∧ v ≤ 18446744073709551615) (hn : -9223372036854775808 ≤ n ∧ n ≤ 9223372036854775807) : A1 Try.prog 39 [.v (.int .u64 (v)), .v (.int .i64 (n))] 5 1 (bys (if Wide n then dig v n.toNat else [])) := by
  refine A1.body 38 (NIr.h) Try.func39 rfl rfl Try.ntmps39 fun base n0 => ?_
  refine AW.seq' ?_
  refine AW.region ?_
  refine AO.c ?_
  refine AO.nil ?_
  refine SQ.normal ?_
  refine AW.seq' ?_
  refine AW.seq' ?_
  refine AW.region ?_
  refine AO.c ?_
  refine AO.c ?_
  refine AO.c ?_
  refine AO.gx ?_
  refine AO.gx ?_
  refine AO.c ?_
  refine AO.c ?_
  refine AO.gx ?_
  refine AO.gx ?_
  refine AO.c ?_
  refine AO.c ?_
  refine AO.gx ?_
  refine AO.gx ?_
  refine AO.c ?_
  refine AO.nil ?_
  refine SQ.normal ?_
  refine AW.iteB (GL.ev _) (fun h0 => ?_) (fun h0 => ?_)
  · skip
    try simp only [Bool.and_eq_true, Bool.or_eq_true, Bool.not_eq_true', Bool.and_eq_false_iff, Bool.or_eq_false_iff, decide_eq_true_eq, decide_eq_false_iff_not, bys_length] at h0
    refine AW.seq' ?_
    refine AW.region ?_
    refine AO.c ?_
    refine AO.nil ?_
    refine SQ.normal ?_
    refine AW.ret ?_
    refine SQ.ret ?_
    refine FinO.ret 4 (Gh.adoptB 4 5) rfl ?_ ?_ (.inr rfl)
    · have : ¬ Wide n := by unfold Wide; omega
      rw [if_neg this]
    · rw [if_neg (by unfold Wide; omega)]; rfl
  · skip
    simp only [Bool.and_eq_false_iff, decide_eq_false_iff_not] at h0
    have hw : Wide n := by unfold Wide; omega
    have hn' : 1 ≤ n ∧ n ≤ 8 := by unfold Wide at hw; omega
    refine AW.skip ?_
    refine SQ.normal ?_
    refine AW.seq' ?_
    refine AW.region ?_
    refine AO.c ?_
    refine AO.ww ?_
    refine AO.c ?_
    refine AO.nil ?_
    refine SQ.normal ?_
    refine AW.seq' ?_
    refine AW.seq' ?_
    refine AW.region ?_
    refine AO.c ?_
    refine AO.c ?_
    refine AO.c ?_
    refine AO.nil ?_
    refine SQ.normal ?_
    refine AW.block' ?_
    refine AW.loopU [.k, .f, .f, .f, .f, .k, .F, .F, .f, .f, .k, .k, .F, .f, .f, .f, .f] (fun (i : Nat) => [(25, .v (.int .i64 (i)))]) (fun i => Hn n0 [some (.row 5 1 0 (bys (dig v i ++ List.replicate (n.toNat - i) 0)))]) (fun m i => i ≤ n.toNat ∧ m = n.toNat - i) (n.toNat) (0) ⟨by omega, by omega⟩ (by first | rfl | (simp; done)) (by simp [dig]) ?_
    rintro m0 i ⟨hx1, hx2⟩
    refine AW.seq' ?_
    refine AW.region ?_
    refine AO.c ?_
    refine AO.nil ?_
    refine SQ.normal ?_
    refine AW.seq' ?_
    refine AW.iteB (GL.ev _) (fun h1 => ?_) (fun h1 => ?_)
    · skip
      rw [decide_eq_true_eq] at h1
      refine AW.skip ?_
      refine SQ.normal ?_
      refine AW.seq' ?_
      refine AW.block' ?_
      refine AW.seq' ?_
      refine AW.region ?_
      refine AO.c ?_
      refine AO.c ?_
      refine AO.nil ?_
      refine SQ.normal ?_
      refine AW.region ?_
      refine AO.c ?_
      refine AO.c ?_
      refine AO.c ?_
      refine AO.c ?_
      refine AO.oo ?_
      refine AO.o (by omega) ?_
      refine AO.pw ?_
      refine AO.o (by omega) ?_
      refine AO.st (by simp [dig_length]; omega) ?_
      refine AO.nil ?_
      refine BQ.normal ?_
      refine SQ.normal ?_
      refine AW.region ?_
      refine AO.oo ?_
      refine AO.c ?_
      refine AO.nil ?_
      have e1 : dig v (i + 1) = dig v i ++ [v / 256 ^ i % 256] := dig_snoc v i
      have e3 : IntKind.u8.wrap (v / 2 ^ (8 * (i : Int)).toNat) = v / 256 ^ i % 256 := by
        rw [IntKind.wrap_u8, show (8 * (i : Int)).toNat = 8 * i by omega, Int.pow_mul]; rfl
      have e2 : (dig v i ++ List.replicate (n.toNat - i) 0).set i (IntKind.u8.wrap (v / 2 ^ (8 * (i : Int)).toNat)) = dig v (i + 1) ++ List.replicate (n.toNat - (i + 1)) 0 := by
        rw [e3, e1, show n.toNat - i = (n.toNat - (i + 1)) + 1 by omega, List.replicate_succ]
        simp [dig_length]
      exact AW.backU [.k, .f, .f, .f, .f, .k, .F, .F, .f, .f, .k, .k, .F, .f, .f, .f, .f] (m0 - 1) (i + 1) (by omega) (by first | omega | (simp; done) | (simp; omega)) (by first | rfl | (simp; done)) (by simp only [Nat.zero_add, Int.toNat_natCast, e2])
    · skip
      rw [decide_eq_false_iff_not] at h1
      refine AW.exit ?_
      refine SQ.exit <| AW.out <| LU.exit <| BQ.exit ?_
      refine SQ.normal ?_
      refine AW.seq' ?_
      refine AW.region ?_
      refine AO.c ?_
      refine AO.c ?_
      refine AO.nil ?_
      refine SQ.normal ?_
      refine AW.ret ?_
      refine FinO.ret 4 (Gh.refl) rfl ?_ ?_ (.inr rfl)
      · rw [if_pos hw]
        have : i = n.toNat := by omega
        subst this
        simp
      · rw [if_pos hw, bys_length, dig_length]
theorem ref_Nums (l : List Int) (hl : l.length ≤ 1000000) (h64 : ∀ x ∈ l, I64 x) : A0 Try.prog 65 [.rd 1 (l.map iA)] (fun ret => ret = .rd 1 (bys (numsF l))) := by
  have h64g : ∀ i, I64 (l.getD i 0) := fun i => by
    rcases Nat.lt_or_ge i l.length with h | h
    · have := h64 l[i] (List.getElem_mem h); simpa [h] using this
    · simp [h]; decide
  have hdef : ∀ i, l.getD i default = l.getD i 0 := fun i => rfl
  refine A0.body 26 Try.func65 rfl rfl Try.ntmps65 fun base n0 => ?_
  refine AW.seq' ?_
  refine AW.region ?_
  refine AO.c ?_
  refine AO.nil ?_
  refine SQ.normal ?_
  refine AW.seq' ?_
  refine AW.region ?_
  refine AO.c ?_
  refine AO.nil ?_
  refine SQ.normal ?_
  refine AW.seq' ?_
  refine AW.seq' ?_
  refine AW.region ?_
  refine AO.c ?_
  refine AO.nil ?_
  refine SQ.normal ?_
  refine AW.block' ?_
  refine AW.ghost (Gh.adoptB 3 5) ?_
  refine AW.loopU3 [.k, .f, .f, .k, .k, .F, .F, .f, .f, .f, .f, .f] (fun (i ep : Nat) (out : List Int) => [(3, .own (n0 + 0) ep 0 out.length), (4, .v (.int .i64 (i)))]) (fun i ep out => Hn n0 [some (.row 5 1 ep (bys out))]) (fun m i ep out => i ≤ l.length + 1 ∧ m = l.length + 1 - i ∧ out.length ≤ 8 * i ∧ numsF l = out ++ numsF (l.drop i)) (l.length + 1) (0) (0) ([]) ⟨by omega, by omega, by simp, rfl⟩ (by first | rfl | (simp; done)) (by first | rfl | (simp; done)) ?_
  rintro m0 i ep out ⟨hx1, hx2, hx3, hx4⟩
  refine AW.seq' ?_
  refine AW.seq' ?_
  refine AW.region ?_
  refine AO.c ?_
  refine AO.oo ?_
  refine AO.c ?_
  refine AO.c ?_
  refine AO.c ?_
  refine AO.nil ?_
  refine SQ.normal ?_
  refine AW.iteB (GL.ev _) (fun h0 => ?_) (fun h0 => ?_)
  · skip
    rw [decide_eq_true_eq] at h0
    have hi : i + 1 < l.length := by omega
    have hst := numsF_step hi
    have hpl := put8_len (IntKind.u64.wrap (l.getD i 0)) (l.getD (i + 1) 0)
    refine AW.skip ?_
    refine SQ.normal ?_
    refine AW.seq' ?_
    refine AW.block' ?_
    refine AW.drawsZ [12] (.one 0 false (.one 1 false (.one 2 false (.one 3 false (.one 4 false (.one 5 false (.one 6 false (.one 7 false (.one 8 false (.one 9 false (.one 10 false (.one 11 true (.one 12 true (.one 13 false .nil)))))))))))))) (by kernel_rfl) rfl (by kernel_rfl) ?_
    refine AZ.c rfl ?_
    refine AZ.c rfl ?_
    refine AZ.c rfl ?_
    refine AZ.o rfl (by omega) ?_
    refine AZ.c rfl ?_
    refine AZ.pw rfl ?_
    refine AZ.c rfl ?_
    refine AZ.c rfl ?_
    refine AZ.oo rfl ?_
    refine AZ.oo rfl ?_
    refine AZ.c rfl ?_
    refine AZ.call1 rfl Try.func41 rfl rfl (ref_Put _ _ (u64_range _) (h64g (i + 1))) ?_
    refine AZ.ww rfl rfl ?_ ⟨rfl, by have := put8_len (IntKind.u64.wrap (l.getD i default)) (l.getD (i + 1) 0); omega⟩
    refine AZ.c rfl ?_
    refine AZ.done ?_
    refine BQ.normal ?_
    refine SQ.normal ?_
    refine AW.region ?_
    refine AO.c ?_
    refine AO.oo ?_
    refine AO.c ?_
    refine AO.nil ?_
    exact AW.backU [.k, .f, .f, .k, .k, .F, .F, .f, .f, .f, .f, .f] (m0 - 2) (i + 2, ep + 1, out ++ (if Wide (l.getD (i + 1) 0) then dig (IntKind.u64.wrap (l.getD i 0)) (l.getD (i + 1) 0).toNat else [])) (by omega) (by (try dsimp only); exact ⟨by omega, by omega, by rw [List.length_append]; omega, by rw [hx4, hst, List.append_assoc]⟩) (by (try dsimp only); rw [List.length_append] <;> rfl) (rfl)
  · skip
    rw [decide_eq_false_iff_not] at h0
    refine AW.exit ?_
    refine SQ.exit <| AW.out <| LU.exit <| BQ.exit ?_
    refine SQ.normal ?_
    refine AW.seq' ?_
    refine AW.region ?_
    refine AO.c ?_
    refine AO.c ?_
    refine AO.nil ?_
    refine SQ.normal ?_
    refine AW.ret ?_
    have hfin : out = numsF l := by
      rw [hx4]
      have : l.drop i = [] ∨ ∃ x, l.drop i = [x] := by
        rcases Nat.lt_or_ge i l.length with h | h
        · refine .inr ⟨l.getD i 0, ?_⟩
          rw [drop_getD0 h, List.drop_of_length_le (by omega)]
        · exact .inl (List.drop_of_length_le h)
      rcases this with h | ⟨x, h⟩ <;> rw [h] <;> simp [numsF]
    have hlen := numsF_len l.length l (Nat.le_refl _)
    refine Fin.ret (Gh.freezeE 2 hfin (by rw [← hfin]) ?_) noid1 ?_
    all_goals first
      | rfl
      | omega
      | (simp; done)
      | (simp; omega)
      | (rfl)

end Go.Proofs.Ytlapfdfbgckfcaa.AL
