/- What functions of the program compute, each by its own contract; the conditions stand with each. -/
import Derived.Test.YtlapfdfbgckfcaaAlTy
namespace Go.Proofs.Ytlapfdfbgckfcaa.AL
open Go Go.RowKit Go.Proofs.Ytlapfdfbgckfcaa.Base
set_option linter.unusedVariables false
set_option maxRecDepth 4000
@[reducible] def F39 (v n i : Int) (n0 : Nat) : List AV := [.v (.int .u64 v), .any, .any, .any, .v (.slice none 0 0), .own (n0 + 0) 0 0 n.toNat, .any, .any, .any, .any, .any, .any, .any, .any, .any, .any, .any, .any, .any, .any, .any, .any, .any, .any, .v (.int .i64 n.toNat), .v (.int .i64 i), .any, .any, .any, .any, .any, .any, .any, .any, .any, .any, .any, .any]
theorem dig_snoc : ∀ (v : Int) (i : Nat), dig v (i + 1) = dig v i ++ [v / 256 ^ i % 256] := by
  intro v i
  induction i generalizing v with
  | zero => simp [dig]
  | succ i ih =>
    rw [dig, ih (v / 256), dig, List.cons_append, Int.ediv_ediv_of_nonneg (by decide), Int.pow_succ, Int.mul_comm]
theorem le_Put (v n : Int) (hv : 0 ≤ v ∧ v ≤ 18446744073709551615) (hn : -9223372036854775808 ≤ n ∧ n ≤ 9223372036854775807) : A0 Try.prog 39 [.v (.int .u64 v), .v (.int .i64 n)] (fun r => r = .rd 1 (bys (if Wide n then dig v n.toNat else []))) := by
  refine A0.body 38 Try.func39 rfl rfl Try.ntmps39 fun base n0 => ?_
  repeat (first | refine AO.c ?_ | refine AO.m ?_ | refine AO.n ?_ | refine AW.seq' ?_ | refine AW.region ?_ | refine AW.block' ?_ | refine AO.nil (SQ.normal ?_))
  refine AW.iteB (GL.ev _) (fun h => ?_) (fun h => ?_)
  · refine AW.seq' (AW.region ?_)
    refine AO.c (AO.nil (SQ.normal (AW.ret (SQ.ret (Fin.ret (Gh.nilB 4) (by exact NoId.bys _) ?_)))))
    have : ¬ Wide n := by unfold Wide; simp at h; omega
    simp [packA, this]
  · have hw : Wide n := by unfold Wide; simp at h; omega
    refine AW.skip (SQ.normal ?_)
    have hn' : 1 ≤ n ∧ n ≤ 8 := by unfold Wide at hw; omega
    refine AW.seq' (AW.region ?_)
    refine AO.c ?_
    refine AO.w ⟨by omega, by omega, by omega⟩ ?_
    repeat (first | refine AO.c ?_ | refine AO.m ?_ | refine AO.n ?_ | refine AW.seq' ?_ | refine AW.region ?_ | refine AW.block' ?_ | refine AO.nil (SQ.normal ?_))
    refine AW.wk (F39 v n 0 n0) ?_
    refine AW.loopG (fun m s' => ∃ i : Nat, m + i = n.toNat ∧ s' = ⟨F39 v n i n0, Hn n0 [some (.row 5 1 0 (bys (dig v i ++ List.replicate (n.toNat - i) 0)))]⟩) n.toNat ⟨0, rfl, by simp [dig]⟩ ?_
    rintro m s' ⟨i, hm, rfl⟩
    repeat (first | refine AO.c ?_ | refine AO.m ?_ | refine AO.n ?_ | refine AW.seq' ?_ | refine AW.region ?_ | refine AW.block' ?_ | refine AO.nil (SQ.normal ?_))
    refine AW.iteB (GL.ev _) (fun h => ?_) (fun h => ?_)
    · have hi : i < n.toNat := by simp at h; omega
      refine AW.skip (SQ.normal ?_)
      repeat (first | refine AO.c ?_ | refine AO.m ?_ | refine AO.n ?_ | refine AW.seq' ?_ | refine AW.region ?_ | refine AW.block' ?_ | refine AO.nil (SQ.normal ?_))
      refine AO.o (by omega) ?_
      refine AO.o (by omega) ?_
      refine AO.v ?_
      refine AO.o (by omega) ?_
      refine AO.st (by simp [dig_length]; omega) (AO.nil (BQ.normal (SQ.normal ?_)))
      repeat (first | refine AO.c ?_ | refine AO.m ?_ | refine AO.n ?_ | refine AW.seq' ?_ | refine AW.region ?_ | refine AW.block' ?_ | refine AO.nil (SQ.normal ?_))
      refine AO.o (by omega) ?_
      refine AO.c (AO.nil ?_)
      refine AW.back (F39 v n (i + 1) n0) (m - 1) (by omega) ⟨i + 1, by omega, ?_⟩
      have e1 : dig v (i + 1) = dig v i ++ [v / 256 ^ i % 256] := dig_snoc v i
      have e2 : (dig v i ++ List.replicate (n.toNat - i) 0).set i (v / 256 ^ i % 256) = dig v (i + 1) ++ List.replicate (n.toNat - (i + 1)) 0 := by
        rw [e1, show n.toNat - i = (n.toNat - (i + 1)) + 1 by omega, List.replicate_succ]
        simp [dig_length]
      have e3 : IntKind.u8.wrap (v / 2 ^ (8 * (i : Int)).toNat) = v / 256 ^ i % 256 := by
        rw [IntKind.wrap_u8, show (8 * (i : Int)).toNat = 8 * i by omega, Int.pow_mul]; rfl
      simp only [Int.toNat_natCast, Nat.zero_add, e3, e2]
      rfl
    · have hi : i = n.toNat := by simp at h; omega
      subst hi
      refine AW.exit (SQ.exit (AW.out (LQ.exit (BQ.exit (SQ.normal ?_)))))
      refine AW.seq' (AW.region ?_)
      refine AO.c (AO.c (AO.nil (SQ.normal (AW.ret (Fin.ret (Gh.freezeB 4 (by simp [dig_length]) (by simp [dig_length]; omega)) (by exact NoId.bys _) ?_)))))
      simp [packA, hw]

/-- Has b these bytes? -/
def HasB (b : List Int) (at_ n : Int) : Prop := Wide n ∧ 0 ≤ at_ ∧ at_ + n ≤ b.length
instance (b : List Int) (at_ n : Int) : Decidable (HasB b at_ n) := by unfold HasB; infer_instance
theorem wide_b {n : Int} : ((decide (n = 1) || decide (n = 2) || decide (n = 4) || decide (n = 8)) = true) ↔ Wide n := by unfold Wide; simp [or_assoc]
theorem le_has (b : List Int) (at_ n : Int) (hb : b.length ≤ 9223372036854775807) (ha : -9223372036854775808 ≤ at_ ∧ at_ ≤ 9223372036854775807) (hn : -9223372036854775808 ≤ n ∧ n ≤ 9223372036854775807) :
    A0 Try.prog 69 [.rd 1 (bys b), .v (.int .i64 at_), .v (.int .i64 n)] (fun r => r = .v (.bool (decide (HasB b at_ n)))) := by
  refine A0.body 33 Try.func69 rfl rfl Try.ntmps69 fun base n0 => ?_
  repeat (first | refine AO.c ?_ | refine AO.m ?_ | refine AO.n ?_ | refine AW.seq' ?_ | refine AW.region ?_ | refine AW.block' ?_ | refine AO.nil (SQ.normal ?_))
  refine AO.mo (fun h => ?_) ?_
  · have hw : Wide n := by
      simp only [Bool.and_eq_true] at h
      exact wide_b.1 h.1
    unfold Wide at hw
    (try rw [bys_length])
    omega
  repeat (first | refine AO.c ?_ | refine AO.m ?_ | refine AO.n ?_ | refine AW.seq' ?_ | refine AW.region ?_ | refine AW.block' ?_ | refine AO.nil (SQ.normal ?_))
  refine AW.ret (Fin.ret Gh.refl (by exact NoId.v _) ?_)
  show AV.v (.bool _) = AV.v (.bool _)
  congr 2
  rw [Bool.eq_iff_iff, decide_eq_true_iff]
  simp only [Bool.and_eq_true, wide_b, decide_eq_true_eq, bys_length]
  unfold HasB
  constructor
  · rintro ⟨⟨h1, h2⟩, h3⟩; exact ⟨h1, h2, by omega⟩
  · rintro ⟨h1, h2, h3⟩; exact ⟨⟨h1, h2⟩, by omega⟩
@[reducible] def F33 (b : List Int) (at_ n acc i : Int) : List AV := [.rd 1 (bys b), .v (.int .i64 at_), .v (.int .i64 n), .any, .any, .any, .v (.int .u64 0), .v (.bool false), .v (.int .u64 acc), .any, .any, .any, .any, .any, .any, .v (.int .i64 n), .v (.int .i64 i), .any, .any, .any, .any, .any, .any, .any, .any, .any, .any, .any, .any, .any, .any, .any, .any]
theorem num_snoc : ∀ (l : List Int) (x : Int), num (l ++ [x]) = num l + 256 ^ l.length * x := by
  intro l x
  induction l with
  | nil => simp [num]
  | cons a l ih =>
    rw [List.cons_append, num, ih, num, List.length_cons, Int.pow_succ, Int.mul_comm (256 ^ l.length) 256, Int.mul_assoc]
    omega
theorem bytes_getD {b : List Int} (h : Bytes b) (k : Nat) : 0 ≤ b.getD k 0 ∧ b.getD k 0 < 256 := by
  by_cases hk : k < b.length
  · have := h b[k] (List.getElem_mem hk)
    simpa [hk] using this
  · simp [hk]
theorem take_snoc {l : List Int} {i : Nat} (h : i < l.length) : l.take (i + 1) = l.take i ++ [l.getD i 0] := by
  rw [List.take_add_one]
  simp [h]
theorem le_Get (b : List Int) (at_ n : Int) (hB : Bytes b) (hb : b.length ≤ 9223372036854775807) (ha : -9223372036854775808 ≤ at_ ∧ at_ ≤ 9223372036854775807) (hn : -9223372036854775808 ≤ n ∧ n ≤ 9223372036854775807) :
    A0 Try.prog 33 [.rd 1 (bys b), .v (.int .i64 at_), .v (.int .i64 n)] (fun r => r = .tup [.v (.int .u64 (if HasB b at_ n then num ((b.drop at_.toNat).take n.toNat) else 0)), .v (.bool (decide (HasB b at_ n)))]) := by
  refine A0.body 33 Try.func33 rfl rfl Try.ntmps33 fun base n0 => ?_
  repeat (first | refine AO.c ?_ | refine AO.m ?_ | refine AO.n ?_ | refine AW.seq' ?_ | refine AW.region ?_ | refine AW.block' ?_ | refine AO.nil (SQ.normal ?_))
  refine AO.call1 Try.func69 rfl rfl (le_has b at_ n hb ha hn) ?_
  repeat (first | refine AO.c ?_ | refine AO.m ?_ | refine AO.n ?_ | refine AW.seq' ?_ | refine AW.region ?_ | refine AW.block' ?_ | refine AO.nil (SQ.normal ?_))
  refine AW.iteB (GL.ev _) (fun h => ?_) (fun h => ?_)
  · have hw : ¬ HasB b at_ n := by simpa using h
    refine AW.seq' (AW.region (AO.c (AO.c (AO.nil (SQ.normal (AW.ret (SQ.ret (Fin.ret Gh.refl ?_ ?_))))))))
    · exact NoId.tup (.cons (.v _) (.cons (.v _) .nil))
    · show AV.tup _ = AV.tup _
      simp [hw]
  · have hw : HasB b at_ n := by simpa using h
    have hw1 : 1 ≤ n ∧ n ≤ 8 := by have := hw.1; unfold Wide at this; omega
    have hw2 := hw.2
    refine AW.skip (SQ.normal ?_)
    repeat (first | refine AO.c ?_ | refine AO.m ?_ | refine AO.n ?_ | refine AW.seq' ?_ | refine AW.region ?_ | refine AW.block' ?_ | refine AO.nil (SQ.normal ?_))
    refine AW.wk (F33 b at_ n 0 0) ?_
    refine AW.loopG (fun m s' => ∃ i : Nat, m + i = n.toNat ∧ s' = ⟨F33 b at_ n (num ((b.drop at_.toNat).take i)) i, Hn n0 []⟩) n.toNat ⟨0, rfl, by simp [num]⟩ ?_
    rintro m s' ⟨i, hm, rfl⟩
    repeat (first | refine AO.c ?_ | refine AO.m ?_ | refine AO.n ?_ | refine AW.seq' ?_ | refine AW.region ?_ | refine AW.block' ?_ | refine AO.nil (SQ.normal ?_))
    refine AW.iteB (GL.ev _) (fun h => ?_) (fun h => ?_)
    · have hi : i < n.toNat := by simp at h; omega
      have hg := bytes_getD hB (at_ + i).toNat
      refine AW.skip (SQ.normal ?_)
      repeat (first | refine AO.c ?_ | refine AO.m ?_ | refine AO.n ?_ | refine AO.o (by omega) ?_ | refine AW.seq' ?_ | refine AW.region ?_ | refine AW.block' ?_ | refine AO.nil (SQ.normal ?_))
      refine AO.eq 8 (av' := .v (.int .u64 (num ((b.drop at_.toNat).take (i + 1))))) ?_ (AO.nil (AW.back (F33 b at_ n (num ((b.drop at_.toNat).take (i + 1))) (i + 1)) (m - 1) (by omega) ⟨i + 1, by omega, rfl⟩))
      have hl : ((b.drop at_.toNat).take i).length = i := by rw [List.length_take, List.length_drop]; omega
      have hb' := (hB.drop at_.toNat).take i
      have h1 := num_nonneg hb'
      have h2 := num_lt hb'
      rw [hl] at h2
      rw [or_u64A i (by omega) _ _ h1 h2 hg.1 hg.2]
      have e : (b.drop at_.toNat).take (i + 1) = (b.drop at_.toNat).take i ++ [b.getD (at_ + i).toNat 0] := by
        rw [take_snoc (by rw [List.length_drop]; omega), show (at_ + (i : Int)).toNat = at_.toNat + i by omega]
        simp [List.getElem?_drop]
      rw [e, num_snoc, hl]
    · have hi : i = n.toNat := by simp at h; omega
      subst hi
      refine AW.exit (SQ.exit (AW.out (LQ.exit (BQ.exit (SQ.normal ?_)))))
      repeat (first | refine AO.c ?_ | refine AO.m ?_ | refine AO.n ?_ | refine AO.o (by omega) ?_ | refine AW.seq' ?_ | refine AW.region ?_ | refine AW.block' ?_ | refine AO.nil (SQ.normal ?_))
      refine AW.ret (Fin.ret Gh.refl ?_ ?_)
      · exact NoId.tup (.cons (.v _) (.cons (.v _) .nil))
      · show AV.tup _ = AV.tup _
        simp [hw]

def LayS (b : List Int) (at_ n v : Int) : List Int := if HasB b at_ n then b.take at_.toNat ++ (dig v n.toNat ++ b.drop (at_ + n).toNat) else b
theorem Gh.freezeE {base : Cx} {l l' : List AV} {n k ep m : Nat} {L L' : List (Option AB)} {e : TypeId} (t : Tmp) {li li' : List Int} [g : GL l t (.own (n + k) ep 0 m)] [gb : GB L k (.row e 1 ep (bys li))] (he : li = li') [sb : SB L k none L'] [sl : SL l t (.rd 1 (bys li')) l'] (hl : li'.length = m) (hm : li'.length ≤ 9223372036854775807) :
    Gh base ⟨l, Hn n L⟩ ⟨l', Hn n L'⟩ := by subst he; exact Gh.freezeB t hl hm
theorem lay_eq (b : List Int) (at_ n v : Int) (h : HasB b at_ n) : layAt b at_.toNat ((dig v n.toNat).take (min (dig v n.toNat).length (b.length - at_.toNat))) = LayS b at_ n v := by
  have hw := h.1
  have h2 := h.2
  have hn : 1 ≤ n ∧ n ≤ 8 := by unfold Wide at hw; omega
  unfold LayS layAt
  have e : (dig v n.toNat).take (min (dig v n.toNat).length (b.length - at_.toNat)) = dig v n.toNat := List.take_of_length_le (by rw [dig_length]; omega)
  rw [if_pos h, e, dig_length, show (at_ + n).toNat = at_.toNat + n.toNat by omega, List.append_assoc]
theorem lay_length (b : List Int) (at_ n v : Int) : (LayS b at_ n v).length = b.length := by
  unfold LayS
  split
  · rename_i h
    have hw := h.1
    have h2 := h.2
    have hn : 1 ≤ n ∧ n ≤ 8 := by unfold Wide at hw; omega
    simp [dig_length]; omega
  · rfl
theorem ref_wide (n : Int) : A0 Try.prog 74 [.v (.int .i64 n)] (fun r => r = .v (.bool (decide (Wide n)))) := by
  refine A0.body 17 Try.func74 rfl rfl Try.ntmps74 fun base n0 => ?_
  repeat (first | refine AO.c ?_ | refine AO.m ?_ | refine AO.n ?_ | refine AW.seq' ?_ | refine AW.region ?_ | refine AW.block' ?_ | refine AO.nil (SQ.normal ?_))
  refine AW.ret (Fin.ret Gh.refl (by exact NoId.v _) ?_)
  show AV.v (.bool _) = AV.v (.bool _)
  congr 2
  rw [Bool.eq_iff_iff, decide_eq_true_iff, ← wide_b]
@[reducible] def F73 (b : List Int) (acc i : Int) : List AV := [.rd 1 (bys b), .any, .v (.int .u64 0), .v (.int .u64 acc), .v (.int .i64 i), .any, .any, .any, .any, .any, .any, .any, .any, .any, .any, .any, .any, .any, .any, .any, .any]
theorem num_cons_drop {l : List Int} {i : Nat} (h : i < l.length) : num (l.drop i) = l.getD i 0 + 256 * num (l.drop (i + 1)) := by
  rw [List.drop_eq_getElem_cons h, num]
  simp [h]
theorem pow256_8 {k : Nat} (h : k ≤ 8) : (256 : Int) ^ k ≤ 18446744073709551616 := pow_le_pow h
theorem ref_Num (b : List Int) (hB : Bytes b) (hb : b.length ≤ 8) : A0 Try.prog 73 [.rd 1 (bys b)] (fun r => r = .v (.int .u64 (num b))) := by
  refine A0.body 21 Try.func73 rfl rfl Try.ntmps73 fun base n0 => ?_
  have hbl : ((bys b).length : Int) = b.length := by rw [bys_length]
  repeat (first | refine AO.c ?_ | refine AO.m ?_ | refine AO.n ?_ | refine AO.o (by omega) ?_ | refine AW.seq' ?_ | refine AW.region ?_ | refine AW.block' ?_ | refine AO.nil (SQ.normal ?_))
  (try rw [hbl])
  refine AW.wk (F73 b 0 (b.length - 1)) ?_
  refine AW.loopG (fun m s' => m ≤ b.length ∧ s' = ⟨F73 b (num (b.drop m)) (m - 1), Hn n0 []⟩) b.length ⟨Nat.le_refl _, by simp [num]⟩ ?_
  rintro m s' ⟨hm, rfl⟩
  repeat (first | refine AO.c ?_ | refine AO.m ?_ | refine AO.n ?_ | refine AW.seq' ?_ | refine AW.region ?_ | refine AW.block' ?_ | refine AO.nil (SQ.normal ?_))
  refine AW.iteB (GL.ev _) (fun h => ?_) (fun h => ?_)
  · have hm0 : 1 ≤ m := by simp at h; omega
    obtain ⟨k, rfl⟩ : ∃ k, m = k + 1 := ⟨m - 1, by omega⟩
    have h1 := num_nonneg (hB.drop (k + 1))
    have h2 := num_lt (hB.drop (k + 1))
    have h3 : (256 : Int) ^ (b.drop (k + 1)).length ≤ 256 ^ 7 := pow_le_pow (by rw [List.length_drop]; omega)
    have hg := bytes_getD hB k
    have hk : (((k + 1 : Nat) : Int) - 1).toNat = k := by omega
    refine AW.skip (SQ.normal ?_)
    refine AW.seq' (AW.block' (AW.region (AO.c (AO.o ⟨by omega, by omega⟩ (AO.c (AO.c (AO.o (by omega) (AO.c ?_))))))))
    rw [hk]
    refine AO.o (by omega) (AO.o ⟨by omega, by omega⟩ (AO.c (AO.nil (BQ.normal (SQ.normal ?_)))))
    refine AW.region (AO.c (AO.o (by omega) (AO.c ?_)))
    refine AO.eq 3 (av' := .v (.int .u64 (num (b.drop k)))) (by rw [num_cons_drop (show k < b.length by omega)]; congr 2; omega) ?_
    refine AO.eq 4 (av' := .v (.int .i64 (k - 1))) (by congr 2; omega) ?_
    exact AO.nil (AW.back (F73 b (num (b.drop k)) (k - 1)) k (by omega) ⟨by omega, rfl⟩)
  · have hm0 : m = 0 := by simp at h; omega
    subst hm0
    refine AW.exit (SQ.exit (AW.out (LQ.exit (BQ.exit (SQ.normal ?_)))))
    repeat (first | refine AO.c ?_ | refine AO.m ?_ | refine AO.n ?_ | refine AO.o (by omega) ?_ | refine AW.seq' ?_ | refine AW.region ?_ | refine AW.block' ?_ | refine AO.nil (SQ.normal ?_))
    refine AW.ret (Fin.ret Gh.refl (by exact NoId.v _) ?_)
    rfl

theorem ref_Get (b : List Int) (at_ n : Int) (hB : Bytes b) (hb : b.length ≤ 1000000000000) (ha : -9223372036854775808 ≤ at_ ∧ at_ ≤ 9223372036854775807) (hn : -9223372036854775808 ≤ n ∧ n ≤ 9223372036854775807) :
    A0 Try.prog 153 [.rd 1 (bys b), .v (.int .i64 at_), .v (.int .i64 n)] (fun r => r = .tup [.v (.int .u64 (if HasB b at_ n then num ((b.drop at_.toNat).take n.toNat) else 0)), .v (.bool (decide (HasB b at_ n)))]) := by
  have hbl : ((bys b).length : Int) = b.length := by rw [bys_length]
  refine A0.body 38 Try.func153 rfl rfl Try.ntmps153 fun base n0 => ?_
  refine AW.seq' <| AW.region <| AO.c <| AO.c <| AO.nil <| SQ.normal ?_
  refine AW.seq' <| AW.region <| AO.c <| AO.call1 Try.func74 rfl rfl (ref_wide n) <| AO.c <| AO.nil <| SQ.normal ?_
  refine AW.seq' <| AW.seq' <| AW.region ?_
  repeat (first | refine AO.c ?_ | refine AO.m ?_ | refine AO.n ?_)
  refine AO.no (fun h => ?_) ?_
  · simp only [Bool.or_eq_false_iff, decide_eq_false_iff_not] at h
    omega
  repeat (first | refine AO.c ?_ | refine AO.m ?_ | refine AO.n ?_ | refine AO.nil (SQ.normal ?_))
  refine AW.iteB (GL.ev _) (fun h => ?_) (fun h => ?_)
  · have hw : ¬ HasB b at_ n := by
      intro hh
      have h1 := hh.1
      have h2 := hh.2
      simp [hbl, h1] at h
      have h3 : 1 ≤ n ∧ n ≤ 8 := by unfold Wide at h1; omega
      omega
    refine AW.seq' <| AW.region <| AO.c <| AO.c <| AO.nil <| SQ.normal <| AW.ret <| SQ.ret <| Fin.ret Gh.refl ?_ ?_
    · exact NoId.tup (.cons (.v _) (.cons (.v _) .nil))
    · show AV.tup _ = AV.tup _
      simp [hw]
  · have hw : HasB b at_ n := by
      simp [hbl] at h
      exact ⟨h.1.1.1, by omega, by omega⟩
    have hn1 : 1 ≤ n ∧ n ≤ 8 := by have := hw.1; unfold Wide at this; omega
    have h2 := hw.2
    refine AW.skip <| SQ.normal ?_
    refine AW.seq' <| AW.region <| AO.c <| AO.c <| AO.c <| AO.c <| AO.o (by omega) <| AO.o (by simp; omega) ?_
    have e : (b.take (at_ + n).toNat).drop at_.toNat = (b.drop at_.toNat).take n.toNat := by
      rw [List.drop_take]; congr 1; omega
    refine AO.eq 36 (av' := .rd 1 (bys ((b.drop at_.toNat).take n.toNat))) (by simp only [Option.getD_some, e]) ?_
    refine AO.call1 Try.func73 rfl rfl (ref_Num _ ((hB.drop _).take _) (by rw [List.length_take]; omega)) ?_
    refine AO.c <| AO.c <| AO.nil <| SQ.normal <| AW.ret <| Fin.ret Gh.refl ?_ ?_
    · exact NoId.tup (.cons (.v _) (.cons (.v _) .nil))
    · show AV.tup _ = AV.tup _
      simp [hw]
@[reducible] def F41 (v n : Int) (ok : Bool) (x5 x7 : AV) : List AV := [.v (.int .u64 v), .v (.int .i64 n), .any, .any, .v (.slice none 0 0), x5, .v (.bool ok), x7, .any, .any, .any, .any, .any, .any, .any, .any, .any, .any, .any, .any, .any, .any, .any, .any, .any, .any, .any]
theorem dig_div (v : Int) (i : Nat) : v / 256 ^ i % 256 = (v / 256 ^ i) % 256 := rfl
theorem ref_Put (v n : Int) (hv : 0 ≤ v ∧ v ≤ 18446744073709551615) (hn : -9223372036854775808 ≤ n ∧ n ≤ 9223372036854775807) : A0 Try.prog 41 [.v (.int .u64 v), .v (.int .i64 n)] (fun r => r = .rd 1 (bys (if Wide n then dig v n.toNat else []))) := by
  refine A0.body 27 Try.func41 rfl rfl Try.ntmps41 fun base n0 => ?_
  refine AW.seq' <| AW.region <| AO.c <| AO.nil <| SQ.normal ?_
  refine AW.seq' <| AW.region <| AO.c <| AO.nil <| SQ.normal ?_
  refine AW.seq' <| AW.region <| AO.c <| AO.call1 Try.func74 rfl rfl (ref_wide n) <| AO.c <| AO.nil <| SQ.normal ?_
  refine AW.seq' <| AW.seq' <| AW.region <| AO.c <| AO.nil <| SQ.normal ?_
  refine AW.ghost (Gh.adoptB 5 5) ?_
  refine AW.block' ?_
  refine AW.wk (F41 v n (decide (Wide n)) (.own (n0 + 0) 0 0 0) (.v (.int .i64 0))) ?_
  refine AW.loopG (fun m s' => ∃ (i ep : Nat), m + i = n.toNat ∧ (Wide n ∨ i = 0) ∧ s' = ⟨F41 (v / 256 ^ i) n (decide (Wide n)) (.own (n0 + 0) ep 0 i) (.v (.int .i64 i)), Hn n0 [some (.row 5 1 ep (bys (dig v i)))]⟩) n.toNat ⟨0, 0, rfl, .inr rfl, by simp [dig]⟩ ?_
  rintro m s' ⟨i, ep, hm, hwi, rfl⟩
  repeat (first | refine AO.c ?_ | refine AO.m ?_ | refine AO.n ?_ | refine AW.seq' ?_ | refine AW.region ?_ | refine AO.nil (SQ.normal ?_))
  refine AW.iteB (GL.ev _) (fun h => ?_) (fun h => ?_)
  · have h' : Wide n ∧ (i : Int) < n := by simpa using h
    have hn1 : 1 ≤ n ∧ n ≤ 8 := by have := h'.1; unfold Wide at this; omega
    have hq0 : 0 ≤ v / 256 ^ i := Int.ediv_nonneg hv.1 (Int.le_of_lt (pow_pos i))
    have hq1 : v / 256 ^ i ≤ v := Int.ediv_le_self _ hv.1
    refine AW.skip <| SQ.normal ?_
    refine AW.seq' <| AW.block' <| AW.seq' <| AW.region <| AO.c <| AO.c <| AO.o ⟨by omega, by omega⟩ <| AO.o ⟨by omega, by omega⟩ <| AO.r rfl <| AO.w ⟨by simp [dig_length], by simp; omega⟩ <| AO.c <| AO.nil <| SQ.normal ?_
    refine AW.region <| AO.c <| AO.o ⟨by omega, by omega, by omega, by omega⟩ <| AO.c <| AO.nil <| BQ.normal <| SQ.normal ?_
    refine AW.region <| AO.c <| AO.o (by omega) <| AO.c ?_
    have e1 : v / 256 ^ i / 256 = v / 256 ^ (i + 1) := by rw [Int.ediv_ediv_of_nonneg (Int.le_of_lt (pow_pos i)), Int.pow_succ]
    refine AO.eq 0 (av' := .v (.int .u64 (v / 256 ^ (i + 1)))) (by rw [e1]) ?_
    refine AO.nil <| AW.back (F41 (v / 256 ^ (i + 1)) n (decide (Wide n)) (.own (n0 + 0) (ep + 1) 0 (i + 1)) (.v (.int .i64 (i + 1)))) (m - 1) (by omega) ⟨i + 1, ep + 1, by omega, .inl h'.1, by rw [dig_snoc]; rfl⟩
  · have h' : ¬ (Wide n ∧ (i : Int) < n) := by simpa using h
    have hi : dig v i = if Wide n then dig v n.toNat else [] := by
      by_cases hw : Wide n
      · have hn1 : 1 ≤ n ∧ n ≤ 8 := by have := hw; unfold Wide at this; omega
        have : ¬ (i : Int) < n := fun h => h' ⟨hw, h⟩
        rw [if_pos hw, show i = n.toNat by omega]
      · rw [if_neg hw]
        rcases hwi with h | rfl
        · exact absurd h hw
        · rfl
    refine AW.exit <| SQ.exit <| AW.out <| LQ.exit <| BQ.exit <| SQ.normal ?_
    refine AW.seq' <| AW.region <| AO.c <| AO.c <| AO.nil <| SQ.normal <| AW.ret <| Fin.ret (Gh.freezeE 4 hi ?_ ?_) (by exact NoId.bys _) rfl
    · rw [← hi, dig_length]
    · rw [← hi, dig_length]; omega
theorem ref_Lay (b : List Int) (at_ n v : Int) (hB : Bytes b) (hb : b.length ≤ 1000000000000) (hv : 0 ≤ v ∧ v ≤ 18446744073709551615) (ha : -9223372036854775808 ≤ at_ ∧ at_ ≤ 9223372036854775807) (hn : -9223372036854775808 ≤ n ∧ n ≤ 9223372036854775807) :
    A0 Try.prog 114 [.rd 1 (bys b), .v (.int .i64 at_), .v (.int .i64 n), .v (.int .u64 v)] (fun r => r = .rd 1 (bys (LayS b at_ n v))) := by
  refine A0.body 41 Try.func114 rfl rfl Try.ntmps114 fun base n0 => ?_
  refine AW.seq' <| AW.region <| AO.c <| AO.nil <| SQ.normal ?_
  refine AW.seq' <| AW.region <| AO.c <| AO.c <| AO.c <| AO.call1 Try.func153 rfl rfl (ref_Get b at_ n hB hb ha hn) ?_
  repeat (first | refine AO.c ?_ | refine AO.m ?_ | refine AO.n ?_ | refine AW.seq' ?_ | refine AW.region ?_ | refine AO.nil (SQ.normal ?_))
  refine AW.iteB (GL.ev _) (fun h => ?_) (fun h => ?_)
  · have hw : ¬ HasB b at_ n := by simpa using h
    refine AW.seq' <| AW.region <| AO.w trivial <| AO.c <| AO.w ⟨by simp, by omega⟩ <| AO.c <| AO.nil <| SQ.normal <| AW.ret <| SQ.ret <| Fin.ret (Gh.freezeE 8 (li' := LayS b at_ n v) ?_ ?_ ?_) (by exact NoId.bys _) ?_
    · simp [LayS, hw]
    · rw [lay_length, Nat.zero_add]
    · rw [lay_length]; omega
    · rfl
  · have hw : HasB b at_ n := by simpa using h
    have hn1 : 1 ≤ n ∧ n ≤ 8 := by have := hw.1; unfold Wide at this; omega
    have h2 := hw.2
    refine AW.skip <| SQ.normal ?_
    refine AW.seq' <| AW.region <| AO.w trivial <| AO.c <| AO.c <| AO.o (by simp; omega) <| AO.w ⟨by simp, by simp; omega⟩ <| AO.c <| AO.nil <| SQ.normal ?_
    refine AW.seq' <| AW.region <| AO.c <| AO.c <| AO.c <| AO.call1 Try.func41 rfl rfl (ref_Put v n hv hn) <| AO.w ⟨by simp, by simp [hw.1, dig_length]; omega⟩ <| AO.c <| AO.nil <| SQ.normal ?_
    refine AW.seq' <| AW.region <| AO.c <| AO.c <| AO.c <| AO.c <| AO.o (by omega) <| AO.o (by simp; omega) <| AO.w ⟨by simp, by simp [hw.1, dig_length]; omega⟩ <| AO.c <| AO.nil <| SQ.normal ?_
    refine AW.ret <| Fin.ret (Gh.freezeE 8 (li' := LayS b at_ n v) ?_ ?_ ?_) (by exact NoId.bys _) ?_
    · simp [LayS, hw, hw.1]
    · rw [lay_length]; simp [hw.1, dig_length]; omega
    · rw [lay_length]; omega
    · rfl

end Go.Proofs.Ytlapfdfbgckfcaa.AL
