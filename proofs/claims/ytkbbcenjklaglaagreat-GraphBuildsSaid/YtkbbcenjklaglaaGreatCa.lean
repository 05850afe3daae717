/- A part of the proof: rules of an own logic over blocks, and what functions of the program compute, each by its own contract; the conditions stand with each. -/
import Derived.RowKit
import Derived.WalkKit
import Derived.Laws.BitsLemmas
import Derived.Below
import Derived.Deep.LoopGhost
import Derived.Laws.OwnMore
import Derived.Maps.AppendAt
import Derived.OrdersHeld
import Derived.Tactics
import Derived.Great.BuildSlice
import Derived.Laws.CopyRow
import Derived.Laws.BytesString
import Derived.Lib.AppendStr
import Derived.Laws.IdiomCopy
import Derived.IntWalk
import Derived.Deep.RegionHeld3
namespace Go.Proofs.YtkbbcenjklaglaaGreatW.PrintLast

section
variable {P : Program} {ops : Array Oper} {Q : Exit → Act → World → Prop} {md : Region.Mode} {S : World → Prop} {ds : List Nat}

def Region.reachB (md : Region.Mode) (ops : Array Oper) (i : Nat) : Nat → Nat → Bool
  | 0, _ => false
  | fuel + 1, d => match ops[d]? with
    | some o => o.after.any fun e => Region.binds md e && (e.on == i || Region.reachB md ops i fuel e.on)
    | none => false

def Region.closedB (md : Region.Mode) (ops : Array Oper) (listed : Array Bool) : Bool :=
  (List.range ops.size).all fun j => !listed.getD j false || match ops[j]? with
    | some o => o.after.all fun e => !Region.binds md e || listed.getD e.on false
    | none => true

def Region.lastB (md : Region.Mode) (ops : Array Oper) (listed : Array Bool) (ds : List Nat) (i : Nat) : Bool :=
  ds.all fun d => listed.getD d true || Region.reachB md ops i ops.size d

def ListedClosed (md : Region.Mode) (ops : Array Oper) (listed : Array Bool) : Prop :=
  ∀ j oj, ops[j]? = some oj → listed.getD j false = true → ∀ e ∈ oj.after, Region.binds md e = true → listed.getD e.on false = true

theorem Region.closedB_spec {listed : Array Bool} (h : Region.closedB md ops listed = true) : ListedClosed md ops listed := by
  intro j oj hj hl e he hb
  have hlt : j < ops.size := (Array.getElem?_eq_some_iff.1 hj).1
  have h1 := List.all_eq_true.1 h j (List.mem_range.2 hlt)
  simp only [hl, hj, Bool.not_true, Bool.false_or] at h1
  have h2 := Array.all_eq_true_iff_forall_mem.1 h1 e he
  simpa [hb] using h2

theorem ListedClosed.set {listed : Array Bool} {i : Nat} (h : ListedClosed md ops listed) (hi : i ∈ Region.ready md ops listed) : ListedClosed md ops (listed.setIfInBounds i true) := by
  obtain ⟨_, oi, hoi, hall⟩ := mem_ready.1 hi
  intro j oj hj hl e he hb
  by_cases hij : i = j
  · subst hij
    have : oj = oi := Option.some.inj (hj.symm.trans hoi)
    subst this
    exact getD_set_true (hall e he hb)
  · rw [getD_set_ne false hij] at hl
    exact getD_set_true (h j oj hj hl e he hb)

theorem Region.reach_listed {listed : Array Bool} {i : Nat} (hc : ListedClosed md ops listed) : ∀ (fuel d : Nat), Region.reachB md ops i fuel d = true → listed.getD d false = true → listed.getD i false = true
  | 0, _, h, _ => by simp [Region.reachB] at h
  | fuel + 1, d, h, hl => by
    unfold Region.reachB at h
    cases ho : ops[d]? with
    | none => rw [ho] at h; simp at h
    | some o =>
      rw [ho] at h
      obtain ⟨e, he, h1⟩ := Array.any_eq_true'.1 h
      simp only [Bool.and_eq_true, Bool.or_eq_true, beq_iff_eq] at h1
      have hle := hc d o ho hl e he h1.1
      rcases h1.2 with h2 | h2
      · rw [← h2]; exact hle
      · exact Region.reach_listed hc fuel e.on h2 hle

theorem Region.reach_not_ready {listed : Array Bool} {i d fuel : Nat} (hc : ListedClosed md ops listed) (hr : Region.reachB md ops i fuel d = true) (hun : listed.getD i true = false) : d ∉ Region.ready md ops listed := by
  intro hd
  obtain ⟨_, o, ho, hall⟩ := mem_ready.1 hd
  have hi : listed.getD i false = true := by
    cases fuel with
    | zero => simp [Region.reachB] at hr
    | succ n =>
      unfold Region.reachB at hr
      rw [ho] at hr
      obtain ⟨e, he, h1⟩ := Array.any_eq_true'.1 hr
      simp only [Bool.and_eq_true, Bool.or_eq_true, beq_iff_eq] at h1
      have hle := hall e he h1.1
      rcases h1.2 with h2 | h2
      · rw [← h2]; exact hle
      · exact Region.reach_listed hc n e.on h2 hle
  rcases Nat.lt_or_ge i listed.size with h' | h'
  · simp [h'] at hun hi
    rw [hun] at hi
    cases hi
  · simp [Array.getElem?_eq_none h'] at hun
end
end Go.Proofs.YtkbbcenjklaglaaGreatW.PrintLast
namespace Go.Proofs.YtkbbcenjklaglaaGreat.Base
open Go.RowKit
theorem w64 {x : Int} (h0 : -9223372036854775808 ≤ x) (h1 : x ≤ 9223372036854775807) : wrap64 x = x := by unfold wrap64; omega
theorem wu64 {x : Int} (h0 : 0 ≤ x) (h1 : x < 18446744073709551616) : IntKind.u64.wrap x = x := by
 simp [IntKind.wrap, IntKind.bits, IntKind.signed]; omega
theorem wu64_mod (x : Int) : IntKind.u64.wrap x = x % 18446744073709551616 := by
 simp [IntKind.wrap, IntKind.bits, IntKind.signed]
theorem wi64_eq (x : Int) : IntKind.i64.wrap x = wrap64 x := by rw [IntKind.wrap_i64]; unfold wrap64; rfl
def dig (v : Int) : Nat → List Int
 | 0 => []
 | n + 1 => v % 256 :: dig (v / 256) n
def Bytes (l : List Int) : Prop := ∀ x ∈ l, 0 ≤ x ∧ x < 256
theorem dig_length (v : Int) (n : Nat) : (dig v n).length = n := by
 induction n generalizing v with
 | zero => rfl
 | succ n ih => simp [dig, ih]
theorem pow_pos (n : Nat) : (0 : Int) < 256 ^ n := Int.pow_pos (by decide)
def Wide (n : Int) : Prop := n = 1 ∨ n = 2 ∨ n = 4 ∨ n = 8
instance (n : Int) : Decidable (Wide n) := by unfold Wide; infer_instance
def Hd (a m n : Int) : List Int :=
 [127, 69, 76, 70, 2, 1, 1, 0, 0, 0, 0, 0, 0, 0, 0, 0] ++ (dig 1 2 ++ (dig 62 2 ++ (dig 1 4 ++ (dig 0 8 ++ (dig 0 8 ++ (dig a 8 ++ (dig 0 4 ++ (dig 64 2 ++ (dig 0 2 ++ (dig 0 2 ++ (dig 64 2 ++ (dig m 2 ++ dig n 2))))))))))))
def MayHd (a m n : Int) : Prop := 0 ≤ a ∧ a ≤ 2147483647 ∧ 1 ≤ m ∧ m ≤ 65535 ∧ 1 ≤ n ∧ n < m
instance (a m n : Int) : Decidable (MayHd a m n) := by unfold MayHd; infer_instance
theorem hd_length (a m n : Int) : (Hd a m n).length = 64 := by simp [Hd, dig_length]
def numsOf : List Int → List Int
 | v :: n :: l => dig v n.toNat ++ numsOf l
 | _ => []
def enc : Nat → Int → List Int
 | 0, _ => []
 | f + 1, n => if n < 128 then [n] else (n % 128 + 128) :: enc f (n / 128)
theorem pow128_le {a b : Nat} (h : a ≤ b) : (128 : Int) ^ a ≤ 128 ^ b := by
 have e : ∀ n : Nat, (128 : Int) ^ n = ((128 ^ n : Nat) : Int) := fun n => by rw [Int.natCast_pow]; rfl
 rw [e, e];exact Int.ofNat_le.2 (Nat.pow_le_pow_right (by decide) h)
theorem enc_length : ∀ (f : Nat) (n : Int), (enc f n).length ≤ f := by
 intro f
 induction f with
 | zero => intro n; simp [enc]
 | succ f ih =>
  intro n;simp only [enc]
  split
  · simp
  · simp; exact ih _
def hv : List Int → Int
 | [] => 0
 | x :: xs => x % 128 + 128 * hv xs
def joinW : List Nat → List Int → List Int
 | w :: ws, v :: vs => dig v w ++ joinW ws vs
 | _, _ => []
theorem joinW_length : ∀ (ws : List Nat) (vs : List Int), ws.length = vs.length → (joinW ws vs).length = ws.sum := by
 intro ws
 induction ws with
 | nil => intro vs h; cases vs <;> simp [joinW]
 | cons w ws ih =>
  intro vs h
  cases vs with
  | nil => simp at h
  | cons v vs => simp only [joinW, List.length_append, dig_length, List.sum_cons]; rw [ih vs (by simpa using h)]
def MayE (n b t x v s : Int) : Prop := (0 ≤ n ∧ n ≤ 2147483647) ∧ (0 ≤ v ∧ v ≤ 2147483647) ∧ (0 ≤ s ∧ s ≤ 2147483647) ∧ (0 ≤ b ∧ b ≤ 2) ∧ (0 ≤ t ∧ t ≤ 3) ∧ (0 ≤ x ∧ x ≤ 65535)
end Go.Proofs.YtkbbcenjklaglaaGreat.Base
namespace Go.Proofs.YtkbbcenjklaglaaGreat.AL
open Go Go.RowKit
set_option linter.unusedVariables false
set_option linter.unusedSimpArgs false
inductive AV where
 | any
 | v (x : Value)
 | rd (sz : Nat) (rows : List (List AV))
 | own (id ep off n : Nat)
 | eptr (cs : List AV)
 | optr (id ep i off : Nat)
 | box (id off : Nat)
 | agg (cs : List AV)
 | tup (vs : List AV)
 | fn (f : FuncId) (cs : List AV)
 | omap (id : Nat)
 | bsl (id off n : Nat)
inductive AB where
 | row (e : TypeId) (sz ep : Nat) (rows : List (List AV))
 | box (t : TypeId) (cs : List AV)
 | map (es : List (Value × AV))
structure Env where
 w : World
 H : List (Option AB)
 σ : Nat → Value
 F : Nat → Prop
structure Cx where
 b : Nat
 F : Nat → Prop
def blkOf : Value → Option Nat
 | .slice (some a) _ _ => some a.block
 | .pointer (some a) => some a.block
 | .map (some r) => some r
 | _ => none
def Env.ours (E : Env) (g : Nat) : Prop := ∃ id b, E.H[id]? = some (some b) ∧ blkOf (E.σ id) = some g
def Env.mine (E : Env) (g : Nat) : Prop := E.ours g ∨ E.F g
def OwnV (E : Env) (id ep off n : Nat) (x : Value) : Prop :=
 id < E.H.length ∧ ∀ e sz ep' rows, E.H[id]? = some (some (.row e sz ep' rows)) → ep ≤ ep' ∧ (ep = ep' →
  off + n ≤ rows.length ∧ ∃ A c A', E.σ id = .slice A rows.length c ∧ x = .slice A' n (c - off) ∧ (0 < n ∨ off < c → A' = A.map (·.add (off * sz))) ∧ (off = 0 → A' = A))
def OptrV (E : Env) (id ep i off : Nat) (x : Value) : Prop :=
 id < E.H.length ∧ ∀ e sz ep' rows, E.H[id]? = some (some (.row e sz ep' rows)) → ep ≤ ep' ∧ (ep = ep' →
  i < rows.length ∧ ∃ a c, E.σ id = .slice (some a) rows.length c ∧ x = .pointer (some (a.add (i * sz + off))))
def BoxV (E : Env) (id off : Nat) (x : Value) : Prop :=
 id < E.H.length ∧ ∀ t cs, E.H[id]? = some (some (.box t cs)) → ∃ a, E.σ id = .pointer (some a) ∧ x = .pointer (some (a.add off))
def MapV (E : Env) (id : Nat) (x : Value) : Prop :=
 id < E.H.length ∧ ∀ es, E.H[id]? = some (some (.map es)) → E.σ id = x
def BslV (E : Env) (id off n : Nat) (x : Value) : Prop :=
 id < E.H.length ∧ ∀ t cs, E.H[id]? = some (some (.box t cs)) → ∃ a, E.σ id = .pointer (some a) ∧ off + n ≤ cs.length ∧ ∃ c, n ≤ c ∧ x = .slice (some (a.add off)) n c
inductive VR (E : Env) : AV → Value → Prop
 | any (x : Value) : VR E .any x
 | v (x : Value) : VR E (.v x) x
 | rd {sz : Nat} {rows : List (List AV)} {A : Option Addr} {c : Nat} (u : Nat → Nat → Value) (hc : rows.length ≤ c) (hm : c ≤ maxLen)
  (hz : ∀ row ∈ rows, row.length = sz)
  (hA : 0 < rows.length → ∃ ad, A = some ad ∧ ¬ E.mine ad.block ∧ ad.block < E.w.heap.size ∧
   ∀ (i : Nat) (row : List AV) (j : Nat) (av : AV), rows[i]? = some row → row[j]? = some av → E.w.cell? (ad.add (i * sz + j)) = some (u i j) ∧ (u i j).oneCell' = true)
  (hu : ∀ (i : Nat) (row : List AV) (j : Nat) (av : AV), rows[i]? = some row → row[j]? = some av → VR E av (u i j)) : VR E (.rd sz rows) (.slice A rows.length c)
 | own {id ep off n : Nat} {x : Value} (h : OwnV E id ep off n x) (hs : ∃ A c, x = .slice A n c) : VR E (.own id ep off n) x
 | eptr {cs : List AV} {ad : Addr} (u : Nat → Value) (hb : ¬ E.mine ad.block) (hl : ad.block < E.w.heap.size)
  (hA : ∀ (j : Nat) (av : AV), cs[j]? = some av → E.w.cell? (ad.add j) = some (u j) ∧ (u j).oneCell' = true) (hu : ∀ (j : Nat) (av : AV), cs[j]? = some av → VR E av (u j)) : VR E (.eptr cs) (.pointer (some ad))
 | optr {id ep i off : Nat} {x : Value} (h : OptrV E id ep i off x) (hs : ∃ ad, x = .pointer (some ad)) : VR E (.optr id ep i off) x
 | box {id off : Nat} {x : Value} (h : BoxV E id off x) (hs : ∃ ad, x = .pointer (some ad)) : VR E (.box id off) x
 | agg {cs : List AV} {us : List Value} (hl : us.length = cs.length) (h1 : ∀ u ∈ us, u.oneCell' = true) (hu : ∀ (j : Nat) (av : AV) (x : Value), cs[j]? = some av → us[j]? = some x → VR E av x) : VR E (.agg cs) (.agg ⟨us⟩)
 | tup {cs : List AV} {us : List Value} (hl : us.length = cs.length) (hu : ∀ (j : Nat) (av : AV) (x : Value), cs[j]? = some av → us[j]? = some x → VR E av x) : VR E (.tup cs) (.tuple ⟨us⟩)
 | fn {f : FuncId} {cs : List AV} {us : List Value} (hl : us.length = cs.length) (hu : ∀ (j : Nat) (av : AV) (x : Value), cs[j]? = some av → us[j]? = some x → VR E av x) : VR E (.fn f cs) (.func (.func f) #[] ⟨us⟩)
 | omap {id : Nat} {x : Value} (h : MapV E id x) (hs : ∃ r, x = .map (some r)) : VR E (.omap id) x
 | bsl {id off n : Nat} {x : Value} (h : BslV E id off n x) (hs : ∃ A c, x = .slice A n c) : VR E (.bsl id off n) x
structure Ext (E E' : Env) : Prop where
 os : E'.w.os = E.w.os
 tape : E'.w.tape = E.w.tape
 output : E'.w.output = E.w.output
 size : E.w.heap.size ≤ E'.w.heap.size
 frame : E'.F = E.F
 keep : ∀ k, k < E.w.heap.size → ¬ E.ours k → E'.w.heap[k]? = E.w.heap[k]?
 fresh' : ∀ k, E'.ours k → k < E.w.heap.size → E.ours k
 len : E.H.length ≤ E'.H.length
 row : ∀ id e sz ep rows', E'.H[id]? = some (some (.row e sz ep rows')) → id < E.H.length →
  ∃ ep0 rows0, E.H[id]? = some (some (.row e sz ep0 rows0)) ∧ (ep0 < ep ∨ (ep0 = ep ∧ E'.σ id = E.σ id ∧ rows'.length = rows0.length))
 box : ∀ id t cs', E'.H[id]? = some (some (.box t cs')) → id < E.H.length → ∃ cs0, E.H[id]? = some (some (.box t cs0)) ∧ E'.σ id = E.σ id ∧ cs'.length = cs0.length
 map : ∀ id es', E'.H[id]? = some (some (.map es')) → id < E.H.length → ∃ es0, E.H[id]? = some (some (.map es0)) ∧ E'.σ id = E.σ id
theorem Ext.refl (E : Env) : Ext E E :=
 ⟨rfl, rfl, rfl, Nat.le_refl _, rfl, fun _ _ _ => rfl, fun _ h _ => h, Nat.le_refl _, fun _ _ _ ep rows' h _ => ⟨ep, rows', h, .inr ⟨rfl, rfl, rfl⟩⟩, fun _ _ cs' h _ => ⟨cs', h, rfl, rfl⟩, fun _ es' h _ => ⟨es', h, rfl⟩⟩
theorem Ext.fresh {E E' : Env} (h : Ext E E') (k : Nat) (hm : E'.mine k) (hk : k < E.w.heap.size) : E.mine k := by
 rcases hm with hm | hm
 · exact .inl (h.fresh' k hm hk)
 · rw [h.frame] at hm; exact .inr hm
theorem Ext.keepm {E E' : Env} (h : Ext E E') (k : Nat) (hk : k < E.w.heap.size) (hm : ¬ E.mine k) : E'.w.heap[k]? = E.w.heap[k]? := h.keep k hk fun ho => hm (.inl ho)
theorem Ext.trans {E E' E'' : Env} (h : Ext E E') (h' : Ext E' E'') : Ext E E'' where
 os := h'.os.trans h.os
 tape := h'.tape.trans h.tape
 output := h'.output.trans h.output
 size := Nat.le_trans h.size h'.size
 frame := h'.frame.trans h.frame
 keep := fun k hk hm => (h'.keep k (Nat.lt_of_lt_of_le hk h.size) (fun hm' => hm (h.fresh' k hm' hk))).trans (h.keep k hk hm)
 fresh' := fun k hm hk => h.fresh' k (h'.fresh' k hm (Nat.lt_of_lt_of_le hk h.size)) hk
 len := Nat.le_trans h.len h'.len
 row := fun id e sz ep rows' hr hl => by
  obtain ⟨ep1, rows1, h1, h2⟩ := h'.row id e sz ep rows' hr (Nat.lt_of_lt_of_le hl h.len)
  obtain ⟨ep0, rows0, h3, h4⟩ := h.row id e sz ep1 rows1 h1 hl
  refine ⟨ep0, rows0, h3, ?_⟩
  rcases h2 with h2 | ⟨rfl, h2, h5⟩ <;> rcases h4 with h4 | ⟨rfl, h4, h6⟩
  · exact .inl (Nat.lt_trans h4 h2)
  · exact .inl h2
  · exact .inl h4
  · exact .inr ⟨rfl, h2.trans h4, h5.trans h6⟩
 box := fun id t cs' hr hl => by
  obtain ⟨cs1, h1, h2, h2'⟩ := h'.box id t cs' hr (Nat.lt_of_lt_of_le hl h.len)
  obtain ⟨cs0, h3, h4, h4'⟩ := h.box id t cs1 h1 hl
  exact ⟨cs0, h3, h2.trans h4, h2'.trans h4'⟩
 map := fun id es' hr hl => by
  obtain ⟨es1, h1, h2⟩ := h'.map id es' hr (Nat.lt_of_lt_of_le hl h.len)
  obtain ⟨es0, h3, h4⟩ := h.map id es1 h1 hl
  exact ⟨es0, h3, h2.trans h4⟩
theorem cell_of_heap {w w' : World} {a : Addr} (h : w'.heap[a.block]? = w.heap[a.block]?) : w'.cell? a = w.cell? a := by
 simp [World.cell?, h]
theorem block_add (a : Addr) (n : Nat) : (a.add n).block = a.block := by unfold Addr.add; split <;> rfl
theorem add_add (a : Addr) (i j : Nat) : (a.add i).add j = a.add (i + j) := by
 unfold Addr.add;by_cases hi : i = 0 <;> by_cases hj : j = 0 <;> simp [hi, hj, Nat.add_assoc]
theorem VR.ext {E E' : Env} (h : Ext E E') {av : AV} {x : Value} (hv : VR E av x) : VR E' av x := by
 induction hv with
 | any x => exact .any x
 | v x => exact .v x
 | rd u hc hm hz hA hu ih =>
  refine .rd u hc hm hz (fun h0 => ?_) ih;obtain ⟨ad, rfl, hn, hl, hcell⟩ := hA h0;refine ⟨ad, rfl, fun hm' => hn (h.fresh _ hm' hl), Nat.lt_of_lt_of_le hl h.size, fun i row j av hi hj => ?_⟩;have := hcell i row j av hi hj;exact ⟨(cell_of_heap (by rw [block_add]; exact h.keepm _ hl hn)).trans this.1, this.2⟩
 | own hv hs =>
  refine .own ⟨Nat.lt_of_lt_of_le hv.1 h.len, fun e sz ep' rows hr => ?_⟩ hs;obtain ⟨ep0, rows0, h1, h2⟩ := h.row _ _ _ _ _ hr hv.1;obtain ⟨h3, h4⟩ := hv.2 _ _ _ _ h1;rcases h2 with h2 | ⟨rfl, h2, h5⟩
  · exact ⟨by omega, fun e => by omega⟩
  · refine ⟨h3, fun e => ?_⟩
    obtain ⟨h6, A, c, A', h7, h8, h9⟩ := h4 e;exact ⟨by omega, A, c, A', by rw [h2, h7, h5], h8, h9⟩
 | eptr u hb hl hA hu ih =>
  refine .eptr u (fun hm' => hb (h.fresh _ hm' hl)) (Nat.lt_of_lt_of_le hl h.size) (fun j av hj => ?_) ih;have := hA j av hj;exact ⟨(cell_of_heap (by rw [block_add]; exact h.keepm _ hl hb)).trans this.1, this.2⟩
 | optr hv hs =>
  refine .optr ⟨Nat.lt_of_lt_of_le hv.1 h.len, fun e sz ep' rows hr => ?_⟩ hs;obtain ⟨ep0, rows0, h1, h2⟩ := h.row _ _ _ _ _ hr hv.1;obtain ⟨h3, h4⟩ := hv.2 _ _ _ _ h1;rcases h2 with h2 | ⟨rfl, h2, h5⟩
  · exact ⟨by omega, fun e => by omega⟩
  · refine ⟨h3, fun e => ?_⟩
    obtain ⟨h6, a, c, h7, h8⟩ := h4 e;exact ⟨by omega, a, c, by rw [h2, h7, h5], h8⟩
 | box hv hs =>
  refine .box ⟨Nat.lt_of_lt_of_le hv.1 h.len, fun t cs hr => ?_⟩ hs;obtain ⟨cs0, h1, h2, _⟩ := h.box _ _ _ hr hv.1;obtain ⟨a, h3, h4⟩ := hv.2 _ _ h1;exact ⟨a, h2.trans h3, h4⟩
 | agg hl h1 hu ih => exact .agg hl h1 ih
 | tup hl hu ih => exact .tup hl ih
 | fn hl hu ih => exact .fn hl ih
 | omap hv hs =>
  refine .omap ⟨Nat.lt_of_lt_of_le hv.1 h.len, fun es hr => ?_⟩ hs;obtain ⟨es0, h1, h2⟩ := h.map _ _ hr hv.1;exact h2.trans (hv.2 _ h1)
 | bsl hv hs =>
  refine .bsl ⟨Nat.lt_of_lt_of_le hv.1 h.len, fun t cs hr => ?_⟩ hs;obtain ⟨cs0, h1, h2, h5⟩ := h.box _ _ _ hr hv.1;obtain ⟨a, h3, h4, h6⟩ := hv.2 _ _ h1;exact ⟨a, h2.trans h3, by omega, h6⟩
def RowsR (E : Env) (sz : Nat) (rows : List (List AV)) (xs : List Value) : Prop :=
 (∀ row ∈ rows, row.length = sz) ∧ xs.length = rows.length * sz ∧ (∀ x ∈ xs, x.oneCell' = true) ∧
  ∀ (i : Nat) (row : List AV) (j : Nat) (av : AV), rows[i]? = some row → row[j]? = some av → ∃ x, xs[i * sz + j]? = some x ∧ VR E av x
def CellsR (E : Env) (cs : List AV) (us : List Value) : Prop :=
 us.length = cs.length ∧ (∀ x ∈ us, x.oneCell' = true) ∧ ∀ (j : Nat) (av : AV) (x : Value), cs[j]? = some av → us[j]? = some x → VR E av x
def MapR (E : Env) (es : List (Value × AV)) (ents : Array MapEntry) (clock : Nat) : Prop :=
 ents.size = es.length ∧ (∀ (i : Nat) (p : Value × AV) (m : MapEntry), es[i]? = some p → ents[i]? = some m → m.key = p.1 ∧ VR E p.2 m.val) ∧
  (∀ (i : Nat) (m : MapEntry), ents[i]? = some m → m.born < clock) ∧ ∀ (i j : Nat) (m m' : MapEntry), ents[i]? = some m → ents[j]? = some m' → m.born = m'.born ∨ m.key = m'.key → i = j
def BR (base : Cx) (E : Env) (id : Nat) : AB → Prop
 | .row e sz _ rows => ∃ xs, E.w.ownsRow base.b e sz (E.σ id) rows.length xs ∧ RowsR E sz rows xs
 | .box t cs => ∃ g us, E.σ id = .pointer (some ⟨g, 0, none⟩) ∧ base.b ≤ g ∧ E.w.heap[g]? = some (.cells ⟨us⟩ t (0, 0)) ∧ CellsR E cs us
 | .map es => ∃ r ents clock, E.σ id = .map (some r) ∧ base.b ≤ r ∧ E.w.heap[r]? = some (.map ents clock) ∧ MapR E es ents clock
structure Heap (base : Cx) (E : Env) : Prop where
 bs : base.b ≤ E.w.heap.size
 far : ∀ g, E.F g → g < E.w.heap.size
 clear : ∀ g, E.ours g → ¬ E.F g
 live : ∀ id b, E.H[id]? = some (some b) → BR base E id b
 apart : ∀ id id' b b' g, E.H[id]? = some (some b) → E.H[id']? = some (some b') → blkOf (E.σ id) = some g → blkOf (E.σ id') = some g → id = id'
def Fr (E : Env) (fr : List AV) (tmps : Array Value) : Prop := fr.length = tmps.size ∧ ∀ (i : Nat) (av : AV), fr[i]? = some av → ∃ x, tmps[i]? = some x ∧ VR E av x
theorem Fr.ext {E E' : Env} {fr : List AV} {tmps : Array Value} (h : Fr E fr tmps) (he : Ext E E') : Fr E' fr tmps :=
 ⟨h.1, fun i av hi => by obtain ⟨x, h1, h2⟩ := h.2 i av hi; exact ⟨x, h1, h2.ext he⟩⟩
theorem RowsR.ext {E E' : Env} {sz : Nat} {rows : List (List AV)} {xs : List Value} (h : RowsR E sz rows xs) (he : Ext E E') : RowsR E' sz rows xs :=
 ⟨h.1, h.2.1, h.2.2.1, fun i row j av hi hj => by obtain ⟨x, h1, h2⟩ := h.2.2.2 i row j av hi hj; exact ⟨x, h1, h2.ext he⟩⟩
theorem CellsR.ext {E E' : Env} {cs : List AV} {us : List Value} (h : CellsR E cs us) (he : Ext E E') : CellsR E' cs us :=
 ⟨h.1, h.2.1, fun j av x hj hx => (h.2.2 j av x hj hx).ext he⟩
theorem MapR.ext {E E' : Env} {es : List (Value × AV)} {ents : Array MapEntry} {clock : Nat} (h : MapR E es ents clock) (he : Ext E E') : MapR E' es ents clock :=
 ⟨h.1, fun i p m hi hm => ⟨(h.2.1 i p m hi hm).1, (h.2.1 i p m hi hm).2.ext he⟩, h.2.2⟩
structure St where
 fr : List AV
 H : List (Option AB)
def Rel (base : Cx) (σ : Nat → Value) (s : St) (a : Act) (w : World) : Prop := Heap base ⟨w, s.H, σ, base.F⟩ ∧ Fr ⟨w, s.H, σ, base.F⟩ s.fr a.tmps ∧ a.defers = []
def AW (P : Program) (base : Cx) (c : Code) (s : St) (Q : Exit → St → Prop) : Prop :=
 ∀ (σ : Nat → Value) (a : Act) (w : World), Rel base σ s a w → ∀ K : Exit → Act → World → Prop,
  (∀ e σ' s' a' w', Rel base σ' s' a' w' → Ext ⟨w, s.H, σ, base.F⟩ ⟨w', s'.H, σ', base.F⟩ → Q e s' → K e a' w') → c.wp P K a w
section
variable {P : Program} {base : Cx} {s : St} {Q : Exit → St → Prop}
theorem AW.mono {c : Code} {Q' : Exit → St → Prop} (h : AW P base c s Q) (hq : ∀ e s', Q e s' → Q' e s') : AW P base c s Q' :=
 fun σ a w hr K hk => h σ a w hr K fun e σ' s' a' w' h1 h2 h3 => hk e σ' s' a' w' h1 h2 (hq e s' h3)
theorem AW.seq {c d : Code} (h : AW P base c s (fun e s' => match e with | .normal => AW P base d s' Q | e => Q e s')) : AW P base (.seq c d) s Q := by
 intro σ a w hr K hk;refine wp_seq (h σ a w hr _ fun e σ' s' a' w' h1 h2 h3 => ?_)
 cases e with
 | normal => exact h3 σ' a' w' h1 K fun e σ'' s'' a'' w'' h4 h5 h6 => hk e σ'' s'' a'' w'' h4 (h2.trans h5) h6
 | exit id => exact hk _ _ _ _ _ h1 h2 h3
 | goto l => exact hk _ _ _ _ _ h1 h2 h3
 | ret => exact hk _ _ _ _ _ h1 h2 h3
 | panic c => exact hk _ _ _ _ _ h1 h2 h3
 | outgrown => exact hk _ _ _ _ _ h1 h2 h3
theorem AW.skip (h : Q .normal s) : AW P base .skip s Q := fun σ a w hr K hk => wp_skip (hk _ _ _ _ _ hr (Ext.refl _) h)
theorem AW.ret (h : Q .ret s) : AW P base .ret s Q := fun σ a w hr K hk => wp_ret (hk _ _ _ _ _ hr (Ext.refl _) h)
theorem AW.exit {id : Nat} (h : Q (.exit id) s) : AW P base (.exit id) s Q := fun σ a w hr K hk => wp_exit (hk _ _ _ _ _ hr (Ext.refl _) h)
theorem AW.block {id : Nat} {c : Code} (h : AW P base c s (fun e s' => match e with | .exit id' => if id' = id then Q .normal s' else Q (.exit id') s' | e => Q e s')) : AW P base (.block id c) s Q := by
 intro σ a w hr K hk;refine wp_block (h σ a w hr _ fun e σ' s' a' w' h1 h2 h3 => ?_)
 cases e with
 | exit id' =>
  show if id' = id then K .normal a' w' else K (.exit id') a' w'
  by_cases hid : id' = id
  · rw [if_pos hid]; simp only [if_pos hid] at h3; exact hk _ _ _ _ _ h1 h2 h3
  · rw [if_neg hid]; simp only [if_neg hid] at h3; exact hk _ _ _ _ _ h1 h2 h3
 | normal => exact hk _ _ _ _ _ h1 h2 h3
 | goto l => exact hk _ _ _ _ _ h1 h2 h3
 | ret => exact hk _ _ _ _ _ h1 h2 h3
 | panic c => exact hk _ _ _ _ _ h1 h2 h3
 | outgrown => exact hk _ _ _ _ _ h1 h2 h3
theorem AW.loop {c : Code} (I : Nat → St → Prop) (n₀ : Nat) (h₀ : I n₀ s) (round : ∀ n s', I n s' → AW P base c s' (fun e s'' => match e with | .normal => ∃ m, m < n ∧ I m s'' | e => Q e s'')) : AW P base (.loop c) s Q := by
 intro σ a w hr K hk;refine wp_loop_ghost (fun n a' w' => ∃ σ' s', Rel base σ' s' a' w' ∧ Ext ⟨w, s.H, σ, base.F⟩ ⟨w', s'.H, σ', base.F⟩ ∧ I n s') n₀ ⟨σ, s, hr, Ext.refl _, h₀⟩ ?_;rintro n a' w' ⟨σ', s', h1, h2, h3⟩
 refine round n s' h3 σ' a' w' h1 _ fun e σ'' s'' a'' w'' h4 h5 h6 => ?_
 cases e with
 | normal =>
  obtain ⟨m, hm, hi⟩ := h6;exact ⟨m, hm, σ'', s'', h4, h2.trans h5, hi⟩
 | exit id => exact hk _ _ _ _ _ h4 (h2.trans h5) h6
 | goto l => exact hk _ _ _ _ _ h4 (h2.trans h5) h6
 | ret => exact hk _ _ _ _ _ h4 (h2.trans h5) h6
 | panic c => exact hk _ _ _ _ _ h4 (h2.trans h5) h6
 | outgrown => exact hk _ _ _ _ _ h4 (h2.trans h5) h6
end
structure KeepW (w w' : World) : Prop where
 size : w.heap.size ≤ w'.heap.size
 keep : ∀ k, k < w.heap.size → w'.heap[k]? = w.heap[k]?
theorem KeepW.refl (w : World) : KeepW w w := ⟨Nat.le_refl _, fun _ _ => rfl⟩
theorem KeepW.trans {w w' w'' : World} (h : KeepW w w') (h' : KeepW w' w'') : KeepW w w'' :=
 ⟨Nat.le_trans h.size h'.size, fun k hk => (h'.keep k (Nat.lt_of_lt_of_le hk h.size)).trans (h.keep k hk)⟩
theorem KeepW.cell {w w' : World} (h : KeepW w w') {a : Addr} (ha : a.block < w.heap.size) : w'.cell? a = w.cell? a := cell_of_heap (h.keep _ ha)
def ev (s : St) : Operand → AV
 | .tmp t => s.fr.getD t .any
 | .const v => .v v
 | .func f => .v (.func (.func f) #[] #[])
 | .global _ => .any
def St.put (s : St) (dst : Option Tmp) (av : AV) : St := match dst with
 | some d => ⟨s.fr.set d av, s.H⟩
 | none => s
theorem ev_ok {base : Cx} {σ : Nat → Value} {s : St} {a : Act} {w : World} (h : Rel base σ s a w) (x : Operand) : VR ⟨w, s.H, σ, base.F⟩ (ev s x) (a.eval x) := by
 cases x with
 | tmp t =>
  simp only [ev, Act.eval];rw [List.getD_eq_getElem?_getD]
  cases hq : s.fr[t]? with
  | none => exact .any _
  | some av =>
   obtain ⟨x, h1, h2⟩ := h.2.1.2 t av hq;simpa [h1] using h2
 | const v => exact .v _
 | global g => exact .any _
 | func f => exact .v _
theorem ev_v {base : Cx} {σ : Nat → Value} {s : St} {a : Act} {w : World} (h : Rel base σ s a w) {x : Operand} {y : Value} (hx : ev s x = .v y) : a.eval x = y := by
 have := ev_ok h x;rw [hx] at this;cases this;rfl
theorem Fr.put {E : Env} {fr : List AV} {tmps : Array Value} (h : Fr E fr tmps) (d : Nat) {av : AV} {x : Value} (hv : VR E av x) : Fr E (fr.set d av) (tmps.setIfInBounds d x) := by
 refine ⟨by simpa using h.1, fun i av' hi => ?_⟩;by_cases hd : d = i
 · subst hd
   have hlt : d < fr.length := by
    have := (List.getElem?_eq_some_iff.1 hi).1;simpa using this
   rw [List.getElem?_set_self hlt] at hi;obtain rfl := Option.some.inj hi;exact ⟨x, by rw [Array.getElem?_setIfInBounds_self_of_lt (by rw [← h.1]; exact hlt)], hv⟩
 · rw [List.getElem?_set_ne hd] at hi
   obtain ⟨y, h1, h2⟩ := h.2 i av' hi;exact ⟨y, by rw [Array.getElem?_setIfInBounds_ne hd]; exact h1, h2⟩
theorem Rel.put {base : Cx} {σ : Nat → Value} {s : St} {a : Act} {w : World} (h : Rel base σ s a w) (dst : Option Tmp) {av : AV} {x : Value} (hv : VR ⟨w, s.H, σ, base.F⟩ av x) : Rel base σ (s.put dst av) (a.put dst x) w := by
 cases dst with
 | none => exact h
 | some d => exact ⟨h.1, h.2.1.put d hv, h.2.2⟩
theorem put_H (s : St) (dst : Option Tmp) (av : AV) : (s.put dst av).H = s.H := by cases dst <;> rfl
def Pu (P : Program) (o : Op) (s : St) (av : AV) : Prop :=
 ∀ (d : Option Tmp) (t : TypeId) (pos : String) (af : Array Edge) (g : Option (Nat × Bool)) (base : Cx) (σ : Nat → Value) (a : Act) (w : World), Rel base σ s a w →
  ∃ x, VR ⟨w, s.H, σ, base.F⟩ av x ∧ ∀ w', (execOp a.eval ⟨d, o, t, pos, af, g⟩).run P w' = .ok (.value x) w'
def Lt (P : Program) (o : Op) (s : St) (av : AV) : Prop :=
 ∀ (d : Option Tmp) (t : TypeId) (pos : String) (af : Array Edge) (g : Option (Nat × Bool)) (base : Cx) (σ : Nat → Value) (a : Act) (w : World), Rel base σ s a w →
  ∃ x, VR ⟨w, s.H, σ, base.F⟩ av x ∧ ∀ w', KeepW w w' → (execOp a.eval ⟨d, o, t, pos, af, g⟩).run P w' = .ok (.value x) w'
theorem Pu.lt {P : Program} {o : Op} {s : St} {av : AV} (h : Pu P o s av) : Lt P o s av := fun d t pos af g base σ a w hr => by
 obtain ⟨x, h1, h2⟩ := h d t pos af g base σ a w hr
 exact ⟨x, h1, fun w' _ => h2 w'⟩
def Hv (P : Program) (base : Cx) (o : Oper) (s : St) (R : St → Prop) : Prop :=
 ∀ (σ : Nat → Value) (a : Act) (w : World), Rel base σ s a w → ∀ (Q : Exit → Act → World → Prop) (K : Act → World → Prop),
  (∀ σ' s' a' w', Rel base σ' s' a' w' → Ext ⟨w, s.H, σ, base.F⟩ ⟨w', s'.H, σ', base.F⟩ → R s' → K a' w') → o.wp P a w K Q
def AO (P : Program) (base : Cx) (ops : Array Oper) (rest : List Oper) (s : St) (Q : Exit → St → Prop) : Prop :=
 ∀ (σ : Nat → Value) (a : Act) (w : World), Rel base σ s a w → ∀ K : Exit → Act → World → Prop,
  (∀ e σ' s' a' w', Rel base σ' s' a' w' → Ext ⟨w, s.H, σ, base.F⟩ ⟨w', s'.H, σ', base.F⟩ → Q e s' → K e a' w') → wpList P ops K rest a w
section
variable {P : Program} {base : Cx} {s : St} {Q : Exit → St → Prop} {ops : Array Oper} {rest : List Oper}
theorem AW.region {id : Nat} (h : AO P base ops ops.toList s Q) : AW P base (.region id ops false) s Q :=
 fun σ a w hr K hk => wp_region_list (h σ a w hr K hk)
theorem AO.nil (h : Q .normal s) : AO P base ops [] s Q := fun σ a w hr K hk => hk _ _ _ _ _ hr (Ext.refl _) h
theorem AO.light {d : Option Tmp} {o : Op} {t : TypeId} {pos : String} {af : Array Edge} {av : AV} (h : Lt P o s av) (k : AO P base ops rest (s.put d av) Q) :
 AO P base ops (⟨d, o, t, pos, af, none⟩ :: rest) s Q := by
 intro σ a w hr K hk;obtain ⟨x, h1, h2⟩ := h d t pos af none base σ a w hr;refine wpList_plain rfl fun K' hK' => ?_
 unfold Oper.wp;rw [h2 w (KeepW.refl w)];exact hK' _ _ (k σ _ w (hr.put d h1) K fun e σ' s' a' w' h3 h4 h5 => hk e σ' s' a' w' h3 (by rw [put_H] at h4; exact h4) h5)
theorem AO.heavy {o : Oper} {R : St → Prop} (hg : o.guard = none) (h : Hv P base o s R) (k : ∀ s', R s' → AO P base ops rest s' Q) : AO P base ops (o :: rest) s Q := by
 intro σ a w hr K hk;refine wpList_plain hg fun K' hK' => ?_
 refine h σ a w hr K K' fun σ' s' a' w' h1 h2 h3 => hK' _ _ (k s' h3 σ' a' w' h1 K fun e σ'' s'' a'' w'' h4 h5 h6 => hk e σ'' s'' a'' w'' h4 (h2.trans h5) h6)
def wantedA (ops : Array Oper) (s : St) : Option (Nat × Bool) → Option Bool
 | none => some true
 | some (j, want) => match (ops[j]?).bind (·.dst) with
  | some t => match s.fr[t]? with
   | some (.v (.bool b)) => some (b == want)
   | _ => none
  | none => none
theorem wanted_ok {σ : Nat → Value} {a : Act} {w : World} (hr : Rel base σ s a w) {o : Oper} {b : Bool} (h : wantedA ops s o.guard = some b) : Region.wanted o (yielded ops a.tmps) = b := by
 unfold Region.wanted
 cases hg : o.guard with
 | none => rw [hg] at h; simpa [wantedA] using h
 | some p =>
  obtain ⟨j, want⟩ := p;rw [hg] at h;simp only [wantedA] at h
  cases hd : (ops[j]?).bind (·.dst) with
  | none => rw [hd] at h; simp at h
  | some t =>
   rw [hd] at h;simp only at h
   split at h
   · rename_i b' hb'
     obtain ⟨x, h1, h2⟩ := hr.2.1.2 t _ hb';cases h2;have : yielded ops a.tmps j = some b' := by unfold yielded; rw [hd]; simp [h1]
     show (yielded ops a.tmps j == some want) = b
     rw [this];obtain rfl := Option.some.inj h
     cases b' <;> cases want <;> rfl
   · cases h
theorem AO.lightG {o : Oper} {av : AV} (hw : wantedA ops s o.guard = some true) (h : Lt P o.op s av) (k : AO P base ops rest (s.put o.dst av) Q) : AO P base ops (o :: rest) s Q := by
 intro σ a w hr K hk;obtain ⟨x, h1, h2⟩ := h o.dst o.type o.pos o.after o.guard base σ a w hr;have hwt := wanted_ok hr hw;unfold wpList;rw [hwt, if_pos rfl];refine .inl ?_;unfold Oper.wp;rw [h2 w (KeepW.refl w)];exact k σ _ w (hr.put o.dst h1) K fun e σ' s' a' w' h3 h4 h5 => hk e σ' s' a' w' h3 (by rw [put_H] at h4; exact h4) h5
theorem AO.heavyG {o : Oper} {R : St → Prop} (hw : wantedA ops s o.guard = some true) (h : Hv P base o s R) (k : ∀ s', R s' → AO P base ops rest s' Q) : AO P base ops (o :: rest) s Q := by
 intro σ a w hr K hk;have hwt := wanted_ok hr hw;unfold wpList;rw [hwt, if_pos rfl];exact .inl (h σ a w hr K _ fun σ' s' a' w' h1 h2 h3 => k s' h3 σ' a' w' h1 K fun e σ'' s'' a'' w'' h4 h5 h6 => hk e σ'' s'' a'' w'' h4 (h2.trans h5) h6)
theorem AO.skipG {o : Oper} (hw : wantedA ops s o.guard = some false) (k : AO P base ops rest (s.put o.dst (.v undef)) Q) : AO P base ops (o :: rest) s Q := by
 intro σ a w hr K hk;have hwt := wanted_ok hr hw;unfold wpList;rw [hwt, if_neg (by decide)];exact k σ _ w (hr.put o.dst (.v _)) K fun e σ' s' a' w' h3 h4 h5 => hk e σ' s' a' w' h3 (by rw [put_H] at h4; exact h4) h5
theorem AW.cond {c : Operand} {x y : Code} {b : Bool} (hc : ev s c = .v (.bool b)) (h : if b then AW P base x s Q else AW P base y s Q) : AW P base (.cond c x y) s Q := by
 intro σ a w hr K hk;refine wp_cond (ev_v hr hc) ?_;cases b
 · exact h σ a w hr K hk
 · exact h σ a w hr K hk
end
open Go.Proofs.YtkbbcenjklaglaaGreatW.PrintLast in
def wpAnyR (P : Program) (ops : Array Oper) (Q : Exit → Act → World → Prop) (ds : List Nat) : Nat → Array Bool → Act → World → Prop
 | 0, listed, a, w => Region.ready .any ops listed = [] ∧ Q .normal a w
 | fuel + 1, listed, a, w =>
  (Region.ready .any ops listed = [] → Q .normal a w) ∧
  ∀ i ∈ Region.ready .any ops listed, wpOp P ops Q i (fun a' w' => (i ∉ ds → KeepW w w') ∧ wpAnyR P ops Q ds fuel (listed.setIfInBounds i true) a' w') a w
section
open Go.Proofs.YtkbbcenjklaglaaGreatW.PrintLast
variable {P : Program} {ops : Array Oper} {Q : Exit → Act → World → Prop} {ds : List Nat}
theorem wpAny_of_R : ∀ (fuel : Nat) (listed : Array Bool) (a : Act) (w : World), wpAnyR P ops Q ds fuel listed a w → wpAny P .any ops Q fuel listed a w
 | 0, _, _, _, h => h
 | fuel + 1, _, _, _, h => ⟨h.1, fun i hi => wpOp_mono (fun a' w' h' => wpAny_of_R fuel _ a' w' h'.2) (h.2 i hi)⟩
theorem yieldsIf_mono {S S' : World → Prop} {o : Oper} {v : Value} {a : Act} (h : YieldsIf P ops S o v a) (hs : ∀ w, S' w → S w) : YieldsIf P ops S' o v a := by
 unfold YieldsIf at *;rcases h with ⟨h1, h2⟩ | h
 · exact .inl ⟨h1, fun w hw => h2 w (hs w hw)⟩
 · exact .inr h
theorem wpAnyR_first {i : Nat} {oi : Oper} {v : Value} (hi : ops[i]? = some oi) (hsel : ∀ (j : Nat) (o : Oper) cs b, ops[j]? = some o → o.op ≠ .select cs b)
 (hQ : ∀ c a w, Q (.panic c) (a.put oi.dst v) w → Q (.panic c) a w) (n : Nat) :
 ∀ (fuel : Nat) (listed : Array Bool) (a : Act) (w : World),
  (∀ j oj, ops[j]? = some oj → j ≠ i → listed.getD j true = false → (∀ e ∈ oj.after, Region.binds .any e = true → e.on ≠ i) → oi.apart ops oj = true) →
  ListedClosed .any ops listed → (∀ d ∈ ds, listed.getD d true = false → Region.reachB .any ops i n d = true) →
  i ∈ Region.ready .any ops listed → YieldsIf P ops (KeepW w) oi v a →
  wpAnyR P ops Q ds fuel (listed.setIfInBounds i true) (a.put oi.dst v) w → wpAnyR P ops Q ds (fuel + 1) listed a w := by
 intro fuel
 induction fuel with
 | zero =>
  intro listed a w _ _ _ hr hy H;refine ⟨fun h => (by rw [h] at hr; cases hr), fun j hj => ?_⟩;by_cases hji : j = i
  · subst hji; exact hy.wpOp hi (KeepW.refl w) ⟨fun _ => KeepW.refl w, H⟩
  · have := ready_mono hj hji
    rw [H.1] at this;cases this
 | succ fuel ih =>
  intro listed a w hfree hc hd hr hy H;refine ⟨fun h => (by rw [h] at hr; cases hr), fun j hj => ?_⟩;by_cases hji : j = i
  · subst hji; exact hy.wpOp hi (KeepW.refl w) ⟨fun _ => KeepW.refl w, H⟩
  · have h1 := H.2 j (ready_mono hj hji)
    obtain ⟨hjun, oj, hoj, hall⟩ := mem_ready.1 hj;have hiun := (mem_ready.1 hr).1;have hnot : ∀ e ∈ oj.after, Region.binds .any e = true → e.on ≠ i := fun e he hb heq => by
     have h1 := hall e he hb;rw [heq] at h1;rcases Nat.lt_or_ge i listed.size with h' | h'
     · simp [h'] at hiun h1; rw [hiun] at h1; cases h1
     · simp [Array.getElem?_eq_none h'] at h1
    have hjd : j ∉ ds := fun hm => Region.reach_not_ready hc (hd j hm hjun) hiun hj
    have h2 := wpOp_putIf hoj (hfree j oj hoj hji hjun hnot) (fun cs b => hsel i oi cs b hi) (fun cs b => hsel j oj cs b hoj) hQ hy h1;have hfree' : ∀ k ok, ops[k]? = some ok → k ≠ i → (listed.setIfInBounds j true).getD k true = false →
     (∀ e ∈ ok.after, Region.binds .any e = true → e.on ≠ i) → oi.apart ops ok = true := fun k ok hk hki hun hno => by
     refine hfree k ok hk hki ?_ hno;by_cases hjk : j = k
     · subst hjk; exact hjun
     · rw [getD_set_ne true hjk] at hun; exact hun
    have hd' : ∀ d ∈ ds, (listed.setIfInBounds j true).getD d true = false → Region.reachB .any ops i n d = true := fun d hm hun => by
     refine hd d hm ?_;by_cases hjk : j = d
     · subst hjk; exact hjun
     · rw [getD_set_ne true hjk] at hun; exact hun
    refine wpOp_mono (fun a' w' h3 => ⟨h3.2.1, ih (listed.setIfInBounds j true) a' w' hfree' (hc.set hj) hd' (ready_mono hr (Ne.symm hji)) (yieldsIf_mono h3.1 fun w'' hw'' => (h3.2.1 hjd).trans hw'') ?_⟩) h2;rw [Array.setIfInBounds_comm _ _ hji];exact h3.2.2
theorem wpAnyR_any {i : Nat} {oi : Oper} {v : Value} (hi : ops[i]? = some oi) (hsel : ∀ (j : Nat) (o : Oper) cs b, ops[j]? = some o → o.op ≠ .select cs b)
 (hQ : ∀ c a w, Q (.panic c) (a.put oi.dst v) w → Q (.panic c) a w) :
 ∀ (fuel : Nat) (listed : Array Bool) (a : Act) (w : World),
  (∀ j oj, ops[j]? = some oj → j ≠ i → listed.getD j true = false → (∀ e ∈ oj.after, Region.binds .any e = true → e.on ≠ i) → oi.apart ops oj = true) →
  i ∈ Region.ready .any ops listed → Yields P ops oi v a →
  wpAnyR P ops Q ds fuel (listed.setIfInBounds i true) (a.put oi.dst v) w → wpAnyR P ops Q ds (fuel + 1) listed a w := by
 intro fuel
 induction fuel with
 | zero =>
  intro listed a w _ hr hy H;refine ⟨fun h => (by rw [h] at hr; cases hr), fun j hj => ?_⟩;by_cases hji : j = i
  · subst hji; exact (hy.yieldsIf (S := fun _ => True)).wpOp hi trivial ⟨fun _ => KeepW.refl w, H⟩
  · have := ready_mono hj hji
    rw [H.1] at this;cases this
 | succ fuel ih =>
  intro listed a w hfree hr hy H;refine ⟨fun h => (by rw [h] at hr; cases hr), fun j hj => ?_⟩;by_cases hji : j = i
  · subst hji; exact (hy.yieldsIf (S := fun _ => True)).wpOp hi trivial ⟨fun _ => KeepW.refl w, H⟩
  · have h1 := H.2 j (ready_mono hj hji)
    obtain ⟨hjun, oj, hoj, hall⟩ := mem_ready.1 hj;have hiun := (mem_ready.1 hr).1;have hnot : ∀ e ∈ oj.after, Region.binds .any e = true → e.on ≠ i := fun e he hb heq => by
     have h1 := hall e he hb;rw [heq] at h1;rcases Nat.lt_or_ge i listed.size with h' | h'
     · simp [h'] at hiun h1; rw [hiun] at h1; cases h1
     · simp [Array.getElem?_eq_none h'] at h1
    have h2 := wpOp_put hoj (hfree j oj hoj hji hjun hnot) (fun cs b => hsel i oi cs b hi) (fun cs b => hsel j oj cs b hoj) hQ hy h1;have hfree' : ∀ k ok, ops[k]? = some ok → k ≠ i → (listed.setIfInBounds j true).getD k true = false →
     (∀ e ∈ ok.after, Region.binds .any e = true → e.on ≠ i) → oi.apart ops ok = true := fun k ok hk hki hun hno => by
     refine hfree k ok hk hki ?_ hno;by_cases hjk : j = k
     · subst hjk; exact hjun
     · rw [getD_set_ne true hjk] at hun; exact hun
    refine wpOp_mono (fun a' w' h3 => ⟨h3.2.1, ih (listed.setIfInBounds j true) a' w' hfree' (ready_mono hr (Ne.symm hji)) h3.1 ?_⟩) h2;rw [Array.setIfInBounds_comm _ _ hji];exact h3.2.2
end
def AY (P : Program) (base : Cx) (ops : Array Oper) (ds : List Nat) (n : Nat) (l : Array Bool) (s : St) (Q : Exit → St → Prop) : Prop :=
 ∀ (σ : Nat → Value) (a : Act) (w : World), Rel base σ s a w → ∀ K : Exit → Act → World → Prop, (∀ c a w, ¬ K (.panic c) a w) →
  (∀ e σ' s' a' w', Rel base σ' s' a' w' → Ext ⟨w, s.H, σ, base.F⟩ ⟨w', s'.H, σ', base.F⟩ → Q e s' → e = .normal → K e a' w') → wpAnyR P ops K ds n l a w
def anyR (ops : Array Oper) (l l' : Array Bool) (i : Nat) : Bool :=
 Region.noSelect ops && Region.free .any ops l i && (Region.ready .any ops l).contains i && (l.setIfInBounds i true == l')
open Go.Proofs.YtkbbcenjklaglaaGreatW.PrintLast in
def takeR (ops : Array Oper) (ds : List Nat) (l l' : Array Bool) (i : Nat) : Bool :=
 anyR ops l l' i && Region.closedB .any ops l && Region.lastB .any ops l ds i
theorem Rel.drew {base : Cx} {σ : Nat → Value} {s : St} {a : Act} {w : World} (h : Rel base σ s a w) : Rel base σ s a w.drew ∧ Ext ⟨w, s.H, σ, base.F⟩ ⟨w.drew, s.H, σ, base.F⟩ := by
 have he : Ext ⟨w, s.H, σ, base.F⟩ ⟨w.drew, s.H, σ, base.F⟩ := ⟨rfl, rfl, rfl, Nat.le_refl _, rfl, fun _ _ _ => rfl, fun _ h _ => h, Nat.le_refl _, fun _ _ _ ep rows' h _ => ⟨ep, rows', h, .inr ⟨rfl, rfl, rfl⟩⟩, fun _ _ cs' h _ => ⟨cs', h, rfl, rfl⟩, fun _ es' h _ => ⟨es', h, rfl⟩⟩;refine ⟨⟨⟨h.1.bs, h.1.far, h.1.clear, fun id b hb => ?_, h.1.apart⟩, h.2.1.ext he, h.2.2⟩, he⟩
 have := h.1.live id b hb
 cases b with
 | row e sz ep rows =>
  obtain ⟨xs, h1, h2⟩ := this;exact ⟨xs, h1, h2.ext he⟩
 | box t cs =>
  obtain ⟨g, us, h1, h2, h3, h4⟩ := this;exact ⟨g, us, h1, h2, h3, h4.ext he⟩
 | map es =>
  obtain ⟨r, ents, clock, h1, h2, h3, h4⟩ := this;exact ⟨r, ents, clock, h1, h2, h3, h4.ext he⟩
section
open Go.Proofs.YtkbbcenjklaglaaGreatW.PrintLast
variable {P : Program} {base : Cx} {s : St} {Q : Exit → St → Prop} {ops : Array Oper} {ds : List Nat} {n : Nat} {l : Array Bool}
theorem AW.draws {id : Nat} (ds : List Nat) (n : Nat) (l : Array Bool) (hm : P.follows .mixedOrders = true) (hn : ops.size = n) (hl : Array.replicate n false = l) (h : AY P base ops ds n l s Q) : AW P base (.region id ops true) s Q := by
 subst hn;subst hl;intro σ a w hr K hk;obtain ⟨hr', he⟩ := hr.drew;have h1 := h σ a w.drew hr' (fun e a w => match e with | .normal => K .normal a w | _ => False) (fun c a w hf => hf) (fun e σ' s' a' w' h2 h3 h4 h5 => by
  subst h5;exact hk _ _ _ _ _ h2 (he.trans h3) h4)
 refine wp_mono (wp_region_any hm (wpAny_of_R _ _ _ _ h1)) fun e a w h2 => ?_
 cases e with
 | normal => exact h2
 | _ => exact h2.elim
theorem AY.done (hr : (Region.ready .any ops l == []) = true) (h : Q .normal s) : AY P base ops ds n l s Q := by
 intro σ a w h1 K _ hk;have hr' : Region.ready .any ops l = [] := by simpa using hr
 have h2 := hk .normal σ s a w h1 (Ext.refl _) h rfl
 cases n with
 | zero => exact ⟨hr', h2⟩
 | succ n => exact ⟨fun _ => h2, by rw [hr']; simp⟩
theorem AY.pure {i : Nat} {o : Oper} {l' : Array Bool} {av : AV} (hi : ops[i]? = some o) (hc : anyR ops l l' i = true) (hw : wantedA ops s o.guard = some true) (h : Pu P o.op s av)
 (k : AY P base ops ds n l' (s.put o.dst av) Q) : AY P base ops ds (n + 1) l s Q := by
 intro σ a w hr K hK hk;simp only [anyR, Bool.and_eq_true, beq_iff_eq] at hc;obtain ⟨⟨⟨h1, h2⟩, h3⟩, rfl⟩ := hc;obtain ⟨x, h4, h5⟩ := h o.dst o.type o.pos o.after o.guard base σ a w hr;exact wpAnyR_any hi (Region.noSelect_spec h1) (fun c a w h => (hK _ _ _ h).elim) n l a w (Region.free_spec hi h2) (by simpa using h3) (.inl ⟨wanted_ok hr hw, h5⟩)
  (k σ _ w (hr.put o.dst h4) K hK fun e σ' s' a' w' h6 h7 h8 h9 => hk e σ' s' a' w' h6 (by rw [put_H] at h7; exact h7) h8 h9)
theorem AY.light {i : Nat} {o : Oper} {l' : Array Bool} {av : AV} (hi : ops[i]? = some o) (hc : takeR ops ds l l' i = true) (hw : wantedA ops s o.guard = some true) (h : Lt P o.op s av)
 (k : AY P base ops ds n l' (s.put o.dst av) Q) : AY P base ops ds (n + 1) l s Q := by
 intro σ a w hr K hK hk;simp only [takeR, anyR, Bool.and_eq_true, beq_iff_eq] at hc;obtain ⟨⟨⟨⟨⟨h1, h2⟩, h3⟩, rfl⟩, h10⟩, h11⟩ := hc;obtain ⟨x, h4, h5⟩ := h o.dst o.type o.pos o.after o.guard base σ a w hr;exact wpAnyR_first hi (Region.noSelect_spec h1) (fun c a w h => (hK _ _ _ h).elim) ops.size n l a w (Region.free_spec hi h2) (Region.closedB_spec h10)
  (fun d hm hun => by have := List.all_eq_true.1 h11 d hm; rw [hun] at this; simpa using this) (by simpa using h3) (.inl ⟨wanted_ok hr hw, h5⟩)
  (k σ _ w (hr.put o.dst h4) K hK fun e σ' s' a' w' h6 h7 h8 h9 => hk e σ' s' a' w' h6 (by rw [put_H] at h7; exact h7) h8 h9)
def HvK (P : Program) (base : Cx) (o : Oper) (s : St) (R : St → Prop) : Prop :=
 ∀ (σ : Nat → Value) (a : Act) (w : World), Rel base σ s a w → ∀ (Q : Exit → Act → World → Prop) (K : Act → World → Prop),
  (∀ σ' s' a' w', Rel base σ' s' a' w' → Ext ⟨w, s.H, σ, base.F⟩ ⟨w', s'.H, σ', base.F⟩ → KeepW w w' → R s' → K a' w') → o.wp P a w K Q
theorem HvK.hv {o : Oper} {R : St → Prop} (h : HvK P base o s R) : Hv P base o s R := fun σ a w hr Q K hk => h σ a w hr Q K fun σ' s' a' w' h1 h2 _ h3 => hk σ' s' a' w' h1 h2 h3
end
section
variable {P : Program} {s : St}
theorem Pu.move {x : Operand} {av : AV} (h : ev s x = av) : Pu P (.move x) s av := fun d t pos af g base σ a w hr => ⟨a.eval x, h ▸ ev_ok hr x, fun w' => by simp [execOp]⟩
theorem Pu.assign {x : Operand} {av : AV} (h : ev s x = av) : Pu P (.assign x) s av := fun d t pos af g base σ a w hr => ⟨a.eval x, h ▸ ev_ok hr x, fun w' => by simp [execOp]⟩
theorem Pu.pick {c x y : Operand} {b : Bool} {av : AV} (hc : ev s c = .v (.bool b)) (h : (if b then ev s x else ev s y) = av) : Pu P (.pick c x y) s av := fun d t pos af g base σ a w hr => by
 refine ⟨if b then a.eval x else a.eval y, ?_, fun w' => ?_⟩
 · subst h; cases b
   · exact ev_ok hr y
   · exact ev_ok hr x
 · simp [execOp, ev_v hr hc, asBool]
theorem Pu.extract {x : Operand} {i : Nat} {vs : List AV} {av : AV} (hx : ev s x = .tup vs) (h : vs[i]? = some av) : Pu P (.extract x i) s av := fun d t pos af g base σ a w hr => by
 have h1 := ev_ok hr x
 rw [hx] at h1
 generalize hq : a.eval x = q at h1
 cases h1 with
 | tup hl hu =>
  rename_i us
  have hlt := (List.getElem?_eq_some_iff.1 h).1
  have hui : us[i]? = some (us[i]'(by omega)) := List.getElem?_eq_getElem (by omega)
  refine ⟨_, hu i av _ h hui, fun w' => ?_⟩
  simp [execOp, hq, Instr.extract, hui]
theorem Pu.of {o : Op} {y : Value} (h : ∀ (base : Cx) (σ : Nat → Value) (a : Act) (w : World), Rel base σ s a w → ∀ d t pos af g w', (execOp a.eval ⟨d, o, t, pos, af, g⟩).run P w' = .ok (.value y) w') : Pu P o s (.v y) :=
 fun d t pos af g base σ a w hr => ⟨y, .v y, fun w' => h base σ a w hr d t pos af g w'⟩
theorem Pu.bin {op : BinOp} {xt yt : TypeId} {x y : Operand} {p q r : Value} (hx : ev s x = .v p) (hy : ev s y = .v q)
 (h : ∀ w, (do eqGuard op xt x y p q; binOp op xt p q : Sem Value).run P w = .ok r w) : Pu P (.binOp op xt x y yt) s (.v r) :=
 Pu.of fun base σ a w hr d t pos af g w' => by
  have := h w'
  unfold execOp
  simp only [ev_v hr hx, ev_v hr hy, Sem.run_bind] at this ⊢
  simp only [this, Result.andThen_ok, Sem.run_pure]
theorem Pu.un {op : UnOp} {xt : TypeId} {x : Operand} {p r : Value} (hx : ev s x = .v p) (h : ∀ w, (Op.unary op p).run P w = .ok r w) : Pu P (.unOp op xt x) s (.v r) :=
 Pu.of fun base σ a w hr d t pos af g w' => by
  unfold execOp
  simp only [ev_v hr hx, Sem.run_bind, h, Result.andThen_ok, Sem.run_pure]
theorem Pu.conv {src dst : TypeId} {x : Operand} {p r : Value} (hx : ev s x = .v p) (h : ∀ w, (convert src dst p).run P w = .ok r w) : Pu P (.convert src dst x) s (.v r) :=
 Pu.of fun base σ a w hr d t pos af g w' => by
  unfold execOp
  simp only [ev_v hr hx, Sem.run_bind, h, Result.andThen_ok, Sem.run_pure]
end
theorem run_size {P : Program} {t : TypeId} {n : Nat} (h : (P.info? t).map (·.size) = some n) (w : World) : (sizeOf t).run P w = .ok n w := by
 cases hi : P.info? t with
 | none => rw [hi] at h; simp at h
 | some i =>
  rw [hi] at h;simp only [Option.map_some, Option.some.injEq] at h;simp [sizeOf, typeInfo, hi, h]
def aggB (P : Program) (t : TypeId) : Option Bool := (P.underlying t).map fun d => match d with | .struct _ | .array _ _ => true | _ => false
theorem run_isAgg {P : Program} {t : TypeId} {b : Bool} (h : aggB P t = some b) (w : World) : (isAgg t).run P w = .ok b w := by
 unfold aggB at h
 cases hu : P.underlying t with
 | none => rw [hu] at h; simp at h
 | some d =>
  rw [hu] at h;simp only [Option.map_some, Option.some.injEq] at h;subst h;unfold isAgg;simp only [Sem.run_bind, run_underlying hu, Result.andThen_ok]
  cases d <;> rfl
theorem VR.slice {E : Env} {x : Value} {sz : Nat} {rows : List (List AV)} (h : VR E (.rd sz rows) x) : ∃ A c, x = .slice A rows.length c := by
 cases h with
 | rd u hc hm hz hA hu => exact ⟨_, _, rfl⟩
section
variable {P : Program} {s : St}
theorem Pu.call_len {x : Operand} {t : TypeId} {n : Int} (h : ∀ (base : Cx) (σ : Nat → Value) (a : Act) (w : World), Rel base σ s a w → ∀ w', (Builtin.len_ #[t] 0 #[a.eval x]).run P w' = .ok (.int .i64 n) w') :
 Pu P (.call { callee := .builtin .len, args := #[x], argTypes := #[t] }) s (.v (.int .i64 n)) :=
 Pu.of fun base σ a w hr d t' pos af g w' => by
  have h1 := h base σ a w hr w'
  unfold Builtin.len_ at h1
  simp only [execOp, resolve, Sem.run_bind, Sem.run_pure, Result.andThen_ok, invoke, builtin, List.map_toArray, List.map_cons, List.map_nil, Builtin.len_, h1]
theorem Pu.len_rd {x : Operand} {t e : TypeId} {sz : Nat} {rows : List (List AV)} (ht : P.underlying t = some (.slice e)) (hx : ev s x = .rd sz rows) :
 Pu P (.call { callee := .builtin .len, args := #[x], argTypes := #[t] }) s (.v (.int .i64 rows.length)) :=
 Pu.call_len fun base σ a w hr w' => by
  have h1 := ev_ok hr x
  rw [hx] at h1
  obtain ⟨A, c, h2⟩ := VR.slice h1
  simp [Builtin.len_, h2, run_underlying ht, goInt]
theorem Pu.len_own {x : Operand} {t e : TypeId} {id ep off n : Nat} (ht : P.underlying t = some (.slice e)) (hx : ev s x = .own id ep off n) :
 Pu P (.call { callee := .builtin .len, args := #[x], argTypes := #[t] }) s (.v (.int .i64 n)) :=
 Pu.call_len fun base σ a w hr w' => by
  have h1 := ev_ok hr x
  rw [hx] at h1
  generalize hq : a.eval x = q at h1
  cases h1 with
  | own h hs =>
   obtain ⟨A, c, rfl⟩ := hs
   simp [Builtin.len_, run_underlying ht, goInt]
theorem Pu.len_str {x : Operand} {t : TypeId} {b : ByteArray} (ht : P.underlying t = some .string) (hx : ev s x = .v (.string b)) :
 Pu P (.call { callee := .builtin .len, args := #[x], argTypes := #[t] }) s (.v (.int .i64 b.size)) :=
 Pu.call_len fun base σ a w hr w' => by simp [Builtin.len_, ev_v hr hx, run_underlying ht, goInt]
theorem Pu.nilCheck {x : Operand} {av : AV} (hx : ev s x = av) (h : ∀ (base : Cx) (σ : Nat → Value) (a : Act) (w : World), Rel base σ s a w → ∃ ad, a.eval x = .pointer (some ad)) : Pu P (.nilCheck x) s av :=
 fun d t pos af g base σ a w hr => by
  obtain ⟨ad, h1⟩ := h base σ a w hr
  exact ⟨a.eval x, hx ▸ ev_ok hr x, fun w' => by simp [execOp, h1]⟩
theorem ptr_box {id off : Nat} {x : Operand} (hx : ev s x = .box id off) {base : Cx} {σ : Nat → Value} {a : Act} {w : World} (hr : Rel base σ s a w) : ∃ ad, a.eval x = .pointer (some ad) := by
 have h1 := ev_ok hr x;rw [hx] at h1;generalize a.eval x = q at h1
 cases h1 with
 | box h hs => exact hs
theorem run_fieldAt {st : TypeId} {fs : Array Field} {f : Nat} {fl : Field} {n : Nat} (hu : P.underlying st = some (.struct fs)) (hf : fs[f]? = some fl) (hs : (P.info? fl.type).map (·.size) = some n) (hn : n ≠ 0) (ad : Addr) (w : World) :
 (Instr.fieldAt st (.pointer (some ad)) f).run P w = .ok (.pointer (some (ad.add fl.offset))) w := by
 unfold Instr.fieldAt Instr.sureAddr fieldPlace;simp [run_underlying hu, hf, run_size hs, hn]
theorem Pu.field_eptr {st : TypeId} {x : Operand} {f : Nat} {fs : Array Field} {fl : Field} {n : Nat} {cs : List AV} (hu : P.underlying st = some (.struct fs)) (hf : fs[f]? = some fl) (hs : (P.info? fl.type).map (·.size) = some n) (hn : n ≠ 0)
 (hx : ev s x = .eptr cs) : Pu P (.fieldAddr st x f) s (.eptr (cs.drop fl.offset)) := fun d t pos af g base σ a w hr => by
 have h1 := ev_ok hr x
 rw [hx] at h1
 generalize hq : a.eval x = q at h1
 cases h1 with
 | eptr u hb hl hA hu' =>
  rename_i ad
  refine ⟨.pointer (some (ad.add fl.offset)), .eptr (fun j => u (fl.offset + j)) (by rw [block_add]; exact hb) (by rw [block_add]; exact hl) (fun j av hj => ?_) (fun j av hj => ?_), fun w' => ?_⟩
  · rw [List.getElem?_drop] at hj; rw [add_add]; exact hA _ _ hj
  · rw [List.getElem?_drop] at hj; exact hu' _ _ hj
  · simp only [execOp, hq, Sem.run_bind, run_fieldAt hu hf hs hn, Result.andThen_ok, Sem.run_pure]
theorem Pu.field_box {st : TypeId} {x : Operand} {f : Nat} {fs : Array Field} {fl : Field} {n id off : Nat} {bt : TypeId} {cs : List AV} (hu : P.underlying st = some (.struct fs)) (hf : fs[f]? = some fl) (hs : (P.info? fl.type).map (·.size) = some n) (hn : n ≠ 0)
 (hx : ev s x = .box id off) (hH : s.H[id]? = some (some (.box bt cs))) : Pu P (.fieldAddr st x f) s (.box id (off + fl.offset)) := fun d t pos af g base σ a w hr => by
 have h1 := ev_ok hr x
 rw [hx] at h1
 generalize hq : a.eval x = q at h1
 cases h1 with
 | box h =>
  obtain ⟨ad, h2, rfl⟩ := h.2 _ _ hH
  refine ⟨.pointer (some ((ad.add off).add fl.offset)), .box ⟨h.1, fun t' cs' hr' => ?_⟩ ⟨_, rfl⟩, fun w' => ?_⟩
  · exact ⟨ad, h2, by rw [add_add]⟩
  · simp only [execOp, hq, Sem.run_bind, run_fieldAt hu hf hs hn, Result.andThen_ok, Sem.run_pure]
theorem Pu.field_optr {st : TypeId} {x : Operand} {f : Nat} {fs : Array Field} {fl : Field} {n id ep i off : Nat} {e : TypeId} {sz : Nat} {rows : List (List AV)} (hu : P.underlying st = some (.struct fs)) (hf : fs[f]? = some fl) (hs : (P.info? fl.type).map (·.size) = some n) (hn : n ≠ 0)
 (hx : ev s x = .optr id ep i off) (hH : s.H[id]? = some (some (.row e sz ep rows))) : Pu P (.fieldAddr st x f) s (.optr id ep i (off + fl.offset)) := fun d t pos af g base σ a w hr => by
 have h1 := ev_ok hr x
 rw [hx] at h1
 generalize hq : a.eval x = q at h1
 cases h1 with
 | optr h =>
  obtain ⟨h3, ad, c, h2, rfl⟩ := (h.2 _ _ _ _ hH).2 rfl
  refine ⟨.pointer (some ((ad.add (i * sz + off)).add fl.offset)), .optr ⟨h.1, fun e' sz' ep' rows' hr' => ?_⟩ ⟨_, rfl⟩, fun w' => ?_⟩
  · have h4 : s.H[id]? = some (some (.row e' sz' ep' rows')) := hr'
    rw [hH] at h4
    simp only [Option.some.injEq, AB.row.injEq] at h4
    obtain ⟨rfl, rfl, rfl, rfl⟩ := h4
    exact ⟨Nat.le_refl _, fun _ => ⟨h3, ad, c, h2, by rw [add_add, Nat.add_assoc]⟩⟩
  · simp only [execOp, hq, Sem.run_bind, run_fieldAt hu hf hs hn, Result.andThen_ok, Sem.run_pure]
theorem run_indexAt {t e : TypeId} {ad : Addr} {len c : Nat} {k : IntKind} {i : Int} {n : Nat} (hu : P.underlying t = some (.slice e)) (hs : (P.info? e).map (·.size) = some n) (h0 : 0 ≤ i) (h1 : i < len) (w : World) :
 (Instr.indexAt t (.slice (some ad) len c) (.int k i)).run P w = .ok (.pointer (some (ad.add (i.toNat * n)))) w := by
 unfold Instr.indexAt;simp [asIntOf, run_underlying hu, run_size hs, h0, h1]
theorem Pu.index_rd {t e : TypeId} {x ix : Operand} {k : IntKind} {i : Int} {sz : Nat} {rows : List (List AV)} {row : List AV} (hu : P.underlying t = some (.slice e)) (hs : (P.info? e).map (·.size) = some sz)
 (hx : ev s x = .rd sz rows) (hi : ev s ix = .v (.int k i)) (h0 : 0 ≤ i) (h1 : rows[i.toNat]? = some row) : Pu P (.indexAddr t x ix) s (.eptr row) := fun d t' pos af g base σ a w hr => by
 have h2 := ev_ok hr x
 rw [hx] at h2
 generalize hq : a.eval x = q at h2
 have hlt := (List.getElem?_eq_some_iff.1 h1).1
 cases h2 with
 | rd u hc hm hz hA hu' =>
  obtain ⟨ad, rfl, hb, hl, hcell⟩ := hA (by omega)
  refine ⟨.pointer (some (ad.add (i.toNat * sz))), .eptr (fun j => u i.toNat j) (by rw [block_add]; exact hb) (by rw [block_add]; exact hl) (fun j av hj => ?_) (fun j av hj => hu' _ _ _ _ h1 hj), fun w' => ?_⟩
  · rw [add_add]; exact hcell _ _ _ _ h1 hj
  · simp only [execOp, hq, ev_v hr hi, Sem.run_bind, run_indexAt hu hs h0 (show i < (rows.length : Int) by omega), Result.andThen_ok, Sem.run_pure]
theorem Pu.index_own {t e e' : TypeId} {x ix : Operand} {k : IntKind} {i : Int} {id ep off n sz : Nat} {rows : List (List AV)} (hu : P.underlying t = some (.slice e)) (hs : (P.info? e).map (·.size) = some sz)
 (hx : ev s x = .own id ep off n) (hH : s.H[id]? = some (some (.row e' sz ep rows))) (hi : ev s ix = .v (.int k i)) (h0 : 0 ≤ i) (h1 : i < n) : Pu P (.indexAddr t x ix) s (.optr id ep (off + i.toNat) 0) := fun d t' pos af g base σ a w hr => by
 have h2 := ev_ok hr x
 rw [hx] at h2
 generalize hq : a.eval x = q at h2
 cases h2 with
 | own h =>
  obtain ⟨hle, A, c, A', h3, rfl, h4, h5⟩ := (h.2 _ _ _ _ hH).2 rfl
  have hrow := hr.1.live id _ hH
  obtain ⟨xs, hown, _⟩ := hrow
  have hpos : 0 < rows.length := by omega
  have hA : ∃ ad, A = some ad := by
   rcases hown.2 with ⟨h6, h7⟩ | ⟨g', cap, cur, h6, _⟩
   · omega
   · have h7 : Value.slice A rows.length c = _ := h3.symm.trans h6
     injection h7 with h7
     exact ⟨_, h7⟩
  obtain ⟨ad, rfl⟩ := hA;have hA' : A' = some (ad.add (off * sz)) := by rw [h4 (by omega)]; rfl
  subst hA';refine ⟨.pointer (some ((ad.add (off * sz)).add (i.toNat * sz))), .optr ⟨h.1, fun e2 sz2 ep2 rows2 hr2 => ?_⟩ ⟨_, rfl⟩, fun w' => ?_⟩
  · have h6 : s.H[id]? = some (some (.row e2 sz2 ep2 rows2)) := hr2
    rw [hH] at h6;simp only [Option.some.injEq, AB.row.injEq] at h6;obtain ⟨rfl, rfl, rfl, rfl⟩ := h6;exact ⟨Nat.le_refl _, fun _ => ⟨by omega, ad, c, h3, by rw [add_add, Nat.add_zero, Nat.add_mul]⟩⟩
  · simp only [execOp, hq, ev_v hr hi, Sem.run_bind, run_indexAt hu hs h0 h1, Result.andThen_ok, Sem.run_pure]
end
theorem run_sliceBound {x : Value} {k : IntKind} {i : Int} {y : Nat} {code : BoundsCode} (hx : x = .int k i) (h0 : 0 ≤ i) (h1 : i ≤ y) {P : Program} (w : World) : (Instr.sliceBound x y code).run P w = .ok i.toNat w := by
 subst hx;unfold Instr.sliceBound;simp [asIntOf, h0, h1]
def bnd (s : St) : Option Operand → Option Int → Prop
 | none, none => True
 | some x, some i => ∃ k, ev s x = .v (.int k i)
 | _, _ => False
theorem bnd_ok {base : Cx} {σ : Nat → Value} {s : St} {a : Act} {w : World} (hr : Rel base σ s a w) {x : Option Operand} {i : Option Int} (h : bnd s x i) :
 (x = none ∧ i = none ∨ ∃ y j k, x = some y ∧ i = some j ∧ a.eval y = .int k j) := by
 cases x with
 | none => cases i with
  | none => exact .inl ⟨rfl, rfl⟩
  | some i => exact h.elim
 | some y => cases i with
  | none => exact h.elim
  | some j => obtain ⟨k, hk⟩ := h; exact .inr ⟨y, j, k, rfl, rfl, ev_v hr hk⟩
section
variable {P : Program} {s : St}
theorem run_slice2 {t e : TypeId} {A : Option Addr} {len c sz : Nat} {lo hi : Option Value} {l h : Nat} (hu : P.underlying t = some (.slice e)) (hs : (P.info? e).map (·.size) = some sz)
 (hlo : lo = none ∧ l = 0 ∨ ∃ k i, lo = some (.int k i) ∧ 0 ≤ i ∧ i.toNat = l) (hhi : hi = none ∧ h = len ∨ ∃ k i, hi = some (.int k i) ∧ 0 ≤ i ∧ i.toNat = h) (h1 : l ≤ h) (h2 : h ≤ c) (w : World) :
 (Instr.sliceAt t (.slice A len c) lo hi none).run P w = .ok (.slice (if c = l then A else A.map (·.add (l * sz))) (h - l) (c - l)) w := by
 unfold Instr.sliceAt Instr.slice Instr.sliceBounds;simp only [Sem.run_bind, run_underlying hu, Result.andThen_ok, Sem.run_pure];rcases hhi with ⟨rfl, rfl⟩ | ⟨k, i, rfl, h3, rfl⟩ <;> rcases hlo with ⟨rfl, rfl⟩ | ⟨k', i', rfl, h4, rfl⟩
 · simp [run_size hs]
 · have e1 := fun (w : World) => run_sliceBound (P := P) (x := .int k' i') (code := .sliceB) rfl h4 (show i' ≤ (h : Int) by omega) w
   simp [run_size hs, e1]
 · have e1 := fun (w : World) => run_sliceBound (P := P) (x := .int k i) (code := .sliceAcap) rfl h3 (show i ≤ (c : Int) by omega) w
   simp [run_size hs, e1]
 · have e1 := fun (w : World) => run_sliceBound (P := P) (x := .int k i) (code := .sliceAcap) rfl h3 (show i ≤ (c : Int) by omega) w
   have e2 := fun (w : World) => run_sliceBound (P := P) (x := .int k' i') (code := .sliceB) rfl h4 (show i' ≤ (i.toNat : Int) by omega) w
   simp [run_size hs, e1, e2]
theorem Pu.slice_rd {t e : TypeId} {x : Operand} {lo hi : Option Operand} {li hj : Option Int} {sz : Nat} {rows : List (List AV)} {l h : Nat} (hu : P.underlying t = some (.slice e)) (hs : (P.info? e).map (·.size) = some sz)
 (hx : ev s x = .rd sz rows) (hlo : bnd s lo li) (hhi : bnd s hi hj) (el : li.getD 0 = l) (eh : hj.getD rows.length = h) (h1 : l ≤ h) (h2 : h ≤ rows.length) :
 Pu P (.slice t x lo hi none) s (.rd sz ((rows.take h).drop l)) := fun d t' pos af g base σ a w hr => by
 have h3 := ev_ok hr x
 rw [hx] at h3
 generalize hq : a.eval x = q at h3
 cases h3 with
 | rd u hc hm hz hA hu' =>
  rename_i A c
  have elen : ((rows.take h).drop l).length = h - l := by simp; omega
  have get : ∀ (i : Nat) (row : List AV), ((rows.take h).drop l)[i]? = some row → rows[l + i]? = some row := by
   intro i row hi;rw [List.getElem?_drop, List.getElem?_take] at hi
   split at hi
   · exact hi
   · cases hi
  refine ⟨.slice (if c = l then A else A.map (·.add (l * sz))) (h - l) (c - l), ?_, fun w' => ?_⟩
  · rw [← elen]
    refine .rd (fun i j => u (l + i) j) (by rw [elen]; omega) (by omega) (fun row hr' => ?_) (fun h0 => ?_) (fun i row j av hi hj => hu' _ _ _ _ (get i row hi) hj)
    · exact hz row (List.mem_of_mem_take (List.mem_of_mem_drop hr'))
    · obtain ⟨ad, rfl, hb, hl, hcell⟩ := hA (by omega)
      refine ⟨ad.add (l * sz), by rw [if_neg (by omega)]; rfl, by rw [block_add]; exact hb, by rw [block_add]; exact hl, fun i row j av hi hj => ?_⟩;have := hcell (l + i) row j av (get i row hi) hj;rw [add_add, ← Nat.add_assoc, ← Nat.add_mul];exact this
  · have hrun := fun lv hv hl' hh' => run_slice2 (P := P) (A := A) (len := rows.length) (c := c) (sz := sz) (lo := lv) (hi := hv) (l := l) (h := h) hu hs hl' hh' h1 (by omega) w'
    rcases bnd_ok hr hlo with ⟨rfl, rfl⟩ | ⟨y, j, k, rfl, rfl, hy⟩ <;> rcases bnd_ok hr hhi with ⟨rfl, rfl⟩ | ⟨y', j', k', rfl, rfl, hy'⟩
    · simp only [Option.getD_none] at el eh
      have := hrun none none (.inl ⟨rfl, by omega⟩) (.inl ⟨rfl, by omega⟩);simp only [execOp, hq, Option.map_none, Sem.run_bind, this, Result.andThen_ok, Sem.run_pure]
    · simp only [Option.getD_none, Option.getD_some] at el eh
      have := hrun none (some (.int k' j')) (.inl ⟨rfl, by omega⟩) (.inr ⟨k', j', rfl, by omega, by omega⟩);simp only [execOp, hq, hy', Option.map_none, Option.map_some, Sem.run_bind, this, Result.andThen_ok, Sem.run_pure]
    · simp only [Option.getD_none, Option.getD_some] at el eh
      have := hrun (some (.int k j)) none (.inr ⟨k, j, rfl, by omega, by omega⟩) (.inl ⟨rfl, by omega⟩);simp only [execOp, hq, hy, Option.map_none, Option.map_some, Sem.run_bind, this, Result.andThen_ok, Sem.run_pure]
    · simp only [Option.getD_some] at el eh
      have := hrun (some (.int k j)) (some (.int k' j')) (.inr ⟨k, j, rfl, by omega, by omega⟩) (.inr ⟨k', j', rfl, by omega, by omega⟩);simp only [execOp, hq, hy, hy', Option.map_none, Option.map_some, Sem.run_bind, this, Result.andThen_ok, Sem.run_pure]
theorem Pu.index_str {t : TypeId} {x ix : Operand} {k : IntKind} {i : Int} {b : ByteArray} {c : UInt8} (hu : P.underlying t = some .string) (hx : ev s x = .v (.string b)) (hi : ev s ix = .v (.int k i)) (h0 : 0 ≤ i) (h1 : b[i.toNat]? = some c) :
 Pu P (.index t x ix) s (.v (.int .u8 c.toNat)) :=
 Pu.of fun base σ a w hr d t' pos af g w' => by
  simp [execOp, ev_v hr hx, ev_v hr hi, Instr.index, asIntOf, run_underlying hu, h0, h1]
end
theorem run_loadCells {P : Program} {w : World} {ad : Addr} : ∀ (us : List Value) (i : Nat) (acc : Array Value), (∀ j u, us[j]? = some u → w.cell? (ad.add (i + j)) = some u) →
 (loadCellsFrom ad i us.length acc).run P w = .ok (acc ++ ⟨us⟩) w := by
 intro us
 induction us with
 | nil => intro i acc _; simp [loadCellsFrom]
 | cons u us ih =>
  intro i acc h;have h0 := h 0 u rfl;simp only [Nat.add_zero] at h0;simp only [List.length_cons, loadCellsFrom, Sem.run_bind, load, Sem.run, h0];have := ih (i + 1) (acc.push u) (fun j v hj => by have := h (j + 1) v (by simpa using hj); rwa [show i + (j + 1) = i + 1 + j from by omega] at this);simp only [Result.andThen_ok, this]
  congr 1
  apply Array.ext';simp
theorem run_load1 {P : Program} {t : TypeId} {w : World} {ad : Addr} {u : Value} (hg : aggB P t = some false) (h : w.cell? ad = some u) : (Instr.loadAt t (.pointer (some ad))).run P w = .ok u w := by
 unfold Instr.loadAt Instr.sureAddr loadVar;simp only [Sem.run_bind, Sem.run_pure, Result.andThen_ok, run_isAgg hg];simp [load, Sem.run, h]
theorem run_loadN {P : Program} {t : TypeId} {w : World} {ad : Addr} {us : List Value} (hg : aggB P t = some true) (hs : (P.info? t).map (·.size) = some us.length) (h : ∀ j u, us[j]? = some u → w.cell? (ad.add j) = some u) :
 (Instr.loadAt t (.pointer (some ad))).run P w = .ok (.agg ⟨us⟩) w := by
 unfold Instr.loadAt Instr.sureAddr loadVar;simp only [Sem.run_bind, Sem.run_pure, Result.andThen_ok, run_isAgg hg, if_true, run_size hs];unfold loadCells;rw [run_loadCells us 0 #[] (fun j u hj => by simpa using h j u hj)];simp
def Finds (s : St) (base : Cx) (x : Operand) (cs : List AV) : Prop :=
 ∀ (σ : Nat → Value) (a : Act) (w : World), Rel base σ s a w → ∃ (ad : Addr) (us : List Value), a.eval x = .pointer (some ad) ∧ us.length = cs.length ∧ ad.block < w.heap.size ∧ (∀ u ∈ us, u.oneCell' = true) ∧ (∀ (j : Nat) (u : Value), us[j]? = some u → w.cell? (ad.add j) = some u) ∧
  ∀ (j : Nat) (av : AV) (u : Value), cs[j]? = some av → us[j]? = some u → VR ⟨w, s.H, σ, base.F⟩ av u
section
variable {P : Program} {s : St}
theorem Lt.load1 {t : TypeId} {x : Operand} {av : AV} {cs : List AV} (hg : aggB P t = some false) (hf : ∀ base, Finds s base x cs) (h : cs[0]? = some av) : Lt P (.load t x) s av := fun d t' pos af g base σ a w hr => by
 obtain ⟨ad, us, h1, h2, h3, hone, h4, h5⟩ := hf base σ a w hr
 have hlt := (List.getElem?_eq_some_iff.1 h).1
 have hu : us[0]? = some (us[0]'(by omega)) := List.getElem?_eq_getElem (by omega)
 refine ⟨_, h5 0 av _ h hu, fun w' hk => ?_⟩
 have hc := h4 0 _ hu
 rw [Addr.add_zero'] at hc
 simp only [execOp, h1, Sem.run_bind, run_load1 hg ((hk.cell h3).trans hc), Result.andThen_ok, Sem.run_pure]
theorem Lt.loadN {t : TypeId} {x : Operand} {cs : List AV} {n : Nat} (hg : aggB P t = some true) (hs : (P.info? t).map (·.size) = some n) (hf : ∀ base, Finds s base x cs) (h : n ≤ cs.length) : Lt P (.load t x) s (.agg (cs.take n)) := fun d t' pos af g base σ a w hr => by
 obtain ⟨ad, us, h1, h2, h3, hone, h4, h5⟩ := hf base σ a w hr
 refine ⟨.agg ⟨us.take n⟩, .agg (by simp; omega) (fun u hu => hone u (List.mem_of_mem_take hu)) (fun j av u hj hu => ?_), fun w' hk => ?_⟩
 · rw [List.getElem?_take] at hj hu
   split at hj
   · rename_i hlt; rw [if_pos hlt] at hu; exact h5 j av u hj hu
   · cases hj
 · have hcell : ∀ (j : Nat) (u : Value), (us.take n)[j]? = some u → w'.cell? (ad.add j) = some u := by
    intro j u hj;rw [List.getElem?_take] at hj
    split at hj
    · exact (hk.cell (by rw [block_add]; exact h3)).trans (h4 j u hj)
    · cases hj
   have hs' : (P.info? t).map (·.size) = some (us.take n).length := by rw [hs]; simp; omega
   simp only [execOp, h1, Sem.run_bind, run_loadN hg hs' hcell, Result.andThen_ok, Sem.run_pure]
theorem Finds.eptr {base : Cx} {x : Operand} {cs : List AV} (hx : ev s x = .eptr cs) (hne : 0 < cs.length) : Finds s base x cs := fun σ a w hr => by
 have h1 := ev_ok hr x
 rw [hx] at h1
 generalize hq : a.eval x = q at h1
 cases h1 with
 | eptr u hb hl hA hu =>
  rename_i ad
  refine ⟨ad, (List.range cs.length).map u, rfl, by simp, hl, fun v hv => ?_, fun j v hj => ?_, fun j av v hj hv => ?_⟩
  · obtain ⟨j, hj, rfl⟩ := List.mem_map.1 hv
    have hlt := List.mem_range.1 hj
    exact (hA j _ (List.getElem?_eq_getElem hlt)).2
  · have hlt := (List.getElem?_eq_some_iff.1 hj).1
    simp at hlt
    rw [List.getElem?_map, List.getElem?_range hlt] at hj
    obtain rfl := Option.some.inj hj
    exact (hA j _ (List.getElem?_eq_getElem hlt)).1
  · have hlt := (List.getElem?_eq_some_iff.1 hj).1
    rw [List.getElem?_map, List.getElem?_range hlt] at hv
    obtain rfl := Option.some.inj hv
    exact hu j av hj
theorem Finds.box {base : Cx} {x : Operand} {id off : Nat} {t : TypeId} {cs : List AV} (hx : ev s x = .box id off) (hH : s.H[id]? = some (some (.box t cs))) : Finds s base x (cs.drop off) := fun σ a w hr => by
 have h1 := ev_ok hr x
 rw [hx] at h1
 generalize hq : a.eval x = q at h1
 cases h1 with
 | box h =>
  obtain ⟨ad, h2, rfl⟩ := h.2 _ _ hH
  obtain ⟨g, us, h3, h4, h5, h6⟩ := hr.1.live id _ hH
  have h7 : Value.pointer (some ⟨g, 0, none⟩) = .pointer (some ad) := h3.symm.trans h2
  injection h7 with h7
  injection h7 with h7
  subst h7
  refine ⟨_, us.drop off, rfl, by rw [List.length_drop, List.length_drop, h6.1], ?_, fun u hu => h6.2.1 u (List.mem_of_mem_drop hu), fun j u hj => ?_, fun j av u hj hu => ?_⟩
  · rw [block_add]
    exact (Array.getElem?_eq_some_iff.1 h5).1
  · rw [List.getElem?_drop] at hj
    rw [add_add]
    have : w.heap[g]? = some (.cells ⟨us⟩ t (0, 0)) := h5
    have e : ((⟨g, 0, none⟩ : Addr).add (off + j)) = ⟨g, off + j, none⟩ := by unfold Addr.add; split <;> simp_all
    rw [e]
    simp [World.cell?, this, hj]
  · rw [List.getElem?_drop] at hj hu
    exact h6.2.2 _ _ _ hj hu
theorem Finds.optr {base : Cx} {x : Operand} {id ep i off : Nat} {e : TypeId} {sz : Nat} {rows : List (List AV)} {row : List AV} (hx : ev s x = .optr id ep i off) (hH : s.H[id]? = some (some (.row e sz ep rows))) (hr0 : rows[i]? = some row) (ho : off < row.length) : Finds s base x (row.drop off) := fun σ a w hr => by
 have h1 := ev_ok hr x
 rw [hx] at h1
 generalize hq : a.eval x = q at h1
 cases h1 with
 | optr h =>
  obtain ⟨h3, ad, c, h2, rfl⟩ := (h.2 _ _ _ _ hH).2 rfl
  obtain ⟨xs, hown, hz, hl, h1c, hrows⟩ := hr.1.live id _ hH
  have hsz := hz row (List.mem_of_getElem? hr0)
  have h2' : σ id = .slice (some ad) rows.length c := h2
  have hin : i * sz + sz ≤ xs.length := by
   have hl' : xs.length = rows.length * sz := hl;have := (List.getElem?_eq_some_iff.1 hr0).1;rw [hl', ← Nat.succ_mul];exact Nat.mul_le_mul_right _ this
  rcases hown.2 with ⟨h6, h7⟩ | ⟨g', cap, cur, h6, h7, h8, h9, h10, h11, h12⟩
  · have h8 : Value.slice none 0 0 = .slice (some ad) rows.length c := h6.symm.trans h2'
    cases h8
  · have h13 : Value.slice (some ad) rows.length c = .slice (some ⟨g', 0, none⟩) rows.length cap := h2'.symm.trans h6
    injection h13 with h13 _ h14
    injection h13 with h13
    subst h13;have hcell := hown.cells (g := g') (by show Value.ownBlock (σ id) = _; rw [h2']; rfl);refine ⟨_, (xs.drop (i * sz + off)).take (sz - off), rfl, by rw [List.length_take, List.length_drop, List.length_drop]; omega, ?_, fun u hu => h1c u (List.mem_of_mem_drop (List.mem_of_mem_take hu)), fun j u hj => ?_, fun j av u hj hu => ?_⟩
    · rw [block_add]; exact (Array.getElem?_eq_some_iff.1 h8).1
    · rw [List.getElem?_take] at hj
      split at hj
      · rw [List.getElem?_drop] at hj
        rw [add_add];exact hcell _ u hj
      · cases hj
    · rw [List.getElem?_drop] at hj
      rw [List.getElem?_take] at hu
      split at hu
      · rw [List.getElem?_drop] at hu
        obtain ⟨x', h15, h16⟩ := hrows i row (off + j) av hr0 hj;rw [← Nat.add_assoc] at h15;rw [hu] at h15;obtain rfl := Option.some.inj h15;exact h16
      · cases hu
end
def partsOf : AV → Option (List AV)
 | .any => none
 | .tup _ => none
 | .fn _ _ => none
 | .agg cs => some cs
 | .v x => if x.oneCell' then some [.v x] else none
 | av => some [av]
theorem parts_ok {E : Env} {av : AV} {x : Value} (h : VR E av x) {ps : List AV} (hp : partsOf av = some ps) : CellsR E ps x.cells.toList := by
 have one : ∀ (av : AV) (y : Value), VR E av y → y.oneCell' = true → y.cells = #[y] → CellsR E [av] y.cells.toList := by
  intro av y hv h1 hc;rw [hc];refine ⟨rfl, fun u hu => by simp at hu; rw [hu]; exact h1, fun j av' u hj hu => ?_⟩
  cases j with
  | zero => simp at hj hu; subst hj; subst hu; exact hv
  | succ j => simp at hj
 cases h with
 | any x => simp [partsOf] at hp
 | v x =>
  simp only [partsOf] at hp
  split at hp
  · rename_i h1
    obtain rfl := Option.some.inj hp;exact one _ _ (.v x) h1 (by cases x <;> first | rfl | simp [Value.oneCell'] at h1)
  · cases hp
 | rd u hc hm hz hA hu => obtain rfl := Option.some.inj hp; exact one _ _ (.rd u hc hm hz hA hu) rfl rfl
 | own h hs => obtain rfl := Option.some.inj hp; obtain ⟨A, c, rfl⟩ := hs; exact one _ _ (.own h ⟨A, c, rfl⟩) rfl rfl
 | eptr u hb hl hA hu => obtain rfl := Option.some.inj hp; exact one _ _ (.eptr u hb hl hA hu) rfl rfl
 | optr h hs => obtain rfl := Option.some.inj hp; obtain ⟨ad, rfl⟩ := hs; exact one _ _ (.optr h ⟨ad, rfl⟩) rfl rfl
 | box h hs => obtain rfl := Option.some.inj hp; obtain ⟨ad, rfl⟩ := hs; exact one _ _ (.box h ⟨ad, rfl⟩) rfl rfl
 | agg hl h1 hu => obtain rfl := Option.some.inj hp; exact ⟨hl, h1, hu⟩
 | tup hl hu => simp [partsOf] at hp
 | fn hl hu => simp [partsOf] at hp
 | bsl h hs => obtain rfl := Option.some.inj hp; obtain ⟨A, c, rfl⟩ := hs; exact one _ _ (.bsl h ⟨A, c, rfl⟩) rfl rfl
 | omap h hs => obtain rfl := Option.some.inj hp; obtain ⟨r, rfl⟩ := hs; exact one _ _ (.omap h ⟨r, rfl⟩) rfl rfl
def layAt {α : Type} (cs : List α) (off : Nat) (vs : List α) : List α := cs.take off ++ vs ++ cs.drop (off + vs.length)
theorem layAt_length {α : Type} {cs : List α} {off : Nat} {vs : List α} (h : off + vs.length ≤ cs.length) : (layAt cs off vs).length = cs.length := by
 unfold layAt; simp; omega
theorem layAt_get {α : Type} {cs vs : List α} {off : Nat} (h : off + vs.length ≤ cs.length) (j : Nat) : (layAt cs off vs)[j]? = if off ≤ j ∧ j < off + vs.length then vs[j - off]? else cs[j]? := by
 unfold layAt;by_cases h1 : j < off
 · rw [List.append_assoc, List.getElem?_append_left (by simp; omega), List.getElem?_take, if_pos h1, if_neg (by omega)]
 · by_cases h2 : j < off + vs.length
   · rw [if_pos ⟨by omega, h2⟩, List.append_assoc, List.getElem?_append_right (by simp; omega), List.getElem?_append_left (by simp; omega)]
     congr 1
     simp; omega
   · rw [if_neg (by omega), List.getElem?_append_right (by simp; omega), List.getElem?_drop]
     congr 1
     simp; omega
theorem CellsR.lay {E : Env} {cs ps : List AV} {us vs : List Value} {off : Nat} (h : CellsR E cs us) (h' : CellsR E ps vs) (hl : off + ps.length ≤ cs.length) : CellsR E (layAt cs off ps) (layAt us off vs) := by
 have e1 := h.1;have e2 := h'.1;refine ⟨by rw [layAt_length hl, layAt_length (by omega)]; exact e1, fun u hu => ?_, fun j av x hj hx => ?_⟩
 · unfold layAt at hu
   rcases List.mem_append.1 hu with hu | hu
   · rcases List.mem_append.1 hu with hu | hu
     · exact h.2.1 u (List.mem_of_mem_take hu)
     · exact h'.2.1 u hu
   · exact h.2.1 u (List.mem_of_mem_drop hu)
 · rw [layAt_get hl] at hj
   rw [layAt_get (by omega)] at hx;by_cases hc : off ≤ j ∧ j < off + ps.length
   · rw [if_pos hc] at hj
     rw [if_pos (by omega)] at hx;exact h'.2.2 _ _ _ hj hx
   · rw [if_neg hc] at hj
     rw [if_neg (by omega)] at hx;exact h.2.2 _ _ _ hj hx
theorem foldl_lay (vs : List Value) : ∀ (cells : Array Value) (off k : Nat), off + k + vs.length ≤ cells.size →
 ((vs.zipIdx k).foldl (fun cs (p : Value × Nat) => cs.setIfInBounds (off + p.2) p.1) cells).toList = layAt cells.toList (off + k) vs := by
 induction vs with
 | nil => intro cells off k h; simp [layAt]
 | cons v vs ih =>
  intro cells off k h;simp only [List.zipIdx_cons, List.foldl_cons];rw [ih _ off (k + 1) (by simp at h ⊢; omega)];simp only [List.length_cons] at h;have hs : off + k < cells.toList.length := by simp; omega
  apply List.ext_getElem?;intro j;rw [layAt_get (by simp; omega), layAt_get (by simp; omega), Array.toList_setIfInBounds];by_cases h1 : j = off + k
  · subst h1
    rw [if_neg (by omega), if_pos (by simp), List.getElem?_set_self hs];simp
  · rw [List.getElem?_set_ne (by omega)]
    by_cases h2 : off + (k + 1) ≤ j ∧ j < off + (k + 1) + vs.length
    · rw [if_pos h2, if_pos (by simp; omega), show j - (off + k) = (j - (off + (k + 1))) + 1 from by omega]
      simp
    · rw [if_neg h2, if_neg (by simp; omega)]
def fillA (place : Nat → Option (Nat × Nat)) (ev' : Operand → AV) (cs : List AV) : List (Nat × Operand) → Option (List AV)
 | [] => some cs
 | (i, x) :: rest => match place i, partsOf (ev' x) with
  | some (off, size), some ps => if ps.length = size ∧ off + ps.length ≤ cs.length then fillA place ev' (layAt cs off ps) rest else none
  | _, _ => none
theorem fill_ok {base : Cx} {σ : Nat → Value} {s : St} {a : Act} {w : World} (hr : Rel base σ s a w) {place : Nat → Option (Nat × Nat)} : ∀ (parts : List (Nat × Operand)) (cs cs' : List AV) (us : Array Value),
 CellsR ⟨w, s.H, σ, base.F⟩ cs us.toList → fillA place (ev s) cs parts = some cs' → ∃ us', Instr.fill place us (parts.map fun p => (p.1, a.eval p.2)) = some us' ∧ CellsR ⟨w, s.H, σ, base.F⟩ cs' us'.toList := by
 intro parts
 induction parts with
 | nil =>
  intro cs cs' us hc h;obtain rfl := Option.some.inj h;exact ⟨us, rfl, hc⟩
 | cons p parts ih =>
  intro cs cs' us hc h;obtain ⟨i, x⟩ := p;simp only [fillA] at h
  cases hp : place i with
  | none => rw [hp] at h; cases h
  | some q =>
   obtain ⟨off, size⟩ := q
   cases hq : partsOf (ev s x) with
   | none => rw [hp, hq] at h; cases h
   | some ps =>
    rw [hp, hq] at h;simp only at h
    split at h
    · rename_i hsz
      have hx := parts_ok (ev_ok hr x) hq;have hlen : (a.eval x).cells.size = ps.length := by have := hx.1; simpa using this
      have hcl : us.size = cs.length := by have := hc.1; simpa using this
      have hfold := foldl_lay (a.eval x).cells.toList us off 0 (by simp; omega);simp only [Nat.add_zero] at hfold;obtain ⟨us', h1, h2⟩ := ih _ cs' ((a.eval x).cells.zipIdx.foldl (fun cs p => cs.setIfInBounds (off + p.2) p.1) us) (by
       rw [show ((a.eval x).cells.zipIdx.foldl (fun cs p => cs.setIfInBounds (off + p.2) p.1) us).toList = layAt us.toList off (a.eval x).cells.toList from by
        rw [← hfold, ← Array.foldl_toList, Array.toList_zipIdx]]
       exact hc.lay hx hsz.2) h
      refine ⟨us', ?_, h2⟩;simp only [List.map_cons, Instr.fill, hp];rw [if_neg (by simp; omega)];exact h1
    · cases h
theorem heap_alloc_lt (w : World) (o : Obj) {k : Nat} (h : k < w.heap.size) : (w.alloc o).heap[k]? = w.heap[k]? := by
 show (w.heap.push o)[k]? = w.heap[k]?
 rw [Array.getElem?_push, if_neg (Nat.ne_of_lt h)]
theorem heap_alloc_at (w : World) (o : Obj) : (w.alloc o).heap[w.heap.size]? = some o := by
 show (w.heap.push o)[w.heap.size]? = some o
 rw [Array.getElem?_push, if_pos rfl]
theorem size_alloc_le (w : World) (o : Obj) : w.heap.size ≤ (w.alloc o).heap.size := by
 show w.heap.size ≤ (w.heap.push o).size
 rw [Array.size_push]; omega
theorem keep_alloc (w : World) (o : Obj) : KeepW w (w.alloc o) := ⟨size_alloc_le w o, fun k hk => heap_alloc_lt w o hk⟩
theorem BR.keep {base : Cx} {E E' : Env} {id : Nat} {b : AB} (h : BR base E id b) (he : Ext E E') (hσ : E'.σ id = E.σ id) (hk : ∀ g, blkOf (E.σ id) = some g → E'.w.heap[g]? = E.w.heap[g]?) : BR base E' id b := by
 cases b with
 | row e sz ep rows =>
  obtain ⟨xs, h1, h2⟩ := h;refine ⟨xs, ?_, h2.ext he⟩;rw [hσ];refine ⟨h1.1, ?_⟩;rcases h1.2 with h3 | ⟨g, cap, cur, h3, h4, h5, h6⟩
  · exact .inl h3
  · exact .inr ⟨g, cap, cur, h3, h4, (hk g (by rw [h3]; rfl)).trans h5, h6⟩
 | box t cs =>
  obtain ⟨g, us, h1, h2, h3, h4⟩ := h;exact ⟨g, us, hσ.trans h1, h2, (hk g (by rw [h1]; rfl)).trans h3, h4.ext he⟩
 | map es =>
  obtain ⟨r, ents, clock, h1, h2, h3, h4⟩ := h;exact ⟨r, ents, clock, hσ.trans h1, h2, (hk r (by rw [h1]; rfl)).trans h3, h4.ext he⟩
theorem blk_lt {base : Cx} {E : Env} (h : Heap base E) {id : Nat} {b : AB} (hb : E.H[id]? = some (some b)) {g : Nat} (hg : blkOf (E.σ id) = some g) : base.b ≤ g ∧ g < E.w.heap.size := by
 have h1 := h.live id b hb
 cases b with
 | row e sz ep rows =>
  obtain ⟨xs, h2, _⟩ := h1;rcases h2.2 with ⟨h3, _⟩ | ⟨g', cap, cur, h3, h4, h5, _⟩
  · rw [h3] at hg; cases hg
  · rw [h3] at hg
    obtain rfl := Option.some.inj hg;exact ⟨h4, (Array.getElem?_eq_some_iff.1 h5).1⟩
 | box t cs =>
  obtain ⟨g', us, h2, h3, h4, _⟩ := h1;rw [h2] at hg;obtain rfl := Option.some.inj hg;exact ⟨h3, (Array.getElem?_eq_some_iff.1 h4).1⟩
 | map es =>
  obtain ⟨r, ents, clock, h2, h3, h4, _⟩ := h1;rw [h2] at hg;obtain rfl := Option.some.inj hg;exact ⟨h3, (Array.getElem?_eq_some_iff.1 h4).1⟩
def St.push (s : St) (b : AB) : St := ⟨s.fr, s.H ++ [some b]⟩
def pushσ (σ : Nat → Value) (n : Nat) (v : Value) : Nat → Value := fun i => if i = n then v else σ i
theorem Ext.push {base : Cx} {w w1 : World} {H : List (Option AB)} {σ : Nat → Value} (b : AB) (v : Value) (hos : w1.os = w.os) (ht : w1.tape = w.tape) (ho : w1.output = w.output) (hk : KeepW w w1) (hv : ∀ g, blkOf v = some g → w.heap.size ≤ g) :
 Ext ⟨w, H, σ, base.F⟩ ⟨w1, H ++ [some b], pushσ σ H.length v, base.F⟩ := by
 have lt_of : ∀ {id : Nat} {x : AB}, (H ++ [some b])[id]? = some (some x) → id < H.length → H[id]? = some (some x) := fun h hl => by rwa [List.getElem?_append_left hl] at h
 refine ⟨hos, ht, ho, hk.size, rfl, fun k h1 _ => hk.keep k h1, fun k hm hlt => ?_, by simp, fun id e sz ep rows' h1 h2 => ?_, fun id t cs' h1 h2 => ?_, fun id es' h1 h2 => ?_⟩
 · obtain ⟨id, x, h1, h2⟩ := hm
   by_cases hid : id = H.length
   · subst hid
     simp only [pushσ, if_true] at h2;have h3 := hv k h2;have h4 : k < w.heap.size := hlt;omega
   · have hl : id < H.length := by
      have := (List.getElem?_eq_some_iff.1 h1).1;simp at this; omega
     simp only [pushσ, if_neg hid] at h2;exact ⟨id, x, lt_of h1 hl, h2⟩
 · exact ⟨ep, rows', lt_of h1 h2, .inr ⟨rfl, by simp only [pushσ]; rw [if_neg (by have : id < H.length := h2; omega)], rfl⟩⟩
 · exact ⟨cs', lt_of h1 h2, by simp only [pushσ]; rw [if_neg (by have : id < H.length := h2; omega)], rfl⟩
 · exact ⟨es', lt_of h1 h2, by simp only [pushσ]; rw [if_neg (by have : id < H.length := h2; omega)]⟩
theorem Heap.push {base : Cx} {w w1 : World} {H : List (Option AB)} {σ : Nat → Value} (h : Heap base ⟨w, H, σ, base.F⟩) {b : AB} {v : Value} (he : Ext ⟨w, H, σ, base.F⟩ ⟨w1, H ++ [some b], pushσ σ H.length v, base.F⟩) (hk : KeepW w w1) (hv : ∀ g, blkOf v = some g → w.heap.size ≤ g)
 (hb : BR base ⟨w1, H ++ [some b], pushσ σ H.length v, base.F⟩ H.length b) : Heap base ⟨w1, H ++ [some b], pushσ σ H.length v, base.F⟩ := by
 have cases_ : ∀ {id : Nat} {x : AB}, (H ++ [some b])[id]? = some (some x) → (id = H.length ∧ x = b) ∨ (id < H.length ∧ H[id]? = some (some x)) := by
  intro id x h1;by_cases hl : id < H.length
  · exact .inr ⟨hl, by rwa [List.getElem?_append_left hl] at h1⟩
  · have := (List.getElem?_eq_some_iff.1 h1).1
    simp at this;obtain rfl : id = H.length := by omega
    simp at h1;exact .inl ⟨rfl, h1.symm⟩
 have hbs : base.b ≤ w.heap.size := h.bs;have hfar : ∀ g, base.F g → g < w.heap.size := h.far;refine ⟨Nat.le_trans hbs hk.size, fun g hg => Nat.lt_of_lt_of_le (hfar g hg) hk.size, fun g hg hf => ?_, fun id x h1 => ?_, fun id id' x x' g h1 h2 h3 h4 => ?_⟩
 · obtain ⟨id, x, h1, h2⟩ := hg
   simp only [pushσ] at h2;rcases cases_ h1 with ⟨rfl, rfl⟩ | ⟨hl, h3⟩
   · rw [if_pos rfl] at h2
     have h4 := hv g h2;have h5 := hfar g hf;omega
   · rw [if_neg (by omega)] at h2
     exact h.clear g ⟨id, x, h3, h2⟩ hf
 · rcases cases_ h1 with ⟨rfl, rfl⟩ | ⟨hl, h2⟩
   · exact hb
   · refine (h.live id x h2).keep he (by simp only [pushσ]; rw [if_neg (by omega)]) fun g hg => ?_
     exact hk.keep g (blk_lt h h2 hg).2
 · simp only [pushσ] at h3 h4
   rcases cases_ h1 with ⟨rfl, rfl⟩ | ⟨hl, h5⟩ <;> rcases cases_ h2 with ⟨rfl, rfl⟩ | ⟨hl', h6⟩
   · rfl
   · rw [if_pos rfl] at h3
     rw [if_neg (by omega)] at h4;have := hv g h3;have := (blk_lt h h6 h4).2;have : g < w.heap.size := this;omega
   · rw [if_neg (by omega)] at h3
     rw [if_pos rfl] at h4;have := hv g h4;have : g < w.heap.size := (blk_lt h h5 h3).2;omega
   · rw [if_neg (by omega)] at h3 h4
     exact h.apart id id' x x' g h5 h6 h3 h4
section
variable {P : Program} {base : Cx} {s : St}
theorem new_box {σ : Nat → Value} {a : Act} {w : World} (hr : Rel base σ s a w) {t : TypeId} {cs : List AV} {us : List Value} (hc : CellsR ⟨w, s.H, σ, base.F⟩ cs us) (d : Option Tmp) :
 ∃ σ', Rel base σ' ((s.push (.box t cs)).put d (.box s.H.length 0)) (a.put d (.pointer (some ⟨w.heap.size, 0, none⟩))) (w.alloc (.cells ⟨us⟩ t)) ∧
  Ext ⟨w, s.H, σ, base.F⟩ ⟨w.alloc (.cells ⟨us⟩ t), s.H ++ [some (.box t cs)], σ', base.F⟩ := by
 have hv : ∀ g, blkOf (.pointer (some ⟨w.heap.size, 0, none⟩)) = some g → w.heap.size ≤ g := fun g hg => by obtain rfl := Option.some.inj hg; exact Nat.le_refl _
 have hk := keep_alloc w (.cells ⟨us⟩ t);have he := Ext.push (base := base) (w := w) (H := s.H) (σ := σ) (.box t cs) (.pointer (some ⟨w.heap.size, 0, none⟩)) (w1 := w.alloc (.cells ⟨us⟩ t)) rfl rfl rfl hk hv;have hnew : (w.alloc (.cells ⟨us⟩ t)).heap[w.heap.size]? = some (.cells ⟨us⟩ t (0, 0)) := heap_alloc_at w _
 have hH := hr.1.push he hk hv (b := .box t cs) ⟨w.heap.size, us, by simp [pushσ], hr.1.bs, hnew, hc.ext he⟩;refine ⟨_, ?_, he⟩;have hrel : Rel base (pushσ σ s.H.length (.pointer (some ⟨w.heap.size, 0, none⟩))) (s.push (.box t cs)) a (w.alloc (.cells ⟨us⟩ t)) := ⟨hH, hr.2.1.ext he, hr.2.2⟩
 refine hrel.put d (.box ⟨by simp [St.push], fun t' cs' h1 => ⟨⟨w.heap.size, 0, none⟩, by simp [pushσ], by simp [Addr.add]⟩⟩ ⟨_, rfl⟩)
theorem new_row {σ : Nat → Value} {a : Act} {w : World} (hr : Rel base σ s a w) {e : TypeId} {sz : Nat} {rows : List (List AV)} {xs : List Value} (hc : RowsR ⟨w, s.H, σ, base.F⟩ sz rows xs) (hm : rows.length ≤ maxLen) (d : Option Tmp) :
 ∃ σ', Rel base σ' ((s.push (.row e sz 0 rows)).put d (.own s.H.length 0 0 rows.length)) (a.put d (.slice (some ⟨w.heap.size, 0, none⟩) rows.length rows.length)) (w.alloc (.cells ⟨xs⟩ e)) ∧
  Ext ⟨w, s.H, σ, base.F⟩ ⟨w.alloc (.cells ⟨xs⟩ e), s.H ++ [some (.row e sz 0 rows)], σ', base.F⟩ := by
 have hv : ∀ g, blkOf (.slice (some ⟨w.heap.size, 0, none⟩) rows.length rows.length) = some g → w.heap.size ≤ g := fun g hg => by obtain rfl := Option.some.inj hg; exact Nat.le_refl _
 have hk := keep_alloc w (.cells ⟨xs⟩ e);have he := Ext.push (base := base) (w := w) (H := s.H) (σ := σ) (.row e sz 0 rows) (.slice (some ⟨w.heap.size, 0, none⟩) rows.length rows.length) (w1 := w.alloc (.cells ⟨xs⟩ e)) rfl rfl rfl hk hv;have hnew : (w.alloc (.cells ⟨xs⟩ e)).heap[w.heap.size]? = some (.cells ⟨xs⟩ e (0, 0)) := heap_alloc_at w _
 have hH := hr.1.push he hk hv (b := .row e sz 0 rows) ⟨xs, ⟨hc.2.1, .inr ⟨w.heap.size, rows.length, ⟨xs⟩, by simp [pushσ], hr.1.bs, hnew, Nat.le_refl _, hm, hc.2.1, by rw [← hc.2.1]; simp⟩⟩, hc.ext he⟩;refine ⟨_, ?_, he⟩
 have hrel : Rel base (pushσ σ s.H.length (.slice (some ⟨w.heap.size, 0, none⟩) rows.length rows.length)) (s.push (.row e sz 0 rows)) a (w.alloc (.cells ⟨xs⟩ e)) := ⟨hH, hr.2.1.ext he, hr.2.2⟩;refine hrel.put d (.own ⟨by simp [St.push], fun e' sz' ep' rows' h1 => ?_⟩ ⟨_, _, rfl⟩);simp [St.push] at h1;obtain ⟨rfl, rfl, rfl, rfl⟩ := h1
 exact ⟨Nat.le_refl _, fun _ => ⟨by omega, some ⟨w.heap.size, 0, none⟩, rows.length, some ⟨w.heap.size, 0, none⟩, by simp [pushσ], by simp, fun _ => by simp [Addr.add], fun _ => rfl⟩⟩
theorem Pu.build {t : TypeId} {ps : Array (Nat × Operand)} {fs : Array Field} {zs : List Value} {places : List (Nat × Nat)} {cs : List AV} (hu : P.underlying t = some (.struct fs)) (hz : (P.info? t).bind (·.zero) = some (.agg ⟨zs⟩)) (hz1 : (zs.all fun u => u.oneCell') = true)
 (hp : ∀ w, (fs.mapM fun f => (do pure (f.offset, ← sizeOf f.type) : Sem (Nat × Nat))).run P w = .ok places.toArray w) (h : fillA (places[·]?) (ev s) (zs.map .v) ps.toList = some cs) : Pu P (.build t ps) s (.agg cs) := fun d t' pos af g base σ a w hr => by
 have h0 : CellsR ⟨w, s.H, σ, base.F⟩ (zs.map .v) (⟨zs⟩ : Array Value).toList := by
  refine ⟨by simp, fun u hu' => List.all_eq_true.1 hz1 u (by simpa using hu'), fun j av x hj hx => ?_⟩;rw [List.getElem?_map] at hj;have hx' : zs[j]? = some x := by simpa using hx
  rw [hx'] at hj;obtain rfl := Option.some.inj hj;exact .v x
 obtain ⟨us', h1, h2⟩ := fill_ok hr ps.toList _ cs ⟨zs⟩ h0 h;refine ⟨.agg us', ?_, fun w' => ?_⟩
 · obtain ⟨us'⟩ := us'
   exact .agg h2.1 h2.2.1 h2.2.2
 · have hzero : (zeroValue t).run P w' = .ok (.agg ⟨zs⟩) w' := by
    cases hi : P.info? t with
    | none => rw [hi] at hz; simp at hz
    | some i =>
     rw [hi] at hz;simp only [Option.bind_some] at hz;simp [zeroValue, typeInfo, hi, hz]
   simp only [execOp, Instr.build, Sem.run_bind, hzero, Result.andThen_ok, run_underlying hu, hp, Value.cells];have e1 : (ps.map fun x => match x with | (i, x) => (i, a.eval x)).toList = ps.toList.map fun p => (p.1, a.eval p.2) := by simp
   simp only [e1];have e2 : (fun (x : Nat) => places.toArray[x]?) = (fun (x : Nat) => places[x]?) := by funext x; simp
   rw [e2];simp [h1]
end
def setBlk (w : World) (g : Nat) (o : Obj) : World := { w with heap := w.heap.setIfInBounds g o }
theorem setBlk_size (w : World) (g : Nat) (o : Obj) : (setBlk w g o).heap.size = w.heap.size := by
 show (w.heap.setIfInBounds g o).size = _
 simp
theorem setBlk_ne (w : World) {g k : Nat} (o : Obj) (h : g ≠ k) : (setBlk w g o).heap[k]? = w.heap[k]? := by
 show (w.heap.setIfInBounds g o)[k]? = _
 rw [Array.getElem?_setIfInBounds_ne h]
theorem setBlk_self (w : World) {g : Nat} (o : Obj) (h : g < w.heap.size) : (setBlk w g o).heap[g]? = some o := by
 show (w.heap.setIfInBounds g o)[g]? = _
 rw [Array.getElem?_setIfInBounds_self_of_lt h]
theorem setCell_blk {w : World} {g : Nat} {us : List Value} {t : TypeId} (h : w.heap[g]? = some (.cells ⟨us⟩ t (0, 0))) (j : Nat) (v : Value) : w.setCell ⟨g, j, none⟩ v = setBlk w g (.cells ⟨us.set j v⟩ t (0, 0)) := by
 unfold World.setCell setBlk
 congr 1
 apply Array.ext_getElem?;intro k;rw [Array.getElem?_modify];by_cases hk : g = k
 · subst hk
   have hlt := (Array.getElem?_eq_some_iff.1 h).1;rw [if_pos rfl, Array.getElem?_setIfInBounds_self_of_lt hlt, h];simp
 · rw [if_neg hk, Array.getElem?_setIfInBounds_ne hk]
theorem setBlk_setBlk (w : World) (g : Nat) (o o' : Obj) : setBlk (setBlk w g o) g o' = setBlk w g o' := by
 unfold setBlk
 congr 1
 apply Array.ext_getElem?;intro k;by_cases hk : g = k
 · subst hk
   by_cases hlt : g < w.heap.size
   · rw [Array.getElem?_setIfInBounds_self_of_lt (by simpa using hlt), Array.getElem?_setIfInBounds_self_of_lt hlt]
   · rw [Array.getElem?_eq_none (by simp; omega), Array.getElem?_eq_none (by simp; omega)]
 · rw [Array.getElem?_setIfInBounds_ne hk, Array.getElem?_setIfInBounds_ne hk, Array.getElem?_setIfInBounds_ne hk]
theorem add_plain (g off i : Nat) : ((⟨g, off, none⟩ : Addr).add i) = ⟨g, off + i, none⟩ := by
 unfold Addr.add
 split
 · rename_i h; subst h; rfl
 · rfl
theorem setBlk_same {w : World} {g : Nat} {o : Obj} (h : w.heap[g]? = some o) : setBlk w g o = w := by
 unfold setBlk;have : w.heap.setIfInBounds g o = w.heap := by
  apply Array.ext_getElem?;intro k;by_cases hk : g = k
  · subst hk
    rw [Array.getElem?_setIfInBounds_self_of_lt (Array.getElem?_eq_some_iff.1 h).1, h]
  · rw [Array.getElem?_setIfInBounds_ne hk]
 rw [this]
theorem run_storeCells {P : Program} {g off : Nat} {t : TypeId} : ∀ (vs us : List Value) (i : Nat) (w : World), w.heap[g]? = some (.cells ⟨us⟩ t (0, 0)) → off + i + vs.length ≤ us.length → (∀ v ∈ vs, v.oneCell' = true) →
 (storeCells ⟨g, off, none⟩ vs i).run P w = .ok () (setBlk w g (.cells ⟨layAt us (off + i) vs⟩ t (0, 0))) := by
 intro vs
 induction vs with
 | nil =>
  intro us i w h hl h1;simp only [storeCells, Sem.run_pure];rw [show layAt us (off + i) [] = us from by simp [layAt], setBlk_same h]
 | cons v vs ih =>
  intro us i w h hl h1;simp only [List.length_cons] at hl;have hc : w.cell? ⟨g, off + i, none⟩ = some (us[off + i]'(by omega)) := by
   simp [World.cell?, h, List.getElem?_eq_getElem (show off + i < us.length from by omega)]
  have hf : w.frozen? ⟨g, off + i, none⟩ = false := by simp [World.frozen?, h]
  have hv := h1 v (by simp);have hrun : (store ((⟨g, off, none⟩ : Addr).add i) v).run P w = .ok () (setBlk w g (.cells ⟨us.set (off + i) v⟩ t (0, 0))) := by
   rw [add_plain, ← setCell_blk h];unfold store
   cases v <;> first | (simp [Value.oneCell'] at hv; done) | simp [Sem.run, hc, hf]
  have hlt := (Array.getElem?_eq_some_iff.1 h).1;simp only [storeCells, Sem.run_bind, hrun, Result.andThen_ok];rw [ih (us.set (off + i) v) (i + 1) _ (setBlk_self w _ hlt) (by simp; omega) (fun u hu => h1 u (by simp [hu])), setBlk_setBlk];have e : layAt (us.set (off + i) v) (off + (i + 1)) vs = layAt us (off + i) (v :: vs) := by
   apply List.ext_getElem?;intro j;rw [layAt_get (by simp; omega), layAt_get (by simp; omega)];by_cases h2 : j = off + i
   · subst h2
     rw [if_neg (by omega), if_pos (by simp), List.getElem?_set_self (by omega)];simp
   · rw [List.getElem?_set_ne (by omega)]
     by_cases h3 : off + (i + 1) ≤ j ∧ j < off + (i + 1) + vs.length
     · rw [if_pos h3, if_pos (by simp; omega), show j - (off + i) = (j - (off + (i + 1))) + 1 from by omega]
       simp
     · rw [if_neg h3, if_neg (by simp; omega)]
  rw [e]
def SameKind : AB → AB → Prop
 | .row e sz ep rows, .row e' sz' ep' rows' => e' = e ∧ sz' = sz ∧ ep' = ep ∧ rows'.length = rows.length
 | .box t cs, .box t' cs' => t' = t ∧ cs'.length = cs.length
 | .map _, .map _ => True
 | _, _ => False
section
variable {P : Program} {base : Cx} {s : St}
theorem upd_block {σ : Nat → Value} {a : Act} {w : World} (hr : Rel base σ s a w) {id g : Nat} {b b' : AB} (hb : s.H[id]? = some (some b)) (hg : blkOf (σ id) = some g) (o : Obj) (hk : SameKind b b')
 (hbr : Ext ⟨w, s.H, σ, base.F⟩ ⟨setBlk w g o, s.H.set id (some b'), σ, base.F⟩ → BR base ⟨setBlk w g o, s.H.set id (some b'), σ, base.F⟩ id b') :
 Rel base σ ⟨s.fr, s.H.set id (some b')⟩ a (setBlk w g o) ∧ Ext ⟨w, s.H, σ, base.F⟩ ⟨setBlk w g o, s.H.set id (some b'), σ, base.F⟩ := by
 have hid : id < s.H.length := (List.getElem?_eq_some_iff.1 hb).1;have hself : (s.H.set id (some b'))[id]? = some (some b') := by rw [List.getElem?_set_self hid]
 have get : ∀ {i : Nat} {x : AB}, (s.H.set id (some b'))[i]? = some (some x) → (i = id ∧ x = b') ∨ (i ≠ id ∧ s.H[i]? = some (some x)) := by
  intro i x hi;by_cases he : id = i
  · subst he
    rw [hself] at hi;simp only [Option.some.injEq] at hi;exact .inl ⟨rfl, hi.symm⟩
  · rw [List.getElem?_set_ne he] at hi
    exact .inr ⟨Ne.symm he, hi⟩
 have hmine : ∀ k, Env.ours ⟨setBlk w g o, s.H.set id (some b'), σ, base.F⟩ k → Env.ours ⟨w, s.H, σ, base.F⟩ k := by
  rintro k ⟨i, x, h1, h2⟩
  rcases get h1 with ⟨rfl, rfl⟩ | ⟨_, h3⟩
  · exact ⟨_, b, hb, h2⟩
  · exact ⟨i, x, h3, h2⟩
 have hgm : Env.ours ⟨w, s.H, σ, base.F⟩ g := ⟨id, b, hb, hg⟩;have he : Ext ⟨w, s.H, σ, base.F⟩ ⟨setBlk w g o, s.H.set id (some b'), σ, base.F⟩ := by
  refine ⟨rfl, rfl, rfl, by rw [setBlk_size]; exact Nat.le_refl _, rfl, fun k _ hm => setBlk_ne w o (fun e => hm (e ▸ hgm)), fun k hm _ => hmine k hm, by simp, fun i e sz ep rows' h1 _ => ?_, fun i t cs' h1 _ => ?_, fun i es' h1 _ => ?_⟩
  · rcases get h1 with ⟨rfl, h2⟩ | ⟨_, h3⟩
    · subst h2
      cases b with
      | row e0 sz0 ep0 rows0 =>
       obtain ⟨rfl, rfl, rfl, h3⟩ := hk;exact ⟨_, _, hb, .inr ⟨rfl, rfl, h3⟩⟩
      | box t cs => exact hk.elim
      | map es => exact hk.elim
    · exact ⟨ep, rows', h3, .inr ⟨rfl, rfl, rfl⟩⟩
  · rcases get h1 with ⟨rfl, h2⟩ | ⟨_, h3⟩
    · subst h2
      cases b with
      | row e0 sz0 ep0 rows0 => exact hk.elim
      | box t0 cs0 =>
       obtain ⟨rfl, hkl⟩ := hk;exact ⟨cs0, hb, rfl, hkl⟩
      | map es => exact hk.elim
    · exact ⟨cs', h3, rfl, rfl⟩
  · rcases get h1 with ⟨rfl, h2⟩ | ⟨_, h3⟩
    · subst h2
      cases b with
      | row e0 sz0 ep0 rows0 => exact hk.elim
      | box t0 cs0 => exact hk.elim
      | map es0 => exact ⟨es0, hb, rfl⟩
    · exact ⟨es', h3, rfl⟩
 refine ⟨⟨⟨?_, fun k hk' => ?_, fun k hk' => hr.1.clear k (hmine k hk'), fun i x hi => ?_, fun i i' x x' k h1 h2 h3 h4 => ?_⟩, hr.2.1.ext he, hr.2.2⟩, he⟩
 · show base.b ≤ (setBlk w g o).heap.size
   rw [setBlk_size]; exact hr.1.bs
 · show k < (setBlk w g o).heap.size
   rw [setBlk_size]; exact hr.1.far k hk'
 · rcases get hi with ⟨rfl, rfl⟩ | ⟨hne, h3⟩
   · exact hbr he
   · refine (hr.1.live i x h3).keep he rfl fun k hk' => setBlk_ne w o fun e => hne ?_
     subst e;exact hr.1.apart i id x b _ h3 hb hk' hg
 · rcases get h1 with ⟨rfl, rfl⟩ | ⟨_, h5⟩ <;> rcases get h2 with ⟨rfl, rfl⟩ | ⟨_, h6⟩
   · rfl
   · exact hr.1.apart _ _ _ _ k hb h6 h3 h4
   · exact hr.1.apart _ _ _ _ k h5 hb h3 h4
   · exact hr.1.apart _ _ _ _ k h5 h6 h3 h4
theorem HvK.box {d : Option Tmp} {t ty : TypeId} {x : Operand} {pos : String} {af : Array Edge} {g : Option (Nat × Bool)} {cs : List AV} (h : partsOf (ev s x) = some cs) :
 HvK P base ⟨d, .box t x, ty, pos, af, g⟩ s (fun s' => s' = (s.push (.box t cs)).put d (.box s.H.length 0)) := by
 intro σ a w hr Q K hk;have hc := parts_ok (ev_ok hr x) h;obtain ⟨σ', h1, h2⟩ := new_box hr (t := t) hc d;unfold Oper.wp;have hrun : (execOp a.eval ⟨d, .box t x, ty, pos, af, g⟩).run P w = .ok (.value (.pointer (some ⟨w.heap.size, 0, none⟩))) (w.alloc (.cells (a.eval x).cells t)) := by
  simp only [execOp, Instr.box, newVar, newRow, newObj, Sem.run_bind, Sem.run, Result.andThen_ok, Sem.run_pure];rfl
 rw [hrun];exact hk _ _ _ _ h1 (by rw [put_H]; exact h2) (keep_alloc w _) rfl
theorem HvK.alloc {d : Option Tmp} {t ty : TypeId} {pos : String} {af : Array Edge} {g : Option (Nat × Bool)} {z : Value} {us : List Value} (hz : (P.info? t).bind (·.zero) = some z) (hu : z.cells = ⟨us⟩) (h1 : (us.all fun u => u.oneCell') = true) :
 HvK P base ⟨d, .alloc t, ty, pos, af, g⟩ s (fun s' => s' = (s.push (.box t (us.map .v))).put d (.box s.H.length 0)) := by
 intro σ a w hr Q K hk;have hc : CellsR ⟨w, s.H, σ, base.F⟩ (us.map .v) us := by
  refine ⟨by simp, fun u hu' => List.all_eq_true.1 h1 u hu', fun j av x hj hx => ?_⟩;rw [List.getElem?_map, hx] at hj;obtain rfl := Option.some.inj hj;exact .v x
 obtain ⟨σ', h3, h2⟩ := new_box hr (t := t) hc d;unfold Oper.wp;have hzero : (zeroValue t).run P w = .ok z w := by
  cases hi : P.info? t with
  | none => rw [hi] at hz; simp at hz
  | some i =>
   rw [hi] at hz;simp only [Option.bind_some] at hz;simp [zeroValue, typeInfo, hi, hz]
 have hrun : (execOp a.eval ⟨d, .alloc t, ty, pos, af, g⟩).run P w = .ok (.value (.pointer (some ⟨w.heap.size, 0, none⟩))) (w.alloc (.cells ⟨us⟩ t)) := by
  simp only [execOp, Instr.alloc, newVar, newRow, newObj, Sem.run_bind, Sem.run, hzero, Result.andThen_ok, Sem.run_pure, hu];rfl
 rw [hrun];exact hk _ _ _ _ h3 (by rw [put_H]; exact h2) (keep_alloc w _) rfl
theorem run_storeVar {t : TypeId} {g off : Nat} {bt : TypeId} {us : List Value} {v : Value} {w : World} (hs : (P.info? t).map (·.size) = some v.cells.size) (hb : w.heap[g]? = some (.cells ⟨us⟩ bt (0, 0))) (hl : off + v.cells.size ≤ us.length) (h1 : ∀ u ∈ v.cells.toList, u.oneCell' = true) :
 (Instr.storeAt t (.pointer (some ⟨g, off, none⟩)) v).run P w = .ok () (setBlk w g (.cells ⟨layAt us off v.cells.toList⟩ bt (0, 0))) := by
 unfold Instr.storeAt Instr.sureAddr storeVar;simp only [Sem.run_bind, Sem.run_pure, Result.andThen_ok, run_size hs, ne_eq, not_true_eq_false, if_false];have := run_storeCells (P := P) (g := g) (off := off) v.cells.toList us 0 w hb (by simpa using hl) h1;simpa using this
theorem Hv.store_box {t ty : TypeId} {p x : Operand} {pos : String} {af : Array Edge} {gd : Option (Nat × Bool)} {id off : Nat} {bt : TypeId} {cs ps : List AV} (hp : ev s p = .box id off) (hH : s.H[id]? = some (some (.box bt cs))) (hx : partsOf (ev s x) = some ps)
 (hs : (P.info? t).map (·.size) = some ps.length) (hl : off + ps.length ≤ cs.length) :
 Hv P base ⟨none, .store t p x, ty, pos, af, gd⟩ s (fun s' => s' = ⟨s.fr, s.H.set id (some (.box bt (layAt cs off ps)))⟩) := by
 intro σ a w hr Q K hk;have h1 := ev_ok hr p;rw [hp] at h1;have hc := parts_ok (ev_ok hr x) hx;obtain ⟨g, us, h3, h4, h5, h6⟩ := hr.1.live id _ hH;have h3' : σ id = .pointer (some ⟨g, 0, none⟩) := h3;have hpe : a.eval p = .pointer (some ⟨g, off, none⟩) := by
  generalize hq : a.eval p = q at h1
  cases h1 with
  | box h _ =>
   obtain ⟨ad, h7, rfl⟩ := h.2 _ _ hH;have h8 : Value.pointer (some ⟨g, 0, none⟩) = .pointer (some ad) := h3'.symm.trans h7
   injection h8 with h8
   injection h8 with h8
   subst h8;rw [add_plain, Nat.zero_add]
 have hlen : (a.eval x).cells.size = ps.length := by have := hc.1; simpa using this
 have hul : us.length = cs.length := h6.1;unfold Oper.wp;have hrun : (execOp a.eval ⟨none, .store t p x, ty, pos, af, gd⟩).run P w = .ok .skip (setBlk w g (.cells ⟨layAt us off (a.eval x).cells.toList⟩ bt (0, 0))) := by
  have hst := run_storeVar (P := P) (t := t) (g := g) (off := off) (bt := bt) (us := us) (v := a.eval x) (w := w) (by rw [hs, hlen]) h5 (by omega) hc.2.1;simp only [execOp, hpe, Sem.run_bind, hst, Result.andThen_ok, Sem.run_pure]
 rw [hrun];obtain ⟨h9, h10⟩ := upd_block hr hH (g := g) (by rw [h3']; rfl) (.cells ⟨layAt us off (a.eval x).cells.toList⟩ bt (0, 0)) (b' := .box bt (layAt cs off ps)) ⟨rfl, layAt_length hl⟩ (fun he => by
  refine ⟨g, layAt us off (a.eval x).cells.toList, h3', h4, setBlk_self w _ (Array.getElem?_eq_some_iff.1 h5).1, ?_⟩;exact (h6.ext he).lay (hc.ext he) hl)
 exact hk σ _ _ _ h9 h10 rfl
theorem RowsR.set_ {E : Env} {sz : Nat} {rows : List (List AV)} {xs : List Value} (h : RowsR E sz rows xs) {i off : Nat} {row ps : List AV} {vs : List Value} (hi : rows[i]? = some row) (hv : CellsR E ps vs) (hl : off + ps.length ≤ sz) :
 RowsR E sz (rows.set i (layAt row off ps)) (layAt xs (i * sz + off) vs) := by
 obtain ⟨hz, hxl, h1, hr⟩ := h;have hil := (List.getElem?_eq_some_iff.1 hi).1;have hrow := hz row (List.mem_of_getElem? hi);have hvl := hv.1;have hin : i * sz + sz ≤ xs.length := by
  rw [hxl, ← Nat.succ_mul];exact Nat.mul_le_mul_right _ hil
 refine ⟨fun r hr' => ?_, ?_, fun x hx => ?_, fun k r j av hk hj => ?_⟩
 · rcases List.mem_or_eq_of_mem_set hr' with h2 | rfl
   · exact hz r h2
   · rw [layAt_length (by omega)]; exact hrow
 · rw [layAt_length (by omega), List.length_set]; exact hxl
 · unfold layAt at hx
   rcases List.mem_append.1 hx with hx | hx
   · rcases List.mem_append.1 hx with hx | hx
     · exact h1 x (List.mem_of_mem_take hx)
     · exact hv.2.1 x hx
   · exact h1 x (List.mem_of_mem_drop hx)
 · rw [layAt_get (by omega)]
   by_cases hik : i = k
   · subst hik
     rw [List.getElem?_set_self hil] at hk;obtain rfl := Option.some.inj hk;rw [layAt_get (by omega)] at hj;by_cases hc : off ≤ j ∧ j < off + ps.length
     · rw [if_pos hc] at hj
       rw [if_pos (by omega), show i * sz + j - (i * sz + off) = j - off from by omega];have hlt : j - off < vs.length := by omega
       exact ⟨_, List.getElem?_eq_getElem hlt, hv.2.2 _ _ _ hj (List.getElem?_eq_getElem hlt)⟩
     · rw [if_neg hc] at hj
       rw [if_neg (by omega)];exact hr i row j av hi hj
   · rw [List.getElem?_set_ne hik] at hk
     have hkl := (List.getElem?_eq_some_iff.1 hk).1;have hrz := hz r (List.mem_of_getElem? hk);have hjl := (List.getElem?_eq_some_iff.1 hj).1;have hne : ¬ (i * sz + off ≤ k * sz + j ∧ k * sz + j < i * sz + off + vs.length) := by
      rintro ⟨h2, h3⟩
      rcases Nat.lt_or_ge i k with h4 | h4
      · have : (i + 1) * sz ≤ k * sz := Nat.mul_le_mul_right _ h4
        rw [Nat.succ_mul] at this; omega
      · have h5 : k < i := by omega
        have : (k + 1) * sz ≤ i * sz := Nat.mul_le_mul_right _ h5;rw [Nat.succ_mul] at this; omega
     rw [if_neg hne];exact hr k r j av hk hj
theorem Hv.store_row {t ty : TypeId} {p x : Operand} {pos : String} {af : Array Edge} {gd : Option (Nat × Bool)} {id ep i off sz : Nat} {e : TypeId} {rows : List (List AV)} {row ps : List AV} (hp : ev s p = .optr id ep i off) (hH : s.H[id]? = some (some (.row e sz ep rows)))
 (hi : rows[i]? = some row) (hx : partsOf (ev s x) = some ps) (hs : (P.info? t).map (·.size) = some ps.length) (hl : off + ps.length ≤ sz) :
 Hv P base ⟨none, .store t p x, ty, pos, af, gd⟩ s (fun s' => s' = ⟨s.fr, s.H.set id (some (.row e sz ep (rows.set i (layAt row off ps))))⟩) := by
 intro σ a w hr Q K hk;have h1 := ev_ok hr p;rw [hp] at h1;have hc := parts_ok (ev_ok hr x) hx;obtain ⟨xs, hown, hrows⟩ := hr.1.live id _ hH;have hil := (List.getElem?_eq_some_iff.1 hi).1;have hlen : (a.eval x).cells.size = ps.length := by have := hc.1; simpa using this
 rcases hown.2 with ⟨_, h7⟩ | ⟨g, cap, cur, h6, h7, h8, h9, h10, h11, h12⟩
 · omega
 · have hσ : σ id = .slice (some ⟨g, 0, none⟩) rows.length cap := h6
   have hpe : a.eval p = .pointer (some ⟨g, i * sz + off, none⟩) := by
    generalize hq : a.eval p = q at h1
    cases h1 with
    | optr h _ =>
     obtain ⟨_, ad, c, h13, rfl⟩ := (h.2 _ _ _ _ hH).2 rfl;have h14 : Value.slice (some ⟨g, 0, none⟩) rows.length cap = .slice (some ad) rows.length c := hσ.symm.trans h13
     injection h14 with h14 _ _
     injection h14 with h14
     subst h14;rw [add_plain, Nat.zero_add]
   obtain ⟨cur⟩ := cur;have hcl : cur.length = cap * sz := by simpa using h11
   have hxl : xs.length = rows.length * sz := hrows.2.1;have hcap : rows.length * sz ≤ cap * sz := Nat.mul_le_mul_right _ h9;have hin : i * sz + sz ≤ xs.length := by
    rw [hxl, ← Nat.succ_mul];exact Nat.mul_le_mul_right _ hil
   have hw8 : w.heap[g]? = some (.cells ⟨cur⟩ e (0, 0)) := h8;unfold Oper.wp;have hrun : (execOp a.eval ⟨none, .store t p x, ty, pos, af, gd⟩).run P w = .ok .skip (setBlk w g (.cells ⟨layAt cur (i * sz + off) (a.eval x).cells.toList⟩ e (0, 0))) := by
    have hst := run_storeVar (P := P) (t := t) (g := g) (off := i * sz + off) (bt := e) (us := cur) (v := a.eval x) (w := w) (by rw [hs, hlen]) hw8 (by omega) hc.2.1;simp only [execOp, hpe, Sem.run_bind, hst, Result.andThen_ok, Sem.run_pure]
   rw [hrun];obtain ⟨h13, h14⟩ := upd_block hr hH (g := g) (by rw [hσ]; rfl) (.cells ⟨layAt cur (i * sz + off) (a.eval x).cells.toList⟩ e (0, 0)) (b' := .row e sz ep (rows.set i (layAt row off ps))) ⟨rfl, rfl, rfl, by simp⟩ (fun he => by
    refine ⟨layAt xs (i * sz + off) (a.eval x).cells.toList, ⟨?_, .inr ⟨g, cap, ⟨layAt cur (i * sz + off) (a.eval x).cells.toList⟩, ?_, h7, setBlk_self w _ (Array.getElem?_eq_some_iff.1 hw8).1, ?_, h10, ?_, ?_⟩⟩, ?_⟩
    · rw [layAt_length (by simp; omega), List.length_set]; exact hxl
    · rw [List.length_set]; exact hσ
    · rw [List.length_set]; exact h9
    · show (layAt cur (i * sz + off) (a.eval x).cells.toList).length = _
      rw [layAt_length (by simp; omega)]; exact hcl
    · rw [List.length_set]
      have h12' : cur.take (rows.length * sz) = xs := h12;show (layAt cur (i * sz + off) (a.eval x).cells.toList).take (rows.length * sz) = _
      apply List.ext_getElem?;intro j;rw [List.getElem?_take, layAt_get (by simp; omega), layAt_get (by simp; omega), ← h12', List.getElem?_take];by_cases hj : j < rows.length * sz
      · rw [if_pos hj, if_pos hj]
      · rw [if_neg hj, if_neg hj, if_neg (by simp; omega)]
    · exact (hrows.ext he).set_ hi (hc.ext he) hl)
   exact hk σ _ _ _ h13 h14 rfl
end
def Src (s : St) (base : Cx) (x : Operand) (sz : Nat) (rows : List (List AV)) : Prop :=
 ∀ (σ : Nat → Value) (a : Act) (w : World), Rel base σ s a w → ∃ A c xs, a.eval x = .slice A rows.length c ∧ RowsR ⟨w, s.H, σ, base.F⟩ sz rows xs ∧
  (0 < rows.length → ∃ ad, A = some ad ∧ ∀ (j : Nat) (u : Value), xs[j]? = some u → w.cell? (ad.add j) = some u)
theorem RowsR.nil (E : Env) (sz : Nat) : RowsR E sz [] [] := ⟨by simp, by simp, by simp, by simp⟩
theorem RowsR.append {E : Env} {sz : Nat} {rows rows' : List (List AV)} {xs xs' : List Value} (h : RowsR E sz rows xs) (h' : RowsR E sz rows' xs') : RowsR E sz (rows ++ rows') (xs ++ xs') := by
 refine ⟨fun r hr => ?_, ?_, fun x hx => ?_, fun i row j av hi hj => ?_⟩
 · rcases List.mem_append.1 hr with hr | hr
   · exact h.1 r hr
   · exact h'.1 r hr
 · rw [List.length_append, List.length_append, Nat.add_mul, h.2.1, h'.2.1]
 · rcases List.mem_append.1 hx with hx | hx
   · exact h.2.2.1 x hx
   · exact h'.2.2.1 x hx
 · by_cases hlt : i < rows.length
   · rw [List.getElem?_append_left hlt] at hi
     obtain ⟨x, h1, h2⟩ := h.2.2.2 i row j av hi hj;refine ⟨x, ?_, h2⟩;rw [List.getElem?_append_left (List.getElem?_eq_some_iff.1 h1).1];exact h1
   · rw [List.getElem?_append_right (by omega)] at hi
     obtain ⟨x, h1, h2⟩ := h'.2.2.2 _ row j av hi hj;refine ⟨x, ?_, h2⟩;have e : xs.length ≤ i * sz + j := by
      rw [h.2.1];have : rows.length * sz ≤ i * sz := Nat.mul_le_mul_right _ (by omega);omega
     rw [List.getElem?_append_right e, ← h1]
     congr 1
     rw [h.2.1, Nat.sub_mul];have : rows.length * sz ≤ i * sz := Nat.mul_le_mul_right _ (by omega);omega
section
variable {P : Program} {base : Cx} {s : St}
theorem Src.rd {x : Operand} {sz : Nat} {rows : List (List AV)} (hx : ev s x = .rd sz rows) : Src s base x sz rows := fun σ a w hr => by
  have h1 := ev_ok hr x
  rw [hx] at h1
  generalize hq : a.eval x = q at h1
  cases h1 with
  | rd u hc hm hz hA hu =>
    rename_i A c
    have hlen : ∀ (rows : List (List AV)), (∀ row ∈ rows, row.length = sz) → rows.flatten.length = rows.length * sz := by
      intro rows
      induction rows with
      | nil => intro _; simp
      | cons r rows ih =>
        intro h
        simp only [List.flatten_cons, List.length_append, List.length_cons, Nat.add_mul, Nat.one_mul]
        rw [ih (fun r' hr' => h r' (by simp [hr'])), h r (by simp)]; omega
    have hidx : ∀ k, k < rows.length * sz → k / sz < rows.length ∧ k % sz < sz := by
      intro k hk
      have hs : 0 < sz := by rcases Nat.eq_zero_or_pos sz with h0 | h0
                             · subst h0; simp at hk
                             · exact h0
      exact ⟨(Nat.div_lt_iff_lt_mul hs).2 hk, Nat.mod_lt _ hs⟩
    have hrow : ∀ k, k < rows.length * sz → ∃ row av, rows[k / sz]? = some row ∧ row[k % sz]? = some av := by
      intro k hk
      obtain ⟨h1, h2⟩ := hidx k hk
      have h3 := hz (rows[k / sz]) (List.getElem_mem h1)
      exact ⟨rows[k / sz], (rows[k / sz])[k % sz]'(by omega), List.getElem?_eq_getElem h1, List.getElem?_eq_getElem (by omega)⟩
    refine ⟨A, c, (List.range (rows.length * sz)).map (fun k => u (k / sz) (k % sz)), rfl, ⟨hz, by simp, fun y hy => ?_, fun i row j av hi hj => ?_⟩, fun h0 => ?_⟩
    · obtain ⟨k, hk, rfl⟩ := List.mem_map.1 hy
      have hk' := List.mem_range.1 hk
      obtain ⟨row, av, h1, h2⟩ := hrow k hk'
      have h0 : 0 < rows.length := Nat.lt_of_le_of_lt (Nat.zero_le _) (hidx k hk').1
      obtain ⟨ad, _, _, _, hcell⟩ := hA h0
      exact (hcell _ _ _ _ h1 h2).2
    · have hil := (List.getElem?_eq_some_iff.1 hi).1
      have hjl := (List.getElem?_eq_some_iff.1 hj).1
      rw [hz row (List.mem_of_getElem? hi)] at hjl
      have hk : i * sz + j < rows.length * sz := by
        have : (i + 1) * sz ≤ rows.length * sz := Nat.mul_le_mul_right _ hil
        rw [Nat.succ_mul] at this; omega
      refine ⟨u i j, ?_, hu i row j av hi hj⟩
      rw [List.getElem?_map, List.getElem?_range hk, Option.map_some]
      congr 2
      · rw [Nat.mul_comm, Nat.mul_add_div (by omega), Nat.div_eq_of_lt hjl, Nat.add_zero]
      · rw [Nat.mul_comm, Nat.mul_add_mod, Nat.mod_eq_of_lt hjl]
    · obtain ⟨ad, rfl, _, _, hcell⟩ := hA h0
      refine ⟨ad, rfl, fun k v hk => ?_⟩
      have hlt := (List.getElem?_eq_some_iff.1 hk).1
      simp at hlt
      rw [List.getElem?_map, List.getElem?_range hlt, Option.map_some] at hk
      obtain rfl := Option.some.inj hk
      obtain ⟨row, av, h1, h2⟩ := hrow k hlt
      have := (hcell _ _ _ _ h1 h2).1
      rwa [Nat.mul_comm, Nat.div_add_mod] at this
theorem run_append_src {base : Nat} {t e ty : TypeId} {i : TypeInfo} {z : Value} {size bytes : Nat} (ht : P.underlying t = some (.slice e)) (hi : P.info? e = some i) (hz : i.zero = some z) (hsize : i.size = size) (hby : i.bytes = bytes) (hzs : z.cells.size = size) (hsz : 0 < size)
 {w : World} {v : Value} {n : Nat} {xs : List Value} (hown : w.ownsRow base e size v n xs) {A : Option Addr} {m c : Nat} {news : List Value} (hl : news.length = m * size) (hA : 0 < m → ∃ ad, A = some ad ∧ ∀ (j : Nat) (u : Value), news[j]? = some u → w.cell? (ad.add j) = some u)
 (h1 : ∀ u ∈ news, u.oneCell' = true) (h63 : n + m ≤ maxLen) (hbytes : (n + m) * bytes ≤ 140737488355328) (hbase : base ≤ w.heap.size) :
 ∃ v' w', (Builtin.append_ #[t, t] ty #[v, .slice A m c]).run P w = .ok v' w' ∧ w'.ownsRow base e size v' (n + m) (xs ++ news) ∧ w.grownBy w' v.ownBlock ∧ (v'.ownBlock = v.ownBlock ∨ v'.ownBlock = some w.heap.size) := by
 cases A with
 | none =>
  have hm : m = 0 := by
   rcases Nat.eq_zero_or_pos m with h0 | h0
   · exact h0
   · obtain ⟨ad, h, _⟩ := hA h0; cases h
  subst hm;obtain rfl : news = [] := List.eq_nil_of_length_eq_zero (by simpa using hl);refine ⟨v, w, ?_, by simpa using hown, ⟨rfl, rfl, rfl, Nat.le_refl _, fun _ _ _ => rfl⟩, .inl rfl⟩;rcases hown.2 with ⟨rfl, rfl⟩ | ⟨g, cap, cur, rfl, _, _, hnc, _⟩
  · simp [Builtin.append_, run_underlying ht, sizeOf, typeInfo, hi, Builtin.lenOf, Builtin.firstCells]
  · simp [Builtin.append_, run_underlying ht, sizeOf, typeInfo, hi, Builtin.lenOf, Builtin.firstCells, hnc, storeCells]
 | some ad =>
  have hcells : ∀ (j : Nat) (u : Value), news[j]? = some u → w.cell? (ad.add j) = some u := by
   intro j u hu;rcases Nat.eq_zero_or_pos m with h0 | h0
   · subst h0
     obtain rfl : news = [] := List.eq_nil_of_length_eq_zero (by simpa using hl);simp at hu
   · obtain ⟨ad', h, hc⟩ := hA h0
     injection h with h
     subst h;exact hc j u hu
  obtain ⟨v', w', h2, h3, h4, _, h5⟩ := run_append_own_at (P := P) w base t ty e i z size bytes ht hi hz hsize hby hzs hsz v n xs hown ad m c news hl hcells h1 h63 hbytes hbase;exact ⟨v', w', h2, h3, h4, h5⟩
theorem regrownS {σ : Nat → Value} {a : Act} {w w' : World} (hr : Rel base σ s a w) {id sz ep : Nat} {e : TypeId} {rows rows3 : List (List AV)} {xs3 : List Value} {v' : Value} (hH : s.H[id]? = some (some (.row e sz ep rows)))
 (hrows3 : RowsR ⟨w, s.H, σ, base.F⟩ sz rows3 xs3) (hown' : w'.ownsRow base.b e sz v' rows3.length xs3) (hg : w.grownBy w' (σ id).ownBlock) (hat : v'.ownBlock = (σ id).ownBlock ∨ v'.ownBlock = some w.heap.size) (d : Option Tmp) :
 ∃ σ', Rel base σ' ((⟨s.fr, s.H.set id (some (.row e sz (ep + 1) rows3))⟩ : St).put d (.own id (ep + 1) 0 rows3.length)) (a.put d v') w' ∧ Ext ⟨w, s.H, σ, base.F⟩ ⟨w', s.H.set id (some (.row e sz (ep + 1) rows3)), σ', base.F⟩ ∧ σ' id = v' := by
 have hid : id < s.H.length := (List.getElem?_eq_some_iff.1 hH).1;have own_blk : ∀ {x : Value} {n : Nat} {ys : List Value} {W : World}, W.ownsRow base.b e sz x n ys → blkOf x = x.ownBlock := by
  intro x n ys W h;rcases h.2 with ⟨rfl, _⟩ | ⟨g, cap, cur, rfl, _⟩ <;> rfl
 have hσo : blkOf (σ id) = (σ id).ownBlock := by
  obtain ⟨ys, h1, _⟩ := hr.1.live id _ hH;exact own_blk h1
 have hvo : blkOf v' = v'.ownBlock := own_blk hown'
 let σ' : Nat → Value := fun i => if i = id then v' else σ i
 have hself : (s.H.set id (some (.row e sz (ep + 1) rows3)))[id]? = some (some (.row e sz (ep + 1) rows3)) := by rw [List.getElem?_set_self hid]
 have get : ∀ {i : Nat} {x : AB}, (s.H.set id (some (.row e sz (ep + 1) rows3)))[i]? = some (some x) → (i = id ∧ x = .row e sz (ep + 1) rows3) ∨ (i ≠ id ∧ s.H[i]? = some (some x)) := by
  intro i x hi;by_cases he : id = i
  · subst he
    rw [hself] at hi;simp only [Option.some.injEq] at hi;exact .inl ⟨rfl, hi.symm⟩
  · rw [List.getElem?_set_ne he] at hi
    exact .inr ⟨Ne.symm he, hi⟩
 have hblk : ∀ g, blkOf v' = some g → g < w.heap.size → blkOf (σ id) = some g := by
  intro g hg' hlt;rw [hvo] at hg';rcases hat with h | h
  · rw [hσo, ← h]; exact hg'
  · rw [h] at hg'
    obtain rfl := Option.some.inj hg';omega
 have he : Ext ⟨w, s.H, σ, base.F⟩ ⟨w', s.H.set id (some (.row e sz (ep + 1) rows3)), σ', base.F⟩ := by
  refine ⟨hg.os, hg.tape, hg.output, hg.size, rfl, fun k hk hm => hg.block k hk fun h => hm ⟨id, _, hH, by rw [hσo]; exact h.symm⟩, fun k hm hlt => ?_, by simp, fun i e' sz' ep' rows' h1 _ => ?_, fun i t cs' h1 _ => ?_, fun i es' h1 _ => ?_⟩
  · obtain ⟨i, x, h1, h2⟩ := hm
    rcases get h1 with ⟨rfl, rfl⟩ | ⟨hne, h3⟩
    · exact ⟨_, _, hH, hblk k (by simpa [σ'] using h2) hlt⟩
    · exact ⟨i, x, h3, by simpa [σ', hne] using h2⟩
  · rcases get h1 with ⟨rfl, h2⟩ | ⟨hne, h3⟩
    · simp only [AB.row.injEq] at h2
      obtain ⟨rfl, rfl, rfl, rfl⟩ := h2;exact ⟨ep, rows, hH, .inl (Nat.lt_succ_self _)⟩
    · exact ⟨ep', rows', h3, .inr ⟨rfl, by simp [σ', hne], rfl⟩⟩
  · rcases get h1 with ⟨rfl, h2⟩ | ⟨hne, h3⟩
    · cases h2
    · exact ⟨cs', h3, by simp [σ', hne], rfl⟩
  · rcases get h1 with ⟨rfl, h2⟩ | ⟨hne, h3⟩
    · cases h2
    · exact ⟨es', h3, by simp [σ', hne]⟩
 have hbs : base.b ≤ w.heap.size := hr.1.bs;have hrel : Rel base σ' ⟨s.fr, s.H.set id (some (.row e sz (ep + 1) rows3))⟩ a w' := by
  refine ⟨⟨Nat.le_trans hbs hg.size, fun k hk => Nat.lt_of_lt_of_le (hr.1.far k hk) hg.size, fun k hk hf => hr.1.clear k (he.fresh' k hk (hr.1.far k hf)) hf, fun i x hi => ?_, fun i i' x x' k h1 h2 h3 h4 => ?_⟩, hr.2.1.ext he, hr.2.2⟩
  · rcases get hi with ⟨rfl, rfl⟩ | ⟨hne, h3⟩
    · exact ⟨xs3, by simpa [σ'] using hown', hrows3.ext he⟩
    · refine (hr.1.live i x h3).keep he (by simp [σ', hne]) fun k hk => ?_
      refine hg.block k (blk_lt hr.1 h3 hk).2 fun h => hne ?_
      exact hr.1.apart i id x _ k h3 hH hk (by show blkOf (σ id) = _; rw [hσo]; exact h.symm)
  · rcases get h1 with ⟨rfl, rfl⟩ | ⟨hne, h5⟩ <;> rcases get h2 with ⟨rfl, rfl⟩ | ⟨hne', h6⟩
    · rfl
    · have h3' : blkOf v' = some k := by simpa [σ'] using h3
      have h4' : blkOf (σ i') = some k := by simpa [σ', hne'] using h4
      have hlt := (blk_lt hr.1 h6 h4').2;exact hr.1.apart _ _ _ _ k hH h6 (hblk k h3' hlt) h4'
    · have h3' : blkOf (σ i) = some k := by simpa [σ', hne] using h3
      have h4' : blkOf v' = some k := by simpa [σ'] using h4
      have hlt := (blk_lt hr.1 h5 h3').2;exact hr.1.apart _ _ _ _ k h5 hH h3' (hblk k h4' hlt)
    · exact hr.1.apart _ _ _ _ k h5 h6 (by simpa [σ', hne] using h3) (by simpa [σ', hne'] using h4)
 refine ⟨σ', ?_, he, by simp [σ']⟩;refine hrel.put d (.own ⟨by simpa using hid, fun e' sz' ep' rows' h1 => ?_⟩ ?_)
 · rw [hself] at h1
   simp only [Option.some.injEq, AB.row.injEq] at h1;obtain ⟨rfl, rfl, rfl, rfl⟩ := h1;refine ⟨Nat.le_refl _, fun _ => ⟨by omega, ?_⟩⟩;rcases hown'.2 with ⟨rfl, h0⟩ | ⟨g, cap, cur, rfl, _⟩
   · have h0' : rows3.length = 0 := by simpa using h0
     exact ⟨none, 0, none, by simp [σ', h0'], by simp [h0'], fun h => by omega, fun _ => rfl⟩
   · exact ⟨some ⟨g, 0, none⟩, cap, some ⟨g, 0, none⟩, by simp [σ'], by simp, fun _ => by simp [Addr.add], fun _ => rfl⟩
 · rcases hown'.2 with ⟨rfl, h0⟩ | ⟨g, cap, cur, rfl, _⟩
   · have h0' : rows3.length = 0 := by simpa using h0
     exact ⟨none, 0, by rw [h0']⟩
   · exact ⟨some ⟨g, 0, none⟩, cap, by simp⟩
theorem appended {σ : Nat → Value} {a : Act} {w w' : World} (hr : Rel base σ s a w) {id sz ep : Nat} {e : TypeId} {rows rows2 : List (List AV)} {xs news : List Value} {v' : Value} (hH : s.H[id]? = some (some (.row e sz ep rows)))
 (hrows : RowsR ⟨w, s.H, σ, base.F⟩ sz rows xs) (hnews : RowsR ⟨w, s.H, σ, base.F⟩ sz rows2 news) (hown' : w'.ownsRow base.b e sz v' (rows.length + rows2.length) (xs ++ news)) (hg : w.grownBy w' (σ id).ownBlock) (hat : v'.ownBlock = (σ id).ownBlock ∨ v'.ownBlock = some w.heap.size) (d : Option Tmp) :
 ∃ σ', Rel base σ' ((⟨s.fr, s.H.set id (some (.row e sz (ep + 1) (rows ++ rows2)))⟩ : St).put d (.own id (ep + 1) 0 (rows ++ rows2).length)) (a.put d v') w' ∧ Ext ⟨w, s.H, σ, base.F⟩ ⟨w', s.H.set id (some (.row e sz (ep + 1) (rows ++ rows2))), σ', base.F⟩ :=
 have ⟨σ', h1, h2, _⟩ := regrownS hr hH (hrows.append hnews) (by rw [List.length_append]; exact hown') hg hat d
 ⟨σ', h1, h2⟩
theorem Hv.append {d : Option Tmp} {t e ty : TypeId} {x y : Operand} {pos : String} {af : Array Edge} {gd : Option (Nat × Bool)} {id ep sz bytes : Nat} {z : Value} {rows rows2 : List (List AV)} (ht : P.underlying t = some (.slice e))
 (hi : (P.info? e).map (fun i => (i.zero, i.size, i.bytes)) = some (some z, sz, bytes)) (hzs : z.cells.size = sz) (hsz : 0 < sz)
 (hx : ev s x = .own id ep 0 rows.length) (hH : s.H[id]? = some (some (.row e sz ep rows))) (hy : Src s base y sz rows2) (hb : (rows.length + rows2.length) * bytes ≤ 140737488355328) (hm : rows.length + rows2.length ≤ maxLen) :
 Hv P base ⟨d, .call { callee := .builtin .append, args := #[x, y], argTypes := #[t, t] }, ty, pos, af, gd⟩ s
  (fun s' => s' = (⟨s.fr, s.H.set id (some (.row e sz (ep + 1) (rows ++ rows2)))⟩ : St).put d (.own id (ep + 1) 0 (rows ++ rows2).length)) := by
 intro σ a w hr Q K hk;obtain ⟨i, hi0, hz, hs, hby⟩ := info_parts hi;obtain ⟨A, c, news, h1, h2, h3⟩ := hy σ a w hr;obtain ⟨xs, hown, hrows⟩ := hr.1.live id _ hH;have hown : w.ownsRow base.b e sz (σ id) rows.length xs := hown;have hxe : a.eval x = σ id := by
  have h4 := ev_ok hr x;rw [hx] at h4;generalize hq : a.eval x = q at h4
  cases h4 with
  | own h _ =>
   obtain ⟨_, A, c, A', h5, rfl, _, h6⟩ := (h.2 _ _ _ _ hH).2 rfl;obtain rfl := h6 rfl;exact h5.symm
 obtain ⟨v', w', hrun, h4, h5, h6⟩ := run_append_src (P := P) (ty := ty) ht hi0 hz hs hby hzs hsz hown (A := A) (m := rows2.length) (c := c) (news := news) h2.2.1 h3 h2.2.2.1 hm hb hr.1.bs;unfold Oper.wp;have hrun' : (execOp a.eval ⟨d, .call { callee := .builtin .append, args := #[x, y], argTypes := #[t, t] }, ty, pos, af, gd⟩).run P w = .ok (.value v') w' := by
  simp only [execOp, resolve, Sem.run_bind, Sem.run_pure, Result.andThen_ok, invoke, builtin, List.map_toArray, List.map_cons, List.map_nil, hxe, h1, hrun]
 rw [hrun'];obtain ⟨σ', h7, h8⟩ := appended hr hH hrows h2 h4 h5 h6 d;exact hk σ' _ _ _ h7 (by rw [put_H]; exact h8) rfl
end
def Gh (base : Cx) (s s' : St) : Prop := ∀ (σ : Nat → Value) (a : Act) (w : World), Rel base σ s a w → ∃ σ', Rel base σ' s' a w ∧ Ext ⟨w, s.H, σ, base.F⟩ ⟨w, s'.H, σ', base.F⟩
theorem Gh.trans {base : Cx} {s s' s'' : St} (h : Gh base s s') (h' : Gh base s' s'') : Gh base s s'' := fun σ a w hr => by
 obtain ⟨σ', h1, h2⟩ := h σ a w hr
 obtain ⟨σ'', h3, h4⟩ := h' σ' a w h1
 exact ⟨σ'', h3, h2.trans h4⟩
section
variable {P : Program} {base : Cx} {s s' : St} {Q : Exit → St → Prop}
theorem AW.ghost {c : Code} (h : Gh base s s') (k : AW P base c s' Q) : AW P base c s Q := fun σ a w hr K hk => by
 obtain ⟨σ', h1, h2⟩ := h σ a w hr
 exact k σ' a w h1 K fun e σ'' s'' a'' w'' h3 h4 h5 => hk e σ'' s'' a'' w'' h3 (h2.trans h4) h5
theorem AO.ghost {ops : Array Oper} {rest : List Oper} (h : Gh base s s') (k : AO P base ops rest s' Q) : AO P base ops rest s Q := fun σ a w hr K hk => by
 obtain ⟨σ', h1, h2⟩ := h σ a w hr
 exact k σ' a w h1 K fun e σ'' s'' a'' w'' h3 h4 h5 => hk e σ'' s'' a'' w'' h3 (h2.trans h4) h5
theorem AY.ghost {ops : Array Oper} {ds : List Nat} {n : Nat} {l : Array Bool} (h : Gh base s s') (k : AY P base ops ds n l s' Q) : AY P base ops ds n l s Q := fun σ a w hr K hK hk => by
 obtain ⟨σ', h1, h2⟩ := h σ a w hr
 exact k σ' a w h1 K hK fun e σ'' s'' a'' w'' h3 h4 h5 h6 => hk e σ'' s'' a'' w'' h3 (h2.trans h4) h5 h6
theorem AW.mono_ghost {c : Code} {Q' : Exit → St → Prop} (h : AW P base c s Q) (hq : ∀ e s1, Q e s1 → ∃ s2, Gh base s1 s2 ∧ Q' e s2) : AW P base c s Q' := fun σ a w hr K hk =>
 h σ a w hr K fun e σ' s1 a' w' h1 h2 h3 => by
  obtain ⟨s2, h4, h5⟩ := hq e s1 h3
  obtain ⟨σ'', h6, h7⟩ := h4 σ' a' w' h1
  exact hk e σ'' s2 a' w' h6 (h2.trans h7) h5
theorem Gh.weaken {fr' : List AV} (hl : fr'.length = s.fr.length) (h : ∀ (i : Nat) (av : AV), fr'[i]? = some av → av = .any ∨ s.fr[i]? = some av) : Gh base s ⟨fr', s.H⟩ := fun σ a w hr => by
 refine ⟨σ, ⟨hr.1, ⟨hl.trans hr.2.1.1, fun i av hi => ?_⟩, hr.2.2⟩, Ext.refl _⟩
 rcases h i av hi with rfl | h1
 · have hlt : i < a.tmps.size := by rw [← hr.2.1.1, ← hl]; exact (List.getElem?_eq_some_iff.1 hi).1
   exact ⟨a.tmps[i], Array.getElem?_eq_getElem hlt, .any _⟩
 · exact hr.2.1.2 i av h1
theorem Gh.adopt (t : Nat) (e : TypeId) (sz : Nat) (h : s.fr[t]? = some (.v (.slice none 0 0))) : Gh base s ⟨s.fr.set t (.own s.H.length 0 0 0), s.H ++ [some (.row e sz 0 [])]⟩ := fun σ a w hr => by
 have hv : ∀ g, blkOf (.slice none 0 0) = some g → w.heap.size ≤ g := fun g hg => by cases hg
 have he := Ext.push (base := base) (w := w) (w1 := w) (H := s.H) (σ := σ) (.row e sz 0 []) (.slice none 0 0) rfl rfl rfl (KeepW.refl w) hv
 have hH := hr.1.push he (KeepW.refl w) hv (b := .row e sz 0 []) ⟨[], ⟨by simp, .inl ⟨by simp [pushσ], rfl⟩⟩, RowsR.nil _ _⟩
 refine ⟨_, ⟨hH, ⟨by simpa using hr.2.1.1, fun i av hi => ?_⟩, hr.2.2⟩, he⟩
 obtain ⟨x, h1, h2⟩ := hr.2.1.2 t _ h
 cases h2
 by_cases hti : t = i
 · subst hti
   have hlt := (List.getElem?_eq_some_iff.1 h).1
   have hi' : (s.fr.set t (.own s.H.length 0 0 0))[t]? = some av := hi
   rw [List.getElem?_set_self hlt] at hi'
   obtain rfl := Option.some.inj hi'
   refine ⟨_, h1, .own ⟨by simp, fun e' sz' ep' rows' h3 => ?_⟩ ⟨none, 0, rfl⟩⟩
   simp at h3
   obtain ⟨rfl, rfl, rfl, rfl⟩ := h3
   exact ⟨Nat.le_refl _, fun _ => ⟨by simp, none, 0, none, by simp [pushσ], by simp, by simp, by simp⟩⟩
 · have hi' : (s.fr.set t (.own s.H.length 0 0 0))[i]? = some av := hi
   rw [List.getElem?_set_ne hti] at hi'
   obtain ⟨y, h3, h4⟩ := hr.2.1.2 i av hi'
   exact ⟨y, h3, h4.ext he⟩
theorem Ext.forget {base : Cx} {w : World} {H H' : List (Option AB)} {σ : Nat → Value} (hl : H'.length = H.length) (h : ∀ (i : Nat) (b : AB), H'[i]? = some (some b) → H[i]? = some (some b)) : Ext ⟨w, H, σ, base.F⟩ ⟨w, H', σ, base.F⟩ :=
 ⟨rfl, rfl, rfl, Nat.le_refl _, rfl, fun _ _ _ => rfl, fun k ⟨i, b, h1, h2⟩ _ => ⟨i, b, h i b h1, h2⟩, Nat.le_of_eq hl.symm, fun id e sz ep rows' h1 _ => ⟨ep, rows', h _ _ h1, .inr ⟨rfl, rfl, rfl⟩⟩, fun id t cs' h1 _ => ⟨cs', h _ _ h1, rfl, rfl⟩, fun id es' h1 _ => ⟨es', h _ _ h1, rfl⟩⟩
theorem Heap.forget {w : World} {H H' : List (Option AB)} {σ : Nat → Value} (hh : Heap base ⟨w, H, σ, base.F⟩) (hl : H'.length = H.length) (h : ∀ (i : Nat) (b : AB), H'[i]? = some (some b) → H[i]? = some (some b)) : Heap base ⟨w, H', σ, base.F⟩ :=
 ⟨hh.bs, hh.far, fun g ⟨i, b, h1, h2⟩ => hh.clear g ⟨i, b, h _ _ h1, h2⟩, fun id b hb => (hh.live id b (h _ _ hb)).keep (Ext.forget hl h) rfl fun _ _ => rfl, fun id id' b b' g h1 h2 h3 h4 => hh.apart id id' b b' g (h _ _ h1) (h _ _ h2) h3 h4⟩
theorem set_none {H : List (Option AB)} {id i : Nat} {b : AB} (h : (H.set id none)[i]? = some (some b)) : H[i]? = some (some b) ∧ i ≠ id := by
 by_cases he : id = i
 · subst he
   by_cases hl : id < H.length
   · rw [List.getElem?_set_self hl] at h; cases h
   · rw [List.getElem?_eq_none (by simp; omega)] at h; cases h
 · rw [List.getElem?_set_ne he] at h
   exact ⟨h, Ne.symm he⟩
theorem own_rd {σ : Nat → Value} {w : World} {H : List (Option AB)} (hh : Heap base ⟨w, H, σ, base.F⟩) {id ep off n sz : Nat} {e : TypeId} {rows : List (List AV)} (hH : H[id]? = some (some (.row e sz ep rows))) {x : Value} (hx : VR ⟨w, H, σ, base.F⟩ (.own id ep off n) x) (hm : rows.length ≤ maxLen) :
 VR ⟨w, H.set id none, σ, base.F⟩ (.rd sz ((rows.drop off).take n)) x := by
 have hf := Ext.forget (base := base) (w := w) (H := H) (H' := H.set id none) (σ := σ) (by simp) (fun i b h => (set_none h).1);obtain ⟨xs, hown, hrows⟩ := hh.live id _ hH;have hmine : ∀ g, blkOf (σ id) = some g → ¬ Env.mine ⟨w, H.set id none, σ, base.F⟩ g := by
  rintro g hg (⟨i, b, h1, h2⟩ | hF)
  · obtain ⟨h3, h4⟩ := set_none h1
    exact h4 (hh.apart i id b _ g h3 hH h2 hg)
  · exact hh.clear g ⟨id, _, hH, hg⟩ hF
 cases hx with
 | own h hs =>
  obtain ⟨hle, A, c, A', h2, rfl, h3, h4⟩ := (h.2 _ _ _ _ hH).2 rfl;have hlen : ((rows.drop off).take n).length = n := by simp; omega
  have hrl := hrows.2.1;have get : ∀ (i : Nat) (row : List AV), ((rows.drop off).take n)[i]? = some row → rows[off + i]? = some row := by
   intro i row hi;rw [List.getElem?_take] at hi
   split at hi
   · rw [List.getElem?_drop] at hi; exact hi
   · cases hi
  have hx : ∀ (i : Nat) (row : List AV) (j : Nat) (av : AV), ((rows.drop off).take n)[i]? = some row → row[j]? = some av → ∃ x, xs[(off + i) * sz + j]? = some x ∧ VR ⟨w, H, σ, base.F⟩ av x :=
   fun i row j av hi hj => hrows.2.2.2 _ row j av (get i row hi) hj
  rcases hown.2 with ⟨h6, h7⟩ | ⟨g, cap, cur, h6, h7, h8, h9, h10, h11, h12⟩
  · have h5 : Value.slice A rows.length c = .slice none 0 0 := h2.symm.trans h6
    injection h5 with h5 _ h5c
    subst h5 h5c;have hn : n = 0 := by omega
    have hA : A' = none := by
     have : off = 0 := by omega
     exact h4 this
    subst hA hn;simp only [Nat.zero_sub, List.take_zero];exact .rd (fun _ _ => undef) (by simp) (by simp [maxLen]) (by simp) (fun h => by simp at h) (fun i row j av hi hj => by simp at hi)
  · have h5 : Value.slice A rows.length c = .slice (some ⟨g, 0, none⟩) rows.length cap := h2.symm.trans h6
    injection h5 with h5 _ h5c
    subst h5 h5c;have hcell := hown.cells (g := g) (by show Value.ownBlock (σ id) = _; rw [show σ id = _ from h6]; rfl);have hu : ∀ (i j : Nat), ∃ u, ∀ x, xs[(off + i) * sz + j]? = some x → x = u := by
     intro i j
     cases hq : xs[(off + i) * sz + j]? with
     | none => exact ⟨undef, fun x h => by cases h⟩
     | some y => exact ⟨y, fun x h => (Option.some.inj h).symm⟩
    rw [show Value.slice A' n (c - off) = .slice A' ((rows.drop off).take n).length (c - off) from by rw [hlen]];refine .rd (fun i j => (xs[(off + i) * sz + j]?).getD undef) (by rw [hlen]; omega) (by omega) (fun row hr => hrows.1 row (List.mem_of_mem_drop (List.mem_of_mem_take hr))) (fun h0 => ?_) (fun i row j av hi hj => ?_)
    · rw [hlen] at h0
      refine ⟨_, h3 (.inl h0), ?_, ?_, fun i row j av hi hj => ?_⟩
      · rw [block_add]; exact hmine g (by rw [show σ id = _ from h6]; rfl)
      · rw [block_add]; exact (Array.getElem?_eq_some_iff.1 h8).1
      · obtain ⟨x, h13, h14⟩ := hx i row j av hi hj
        simp only [h13, Option.getD_some];refine ⟨?_, hrows.2.2.1 x (List.mem_of_getElem? h13)⟩;rw [add_add, ← Nat.add_assoc, ← Nat.add_mul];exact hcell _ x h13
    · obtain ⟨x, h13, h14⟩ := hx i row j av hi hj
      simp only [h13, Option.getD_some];exact h14.ext hf
theorem Gh.freeze (t : Nat) {id ep off n sz : Nat} {e : TypeId} {rows : List (List AV)} (h : s.fr[t]? = some (.own id ep off n)) (hH : s.H[id]? = some (some (.row e sz ep rows))) (hm : rows.length ≤ maxLen) :
 Gh base s ⟨s.fr.set t (.rd sz ((rows.drop off).take n)), s.H.set id none⟩ := fun σ a w hr => by
 have he := Ext.forget (base := base) (w := w) (H := s.H) (H' := s.H.set id none) (σ := σ) (by simp) (fun i b h => (set_none h).1)
 refine ⟨σ, ⟨hr.1.forget (by simp) (fun i b h => (set_none h).1), ⟨by simpa using hr.2.1.1, fun i av hi => ?_⟩, hr.2.2⟩, he⟩
 have hi : (s.fr.set t (.rd sz ((rows.drop off).take n)))[i]? = some av := hi
 by_cases hti : t = i
 · subst hti
   rw [List.getElem?_set_self (List.getElem?_eq_some_iff.1 h).1] at hi
   obtain rfl := Option.some.inj hi
   obtain ⟨x, h1, h2⟩ := hr.2.1.2 t _ h
   exact ⟨x, h1, own_rd hr.1 hH h2 hm⟩
 · rw [List.getElem?_set_ne hti] at hi
   obtain ⟨x, h1, h2⟩ := hr.2.1.2 i av hi
   exact ⟨x, h1, h2.ext he⟩
end
inductive Gen (n : Nat) : AV → Prop
 | any : Gen n .any
 | v (x : Value) : Gen n (.v x)
 | rd {sz : Nat} {rows : List (List AV)} (h : ∀ (i : Nat) (row : List AV) (j : Nat) (av : AV), rows[i]? = some row → row[j]? = some av → Gen n av) : Gen n (.rd sz rows)
 | own {id ep off k : Nat} (h : n ≤ id) : Gen n (.own id ep off k)
 | eptr {cs : List AV} (h : ∀ (j : Nat) (av : AV), cs[j]? = some av → Gen n av) : Gen n (.eptr cs)
 | optr {id ep i off : Nat} (h : n ≤ id) : Gen n (.optr id ep i off)
 | box {id off : Nat} (h : n ≤ id) : Gen n (.box id off)
 | agg {cs : List AV} (h : ∀ (j : Nat) (av : AV), cs[j]? = some av → Gen n av) : Gen n (.agg cs)
 | tup {cs : List AV} (h : ∀ (j : Nat) (av : AV), cs[j]? = some av → Gen n av) : Gen n (.tup cs)
 | fn {f : FuncId} {cs : List AV} (h : ∀ (j : Nat) (av : AV), cs[j]? = some av → Gen n av) : Gen n (.fn f cs)
 | omap {id : Nat} (h : n ≤ id) : Gen n (.omap id)
 | bsl {id off k : Nat} (h : n ≤ id) : Gen n (.bsl id off k)
theorem VR.move {E E' : Env} {n : Nat} (hw : E'.w = E.w) (hm : ∀ g, E'.mine g → E.mine g) (hl : E.H.length ≤ E'.H.length) (hH : ∀ id, n ≤ id → E'.H[id]? = E.H[id]?) (hσ : ∀ id, n ≤ id → E'.σ id = E.σ id) {av : AV} {x : Value} (h : VR E av x) (hg : Gen n av) : VR E' av x := by
 induction h with
 | any x => exact .any x
 | v x => exact .v x
 | rd u hc hmx hz hA hu ih =>
  cases hg with
  | rd hg =>
   refine .rd u hc hmx hz (fun h0 => ?_) (fun i row j av hi hj => ih i row j av hi hj (hg i row j av hi hj));obtain ⟨ad, rfl, h1, h2, h3⟩ := hA h0;exact ⟨ad, rfl, fun h => h1 (hm _ h), by rw [hw]; exact h2, fun i row j av hi hj => by rw [hw]; exact h3 i row j av hi hj⟩
 | own h hs =>
  cases hg with
  | own hn =>
   refine .own ⟨Nat.lt_of_lt_of_le h.1 hl, fun e sz ep' rows hr => ?_⟩ hs;rw [hH _ hn] at hr;rw [hσ _ hn];exact h.2 e sz ep' rows hr
 | eptr u hb hlt hA hu ih =>
  cases hg with
  | eptr hg => exact .eptr u (fun h => hb (hm _ h)) (by rw [hw]; exact hlt) (fun j av hj => by rw [hw]; exact hA j av hj) (fun j av hj => ih j av hj (hg j av hj))
 | optr h hs =>
  cases hg with
  | optr hn =>
   refine .optr ⟨Nat.lt_of_lt_of_le h.1 hl, fun e sz ep' rows hr => ?_⟩ hs;rw [hH _ hn] at hr;rw [hσ _ hn];exact h.2 e sz ep' rows hr
 | box h hs =>
  cases hg with
  | box hn =>
   refine .box ⟨Nat.lt_of_lt_of_le h.1 hl, fun t cs hr => ?_⟩ hs;rw [hH _ hn] at hr;rw [hσ _ hn];exact h.2 t cs hr
 | agg hl' h1 hu ih =>
  cases hg with
  | agg hg => exact .agg hl' h1 (fun j av x hj hx => ih j av x hj hx (hg j av hj))
 | tup hl' hu ih =>
  cases hg with
  | tup hg => exact .tup hl' (fun j av x hj hx => ih j av x hj hx (hg j av hj))
 | fn hl' hu ih =>
  cases hg with
  | fn hg => exact .fn hl' (fun j av x hj hx => ih j av x hj hx (hg j av hj))
 | omap h hs =>
  cases hg with
  | omap hn =>
   refine .omap ⟨Nat.lt_of_lt_of_le h.1 hl, fun es hr => ?_⟩ hs;rw [hH _ hn] at hr;rw [hσ _ hn];exact h.2 es hr
 | bsl h hs =>
  cases hg with
  | bsl hn =>
   refine .bsl ⟨Nat.lt_of_lt_of_le h.1 hl, fun t cs hr => ?_⟩ hs;rw [hH _ hn] at hr;rw [hσ _ hn];exact h.2 t cs hr
inductive ResR (P : Program) (s : St) : List ResultVar → List AV → Prop
 | nil : ResR P s [] []
 | tmp {u : Tmp} {rs : List ResultVar} {avs : List AV} (h : ResR P s rs avs) : ResR P s (.tmp u :: rs) (s.fr.getD u .any :: avs)
 | cell {p : Tmp} {ty : TypeId} {rs : List ResultVar} {avs : List AV} {id : Nat} {bt : TypeId} {cs : List AV} (hp : s.fr[p]? = some (.box id 0)) (hH : s.H[id]? = some (some (.box bt cs))) (hg : aggB P ty = some true)
  (hs : (P.info? ty).map (·.size) = some cs.length) (h : ResR P s rs avs) : ResR P s (.cell p ty :: rs) (.agg cs :: avs)
 | cell1 {p : Tmp} {ty : TypeId} {rs : List ResultVar} {avs : List AV} {id : Nat} {bt : TypeId} {av : AV} (hp : s.fr[p]? = some (.box id 0)) (hH : s.H[id]? = some (some (.box bt [av]))) (hg : aggB P ty = some false)
  (h : ResR P s rs avs) : ResR P s (.cell p ty :: rs) (av :: avs)
theorem res_run {P : Program} {base : Cx} {s : St} {rs : List ResultVar} {avs : List AV} (h : ResR P s rs avs) {σ : Nat → Value} {a : Act} {w : World} (hr : Rel base σ s a w) (f : ResultVar → Sem Value) (hf : ∀ u, f (.tmp u) = pure (a.tmps.getD u undef)) (hc : ∀ p t, f (.cell p t) = (do loadVar t (← asAddr (a.tmps.getD p undef)))) :
 ∃ vs, (rs.mapM f).run P w = .ok vs w ∧ vs.length = avs.length ∧ ∀ (j : Nat) (av : AV) (x : Value), avs[j]? = some av → vs[j]? = some x → VR ⟨w, s.H, σ, base.F⟩ av x := by
 have cons_ : ∀ {avs : List AV} {vs : List Value} {av : AV} {x : Value}, VR ⟨w, s.H, σ, base.F⟩ av x → (∀ (j : Nat) (av : AV) (x : Value), avs[j]? = some av → vs[j]? = some x → VR ⟨w, s.H, σ, base.F⟩ av x) →
  ∀ (j : Nat) (av' : AV) (x' : Value), (av :: avs)[j]? = some av' → (x :: vs)[j]? = some x' → VR ⟨w, s.H, σ, base.F⟩ av' x' := by
  intro avs vs av x h1 h2 j av' x' hj hx
  cases j with
  | zero => simp at hj hx; subst hj; subst hx; exact h1
  | succ j => simp at hj hx; exact h2 j av' x' hj hx
 induction h with
 | nil => exact ⟨[], by simp, rfl, fun j av x h => by simp at h⟩
 | @tmp u rs avs h ih =>
  obtain ⟨vs, h1, h2, h3⟩ := ih;refine ⟨a.tmps.getD u undef :: vs, by simp [List.mapM_cons, hf, h1], by simp [h2], cons_ ?_ h3⟩;have := ev_ok hr (.tmp u);exact this
 | @cell p ty rs avs id bt cs hp hH hg hs h ih =>
  obtain ⟨vs, h1, h2, h3⟩ := ih;have hx : ev s (.tmp p) = .box id 0 := by simp [ev, List.getD_eq_getElem?_getD, hp]
  obtain ⟨ad, us, h4, h5, h6, h7, h8, h9⟩ := Finds.box (base := base) hx hH σ a w hr;have h4' : a.tmps.getD p undef = .pointer (some ad) := h4;rw [List.drop_zero] at h5 h9;have hl := run_loadN (P := P) (t := ty) hg (by rw [hs, h5]) h8;have hl' : (loadVar ty ad).run P w = .ok (.agg ⟨us⟩) w := by
   unfold Instr.loadAt Instr.sureAddr at hl;simpa using hl
  refine ⟨.agg ⟨us⟩ :: vs, ?_, by simp [h2], cons_ (.agg h5 h7 h9) h3⟩;rw [List.mapM_cons, hc, h4'];simp [asAddr, hl', h1]
 | @cell1 p ty rs avs id bt av hp hH hg h ih =>
  obtain ⟨vs, h1, h2, h3⟩ := ih;have hx : ev s (.tmp p) = .box id 0 := by simp [ev, List.getD_eq_getElem?_getD, hp]
  obtain ⟨ad, us, h4, h5, h6, h7, h8, h9⟩ := Finds.box (base := base) hx hH σ a w hr;have h4' : a.tmps.getD p undef = .pointer (some ad) := h4;rw [List.drop_zero] at h5 h9;have hu : us[0]? = some (us[0]'(by simp [h5])) := List.getElem?_eq_getElem _;have hc0 := h8 0 _ hu;rw [Addr.add_zero'] at hc0;have hl := run_load1 (P := P) (t := ty) hg hc0
  have hl' : (loadVar ty ad).run P w = .ok (us[0]'(by simp [h5])) w := by
   unfold Instr.loadAt Instr.sureAddr at hl;simpa using hl
  refine ⟨us[0]'(by simp [h5]) :: vs, ?_, by simp [h2], cons_ (h9 0 av _ rfl hu) h3⟩;rw [List.mapM_cons, hc, h4'];simp [asAddr, hl', h1]
def packA : List AV → AV
 | [av] => av
 | avs => .tup avs
def AC (P : Program) (f : FuncId) (H : List (Option AB)) (args : List AV) (R : AV → List (Option AB) → Prop) : Prop :=
 ∀ (base : Cx) (σ : Nat → Value) (w : World) (vs : List Value), Heap base ⟨w, H, σ, base.F⟩ → vs.length = args.length → (∀ (j : Nat) (av : AV) (x : Value), args[j]? = some av → vs[j]? = some x → VR ⟨w, H, σ, base.F⟩ av x) →
  Calls P f ⟨vs⟩ w fun e w' => ∃ x r H' σ', e = .returned x ∧ Heap base ⟨w', H', σ', base.F⟩ ∧ Ext ⟨w, H, σ, base.F⟩ ⟨w', H', σ', base.F⟩ ∧ VR ⟨w', H', σ', base.F⟩ r x ∧ R r H'
theorem AC.mono {P : Program} {f : FuncId} {H : List (Option AB)} {args : List AV} {R R' : AV → List (Option AB) → Prop} (h : AC P f H args R) (hr : ∀ r H', R r H' → R' r H') : AC P f H args R' := fun base σ w vs h1 h2 h3 =>
 (h base σ w vs h1 h2 h3).mono fun e w' ⟨x, r, H', σ', h4, h5, h6, h7, h8⟩ => ⟨x, r, H', σ', h4, h5, h6, h7, hr r H' h8⟩
def resF (tmps : Array Value) : ResultVar → Sem Value
 | .tmp t => pure (tmps.getD t undef)
 | .cell p t => do loadVar t (← asAddr (tmps.getD p undef))
def frame0 (args : List AV) (n : Nat) : List AV := args ++ List.replicate (n - args.length) (.v undef)
theorem AC.of_body {P : Program} {f : FuncId} {fn : Func} {c : Code} {rs : List ResultVar} {H : List (Option AB)} {args : List AV} {R : AV → List (Option AB) → Prop} (hf : P.funcs[f]? = some fn) (hb : fn.body = some c) (hrs : fn.results = rs.toArray) (n : Nat) (hn : fn.ntmps = n)
 (h : ∀ base, AW P base c ⟨frame0 args n, H⟩ (fun e s' => (e = .normal ∨ e = .ret) ∧ ∃ avs, ResR P s' rs avs ∧ R (packA avs) s'.H)) : AC P f H args R := by
 intro base σ w vs h1 h2 h3;refine calls_of_wp hf hb ?_;have hrel : Rel base σ ⟨frame0 args n, H⟩ { tmps := (⟨vs⟩ : Array Value) ++ Array.replicate (fn.ntmps - (⟨vs⟩ : Array Value).size) undef, defers := [] } w := by
  refine ⟨h1, ⟨by simp [frame0, h2, hn], fun i av hi => ?_⟩, rfl⟩;have hi : (args ++ List.replicate (n - args.length) (.v undef))[i]? = some av := hi;by_cases hlt : i < args.length
  · rw [List.getElem?_append_left hlt] at hi
    have hv : vs[i]? = some (vs[i]'(by omega)) := List.getElem?_eq_getElem (by omega);refine ⟨vs[i]'(by omega), ?_, h3 i av _ hi hv⟩;rw [Array.getElem?_append_left (by simp; omega)];simp
  · rw [List.getElem?_append_right (by omega)] at hi
    have hlt2 := (List.getElem?_eq_some_iff.1 hi).1;simp at hlt2;rw [List.getElem?_replicate, if_pos (by omega)] at hi;obtain rfl := Option.some.inj hi;refine ⟨undef, ?_, .v _⟩;rw [Array.getElem?_append_right (by simp; omega)];simp [h2, hn, Array.getElem?_replicate];omega
 refine h base σ _ w hrel _ fun e σ' s' a' w' h4 h5 h6 => ?_
 obtain ⟨he, avs, h7, h8⟩ := h6;have hpost : a'.defers = [] ∧ ∃ v, (results fn a'.tmps).run P w' = .ok v w' ∧ ∃ x r H' σ', Ending.returned v = .returned x ∧ Heap base ⟨w', H', σ', base.F⟩ ∧ Ext ⟨w, H, σ, base.F⟩ ⟨w', H', σ', base.F⟩ ∧ VR ⟨w', H', σ', base.F⟩ r x ∧ R r H' := by
  refine ⟨h4.2.2, ?_⟩;obtain ⟨vs', h9, h10, h11⟩ := res_run h7 h4 (resF a'.tmps) (fun _ => rfl) (fun _ _ => rfl);have hres : (results fn a'.tmps).run P w' = .ok (if h : vs'.length = 1 then vs'[0] else .tuple ⟨vs'⟩) w' := by
   have e : results fn a'.tmps = (do let vs ← fn.results.mapM (resF a'.tmps); pure (if h : vs.size = 1 then vs[0] else .tuple vs)) := by
    unfold results
    congr 2
   rw [e, hrs, List.mapM_toArray];simp only [Sem.run_bind, Sem.run_map, h9];rfl
  refine ⟨_, hres, _, packA avs, s'.H, σ', rfl, h4.1, h5, ?_, h8⟩;by_cases h1' : vs'.length = 1
  · rw [dif_pos h1']
    have h2' : avs.length = 1 := by omega
    obtain ⟨av, rfl⟩ := List.length_eq_one_iff.1 h2';exact h11 0 av _ rfl (List.getElem?_eq_getElem (by omega))
  · rw [dif_neg h1']
    have : packA avs = .tup avs := by
     match avs, h10 with
     | [], _ => rfl
     | [av], h => exact absurd h h1'
     | _ :: _ :: _, _ => rfl
    rw [this];exact .tup h10 h11
 rcases he with rfl | rfl
 · exact hpost
 · exact hpost
theorem rep_none {n id : Nat} {b : AB} (h : (List.replicate n (none : Option AB))[id]? = some (some b)) : False := by
 rw [List.getElem?_replicate] at h
 split at h
 · cases h
 · cases h
theorem ours_none {n : Nat} {w : World} {σ : Nat → Value} {F : Nat → Prop} (g : Nat) : ¬ Env.ours ⟨w, List.replicate n none, σ, F⟩ g := by
 rintro ⟨id, b, h1, h2⟩
 have h1 : (List.replicate n (none : Option AB))[id]? = some (some b) := h1;rw [List.getElem?_replicate] at h1
 split at h1
 · cases h1
 · cases h1
section
variable {P : Program} {base : Cx} {s : St}
theorem run_callFunc {f : FuncId} {fn : Func} (hf : P.funcs[f]? = some fn) (hname : (fn.name == "runtime.NumGoroutine") = false) (hb : fn.body.isSome = true) (args : Array Value) (w : World) : (callFunc f args).run P w = .ok (.enter f args) w := by
 have h1 : fn.name ≠ "runtime.NumGoroutine" := by simpa using hname
 obtain ⟨c, hc⟩ := Option.isSome_iff_exists.1 hb;simp [callFunc, hf, h1, hc]
theorem run_call {f : FuncId} {fn : Func} (hf : P.funcs[f]? = some fn) (hname : (fn.name == "runtime.NumGoroutine") = false) (hb : fn.body.isSome = true) {d : Option Tmp} {as : List Operand} {ts : Array TypeId} {ty : TypeId} {pos : String} {af : Array Edge} {gd : Option (Nat × Bool)} (a : Act) (w : World) :
 (execOp a.eval ⟨d, .call { callee := .value (.func f), args := as.toArray, argTypes := ts }, ty, pos, af, gd⟩).run P w = .ok (.enter f ⟨as.map a.eval⟩) w := by
 have he := run_callFunc hf hname hb ⟨as.map a.eval⟩ w;unfold execOp;simp [resolve, Deferred.ofValue, invoke, Act.eval, he]
theorem args_ok {σ : Nat → Value} {a : Act} {w : World} (hr : Rel base σ s a w) (as : List Operand) (j : Nat) (av : AV) (x : Value) (h1 : (as.map (ev s))[j]? = some av) (h2 : (as.map a.eval)[j]? = some x) : VR ⟨w, s.H, σ, base.F⟩ av x := by
 rw [List.getElem?_map] at h1 h2
 cases h : as[j]? with
 | none => rw [h] at h1; cases h1
 | some o =>
  rw [h] at h1 h2;obtain rfl := Option.some.inj h1;obtain rfl := Option.some.inj h2;exact ev_ok hr o
theorem Hv.call {d : Option Tmp} {f : FuncId} {fn : Func} {as : List Operand} {ts : Array TypeId} {ty : TypeId} {pos : String} {af : Array Edge} {gd : Option (Nat × Bool)} {args : List AV} {R : AV → List (Option AB) → Prop} (hf : P.funcs[f]? = some fn) (hname : (fn.name == "runtime.NumGoroutine") = false) (hb : fn.body.isSome = true)
 (ha : as.map (ev s) = args) (h : AC P f s.H args R) :
 Hv P base ⟨d, .call { callee := .value (.func f), args := as.toArray, argTypes := ts }, ty, pos, af, gd⟩ s (fun s' => ∃ r H', R r H' ∧ s' = (⟨s.fr, H'⟩ : St).put d r) := by
 intro σ a w hr Q K hk;unfold Oper.wp;rw [run_call hf hname hb];subst ha;refine (h base σ w (as.map a.eval) hr.1 (by simp) (args_ok hr as)).mono fun e w' ⟨x, r, H', σ', h1, h2, h3, h4, h5⟩ => ?_
 subst h1;have hrel : Rel base σ' ⟨s.fr, H'⟩ a w' := ⟨h2, hr.2.1.ext h3, hr.2.2⟩;exact hk σ' _ _ w' (hrel.put d h4) (by rw [put_H]; exact h3) ⟨r, H', h5, rfl⟩
end
end Go.Proofs.YtkbbcenjklaglaaGreat.AL
