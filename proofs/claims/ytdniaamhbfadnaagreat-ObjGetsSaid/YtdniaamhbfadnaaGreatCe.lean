/- A part of the proof: rules of an own logic over blocks, and what functions of the program compute, each by its own contract; the conditions stand with each. -/
import Derived.Test.YtdniaamhbfadnaaGreatCd
import Derived.Lib.AppendStr
import Derived.Lib.BytesEntry
import Derived.Lib.Bytealg
namespace Go.Proofs.YtdniaamhbfadnaaGreat.AL
open Go Go.RowKit
set_option linter.unusedVariables false
set_option linter.unusedSimpArgs false
section
variable {P : Program} {base : Cx} {s : St}
@[reducible] def strB (b : ByteArray) : List Int := b.data.toList.map fun c => (c.toNat : Int)
theorem strB_len (b : ByteArray) : (strB b).length = b.size := by rw [List.length_map, Array.length_toList]; rfl
theorem strCells_eq (b : ByteArray) : Lib.strCells b = (strB b).map (Value.int .u8) := by simp [Lib.strCells, strB, List.map_map]
theorem run_append_str (w : World) (base : Nat) (t u ty e : TypeId) (i : TypeInfo) (ht : P.underlying t = some (.slice e)) (hu : P.underlying u = some .string) (hi : P.info? e = some i) (hz : i.zero = some (.int .u8 0))
    (hsize : i.size = 1) (hby : i.bytes = 1) (v : Value) (n : Nat) (xs : List Value) (hown : w.ownsRow base e 1 v n xs) (s : ByteArray) (h63 : n + s.size ≤ maxLen) (hbytes : n + s.size ≤ 140737488355328) (hbase : base ≤ w.heap.size) :
    ∃ v' w', (Builtin.append_ #[t, u] ty #[v, .string s]).run P w = .ok v' w' ∧ w'.ownsRow base e 1 v' (n + s.size) (xs ++ Lib.strCells s) ∧ w.grownBy w' v.ownBlock ∧ (v'.ownBlock = v.ownBlock ∨ v'.ownBlock = some w.heap.size) := by
  obtain ⟨v', w', hr, h1, h2, h3⟩ := Lib.run_append_own_string w base t u ty e i ht hu hi hz hsize hby v n xs hown s h63 hbytes hbase
  refine ⟨v', w', hr, h1, h2, ?_⟩
  have hxl : xs.length = n := by simpa using hown.1
  rcases hown.2 with ⟨rfl, rfl⟩ | ⟨g, cap, cur, rfl, hbg, hg, hnc, hcm, hcs, htake⟩
  · have hx : xs = [] := List.eq_nil_of_length_eq_zero hxl
    subst hx
    by_cases hm : s.size = 0
    · left; rw [h3.2 ⟨rfl, hm⟩]
    · right
      have hr2 := run_append_nil_string (P := P) w t u ty e i (.int .u8 0) ht hu hi hz s (by omega) (by unfold maxLen at h63; omega) (by rw [hby]; omega)
      rw [hr2] at hr
      injection hr with hr _
      rw [← hr]; rfl
  · by_cases hroom : n + s.size ≤ cap
    · left
      have hcs' : cur.size = cap := by simpa using hcs
      have hr2 := Lib.run_append_room_string (P := P) w t u ty e i ht hu hi hsize g n cap cur hg s hroom (by omega)
      rw [hr2] at hr
      injection hr with hr _
      rw [← hr]; rfl
    · right
      have holds : ∀ j u, xs[j]? = some u → w.cell? ((⟨g, 0, none⟩ : Addr).add j) = some u := hown.cells (g := g) rfl
      have hr2 := Lib.run_append_grow_string (P := P) w t u ty e i (.int .u8 0) ht hu hi hz ⟨g, 0, none⟩ n cap xs (by rw [hsize]; simpa using hxl) holds s (by omega) (by unfold maxLen at h63; omega) (by rw [hby]; exact growslice_fits (by omega) (by omega))
      rw [hr2] at hr
      injection hr with hr _
      rw [← hr]; rfl
theorem RowsR_of_bys {E : Env} (l : List Int) : RowsR E 1 (bys l) (l.map (Value.int .u8)) := by
  refine ⟨fun row hr => ?_, by simp [bys], fun x hx => ?_, fun i row j av hi hj => ?_⟩
  · obtain ⟨n, _, rfl⟩ := List.mem_map.1 hr; rfl
  · obtain ⟨n, _, rfl⟩ := List.mem_map.1 hx; rfl
  · unfold bys at hi
    rw [List.getElem?_map] at hi
    cases hli : l[i]? with
    | none => rw [hli] at hi; cases hi
    | some n =>
      rw [hli] at hi
      obtain rfl := Option.some.inj hi
      cases j with
      | zero =>
        obtain rfl := Option.some.inj hj
        exact ⟨.int .u8 n, by simp [hli], .v _⟩
      | succ j => simp at hj
/-- An append of a string's bytes. -/
theorem Hv.appendS {d : Option Tmp} {t u e ty : TypeId} {x y : Operand} {pos : String} {af : Array Edge} {gd : Option (Nat × Bool)} {id ep : Nat} {b : ByteArray} {rows : List (List AV)} (ht : P.underlying t = some (.slice e)) (hu : P.underlying u = some .string)
    (hi : (P.info? e).map (fun i => (i.zero, i.size, i.bytes)) = some (some (.int .u8 0), 1, 1))
    (hx : ev s x = .own id ep 0 rows.length) (hH : s.H[id]? = some (some (.row e 1 ep rows))) (hy : ev s y = .v (.string b)) (hb : rows.length + b.size ≤ 140737488355328) :
    Hv P base ⟨d, .call { callee := .builtin .append, args := #[x, y], argTypes := #[t, u] }, ty, pos, af, gd⟩ s
      (fun s' => s' = (⟨s.fr, s.H.set id (some (.row e 1 (ep + 1) (rows ++ bys (strB b))))⟩ : St).put d (.own id (ep + 1) 0 (rows ++ bys (strB b)).length)) := by
  intro σ a w hr Q K hk
  obtain ⟨i, hi0, hz, hs, hby⟩ := info_parts hi
  obtain ⟨xs, hown, hrows⟩ := hr.1.live id _ hH
  have hown : w.ownsRow base.b e 1 (σ id) rows.length xs := hown
  have hxe : a.eval x = σ id := by
    have h4 := ev_ok hr x
    rw [hx] at h4
    generalize hq : a.eval x = q at h4
    cases h4 with
    | own h _ =>
      obtain ⟨_, A, c, A', h5, rfl, _, h6⟩ := (h.2 _ _ _ _ hH).2 rfl
      obtain rfl := h6 rfl
      exact h5.symm
  have hye := ev_v hr hy
  obtain ⟨v', w', hrun, h4, h5, h6⟩ := run_append_str (P := P) w base.b t u ty e i ht hu hi0 hz hs hby (σ id) rows.length xs hown b (by unfold maxLen; omega) hb hr.1.bs
  unfold Oper.wp
  have hrun' : (execOp a.eval ⟨d, .call { callee := .builtin .append, args := #[x, y], argTypes := #[t, u] }, ty, pos, af, gd⟩).run P w = .ok (.value v') w' := by
    simp only [execOp, resolve, Sem.run_bind, Sem.run_pure, Result.andThen_ok, invoke, builtin, List.map_toArray, List.map_cons, List.map_nil, hxe, hye, hrun]
  rw [hrun']
  have hl : (bys (strB b)).length = b.size := by rw [bys_length, strB_len]
  obtain ⟨σ', h7, h8⟩ := appended (rows2 := bys (strB b)) (news := Lib.strCells b) hr hH hrows (by rw [strCells_eq]; exact RowsR_of_bys _) (by rw [hl]; exact h4) h5 h6 d
  exact hk σ' _ _ _ h7 (by rw [put_H]; exact h8) rfl
end
section
variable {P : Program} {L L' : List (Option AB)} {l : List AV} {x y : Operand} {t u e : TypeId} {n k m ep : Nat} {b : ByteArray} {li : List Int}
instance (priority := 20000) apStr [tu : TU P t (.slice e)] [tv : TU P u .string] [ti : TI P e (.int .u8 0) 1 1] [h : EC true l x (.own (n + k) ep 0 m)] [gb : GB L k (.row e 1 ep (bys li))] [hy : EC true l y (.v (.string b))] [sb : SB L k (some (.row e 1 (ep + 1) (bys (li ++ strB b)))) L'] :
    HW P (.call { callee := .builtin .append, args := #[x, y], argTypes := #[t, u] }) l (Hn n L) (.own (n + k) (ep + 1) 0 (m + b.size)) (Hn n L') (li.length = m ∧ m + b.size ≤ 140737488355328) := ⟨fun ho base d ty pos af g => by
  have hH : (Hn n L)[n + k]? = some (some (.row e 1 ep (bys li))) := by rw [Hn_get]; exact gb.h
  have := Hv.appendS (P := P) (base := base) (d := d) (ty := ty) (pos := pos) (af := af) (gd := g) (s := ⟨l, Hn n L⟩) tu.h tv.h ti.h (by rw [bys_length, ho.1]; exact h.h rfl _) hH (hy.h rfl _) (by rw [bys_length]; omega)
  rw [← bys_append, bys_length, List.length_append, strB_len, ho.1] at this
  have e1 : (Hn n L).set (n + k) (some (AB.row e 1 (ep + 1) (bys (li ++ strB b)))) = Hn n L' := by rw [Hn_set, sb.h]
  rw [e1] at this
  exact this⟩
end
theorem indexByte_idx (l : List UInt8) (c : UInt8) : Lib.indexByte l c = idxF (fun x => x == c) l := by
  induction l with
  | nil => rfl
  | cons b l ih =>
    unfold Lib.indexByte
    rw [ih]
    unfold idxF
    rw [List.findIdx?_cons]
    by_cases h : (b == c) = true
    · rw [if_pos h, if_pos h]; rfl
    · rw [if_neg h, if_neg h]
      cases hf : l.findIdx? (fun x => x == c) with
      | none => simp
      | some i =>
        simp only [Option.map_some]
        rw [if_neg (by rw [beq_iff_eq]; omega)]
        rfl
theorem idxF_map {α β : Type} (f : α → β) (q : β → Bool) (l : List α) : idxF q (l.map f) = idxF (fun x => q (f x)) l := by
  unfold idxF
  rw [List.findIdx?_map]; rfl
theorem idxF_congr {α : Type} {q r : α → Bool} {l : List α} (h : ∀ x ∈ l, q x = r x) : idxF q l = idxF r l := by
  have : l.findIdx? q = l.findIdx? r := by
    induction l with
    | nil => rfl
    | cons a l ih =>
      rw [List.findIdx?_cons, List.findIdx?_cons, h a (by simp), ih fun x hx => h x (by simp [hx])]
  unfold idxF
  rw [this]
/-- Where the first byte of a kind stands. -/
def firstB (l : List Int) (c : Int) : Int := idxF (fun x => x == c) l
theorem firstB_str (b : ByteArray) (c : Int) (h0 : 0 ≤ c) (h1 : c < 256) : Lib.indexByte b.data.toList c.toNat.toUInt8 = firstB (strB b) c := by
  rw [indexByte_idx]
  unfold firstB strB
  rw [idxF_map]
  refine idxF_congr fun x _ => ?_
  have hx := x.toNat_lt
  rw [Bool.eq_iff_iff, beq_iff_eq, beq_iff_eq]
  constructor
  · rintro rfl
    simp
    omega
  · intro h
    apply UInt8.toNat_inj.1
    simp
    omega
theorem firstB_bys (l : List Int) (hB : ∀ x ∈ l, 0 ≤ x ∧ x < 256) (c : Int) (h0 : 0 ≤ c) (h1 : c < 256) : Lib.indexByte (Lib.bytesOf l) c.toNat.toUInt8 = firstB l c := by
  rw [indexByte_idx]
  unfold firstB Lib.bytesOf
  rw [idxF_map]
  refine idxF_congr fun x hx => ?_
  have hx := hB x hx
  rw [Bool.eq_iff_iff, beq_iff_eq, beq_iff_eq]
  constructor
  · intro h
    have := congrArg UInt8.toNat h
    simp at this
    omega
  · rintro rfl; rfl
section
variable {P : Program} {s : St} {f : FuncId} {fn : Func} {x y : Operand} {ts : Array TypeId} {c : Int}
theorem run_ext {e : Array Value → Sem Value} (hf : P.funcs[f]? = some fn) (hname : (fn.name == "runtime.NumGoroutine") = false) (hb : fn.body.isNone = true) (hn : Extern.findNext fn = none) (he : Extern.find fn = some e) {d : Option Tmp} {as : List Operand} {ty : TypeId} {pos : String} {af : Array Edge} {gd : Option (Nat × Bool)} (a : Act) (w : World) {v : Value}
    (hv : (e ⟨as.map a.eval⟩).run P w = .ok v w) : (execOp a.eval ⟨d, .call { callee := .value (.func f), args := as.toArray, argTypes := ts }, ty, pos, af, gd⟩).run P w = .ok (.value v) w := by
  have h := run_callFunc_extern hf hname hb hn he ⟨as.map a.eval⟩ w
  rw [hv] at h
  unfold execOp
  simp [resolve, Deferred.ofValue, invoke, Act.eval, h]
theorem Lt.indexStr {b : ByteArray} (hf : P.funcs[f]? = some fn) (hname : (fn.name == "runtime.NumGoroutine") = false) (hb : fn.body.isNone = true) (hn : Extern.findNext fn = none) (he : Extern.find fn = some Extern.BytealgIndexByte.indexByte)
    (hx : ev s x = .v (.string b)) (hy : ev s y = .v (.int .u8 c)) (h0 : 0 ≤ c) (h1 : c < 256) :
    Lt P (.call { callee := .value (.func f), args := #[x, y], argTypes := ts }) s (.v (.int .i64 (firstB (strB b) c))) := fun d t pos af g base σ a w hr => by
  refine ⟨_, .v _, fun w' _ => ?_⟩
  refine run_ext (as := [x, y]) hf hname hb hn he a w' ?_
  have e1 := ev_v hr hx
  have e2 := ev_v hr hy
  simp only [List.map_cons, List.map_nil, e1, e2]
  rw [Lib.run_indexByteString, firstB_str b c h0 h1]
theorem run_indexRd {w : World} {A : Option Addr} {n cp : Nat} {xs : List Int} (hx : xs.length = n) (hA : 0 < n → ∃ ad, A = some ad ∧ ∀ j x, xs[j]? = some x → w.cell? (ad.add j) = some (.int .u8 x)) (cv : Int) :
    (Extern.BytealgIndexByte.indexByte #[.slice A n cp, .int .u8 cv]).run P w = .ok (.int .i64 (Lib.indexByte (Lib.bytesOf xs) cv.toNat.toUInt8)) w := by
  cases A with
  | none =>
    have hn : n = 0 := by
      rcases Nat.eq_zero_or_pos n with h | h
      · exact h
      · obtain ⟨ad, h, _⟩ := hA h; cases h
    subst hn
    obtain rfl : xs = [] := List.eq_nil_of_length_eq_zero hx
    exact Lib.run_indexByteNil w 0 cp cv
  | some ad =>
    have hcells : ∀ j x, xs[j]? = some x → w.cell? (ad.add j) = some (.int .u8 x) := by
      intro j x hj
      have hjl : j < xs.length := (List.getElem?_eq_some_iff.1 hj).1
      obtain ⟨ad', h, h'⟩ := hA (by omega)
      obtain rfl := Option.some.inj h
      exact h' j x hj
    have hl := Lib.run_loadBytesX (P := P) w xs ad .empty hcells
    rw [hx] at hl
    have hs := Lib.run_indexByteString (P := P) ⟨(Lib.bytesOf xs).toArray⟩ cv w
    have he : (⟨ByteArray.empty.data ++ (Lib.bytesOf xs).toArray⟩ : ByteArray) = ⟨(Lib.bytesOf xs).toArray⟩ := by
      apply ByteArray.ext
      show (#[] : Array UInt8) ++ (Lib.bytesOf xs).toArray = (Lib.bytesOf xs).toArray
      simp
    rw [he] at hl
    change Sem.run P (do
      let b ← Extern.Bytes.bytesOf (.slice (some ad) n cp)
      let c ← Extern.Bytes.asByte (.int .u8 cv)
      match (List.range b.size).find? fun i => b[i]! == c with
      | some i => pure (goInt i)
      | none => pure (goInt (-1))) w = _
    change Sem.run P (do
      let b ← Extern.Bytes.bytesOf (.string ⟨(Lib.bytesOf xs).toArray⟩)
      let c ← Extern.Bytes.asByte (.int .u8 cv)
      match (List.range b.size).find? fun i => b[i]! == c with
      | some i => pure (goInt i)
      | none => pure (goInt (-1))) w = _ at hs
    simp only [Extern.Bytes.bytesOf, Sem.run_bind, Sem.run_pure, hl, Result.andThen] at hs ⊢
    exact hs
theorem Lt.indexRd {li : List Int} (hf : P.funcs[f]? = some fn) (hname : (fn.name == "runtime.NumGoroutine") = false) (hb : fn.body.isNone = true) (hn : Extern.findNext fn = none) (he : Extern.find fn = some Extern.BytealgIndexByte.indexByte)
    (hx : ev s x = .rd 1 (bys li)) (hy : ev s y = .v (.int .u8 c)) (hB : ∀ x ∈ li, 0 ≤ x ∧ x < 256) (h0 : 0 ≤ c) (h1 : c < 256) :
    Lt P (.call { callee := .value (.func f), args := #[x, y], argTypes := ts }) s (.v (.int .i64 (firstB li c))) := fun d t pos af g base σ a w hr => by
  refine ⟨_, .v _, fun w' hw => ?_⟩
  refine run_ext (as := [x, y]) hf hname hb hn he a w' ?_
  have e2 := ev_v hr hy
  obtain ⟨A, cp, news, h2, h3, h4⟩ := Src.rd (base := base) hx σ a w hr
  have hnews := RowsR_bys h3
  simp only [List.map_cons, List.map_nil, e2, h2]
  rw [bys_length] at *
  rw [run_indexRd (xs := li) rfl (fun h5 => ?_), firstB_bys li hB c h0 h1]
  obtain ⟨ad, h6, h7⟩ := h4 h5
  refine ⟨ad, h6, fun j x hj => ?_⟩
  have h8 := h7 j (.int .u8 x) (by rw [hnews, List.getElem?_map, hj]; rfl)
  rw [hw.cell (cell_lt h8)]; exact h8
end
section
variable {P : Program} {base : Cx} {l l' : List AV} {H : List (Option AB)} {Q : Exit → St → Prop} {ops : Array Oper} {rest : List Oper} {d : Option Tmp} {t : TypeId} {pos : String} {af : Array Edge} {f : FuncId} {fn : Func} {x y : Operand} {ts : Array TypeId} {c : Int}
theorem AO.indexStr {b : ByteArray} [hx : EC true l x (.v (.string b))] [hy : EC true l y (.v (.int .u8 c))] (hf : P.funcs[f]? = some fn) (hname : (fn.name == "runtime.NumGoroutine") = false) (hb : fn.body.isNone = true) (hn : Extern.findNext fn = none) (he : Extern.find fn = some Extern.BytealgIndexByte.indexByte) (h0 : 0 ≤ c ∧ c < 256)
    [hd : DL l d (.v (.int .i64 (firstB (strB b) c))) l'] (k : AO P base ops rest ⟨l', H⟩ Q) : AO P base ops (⟨d, .call { callee := .value (.func f), args := #[x, y], argTypes := ts }, t, pos, af, none⟩ :: rest) ⟨l, H⟩ Q :=
  AO.light (Lt.indexStr hf hname hb hn he (hx.h rfl H) (hy.h rfl H) h0.1 h0.2) (by rw [hd.h]; exact k)
theorem AO.indexRd {li : List Int} [hx : EC true l x (.rd 1 (bys li))] [hy : EC true l y (.v (.int .u8 c))] (hf : P.funcs[f]? = some fn) (hname : (fn.name == "runtime.NumGoroutine") = false) (hb : fn.body.isNone = true) (hn : Extern.findNext fn = none) (he : Extern.find fn = some Extern.BytealgIndexByte.indexByte) (hB : ∀ x ∈ li, 0 ≤ x ∧ x < 256) (h0 : 0 ≤ c ∧ c < 256)
    [hd : DL l d (.v (.int .i64 (firstB li c))) l'] (k : AO P base ops rest ⟨l', H⟩ Q) : AO P base ops (⟨d, .call { callee := .value (.func f), args := #[x, y], argTypes := ts }, t, pos, af, none⟩ :: rest) ⟨l, H⟩ Q :=
  AO.light (Lt.indexRd hf hname hb hn he (hx.h rfl H) (hy.h rfl H) hB h0.1 h0.2) (by rw [hd.h]; exact k)
end
theorem idxF_lt {α : Type} {q : α → Bool} {l : List α} : idxF q l < l.length := by
  unfold idxF
  cases hf : l.findIdx? q with
  | none => show (-1 : Int) < _; omega
  | some i =>
    obtain ⟨h2, _⟩ := List.findIdx?_eq_some_iff_getElem.1 hf
    show (i : Int) < _; omega
end Go.Proofs.YtdniaamhbfadnaaGreat.AL
namespace Go.Proofs.YtdniaamhbfadnaaGreat.AL
open Go Go.RowKit
set_option linter.unusedVariables false
set_option linter.unusedSimpArgs false
def ifV (t : TypeId) (c : Int) : Value := if c = 0 then .nilIface else .iface t (.int .i64 c)
class TCMP (P : Program) (t : TypeId) : Prop where
  h : (P.info? t).map (·.comparable) = some true
section
variable {P : Program} {s : St} {t tc : TypeId} {x y : Operand} {a b : Int} {ms : Array (String × TypeId)}
theorem Pu.mkIf {d : TypeDesc} {v : Value} (hu : P.underlying t = some d) (hd : (match d with | .interface _ => false | _ => true) = true) (hx : ev s x = .v v) : Pu P (.makeInterface t x) s (.v (.iface t v)) := fun d' t' pos af g base σ a w hr => by
  refine ⟨_, .v _, fun w' => ?_⟩
  rw [show execOp a.eval ⟨d', .makeInterface t x, t', pos, af, g⟩ = (do pure (Next.value (← Instr.makeInterface t (a.eval x)))) from rfl, ev_v hr hx]
  unfold Instr.makeInterface
  cases d <;> simp_all [run_underlying hu, Result.andThen]
theorem run_eqIf {u : TypeDesc} (hu : P.underlying t = some u) (hi : (match u with | .interface _ => true | _ => false) = true) (hc : P.underlying tc = some (.int .i64)) (hp : (P.info? tc).map (·.comparable) = some true) (hb : b ≠ 0) (w : World) :
    (Op.equal t (ifV tc a) (.iface tc (.int .i64 b))).run P w = .ok (decide (a = b)) w := by
  obtain ⟨i, h1, h2⟩ : ∃ i, P.info? tc = some i ∧ i.comparable = true := by
    cases hq : P.info? tc with
    | none => rw [hq] at hp; cases hp
    | some i => rw [hq] at hp; exact ⟨i, rfl, by simpa using hp⟩
  cases u with
  | interface ms =>
    unfold Op.equal Op.maxDepth ifV
    by_cases h : a = 0
    · subst h
      rw [if_pos rfl, decide_eq_false (Ne.symm hb)]
      unfold Op.equalIn
      simp [run_underlying hu, Result.andThen]
    · rw [if_neg h]
      unfold Op.equalIn
      simp only [Sem.run_bind, run_underlying hu, Result.andThen_ok]
      simp only [ne_eq, not_true_eq_false, if_false, Sem.run_bind, typeInfo, run_program, Result.andThen_ok, h1, Sem.run_pure, h2, Bool.not_true, Bool.false_eq_true]
      unfold Op.equalIn
      simp [run_underlying hc, Result.andThen]
      rw [Bool.eq_iff_iff, beq_iff_eq, decide_eq_true_eq]
  | _ => simp at hi
theorem run_eqNil {u : TypeDesc} (hu : P.underlying t = some u) (hi : (match u with | .interface _ => true | _ => false) = true) (w : World) :
    (Op.equal t (ifV tc a) .nilIface).run P w = .ok (decide (a = 0)) w := by
  cases u with
  | interface ms =>
    unfold Op.equal Op.maxDepth ifV
    unfold Op.equalIn
    by_cases h : a = 0
    · rw [if_pos h, decide_eq_true h]
      simp [run_underlying hu, Result.andThen]
    · rw [if_neg h, decide_eq_false h]
      simp [run_underlying hu, Result.andThen]
  | _ => simp at hi
theorem Pu.eqIf {yt : TypeId} {u : TypeDesc} (hu : P.underlying t = some u) (hi : (match u with | .interface _ => true | _ => false) = true) (hc : P.underlying tc = some (.int .i64)) (hp : (P.info? tc).map (·.comparable) = some true) (hb : b ≠ 0) (hx : ev s x = .v (ifV tc a)) (hy : ev s y = .v (.iface tc (.int .i64 b))) :
    Pu P (.binOp .eql t x y yt) s (.v (.bool (decide (a = b)))) :=
  Pu.bin hx hy fun w => by
    have h := run_eqIf (a := a) hu hi hc hp hb w
    have hg : (eqGuard .eql t x y (ifV tc a) (.iface tc (.int .i64 b))).run P w = .ok () w := by
      unfold ifV; by_cases ha : a = 0 <;> simp [ha, eqGuard]
    simp [Sem.run_bind, hg, binOp, h, Result.andThen]
theorem Pu.eqNil {yt : TypeId} {u : TypeDesc} (hu : P.underlying t = some u) (hi : (match u with | .interface _ => true | _ => false) = true) (hx : ev s x = .v (ifV tc a)) :
    Pu P (.binOp .eql t x (.const .nilIface) yt) s (.v (.bool (decide (a = 0)))) :=
  Pu.bin (y := .const .nilIface) hx rfl fun w => by
    have h := run_eqNil (tc := tc) (a := a) hu hi w
    have hg : (eqGuard .eql t x (.const .nilIface) (ifV tc a) .nilIface).run P w = .ok () w := by
      unfold ifV; by_cases ha : a = 0 <;> simp [ha, eqGuard]
    simp [Sem.run_bind, hg, binOp, h, Result.andThen]
variable {c : Bool} {l : List AV} {H : List (Option AB)} {yt : TypeId}
instance mkIfI {k : IntKind} [tu : TU P t (.int k)] {v : Value} [h : EC c l x (.v v)] : PC c P (.makeInterface t x) l H (.v (.iface t v)) := ⟨fun hc => Pu.mkIf tu.h rfl (h.h hc H)⟩
instance eqIfN [tu : TU P t (.interface ms)] [h : EC c l x (.v (ifV tc a))] : PC c P (.binOp .eql t x (.const .nilIface) yt) l H (.v (.bool (decide (a = 0)))) := ⟨fun hc => Pu.eqNil tu.h rfl (h.h hc H)⟩
instance eqIfC [tu : TU P t (.interface ms)] [tv : TU P tc (.int .i64)] [tp : TCMP P tc] [h : EC c l x (.v (ifV tc a))] [h' : EC c l y (.v (.iface tc (.int .i64 b)))] : OC c P (.binOp .eql t x y yt) l H (.v (.bool (decide (a = b)))) (b ≠ 0) := ⟨fun hc hb => (Pu.eqIf tu.h rfl tv.h tp.h hb (h.h hc H) (h'.h hc H)).lt⟩
end
end Go.Proofs.YtdniaamhbfadnaaGreat.AL
namespace Go.Proofs.YtdniaamhbfadnaaGreat.AL
open Go Go.RowKit
set_option linter.unusedVariables false
set_option linter.unusedSimpArgs false
section
variable {P : Program} {base : Cx} {s s1 : St} {Q : Exit → St → Prop}
variable {l l' : List AV} {H : List (Option AB)} {os : List Oper} {ops : Array Oper} {rest : List Oper} {d : Option Tmp} {op : Op} {t : TypeId} {pos : String} {af : Array Edge} {j u : Nat} {b want : Bool}
theorem execOp_guard {ρ : Operand → Value} {g : Option (Nat × Bool)} : execOp ρ ⟨d, op, t, pos, af, g⟩ = execOp ρ ⟨d, op, t, pos, af, none⟩ := by unfold execOp; rfl
theorem AO.gk [ho : DO os j u] [hg : GL l u (.v (.bool b))] (hb : b = want) (k : AO P base os.toArray (⟨d, op, t, pos, af, none⟩ :: rest) ⟨l, H⟩ Q) : AO P base os.toArray (⟨d, op, t, pos, af, some (j, want)⟩ :: rest) ⟨l, H⟩ Q := by
  intro σ a w hr K hk
  have h := k σ a w hr K hk
  have hw := wanted_ok (ops := os.toArray) hr (o := ⟨d, op, t, pos, af, some (j, want)⟩) (b := true) (by rw [wanted_some (s := ⟨l, H⟩) (by simpa using ho.h) (hg.ev H), hb]; simp)
  unfold wpList at h ⊢
  rw [hw, if_pos rfl]
  rw [show Region.wanted (⟨d, op, t, pos, af, none⟩ : Oper) (yielded os.toArray a.tmps) = true from rfl, if_pos rfl] at h
  rcases h with h | h
  · refine .inl ?_
    unfold Oper.wp at h ⊢
    rw [execOp_guard]
    exact h
  · refine .inr ⟨?_, h.2⟩
    have h1 := h.1
    unfold Oper.asks at h1 ⊢
    rw [execOp_guard]
    exact h1
/-- A call that leaves one of several states, told by x. -/
theorem AO.callE {α : Type} {av : α → AV} {H2 : α → List (Option AB)} {p : α → Prop} {lx : α → List AV} {f : FuncId} {fn : Func} {as : List Operand} {ts : Array TypeId} {args : List AV} (hf : P.funcs[f]? = some fn) (hname : (fn.name == "runtime.NumGoroutine") = false) (hb : fn.body.isSome = true)
    [ha : ARG l as args] (h : AC P f H args (fun r H' => ∃ x, r = av x ∧ H' = H2 x ∧ p x)) [hd : ∀ x, DL l d (av x) (lx x)] (k : ∀ x, p x → AO P base ops rest ⟨lx x, H2 x⟩ Q) : AO P base ops (⟨d, .call { callee := .value (.func f), args := as.toArray, argTypes := ts }, t, pos, af, none⟩ :: rest) ⟨l, H⟩ Q := by
  refine AO.heavy rfl (Hv.call hf hname hb (ha.h H) h) fun s1 ⟨r, H', h1, h2⟩ => ?_
  obtain ⟨x, h3, h4, h5⟩ := h1
  subst h3; subst h4; subst h2
  rw [(hd x).h]; exact k x h5
end
section
variable {P : Program} {base : Cx} {s : St}
theorem set_some {H : List (Option AB)} {id i : Nat} {b c : AB} (h : (H.set id (some c))[i]? = some (some b)) : (i = id ∧ b = c) ∨ (i ≠ id ∧ H[i]? = some (some b)) := by
  by_cases he : id = i
  · subst he
    by_cases hl : id < H.length
    · rw [List.getElem?_set_self hl] at h; exact .inl ⟨rfl, (Option.some.inj (Option.some.inj h)).symm⟩
    · rw [List.getElem?_eq_none (by simp; omega)] at h; cases h
  · rw [List.getElem?_set_ne he] at h
    exact .inr ⟨Ne.symm he, h⟩
theorem Rel.reBox {σ : Nat → Value} {a : Act} {w : World} {id : Nat} {t : TypeId} {cs cs' : List AV} (hr : Rel base σ s a w) (hH : s.H[id]? = some (some (.box t cs))) (hl : cs'.length = cs.length)
    (hc : ∀ (j : Nat) (av av' : AV) (x : Value), cs[j]? = some av → cs'[j]? = some av' → VR ⟨w, s.H.set id (some (.box t cs')), σ, base.F⟩ av x → VR ⟨w, s.H.set id (some (.box t cs')), σ, base.F⟩ av' x) :
    Rel base σ ⟨s.fr, s.H.set id (some (.box t cs'))⟩ a w ∧ Ext ⟨w, s.H, σ, base.F⟩ ⟨w, s.H.set id (some (.box t cs')), σ, base.F⟩ := by
  have hours : ∀ k, Env.ours ⟨w, s.H.set id (some (.box t cs')), σ, base.F⟩ k → Env.ours ⟨w, s.H, σ, base.F⟩ k := by
    rintro k ⟨i, b, h1, h2⟩
    rcases set_some h1 with ⟨rfl, _⟩ | ⟨_, h3⟩
    · exact ⟨i, _, hH, h2⟩
    · exact ⟨i, b, h3, h2⟩
  have he : Ext ⟨w, s.H, σ, base.F⟩ ⟨w, s.H.set id (some (.box t cs')), σ, base.F⟩ := by
    refine ⟨rfl, rfl, rfl, Nat.le_refl _, rfl, fun k _ _ => rfl, fun k h _ => hours k h, by simp, fun i e sz ep rows' h1 _ => ?_, fun i t2 cs2 h1 _ => ?_, fun i es' h1 _ => ?_⟩
    · rcases set_some h1 with ⟨_, h3⟩ | ⟨_, h3⟩
      · cases h3
      · exact ⟨ep, rows', h3, .inr ⟨rfl, rfl, rfl⟩⟩
    · rcases set_some h1 with ⟨rfl, h3⟩ | ⟨_, h3⟩
      · cases h3; exact ⟨cs, hH, rfl, hl⟩
      · exact ⟨cs2, h3, rfl, rfl⟩
    · rcases set_some h1 with ⟨_, h3⟩ | ⟨_, h3⟩
      · cases h3
      · exact ⟨es', h3, rfl⟩
  refine ⟨⟨⟨hr.1.bs, hr.1.far, fun g h => hr.1.clear g (hours g h), fun i b h1 => ?_, fun i i' b b' g h1 h2 h3 h4 => ?_⟩, hr.2.1.ext he, hr.2.2⟩, he⟩
  · rcases set_some h1 with ⟨rfl, rfl⟩ | ⟨_, h3⟩
    · obtain ⟨g, us, q1, q2, q3, q4⟩ := hr.1.live i _ hH
      refine ⟨g, us, q1, q2, q3, q4.1.trans hl.symm, q4.2.1, fun j av' x hj hx => ?_⟩
      have hlt : j < cs.length := by rw [← hl]; exact (List.getElem?_eq_some_iff.1 hj).1
      exact hc j _ av' x (List.getElem?_eq_getElem hlt) hj ((q4.2.2 j _ x (List.getElem?_eq_getElem hlt) hx).ext he)
    · exact (hr.1.live i b h3).keep he rfl fun _ _ => rfl
  · rcases set_some h1 with ⟨rfl, _⟩ | ⟨_, k1⟩ <;> rcases set_some h2 with ⟨rfl, _⟩ | ⟨_, k2⟩
    · rfl
    · exact hr.1.apart i i' _ _ g hH k2 h3 h4
    · exact hr.1.apart i i' _ _ g k1 hH h3 h4
    · exact hr.1.apart i i' _ _ g k1 k2 h3 h4
instance tellNilB : TELL (.v (.slice none 0 0)) (.rd 1 (bys [])) := tellNil
theorem Gh.tellC {n : Nat} {L L' : List (Option AB)} {l : List AV} {bt : TypeId} {cs : List AV} (k : Nat) (cs' : List AV) [gb : GB L k (.box bt cs)] [te : TELLs cs cs'] [sb : SB L k (some (.box bt cs')) L'] : Gh base ⟨l, Hn n L⟩ ⟨l, Hn n L'⟩ := fun σ a w hr => by
  have hH : (Hn n L)[n + k]? = some (some (.box bt cs)) := by rw [Hn_get]; exact gb.h
  have h := Rel.reBox (cs' := cs') hr hH te.h.1.symm (fun j av av' x h1 h2 h3 => te.h.2 _ j av av' x h1 h2 h3)
  have e1 : (Hn n L).set (n + k) (some (AB.box bt cs')) = Hn n L' := by rw [Hn_set, sb.h]
  simp only [e1] at h
  exact ⟨σ, h.1, h.2⟩
/-- A nil slice in a box is a row of the call's own that has nothing. -/
theorem Gh.adoptC {n m : Nat} {L L' L'' : List (Option AB)} {l : List AV} {bt : TypeId} {cs cs' : List AV} (k j : Nat) (e : TypeId) (sz : Nat) [gb : GB L k (.box bt cs)] (hj : cs[j]? = some (.v (.slice none 0 0))) [pb : PB L (some (.row e sz 0 [])) m L'] [sl : SL cs j (.own (n + m) 0 0 0) cs'] [sb : SB L' k (some (.box bt cs')) L''] : Gh base ⟨l, Hn n L⟩ ⟨l, Hn n L''⟩ := fun σ a w hr => by
  obtain rfl := sl.h
  have hv : ∀ g, blkOf (.slice none 0 0) = some g → w.heap.size ≤ g := fun g hg => by cases hg
  have he := Ext.push (base := base) (w := w) (w1 := w) (H := Hn n L) (σ := σ) (.row e sz 0 []) (.slice none 0 0) rfl rfl rfl (KeepW.refl w) hv
  have hHp := hr.1.push he (KeepW.refl w) hv (b := .row e sz 0 []) ⟨[], ⟨by simp, .inl ⟨by simp [pushσ], rfl⟩⟩, RowsR.nil _ _⟩
  have e0 : (Hn n L).length = n + m := by rw [Hn_len, pb.k]
  have hr1 : Rel base (pushσ σ (Hn n L).length (.slice none 0 0)) ⟨l, Hn n L ++ [some (.row e sz 0 [])]⟩ a w := ⟨hHp, hr.2.1.ext he, hr.2.2⟩
  have hk : k < L.length := (List.getElem?_eq_some_iff.1 gb.h).1
  have hH : (Hn n L ++ [some (AB.row e sz 0 [])])[n + k]? = some (some (.box bt cs)) := by
    rw [List.getElem?_append_left (by rw [Hn_len]; omega), Hn_get]; exact gb.h
  have hm : m = L.length := pb.k.symm
  have h := Rel.reBox (s := ⟨l, Hn n L ++ [some (.row e sz 0 [])]⟩) (id := n + k) (cs' := cs.set j (.own (n + m) 0 0 0)) hr1 hH (by simp) (fun i av av' x h1 h2 h3 => by
    by_cases hji : j = i
    · subst hji
      rw [List.getElem?_set_self (List.getElem?_eq_some_iff.1 hj).1] at h2
      obtain rfl := Option.some.inj h2
      rw [hj] at h1
      obtain rfl := Option.some.inj h1
      cases h3
      refine .own ⟨?_, fun e' sz' ep' rows' h4 => ?_⟩ ⟨none, 0, rfl⟩
      · show n + m < ((Hn n L ++ [some (AB.row e sz 0 [])]).set (n + k) _).length
        rw [List.length_set, List.length_append, e0]; simp
      · have h4 : ((Hn n L ++ [some (AB.row e sz 0 [])]).set (n + k) _)[n + m]? = some (some (.row e' sz' ep' rows')) := h4
        rw [List.getElem?_set_ne (by omega), List.getElem?_append_right (by omega), e0, Nat.sub_self] at h4
        simp at h4
        obtain ⟨rfl, rfl, rfl, rfl⟩ := h4
        exact ⟨Nat.le_refl _, fun _ => ⟨by simp, none, 0, none, by simp [pushσ, e0], by simp, by simp, by simp⟩⟩
    · rw [List.getElem?_set_ne hji] at h2
      rw [h1] at h2
      obtain rfl := Option.some.inj h2
      exact h3)
  have e1 : (Hn n L ++ [some (AB.row e sz 0 [])]).set (n + k) (some (AB.box bt (cs.set j (.own (n + m) 0 0 0)))) = Hn n L'' := by
    rw [Hn_push, pb.h, Hn_set, sb.h]
  have e1' := e1
  rw [Hn_push, pb.h] at e1'
  simp only [e1] at h
  exact ⟨_, h.1, he.trans h.2⟩
end
end Go.Proofs.YtdniaamhbfadnaaGreat.AL
namespace Go.Proofs.YtdniaamhbfadnaaGreat.AL
open Go Go.RowKit
set_option linter.unusedVariables false
set_option linter.unusedSimpArgs false
section
variable {P : Program} {base : Cx} {s : St}
theorem Rel.reBox2 {σ : Nat → Value} {a : Act} {w : World} {id : Nat} {t : TypeId} {cs cs' : List AV} (hr : Rel base σ s a w) (hH : s.H[id]? = some (some (.box t cs))) (hl : cs'.length = cs.length)
    (hc : ∀ (g : Nat) (us : List Value), σ id = .pointer (some ⟨g, 0, none⟩) → w.heap[g]? = some (.cells ⟨us⟩ t (0, 0)) → ∀ (j : Nat) (av' : AV) (x : Value), cs'[j]? = some av' → us[j]? = some x → VR ⟨w, s.H.set id (some (.box t cs')), σ, base.F⟩ av' x) :
    Rel base σ ⟨s.fr, s.H.set id (some (.box t cs'))⟩ a w ∧ Ext ⟨w, s.H, σ, base.F⟩ ⟨w, s.H.set id (some (.box t cs')), σ, base.F⟩ := by
  have hours : ∀ k, Env.ours ⟨w, s.H.set id (some (.box t cs')), σ, base.F⟩ k → Env.ours ⟨w, s.H, σ, base.F⟩ k := by
    rintro k ⟨i, b, h1, h2⟩
    rcases set_some h1 with ⟨rfl, _⟩ | ⟨_, h3⟩
    · exact ⟨i, _, hH, h2⟩
    · exact ⟨i, b, h3, h2⟩
  have he : Ext ⟨w, s.H, σ, base.F⟩ ⟨w, s.H.set id (some (.box t cs')), σ, base.F⟩ := by
    refine ⟨rfl, rfl, rfl, Nat.le_refl _, rfl, fun k _ _ => rfl, fun k h _ => hours k h, by simp, fun i e sz ep rows' h1 _ => ?_, fun i t2 cs2 h1 _ => ?_, fun i es' h1 _ => ?_⟩
    · rcases set_some h1 with ⟨_, h3⟩ | ⟨_, h3⟩
      · cases h3
      · exact ⟨ep, rows', h3, .inr ⟨rfl, rfl, rfl⟩⟩
    · rcases set_some h1 with ⟨rfl, h3⟩ | ⟨_, h3⟩
      · cases h3; exact ⟨cs, hH, rfl, hl⟩
      · exact ⟨cs2, h3, rfl, rfl⟩
    · rcases set_some h1 with ⟨_, h3⟩ | ⟨_, h3⟩
      · cases h3
      · exact ⟨es', h3, rfl⟩
  refine ⟨⟨⟨hr.1.bs, hr.1.far, fun g h => hr.1.clear g (hours g h), fun i b h1 => ?_, fun i i' b b' g h1 h2 h3 h4 => ?_⟩, hr.2.1.ext he, hr.2.2⟩, he⟩
  · rcases set_some h1 with ⟨rfl, rfl⟩ | ⟨_, h3⟩
    · obtain ⟨g, us, q1, q2, q3, q4⟩ := hr.1.live i _ hH
      exact ⟨g, us, q1, q2, q3, q4.1.trans hl.symm, q4.2.1, fun j av' x hj hx => hc g us q1 q3 j av' x hj hx⟩
    · exact (hr.1.live i b h3).keep he rfl fun _ _ => rfl
  · rcases set_some h1 with ⟨rfl, _⟩ | ⟨_, k1⟩ <;> rcases set_some h2 with ⟨rfl, _⟩ | ⟨_, k2⟩
    · rfl
    · exact hr.1.apart i i' _ _ g hH k2 h3 h4
    · exact hr.1.apart i i' _ _ g k1 hH h3 h4
    · exact hr.1.apart i i' _ _ g k1 k2 h3 h4
theorem Gh.freezeC {n m ep len sz : Nat} {L L1 L2 : List (Option AB)} {l : List AV} {bt e : TypeId} {cs cs' : List AV} {rows : List (List AV)} (k j : Nat) [gb : GB L k (.box bt cs)] [gj : GL cs j (.own (n + m) ep 0 len)] [gr : GB L m (.row e sz ep rows)] [sl : SL cs j (.rd sz rows) cs'] [s1 : SB L m none L1] [s2 : SB L1 k (some (.box bt cs')) L2] (hl : rows.length = len) (hm : rows.length ≤ 9223372036854775807) :
    Gh base ⟨l, Hn n L⟩ ⟨l, Hn n L2⟩ := fun σ a w hr => by
  have hH : (Hn n L)[n + k]? = some (some (.box bt cs)) := by rw [Hn_get]; exact gb.h
  have hR : (Hn n L)[n + m]? = some (some (.row e sz ep rows)) := by rw [Hn_get]; exact gr.h
  have hne : n + m ≠ n + k := fun h => by rw [h, hH] at hR; cases hR
  obtain ⟨g, us, q1, q2, q3, q4⟩ := hr.1.live _ _ hH
  have q1 : σ (n + k) = .pointer (some ⟨g, 0, none⟩) := q1
  have q3 : w.heap[g]? = some (.cells ⟨us⟩ bt (0, 0)) := q3
  have hf := Ext.forget (base := base) (w := w) (H := Hn n L) (H' := (Hn n L).set (n + m) none) (σ := σ) (by simp) (fun i b h => (set_none h).1)
  have hr1 : Rel base σ ⟨l, (Hn n L).set (n + m) none⟩ a w := ⟨hr.1.forget (by simp) (fun i b h => (set_none h).1), hr.2.1.ext hf, hr.2.2⟩
  have hH1 : ((Hn n L).set (n + m) none)[n + k]? = some (some (.box bt cs)) := by rw [List.getElem?_set_ne hne]; exact hH
  have hjl : j < cs.length := (List.getElem?_eq_some_iff.1 gj.h).1
  have h := Rel.reBox2 (s := ⟨l, (Hn n L).set (n + m) none⟩) (cs' := cs') hr1 hH1 (by rw [← sl.h]; simp) (fun g' us' p1 p2 i av' x h1 h2 => by
    rw [q1] at p1
    cases p1
    rw [q3] at p2
    cases p2
    rw [← sl.h] at h1
    have hE : Ext ⟨w, (Hn n L).set (n + m) none, σ, base.F⟩ ⟨w, ((Hn n L).set (n + m) none).set (n + k) (some (.box bt cs')), σ, base.F⟩ := by
      have hl' : cs'.length = cs.length := by rw [← sl.h]; simp
      refine ⟨rfl, rfl, rfl, Nat.le_refl _, rfl, fun k _ _ => rfl, fun g ⟨i, b, h1, h2⟩ _ => ?_, by simp, fun i e sz ep rows' h1 _ => ?_, fun i t2 cs2 h1 _ => ?_, fun i es' h1 _ => ?_⟩
      · rcases set_some h1 with ⟨rfl, _⟩ | ⟨_, h3⟩
        · exact ⟨_, _, hH1, h2⟩
        · exact ⟨i, b, h3, h2⟩
      · rcases set_some h1 with ⟨_, h3⟩ | ⟨_, h3⟩
        · cases h3
        · exact ⟨ep, rows', h3, .inr ⟨rfl, rfl, rfl⟩⟩
      · rcases set_some h1 with ⟨rfl, h3⟩ | ⟨_, h3⟩
        · cases h3; exact ⟨cs, hH1, rfl, hl'⟩
        · exact ⟨cs2, h3, rfl, rfl⟩
      · rcases set_some h1 with ⟨_, h3⟩ | ⟨_, h3⟩
        · cases h3
        · exact ⟨es', h3, rfl⟩
    by_cases hji : j = i
    · subst hji
      rw [List.getElem?_set_self hjl] at h1
      obtain rfl := Option.some.inj h1
      have hv := own_rd hr.1 hR (q4.2.2 j _ x gj.h h2) (by unfold maxLen; omega)
      rw [List.drop_zero, ← hl, List.take_of_length_le (Nat.le_refl _)] at hv
      exact hv.ext hE
    · rw [List.getElem?_set_ne hji] at h1
      exact ((q4.2.2 i av' x h1 h2).ext hf).ext hE)
  have e1 : ((Hn n L).set (n + m) none).set (n + k) (some (AB.box bt cs')) = Hn n L2 := by rw [Hn_set, s1.h, Hn_set, s2.h]
  simp only [e1] at h
  exact ⟨σ, h.1, hf.trans h.2⟩
end
end Go.Proofs.YtdniaamhbfadnaaGreat.AL
namespace Go.Proofs.YtdniaamhbfadnaaGreat.AL
open Go Go.RowKit
set_option linter.unusedVariables false
set_option linter.unusedSimpArgs false
section
variable {P : Program} {s : St} {c : Bool} {l : List AV} {H : List (Option AB)} {x y : Operand} {t t' : TypeId} {k : IntKind} {p q : Int}
theorem Pu.andNot_ {xt yt : TypeId} (hx : ev s x = .v (.int k p)) (hy : ev s y = .v (.int k q)) : Pu P (.binOp .andNot xt x y yt) s (.v (.int k (Go.bits .andNot k p q))) :=
  Pu.bin hx hy fun w => by simp [eqGuard, binOp, Op.intBits, Go.bits]
instance [h : EC c l x (.v (.int k p))] [h' : EC c l y (.v (.int k q))] : PC c P (.binOp .andNot t x y t') l H (.v (.int k (Go.bits .andNot k p q))) := ⟨fun hc => Pu.andNot_ (h.h hc H) (h'.h hc H)⟩
end
section
variable {P : Program} {base : Cx} {l l' : List AV} {Q : Exit → St → Prop} {ops : Array Oper} {rest : List Oper} {d : Option Tmp} {t ty bt : TypeId} {pos : String} {af : Array Edge} {x y : Operand} {n kk ep i off sz sz' : Nat} {L L' : List (Option AB)} {rows : List (List AV)} {ps : List AV} {av0 : AV} {gg : Bool}
theorem AO.ldRN (row cs' : List AV) [tg : TG P t true sz] [h : EC true l x (.optr (n + kk) ep i off)] [hb : GB L kk (.row bt sz' ep rows)] (hr : rows[i]? = some row) (ho : off < row.length) (hs : off + sz ≤ row.length) (hc : (row.drop off).take sz = cs') [hd : DL l d (.agg cs') l'] (k : AO P base ops rest ⟨l', Hn n L⟩ Q) : AO P base ops (⟨d, .load t x, ty, pos, af, none⟩ :: rest) ⟨l, Hn n L⟩ Q :=
  AO.light (Lt.loadON (sz := sz) rfl (h.h rfl _) hb.h hr ho hs hc) (by rw [hd.h]; exact k)
theorem AO.stR (rows' : List (List AV)) [tg : TG P t gg sz'] [h : EC true l x (.optr (n + kk) ep i off)] [gb : GB L kk (.row bt sz ep rows)] [h' : EC true l y av0] [hv : PVc av0 ps] [hn : LN ps sz'] (hi : i < rows.length ∧ off + sz' ≤ sz) (hr : rows.set i (layAt (rows.getD i []) off ps) = rows') [sb : SB L kk (some (.row bt sz ep rows')) L'] (k : AO P base ops rest ⟨l, Hn n L'⟩ Q) : AO P base ops (⟨none, .store t x y, ty, pos, af, none⟩ :: rest) ⟨l, Hn n L⟩ Q := by
  subst hr
  have hs : HS P (.store t x y) l (Hn n L) (Hn n L') (i < rows.length ∧ off + sz' ≤ sz) := inferInstance
  exact AO.heavy rfl (hs.h hi base ty pos af none) fun s1 h1 => by subst h1; exact k
end
class ASJ (X : List (Option AB)) (j : Nat) (L : outParam (List (Option AB))) (T : outParam (List (Option AB))) : Prop where
  h : X = (L ++ List.replicate j none) ++ T
instance (priority := high) asjSelf {L T : List (Option AB)} {j : Nat} : ASJ ((L ++ List.replicate j none) ++ T) j L T := ⟨rfl⟩
instance asjMore {A B L T : List (Option AB)} {j : Nat} [h : ASJ A j L T] : ASJ (A ++ B) j L (T ++ B) := ⟨by rw [h.h, List.append_assoc]⟩
section
variable {α : Type} {P : Program} {base : Cx} {l lm : List AV} {Q : Exit → St → Prop}
theorem AW.backE (m : List KP) [mk : MK l m lm] {l1 : α → List AV} {H1 : α → List (Option AB)} {I : Nat → α → Prop} {n nn : Nat} {X T L : List (Option AB)} (j : Nat) [as : ASJ X j L T] (n' : Nat) (x' : α) (hn : n' < n) (hI : I n' x') (hl : lm = l1 x') (hH : Hn nn ((L ++ List.replicate (j + T.length) none) ++ []) = H1 x') :
    ∃ s2, Gh base ⟨l, Hn nn X⟩ s2 ∧ LU l1 H1 I n Q .normal s2 := by
  haveI : ASC X (L ++ List.replicate j none) T := ⟨as.h⟩
  exact AW.backD m L j n' x' hn hI hl hH
end
end Go.Proofs.YtdniaamhbfadnaaGreat.AL
namespace Go.Proofs.YtdniaamhbfadnaaGreat.AL
open Go Go.RowKit
set_option linter.unusedVariables false
set_option linter.unusedSimpArgs false
instance (priority := low) pbAbs {L : List (Option AB)} {z : Nat} {b : Option AB} [h : LEN L z] : PB L b (zadd z 0) (L ++ [b]) := ⟨rfl, by rw [h.h]; rfl⟩
theorem Gh.dropT {base : Cx} {l : List AV} {n : Nat} {L T : List (Option AB)} : Gh base ⟨l, Hn n (L ++ T)⟩ ⟨l, Hn n (L ++ List.replicate T.length none)⟩ := by
  have h := Gh.dead (base := base) (l := l) (n := n) (j := 0) (L := L) (T := T)
  simpa using h
end Go.Proofs.YtdniaamhbfadnaaGreat.AL
namespace Go.Proofs.YtdniaamhbfadnaaGreat.AL
open Go Go.RowKit
set_option linter.unusedVariables false
set_option linter.unusedSimpArgs false
@[reducible] def NoU8 : AV → Bool
  | .rd _ _ => true
  | .own _ _ _ _ => true
  | .omap _ => true
  | .v (.int .u8 _) => false
  | .v _ => true
  | _ => false
theorem noU8 {E : Env} {av : AV} {x : Value} (h : NoU8 av = true) (hv : VR E av x) (p : Int) : x ≠ .int .u8 p := by
  rintro rfl
  cases av with
  | any => cases h
  | v y => cases hv; cases h
  | rd sz rows => cases hv
  | own id ep off n => cases hv with | own _ hs => obtain ⟨A, c, h1⟩ := hs; cases h1
  | eptr cs => cases h
  | optr id ep i off => cases h
  | box id off => cases h
  | agg cs => cases h
  | tup vs => cases h
  | fn f cs => cases h
  | omap id => cases hv with | omap _ hs => obtain ⟨r, h1⟩ := hs; cases h1
  | bsl id off n => cases h
/-- What a result may be that is no pointer into what was handed in. -/
class PlainR (av : AV) : Prop where
  h : ∀ (E E' : Env) (x : Value), E'.w = E.w → (∀ g, E'.mine g → E.mine g ∨ ∀ (ad : Addr) (p : Int), ad.block = g → E.w.cell? ad ≠ some (.int .u8 p)) → VR E av x → VR E' av x
instance plainV {x : Value} : PlainR (.v x) := ⟨fun E E' y _ _ h => by cases h; exact .v _⟩
instance plainB {li : List Int} : PlainR (.rd 1 (bys li)) := ⟨fun E E' y hw hm h => by
  cases h with
  | rd u hc hmx hz hA hu =>
    refine .rd u hc hmx hz (fun h0 => ?_) (fun i row j av hi hj => ?_)
    · obtain ⟨ad, rfl, h1, h2, h3⟩ := hA h0
      refine ⟨ad, rfl, fun h => ?_, by rw [hw]; exact h2, fun i row j av hi hj => by rw [hw]; exact h3 i row j av hi hj⟩
      rcases hm _ h with h4 | h4
      · exact h1 h4
      · have hl : 0 < li.length := by rw [bys_length] at h0; exact h0
        have hr : (bys li)[0]? = some [.v (.int .u8 (li.getD 0 0))] := by
          unfold bys; rw [List.getElem?_map, List.getElem?_eq_getElem hl, List.getD_eq_getElem?_getD, List.getElem?_eq_getElem hl]; rfl
        have h5 := h3 0 _ 0 _ hr rfl
        have h6 := hu 0 _ 0 _ hr rfl
        generalize u 0 0 = z at h5 h6
        cases h6
        exact h4 _ _ (by simp [Addr.add]) h5.1
    · have h1 := hu i row j av hi hj
      have hrow : ∃ p : Int, row = [.v (.int .u8 p)] := by
        unfold bys at hi
        rw [List.getElem?_map] at hi
        cases hq : li[i]? with
        | none => rw [hq] at hi; cases hi
        | some p => rw [hq] at hi; exact ⟨p, (Option.some.inj hi).symm⟩
      obtain ⟨p, rfl⟩ := hrow
      cases j with
      | zero =>
        obtain rfl := Option.some.inj hj
        generalize u i 0 = z at h1 ⊢
        cases h1; exact .v _
      | succ j => cases hj⟩
section
variable {P : Program} {base : Cx} {s : St}
theorem HvK.callB {d : Option Tmp} {f : FuncId} {fn : Func} {as : List Operand} {ts : Array TypeId} {ty : TypeId} {pos : String} {af : Array Edge} {gd : Option (Nat × Bool)} {rest : List AV} {av : AV} {id : Nat} {bt : TypeId} {cs : List AV} (cs' : List AV) (hf : P.funcs[f]? = some fn) (hname : (fn.name == "runtime.NumGoroutine") = false) (hb : fn.body.isSome = true)
    (ha : as.map (ev s) = .box id 0 :: rest) (hg : ∀ av ∈ rest, Gen s.H.length av) (hH : s.H[id]? = some (some (.box bt cs))) (hc : ∃ t, cs = cs' ++ t) (hcg : ∀ av ∈ cs', Gen s.H.length av) (h8 : (cs.all NoU8) = true) (h : A0 P f (.eptr cs' :: rest) (fun r => r = av)) [pr : PlainR av] :
    HvK P base ⟨d, .call { callee := .value (.func f), args := as.toArray, argTypes := ts }, ty, pos, af, gd⟩ s (fun s' => s' = s.put d av) := by
  intro σ a w hr Q K hk
  unfold Oper.wp
  rw [run_call hf hname hb]
  let n := s.H.length
  obtain ⟨g0, us, q1, q2, q3, q4⟩ := hr.1.live _ _ hH
  have q1 : σ id = .pointer (some ⟨g0, 0, none⟩) := q1
  have q3 : w.heap[g0]? = some (.cells ⟨us⟩ bt (0, 0)) := q3
  have hlt0 : g0 < w.heap.size := (Array.getElem?_eq_some_iff.1 q3).1
  let F' : Nat → Prop := fun g => Env.mine ⟨w, s.H, σ, base.F⟩ g ∧ g ≠ g0
  have hbs : base.b ≤ w.heap.size := hr.1.bs
  have hF' : ∀ g, F' g → g < w.heap.size := by
    rintro g ⟨⟨id, b, h1, h2⟩ | h1, _⟩
    · exact (blk_lt hr.1 h1 h2).2
    · exact hr.1.far g h1
  have hheap : Heap ⟨w.heap.size, F'⟩ ⟨w, List.replicate n none, σ, F'⟩ := by
    refine ⟨Nat.le_refl _, hF', fun g h => (ours_none g h).elim, fun id b h => (rep_none h).elim, fun id id' b b' g h1 h2 h3 h4 => (rep_none h1).elim⟩
  have hnone : ∀ id, n ≤ id → s.H[id]? = none := fun id h => List.getElem?_eq_none h
  have hrep : ∀ id, n ≤ id → (List.replicate n (none : Option AB))[id]? = none := fun id h => List.getElem?_eq_none (by simpa using h)
  have hmv : ∀ (av : AV) (x : Value), Gen n av → VR ⟨w, s.H, σ, base.F⟩ av x → VR ⟨w, List.replicate n none, σ, F'⟩ av x := fun av x hgn hv => by
    refine VR.move (E := ⟨w, s.H, σ, base.F⟩) (E' := ⟨w, List.replicate n none, σ, F'⟩) (n := n) rfl (fun g hm => ?_) (by show s.H.length ≤ (List.replicate n (none : Option AB)).length; simp [n]) (fun id hid => ?_) (fun _ _ => rfl) hv hgn
    · rcases hm with hm | hm
      · exact (ours_none g hm).elim
      · exact hm.1
    · show (List.replicate n (none : Option AB))[id]? = s.H[id]?
      rw [hnone id hid, hrep id hid]
  have hlen : as.length = rest.length + 1 := by have := congrArg List.length ha; simpa using this
  refine (h n ⟨w.heap.size, F'⟩ σ w (as.map a.eval) hheap (by simpa using hlen) (fun j av x h1 h2 => ?_)).mono ?_
  · have hao := fun av h => args_ok hr as j av x h h2
    rw [ha] at hao
    cases j with
    | zero =>
      obtain rfl := Option.some.inj h1
      have h3 := hao _ rfl
      have h4 : x = .pointer (some ⟨g0, 0, none⟩) := by
        cases h3 with
        | box hb _ =>
          obtain ⟨ad, e1, e2⟩ := hb.2 bt cs hH
          have e1 : σ id = .pointer (some ad) := e1
          rw [q1] at e1
          cases e1
          simpa [Addr.add] using e2
      subst h4
      obtain ⟨t, rfl⟩ := hc
      have hus : us.length = (cs' ++ t).length := q4.1
      refine .eptr (fun j => us.getD j undef) (fun hm => ?_) hlt0 (fun j av hj => ?_) (fun j av hj => ?_)
      · rcases hm with hm | hm
        · exact (ours_none _ hm).elim
        · exact hm.2 rfl
      · have hjl : j < cs'.length := (List.getElem?_eq_some_iff.1 hj).1
        have hju : j < us.length := by rw [hus, List.length_append]; omega
        have hu : us[j]? = some (us.getD j undef) := by simp [hju]
        refine ⟨?_, q4.2.1 _ (List.mem_of_getElem? hu)⟩
        rw [add_plain, Nat.zero_add]
        unfold World.cell?
        simp only [q3]
        simpa using hu
      · have hjl : j < cs'.length := (List.getElem?_eq_some_iff.1 hj).1
        have hju : j < us.length := by rw [hus, List.length_append]; omega
        refine hmv av _ (hcg av (List.mem_of_getElem? hj)) (q4.2.2 j av _ (by rw [List.getElem?_append_left hjl]; exact hj) ?_)
        simp [hju]
    | succ j =>
      have h1 : rest[j]? = some av := by simpa using h1
      exact hmv av x (hg av (List.mem_of_getElem? h1)) (hao av (by simpa using h1))
  rintro e w' ⟨x, r, H', σ', h1, h2, h3, h4, h5, h6⟩
  subst h1
  subst h6
  have hkeep : ∀ k, k < w.heap.size → w'.heap[k]? = w.heap[k]? := fun k hk => h3.keep k hk (ours_none k)
  have hsize : w.heap.size ≤ w'.heap.size := h3.size
  have hext : Ext ⟨w, s.H, σ, base.F⟩ ⟨w', s.H, σ, base.F⟩ :=
    ⟨h3.os, h3.tape, h3.output, hsize, rfl, fun k hk _ => hkeep k hk, fun k hk _ => hk, Nat.le_refl _, fun id e sz ep rows' h6 _ => ⟨ep, rows', h6, .inr ⟨rfl, rfl, rfl⟩⟩, fun id t cs' h6 _ => ⟨cs', h6, rfl, rfl⟩, fun id es' h6 _ => ⟨es', h6, rfl⟩⟩
  have hheap2 : Heap base ⟨w', s.H, σ, base.F⟩ :=
    ⟨Nat.le_trans hbs hsize, fun g hf => Nat.lt_of_lt_of_le (hr.1.far g hf) hsize, hr.1.clear, fun id b h6 => (hr.1.live id b h6).keep hext rfl fun g hg => hkeep g (blk_lt hr.1 h6 hg).2, hr.1.apart⟩
  have hrel : Rel base σ s a w' := ⟨hheap2, hr.2.1.ext hext, hr.2.2⟩
  refine hk σ _ _ w' (hrel.put d (pr.h ⟨w', H', σ', F'⟩ ⟨w', s.H, σ, base.F⟩ x rfl (fun g hg => ?_) h4)) (by rw [put_H]; exact hext) ⟨hsize, hkeep⟩ rfl
  by_cases hg0 : g = g0
  · refine .inr fun ad p hb hcell => ?_
    subst hb
    have hw : w'.heap[ad.block]? = some (.cells ⟨us⟩ bt (0, 0)) := by rw [hg0, hkeep _ hlt0]; exact q3
    have hcell : World.cell? w' ad = some (.int .u8 p) := hcell
    unfold World.cell? at hcell
    simp only [hw] at hcell
    split at hcell
    · cases hcell
    · have hu : us[ad.off]? = some (.int .u8 p) := by simpa using hcell
      have hl : ad.off < cs.length := by rw [← q4.1]; exact (List.getElem?_eq_some_iff.1 hu).1
      exact noU8 (List.all_eq_true.1 h8 _ (List.getElem_mem hl)) (q4.2.2 ad.off _ _ (List.getElem?_eq_getElem hl) hu) p rfl
  · exact .inl (.inr ⟨hg, hg0⟩)
end
section
variable {P : Program} {base : Cx} {l l' : List AV} {Q : Exit → St → Prop} {os : List Oper} {as : List Operand} {ops : Array Oper} {rest : List Oper} {d : Option Tmp} {t : TypeId} {pos : String} {af : Array Edge} {av : AV} {f : FuncId} {fn : Func} {ts : Array TypeId} {ra cs : List AV} {n k i j u : Nat} {L : List (Option AB)} {bt : TypeId} {want c : Bool} {ds : List Nat} {rst : OT}
theorem AO.callB (cs' : List AV) (hf : P.funcs[f]? = some fn) (hname : (fn.name == "runtime.NumGoroutine") = false) (hb : fn.body.isSome = true)
    [ha : ARG l as (.box (n + k) 0 :: ra)] [hga : GA (Hn n L).length ra] [gb : GB L k (.box bt cs)] (h : A0 P f (.eptr cs' :: ra) (fun r => r = av)) (hc : ∃ t, cs = cs' ++ t) (h8 : (cs.all NoU8) = true) [hg' : GA (Hn n L).length cs'] [pr : PlainR av] [hd : DL l d av l'] (kk : AO P base ops rest ⟨l', Hn n L⟩ Q) : AO P base ops (⟨d, .call { callee := .value (.func f), args := as.toArray, argTypes := ts }, t, pos, af, none⟩ :: rest) ⟨l, Hn n L⟩ Q := by
  refine AO.heavy rfl (HvK.callB (s := ⟨l, Hn n L⟩) cs' hf hname hb (ha.h (Hn n L)) hga.h (by show (Hn n L)[n + k]? = _; rw [Hn_get]; exact gb.h) hc hg'.h h8 h).hv fun s1 h1 => ?_
  subst h1; rw [hd.h]; exact kk
theorem AZ.callB (cs' : List AV) (hi : ops[i]? = some ⟨d, .call { callee := .value (.func f), args := as.toArray, argTypes := ts }, t, pos, af, none⟩) (hf : P.funcs[f]? = some fn) (hname : (fn.name == "runtime.NumGoroutine") = false) (hb : fn.body.isSome = true)
    [ha : ARG l as (.box (n + k) 0 :: ra)] [hga : GA (Hn n L).length ra] [gb : GB L k (.box bt cs)] (h : A0 P f (.eptr cs' :: ra) (fun r => r = av)) (hc : ∃ t, cs = cs' ++ t) (h8 : (cs.all NoU8) = true) [hg' : GA (Hn n L).length cs'] [pr : PlainR av] [hd : DL l d av l'] (kk : AZ P base ops ds rst ⟨l', Hn n L⟩ Q) : AZ P base ops ds (.one i true rst) ⟨l, Hn n L⟩ Q := by
  refine AZ.heavy hi rfl (HvK.callB (s := ⟨l, Hn n L⟩) cs' hf hname hb (ha.h (Hn n L)) hga.h (by show (Hn n L)[n + k]? = _; rw [Hn_get]; exact gb.h) hc hg'.h h8 h) fun s1 h1 => ?_
  subst h1; rw [hd.h]; exact kk
theorem AZi.callB (cs' : List AV) (hi : ops[i]? = some ⟨d, .call { callee := .value (.func f), args := as.toArray, argTypes := ts }, t, pos, af, none⟩) (hf : P.funcs[f]? = some fn) (hname : (fn.name == "runtime.NumGoroutine") = false) (hb : fn.body.isSome = true)
    [ha : ARG l as (.box (n + k) 0 :: ra)] [hga : GA (Hn n L).length ra] [gb : GB L k (.box bt cs)] (h : A0 P f (.eptr cs' :: ra) (fun r => r = av)) (hc : ∃ t, cs = cs' ++ t) (h8 : (cs.all NoU8) = true) [hg' : GA (Hn n L).length cs'] [pr : PlainR av] [hd : DL l d av l'] (kk : AZ P base ops ds rst ⟨l', Hn n L⟩ Q) : AZi P base ops ds i rst ⟨l, Hn n L⟩ Q := by
  refine AZi.heavy hi rfl (HvK.callB (s := ⟨l, Hn n L⟩) cs' hf hname hb (ha.h (Hn n L)) hga.h (by show (Hn n L)[n + k]? = _; rw [Hn_get]; exact gb.h) hc hg'.h h8 h) fun s1 h1 => ?_
  subst h1; rw [hd.h]; exact kk
theorem AO.gxcallB (cs' : List AV) [ho : DO os j u] [gx : GX l u want c] (hf : P.funcs[f]? = some fn) (hname : (fn.name == "runtime.NumGoroutine") = false) (hb : fn.body.isSome = true)
    [ha : ARGc c l as (.box (n + k) 0 :: ra)] [hga : GA (Hn n L).length ra] [gb : GB L k (.box bt cs)] (h : c = true → A0 P f (.eptr cs' :: ra) (fun r => r = av)) (hc : ∃ t, cs = cs' ++ t) (h8 : (cs.all NoU8) = true) [hg' : GA (Hn n L).length cs'] [pr : PlainR av] [hd : DL l d (cv c av) l'] (kk : AO P base os.toArray rest ⟨l', Hn n L⟩ Q) : AO P base os.toArray (⟨d, .call { callee := .value (.func f), args := as.toArray, argTypes := ts }, t, pos, af, some (j, want)⟩ :: rest) ⟨l, Hn n L⟩ Q := by
  refine AO.gxw (c := c) rfl (hd.h (Hn n L)) (fun hcc => ?_) kk
  intro σ a w hr Q' K hk
  exact HvK.callB (s := ⟨l, Hn n L⟩) cs' hf hname hb (ha.h hcc (Hn n L)) hga.h (by show (Hn n L)[n + k]? = _; rw [Hn_get]; exact gb.h) hc hg'.h h8 (h hcc) σ a w hr Q' K fun σ' s' a' w' h1 h2 h3 h4 => hk σ' s' a' w' h1 h2 h4
end
end Go.Proofs.YtdniaamhbfadnaaGreat.AL
namespace Go.Proofs.YtdniaamhbfadnaaGreat.AL
open Go Go.RowKit
set_option linter.unusedVariables false
set_option linter.unusedSimpArgs false
section
variable {P : Program} {base : Cx} {s : St}
theorem Rel.later {σ : Nat → Value} {a : Act} {w w' : World} (hr : Rel base σ s a w) (hk : KeepW w w') (h1 : w'.os = w.os) (h2 : w'.tape = w.tape) (h3 : w'.output = w.output) : Rel base σ s a w' ∧ Ext ⟨w, s.H, σ, base.F⟩ ⟨w', s.H, σ, base.F⟩ := by
  have he : Ext ⟨w, s.H, σ, base.F⟩ ⟨w', s.H, σ, base.F⟩ :=
    ⟨h1, h2, h3, hk.1, rfl, fun k h _ => hk.2 k h, fun k h _ => h, Nat.le_refl _, fun id e sz ep rows' h6 _ => ⟨ep, rows', h6, .inr ⟨rfl, rfl, rfl⟩⟩, fun id t cs' h6 _ => ⟨cs', h6, rfl, rfl⟩, fun id es' h6 _ => ⟨es', h6, rfl⟩⟩
  exact ⟨⟨⟨Nat.le_trans hr.1.bs hk.1, fun g h => Nat.lt_of_lt_of_le (hr.1.far g h) hk.1, hr.1.clear, fun id b h6 => (hr.1.live id b h6).keep he rfl fun g hg' => hk.2 g (blk_lt hr.1 h6 hg').2, hr.1.apart⟩, hr.2.1.ext he, hr.2.2⟩, he⟩
theorem HvK.b0 {d : Option Tmp} {t e ty : TypeId} {sz : Nat} {pos : String} {af : Array Edge} {g : Option (Nat × Bool)} (hu : P.underlying t = some (.slice e)) (hs : (P.info? e).map (·.size) = some sz) :
    HvK P base ⟨d, .buildSlice t 0 #[], ty, pos, af, g⟩ s (fun s' => ∃ ad, s' = s.put d (.v (.slice (some ad) 0 0))) := by
  intro σ a w hr Q K hk
  unfold Oper.wp
  have hrun : (execOp a.eval ⟨d, .buildSlice t 0 #[], ty, pos, af, g⟩).run P w = .ok (.value (.slice (some ⟨w.heap.size, 0, none⟩) 0 0)) (w.alloc (.cells ⟨[]⟩ e)) := by
    simp [execOp, Instr.buildSlice, run_underlying hu, run_size hs, Instr.fill, newRow, Array.range_zero']
  rw [hrun]
  obtain ⟨h1, h2⟩ := hr.later (keep_alloc w (.cells ⟨[]⟩ e)) rfl rfl rfl
  exact hk σ _ _ _ (h1.put d (.v _)) (by rw [put_H]; exact h2) (keep_alloc _ _) ⟨_, rfl⟩
theorem HvK.app0 {d : Option Tmp} {t e ty : TypeId} {u : Tmp} {y : Operand} {pos : String} {af : Array Edge} {gd : Option (Nat × Bool)} {sz bytes : Nat} {z : Value} {ad : Addr} {rows2 : List (List AV)} (ht : P.underlying t = some (.slice e))
    (hi3 : (P.info? e).map (fun i => (i.zero, i.size, i.bytes)) = some (some z, sz, bytes)) (hzs : z.cells.size = sz) (hsz : 0 < sz) (hx : ev s (.tmp u) = .v (.slice (some ad) 0 0)) (hy : ev s y = .rd sz rows2) (hb : rows2.length * bytes ≤ 140737488355328) (h63 : rows2.length ≤ maxLen) :
    HvK P base ⟨d, .call { callee := .builtin .append, args := #[.tmp u, y], argTypes := #[t, t] }, ty, pos, af, gd⟩ s (fun s' => s' = (⟨s.fr.set u .any, s.H⟩ : St).put d (.rd sz rows2)) := by
  intro σ a w hr Q K hk
  have hr0 : Rel base σ ⟨s.fr.set u .any, s.H⟩ a w := ⟨hr.1, ⟨by simpa using hr.2.1.1, fun i av hi => by
    have hi : (s.fr.set u .any)[i]? = some av := hi
    by_cases he : u = i
    · subst he
      have hl : u < s.fr.length := by have := (List.getElem?_eq_some_iff.1 hi).1; simpa using this
      rw [List.getElem?_set_self hl] at hi
      obtain rfl := Option.some.inj hi
      obtain ⟨x, h1, _⟩ := hr.2.1.2 u _ (List.getElem?_eq_getElem hl)
      exact ⟨x, h1, .any x⟩
    · rw [List.getElem?_set_ne he] at hi
      exact hr.2.1.2 i av hi⟩, hr.2.2⟩
  obtain ⟨i, hi0, hz, hs, hby⟩ := info_parts hi3
  have ex := ev_v hr hx
  obtain ⟨B0, c1, ys, hy0, hys, hya⟩ := Src.rd (base := base) hy σ a w hr
  unfold Oper.wp
  rcases Nat.eq_zero_or_pos rows2.length with h0 | h0
  · have h20 : rows2 = [] := List.length_eq_zero_iff.1 h0
    have hrun : (execOp a.eval ⟨d, .call { callee := .builtin .append, args := #[.tmp u, y], argTypes := #[t, t] }, ty, pos, af, gd⟩).run P w = .ok (.value (.slice (some ad) 0 0)) w := by
      simp only [execOp, resolve, Sem.run_bind, Sem.run_pure, Result.andThen_ok, invoke, builtin, List.map_toArray, List.map_cons, List.map_nil, ex, hy0]
      rw [run_append_none ht hi0 h0 w]
      simp only [Result.andThen_ok]
    rw [hrun]
    subst h20
    refine hk σ _ _ w (hr0.put d (.rd (fun _ _ => undef) (Nat.le_refl _) (by simp) (fun row h => by cases h) (fun h => by simp at h) (fun i row j av h => by simp at h))) (by rw [put_H]; exact Ext.refl _) (KeepW.refl w) rfl
  · obtain ⟨bd, rfl, hcell⟩ := hya h0
    obtain ⟨v', w', hrun, r1, r2⟩ := run_append_arg_grows (P := P) w t ty e i z sz bytes ht hi0 hz hs hby hzs hsz ad 0 0 [] (by simp) (fun j u h => by simp at h) bd rows2.length c1 ys hys.2.1 hcell (by omega) (by rw [Nat.zero_add]; exact h63) (by rw [Nat.zero_add]; exact hb)
    have hrun' : (execOp a.eval ⟨d, .call { callee := .builtin .append, args := #[.tmp u, y], argTypes := #[t, t] }, ty, pos, af, gd⟩).run P w = .ok (.value v') w' := by
      simp only [execOp, resolve, Sem.run_bind, Sem.run_pure, Result.andThen_ok, invoke, builtin, List.map_toArray, List.map_cons, List.map_nil, ex, hy0, hrun]
    rw [hrun']
    rw [Nat.zero_add, List.nil_append] at r1
    obtain ⟨q1, q2⟩ := grown_rd (s := ⟨s.fr.set u .any, s.H⟩) hr0 hys h63 r1 r2 h0 d
    exact hk σ _ _ w' q1 (by rw [put_H]; exact q2) ⟨r2.size, fun k hk => r2.block k hk (by simp)⟩ rfl
end
section
variable {P : Program} {base : Cx} {l : List AV} {l' : List AV} {H : List (Option AB)} {Q : Exit → St → Prop} {ops : Array Oper} {rest : List Oper} {d : Option Tmp} {t e ty : TypeId} {pos : String} {af : Array Edge} {sz bytes i : Nat} {z : Value} {ds : List Nat} {rst : OT} {y : Operand} {u : Tmp} {l1 : List AV} {ad : Addr} {rows2 : List (List AV)}
theorem AO.b0 {lx : Addr → List AV} {g : Bool} [tu : TU P t (.slice e)] [tg : TG P e g sz] [hd : ∀ ad, DL l d (.v (.slice (some ad) 0 0)) (lx ad)] (k : ∀ ad, AO P base ops rest ⟨lx ad, H⟩ Q) : AO P base ops (⟨d, .buildSlice t 0 #[], ty, pos, af, none⟩ :: rest) ⟨l, H⟩ Q :=
  AO.heavy rfl (HvK.b0 (s := ⟨l, H⟩) tu.h (TG.s (g := g))).hv fun s1 ⟨ad, h⟩ => by subst h; rw [(hd ad).h]; exact k ad
theorem AZ.b0 {lx : Addr → List AV} {g : Bool} (hi : ops[i]? = some ⟨d, .buildSlice t 0 #[], ty, pos, af, none⟩) [tu : TU P t (.slice e)] [tg : TG P e g sz] [hd : ∀ ad, DL l d (.v (.slice (some ad) 0 0)) (lx ad)] (k : ∀ ad, AZ P base ops ds rst ⟨lx ad, H⟩ Q) : AZ P base ops ds (.one i true rst) ⟨l, H⟩ Q :=
  AZ.heavy hi rfl (HvK.b0 (s := ⟨l, H⟩) tu.h (TG.s (g := g))) fun s1 ⟨ad, h⟩ => by subst h; rw [(hd ad).h]; exact k ad
theorem AZi.b0 {lx : Addr → List AV} {g : Bool} (hi : ops[i]? = some ⟨d, .buildSlice t 0 #[], ty, pos, af, none⟩) [tu : TU P t (.slice e)] [tg : TG P e g sz] [hd : ∀ ad, DL l d (.v (.slice (some ad) 0 0)) (lx ad)] (k : ∀ ad, AZ P base ops ds rst ⟨lx ad, H⟩ Q) : AZi P base ops ds i rst ⟨l, H⟩ Q :=
  AZi.heavy hi rfl (HvK.b0 (s := ⟨l, H⟩) tu.h (TG.s (g := g))) fun s1 ⟨ad, h⟩ => by subst h; rw [(hd ad).h]; exact k ad
theorem AO.app0 [tu : TU P t (.slice e)] [ti : TI P e z sz bytes] [hx : EC true l (.tmp u) (.v (.slice (some ad) 0 0))] [hy : EC true l y (.rd sz rows2)] [sl : SL l u .any l1] [hd : DL l1 d (.rd sz rows2) l'] (hz : ((z.cells.size == sz) && Nat.blt 0 sz) = true) (hb : rows2.length * bytes ≤ 140737488355328) (h63 : rows2.length ≤ 9223372036854775807) (k : AO P base ops rest ⟨l', H⟩ Q) : AO P base ops (⟨d, .call { callee := .builtin .append, args := #[.tmp u, y], argTypes := #[t, t] }, ty, pos, af, none⟩ :: rest) ⟨l, H⟩ Q := by
  simp only [Bool.and_eq_true, beq_iff_eq, Nat.blt_eq] at hz
  exact AO.heavy rfl (HvK.app0 (s := ⟨l, H⟩) tu.h ti.h hz.1 hz.2 (hx.h rfl H) (hy.h rfl H) hb (by unfold maxLen; omega)).hv fun s1 h => by
    subst h
    show AO P base ops rest ((⟨l.set u .any, H⟩ : St).put d _) Q
    rw [sl.h, hd.h]; exact k
theorem AZ.app0 (hi : ops[i]? = some ⟨d, .call { callee := .builtin .append, args := #[.tmp u, y], argTypes := #[t, t] }, ty, pos, af, none⟩) [tu : TU P t (.slice e)] [ti : TI P e z sz bytes] [hx : EC true l (.tmp u) (.v (.slice (some ad) 0 0))] [hy : EC true l y (.rd sz rows2)] [sl : SL l u .any l1] [hd : DL l1 d (.rd sz rows2) l'] (hz : ((z.cells.size == sz) && Nat.blt 0 sz) = true) (hb : rows2.length * bytes ≤ 140737488355328) (h63 : rows2.length ≤ 9223372036854775807) (k : AZ P base ops ds rst ⟨l', H⟩ Q) : AZ P base ops ds (.one i true rst) ⟨l, H⟩ Q := by
  simp only [Bool.and_eq_true, beq_iff_eq, Nat.blt_eq] at hz
  exact AZ.heavy hi rfl (HvK.app0 (s := ⟨l, H⟩) tu.h ti.h hz.1 hz.2 (hx.h rfl H) (hy.h rfl H) hb (by unfold maxLen; omega)) fun s1 h => by
    subst h
    show AZ P base ops ds rst ((⟨l.set u .any, H⟩ : St).put d _) Q
    rw [sl.h, hd.h]; exact k
end
section
variable {P : Program} {s : St} {c : Bool} {l : List AV} {H : List (Option AB)} {x y : Operand} {ts : Array TypeId} {k k' : IntKind} {p q : Int}
theorem Pu.max2 (hx : ev s x = .v (.int k p)) (hy : ev s y = .v (.int k' q)) : Pu P (.call { callee := .builtin .max, args := #[x, y], argTypes := ts }) s (.v (.int k (max p q))) :=
  Pu.of fun base σ a w hr d t pos af g w' => by
    have e : (if q > p then q else p) = max p q := by omega
    simp [execOp, resolve, invoke, builtin, Builtin.max_, Builtin.max2, ev_v hr hx, ev_v hr hy, e]
instance [h : EC c l x (.v (.int k p))] [h' : EC c l y (.v (.int k' q))] : PC c P (.call { callee := .builtin .max, args := #[x, y], argTypes := ts }) l H (.v (.int k (max p q))) := ⟨fun hc => Pu.max2 (h.h hc H) (h'.h hc H)⟩
end
theorem Gh.dropX {base : Cx} {l : List AV} {n : Nat} {A X T : List (Option AB)} : Gh base ⟨l, Hn n (A ++ (X ++ T))⟩ ⟨l, Hn n ((A ++ X) ++ List.replicate T.length none)⟩ := by
  rw [← List.append_assoc]; exact Gh.dropT
theorem AC.cong {P : Program} {f : FuncId} {H H0 : List (Option AB)} {args : List AV} {R R' : AV → List (Option AB) → Prop} (h : AC P f H args R) (e : H0 = H) (hr : ∀ r H', R r H' → R' r H') : AC P f H0 args R' := by
  subst e; exact h.mono hr
theorem FinC.eqH {P : Program} {base : Cx} {rs : List ResultVar} {R : AV → List (Option AB) → Prop} {l : List AV} {H H' : List (Option AB)} {ex : Exit} (e : H = H') (h : FinC P base rs R ex ⟨l, H'⟩) : FinC P base rs R ex ⟨l, H⟩ := by
  subst e; exact h
end Go.Proofs.YtdniaamhbfadnaaGreat.AL
namespace Go.Proofs.YtdniaamhbfadnaaGreat.AL
open Go Go.RowKit
set_option linter.unusedVariables false
set_option linter.unusedSimpArgs false
section
variable {P : Program} {base : Cx} {l l' : List AV} {H : List (Option AB)} {Q : Exit → St → Prop} {os : List Oper} {rest : OT} {d : Option Tmp} {op : Op} {t : TypeId} {pos : String} {af : Array Edge} {i j u : Nat} {b want : Bool} {ds : List Nat} {av : AV} {ob : Prop}
theorem AZ.sk {hv : Bool} (hi : os.toArray[i]? = some ⟨d, op, t, pos, af, some (j, want)⟩) [ho : DO os j u] [hg : GL l u (.v (.bool b))] (hb : b = !want) [hd : DL l d (.v undef) l'] (k : AZ P base os.toArray ds rest ⟨l', H⟩ Q) : AZ P base os.toArray ds (.one i hv rest) ⟨l, H⟩ Q := by
  subst hb
  exact AZ.gxs hi (.inl hg) (hd.h H) k
theorem AZ.gkc (hi : os.toArray[i]? = some ⟨d, op, t, pos, af, some (j, want)⟩) [ho : DO os j u] [hg : GL l u (.v (.bool b))] (hb : b = want) [hp : LC true P op l H av] [hd : DL l d av l'] (k : AZ P base os.toArray ds rest ⟨l', H⟩ Q) : AZ P base os.toArray ds (.one i false rest) ⟨l, H⟩ Q :=
  AZ.light hi (wanted_some (s := ⟨l, H⟩) (by simpa using ho.h) (hg.ev H) |>.trans (by rw [hb]; simp)) (hp.h rfl) (by rw [hd.h]; exact k)
theorem AZ.gkB {f : FuncId} {fn : Func} {as : List Operand} {ts : Array TypeId} {ra cs : List AV} {n k : Nat} {L : List (Option AB)} {bt : TypeId} (cs' : List AV) (hi : os.toArray[i]? = some ⟨d, .call { callee := .value (.func f), args := as.toArray, argTypes := ts }, t, pos, af, some (j, want)⟩) (hf : P.funcs[f]? = some fn) (hname : (fn.name == "runtime.NumGoroutine") = false) (hb : fn.body.isSome = true)
    [ho : DO os j u] [hg : GL l u (.v (.bool b))] (hbw : b = want) [ha : ARG l as (.box (n + k) 0 :: ra)] [hga : GA (Hn n L).length ra] [gb : GB L k (.box bt cs)] (h : A0 P f (.eptr cs' :: ra) (fun r => r = av)) (hc : ∃ t, cs = cs' ++ t) (h8 : (cs.all NoU8) = true) [hg' : GA (Hn n L).length cs'] [pr : PlainR av] [hd : DL l d av l'] (kk : AZ P base os.toArray ds rest ⟨l', Hn n L⟩ Q) : AZ P base os.toArray ds (.one i true rest) ⟨l, Hn n L⟩ Q := by
  refine AZ.heavy hi (wanted_some (s := ⟨l, Hn n L⟩) (by simpa using ho.h) (hg.ev _) |>.trans (by rw [hbw]; simp)) (HvK.callB (s := ⟨l, Hn n L⟩) cs' hf hname hb (ha.h (Hn n L)) hga.h (by show (Hn n L)[n + k]? = _; rw [Hn_get]; exact gb.h) hc hg'.h h8 h) fun s1 h1 => ?_
  subst h1; rw [hd.h]; exact kk
theorem AZ.gkL {f : FuncId} {fn : Func} {as : List Operand} {ts : Array TypeId} {args : List AV} {H2 : List (Option AB)} (hi : os.toArray[i]? = some ⟨d, .call { callee := .value (.func f), args := as.toArray, argTypes := ts }, t, pos, af, some (j, want)⟩) (hs : ds.contains i = true) (hf : P.funcs[f]? = some fn) (hname : (fn.name == "runtime.NumGoroutine") = false) (hb : fn.body.isSome = true)
    [ho : DO os j u] [hg : GL l u (.v (.bool b))] (hbw : b = want) [ha : ARG l as args] (h : AC P f H args (fun r H' => r = av ∧ H' = H2)) [hd : DL l d av l'] (kk : AZ P base os.toArray ds rest ⟨l', H2⟩ Q) : AZ P base os.toArray ds (.one i true rest) ⟨l, H⟩ Q := by
  refine AZ.last hi hs (wanted_some (s := ⟨l, H⟩) (by simpa using ho.h) (hg.ev _) |>.trans (by rw [hbw]; simp)) (Hv.call (s := ⟨l, H⟩) hf hname hb (ha.h H) h) fun s1 ⟨r, H', h1, h2⟩ => ?_
  obtain ⟨h3, h4⟩ := h1
  subst h3; subst h4; subst h2
  rw [hd.h]; exact kk
end
end Go.Proofs.YtdniaamhbfadnaaGreat.AL
namespace Go.Proofs.YtdniaamhbfadnaaGreat.AL
open Go Go.RowKit
set_option linter.unusedVariables false
set_option linter.unusedSimpArgs false
section
variable {P : Program} {base : Cx} {s : St}
theorem Rel.reRow {σ : Nat → Value} {a : Act} {w : World} {id : Nat} {e : TypeId} {sz ep : Nat} {rows rows' : List (List AV)} (hr : Rel base σ s a w) (hH : s.H[id]? = some (some (.row e sz ep rows))) (hl : rows'.length = rows.length)
    (hc : ∀ xs, w.ownsRow base.b e sz (σ id) rows.length xs → RowsR ⟨w, s.H, σ, base.F⟩ sz rows xs → Ext ⟨w, s.H, σ, base.F⟩ ⟨w, s.H.set id (some (.row e sz ep rows')), σ, base.F⟩ → RowsR ⟨w, s.H.set id (some (.row e sz ep rows')), σ, base.F⟩ sz rows' xs) :
    Rel base σ ⟨s.fr, s.H.set id (some (.row e sz ep rows'))⟩ a w ∧ Ext ⟨w, s.H, σ, base.F⟩ ⟨w, s.H.set id (some (.row e sz ep rows')), σ, base.F⟩ := by
  have hours : ∀ k, Env.ours ⟨w, s.H.set id (some (.row e sz ep rows')), σ, base.F⟩ k → Env.ours ⟨w, s.H, σ, base.F⟩ k := by
    rintro k ⟨i, b, h1, h2⟩
    rcases set_some h1 with ⟨rfl, _⟩ | ⟨_, h3⟩
    · exact ⟨i, _, hH, h2⟩
    · exact ⟨i, b, h3, h2⟩
  have he : Ext ⟨w, s.H, σ, base.F⟩ ⟨w, s.H.set id (some (.row e sz ep rows')), σ, base.F⟩ := by
    refine ⟨rfl, rfl, rfl, Nat.le_refl _, rfl, fun k _ _ => rfl, fun k h _ => hours k h, by simp, fun i e sz ep rows' h1 _ => ?_, fun i t2 cs2 h1 _ => ?_, fun i es' h1 _ => ?_⟩
    · rcases set_some h1 with ⟨rfl, h3⟩ | ⟨_, h3⟩
      · cases h3; exact ⟨_, rows, hH, .inr ⟨rfl, rfl, hl⟩⟩
      · exact ⟨ep, rows', h3, .inr ⟨rfl, rfl, rfl⟩⟩
    · rcases set_some h1 with ⟨_, h3⟩ | ⟨_, h3⟩
      · cases h3
      · exact ⟨cs2, h3, rfl, rfl⟩
    · rcases set_some h1 with ⟨_, h3⟩ | ⟨_, h3⟩
      · cases h3
      · exact ⟨es', h3, rfl⟩
  refine ⟨⟨⟨hr.1.bs, hr.1.far, fun g h => hr.1.clear g (hours g h), fun i b h1 => ?_, fun i i' b b' g h1 h2 h3 h4 => ?_⟩, hr.2.1.ext he, hr.2.2⟩, he⟩
  · rcases set_some h1 with ⟨rfl, rfl⟩ | ⟨_, h3⟩
    · obtain ⟨xs, q1, q2⟩ := hr.1.live i _ hH
      exact ⟨xs, by rw [hl]; exact q1, hc xs q1 q2 he⟩
    · exact (hr.1.live i b h3).keep he rfl fun _ _ => rfl
  · rcases set_some h1 with ⟨rfl, _⟩ | ⟨_, k1⟩ <;> rcases set_some h2 with ⟨rfl, _⟩ | ⟨_, k2⟩
    · rfl
    · exact hr.1.apart i i' _ _ g hH k2 h3 h4
    · exact hr.1.apart i i' _ _ g k1 hH h3 h4
    · exact hr.1.apart i i' _ _ g k1 k2 h3 h4
/-- Rows of which one cell is told otherwise. -/
theorem RowsR.cell {E E' : Env} {sz r c : Nat} {rows : List (List AV)} {xs : List Value} {row : List AV} {av' : AV} (h : RowsR E sz rows xs) (he : Ext E E') (hr : rows[r]? = some row) (hv : ∀ x, (∃ av, row[c]? = some av ∧ VR E av x) → VR E' av' x) : RowsR E' sz (rows.set r (row.set c av')) xs := by
  refine ⟨fun q hq => ?_, by rw [List.length_set]; exact h.2.1, h.2.2.1, fun i q j av hi hj => ?_⟩
  · rcases List.mem_or_eq_of_mem_set hq with hq | rfl
    · exact h.1 q hq
    · rw [List.length_set]; exact h.1 row (List.mem_of_getElem? hr)
  · by_cases hri : r = i
    · subst hri
      rw [List.getElem?_set_self (List.getElem?_eq_some_iff.1 hr).1] at hi
      obtain rfl := Option.some.inj hi
      by_cases hcj : c = j
      · subst hcj
        have hlt : c < row.length := by have := (List.getElem?_eq_some_iff.1 hj).1; simpa using this
        rw [List.getElem?_set_self hlt] at hj
        obtain rfl := Option.some.inj hj
        obtain ⟨x, h1, h2⟩ := h.2.2.2 r row c _ hr (List.getElem?_eq_getElem hlt)
        exact ⟨x, h1, hv x ⟨_, List.getElem?_eq_getElem hlt, h2⟩⟩
      · rw [List.getElem?_set_ne hcj] at hj
        obtain ⟨x, h1, h2⟩ := h.2.2.2 r row j av hr hj
        exact ⟨x, h1, h2.ext he⟩
    · rw [List.getElem?_set_ne hri] at hi
      obtain ⟨x, h1, h2⟩ := h.2.2.2 i q j av hi hj
      exact ⟨x, h1, h2.ext he⟩
end
theorem owns_same {w : World} {bb : Nat} {e : TypeId} {sz n : Nat} {v : Value} {xs ys : List Value} (h : w.ownsRow bb e sz v n xs) (h' : w.ownsRow bb e sz v n ys) (hl : xs.length = ys.length) : xs = ys := by
  rcases h.2 with ⟨rfl, h7⟩ | ⟨g, cap, cur, rfl, _⟩
  · have h1 := h.1
    subst h7
    have e1 : xs = [] := List.eq_nil_of_length_eq_zero (by simpa using h1)
    subst e1
    exact (List.eq_nil_of_length_eq_zero hl.symm).symm
  · apply List.ext_getElem? 
    intro j
    by_cases hj : j < xs.length
    · have c1 := h.cells (g := g) rfl j xs[j] (List.getElem?_eq_getElem hj)
      have c2 := h'.cells (g := g) rfl j (ys[j]'(by omega)) (List.getElem?_eq_getElem (by omega))
      rw [List.getElem?_eq_getElem hj, List.getElem?_eq_getElem (by omega), ← c1, c2]
    · rw [List.getElem?_eq_none (by omega), List.getElem?_eq_none (by omega)]
section
variable {base : Cx}
/-- A nil slice in a row's cell is a row of the call's own that has nothing. -/
theorem Gh.adoptR {n m sz ep : Nat} {L L' L'' : List (Option AB)} {l : List AV} {bt : TypeId} {rows rows2 : List (List AV)} {row : List AV} (k r c : Nat) (e : TypeId) (esz : Nat) [gb : GB L k (.row bt sz ep rows)] (hrow : rows[r]? = some row) (hcell : row[c]? = some (.v (.slice none 0 0))) [pb : PB L (some (.row e esz 0 [])) m L'] (h2 : rows.set r (row.set c (.own (n + m) 0 0 0)) = rows2) [sb : SB L' k (some (.row bt sz ep rows2)) L''] : Gh base ⟨l, Hn n L⟩ ⟨l, Hn n L''⟩ := fun σ a w hr => by
  subst h2
  have hv : ∀ g, blkOf (.slice none 0 0) = some g → w.heap.size ≤ g := fun g hg => by cases hg
  have he := Ext.push (base := base) (w := w) (w1 := w) (H := Hn n L) (σ := σ) (.row e esz 0 []) (.slice none 0 0) rfl rfl rfl (KeepW.refl w) hv
  have hHp := hr.1.push he (KeepW.refl w) hv (b := .row e esz 0 []) ⟨[], ⟨by simp, .inl ⟨by simp [pushσ], rfl⟩⟩, RowsR.nil _ _⟩
  have e0 : (Hn n L).length = n + m := by rw [Hn_len, pb.k]
  have hr1 : Rel base (pushσ σ (Hn n L).length (.slice none 0 0)) ⟨l, Hn n L ++ [some (.row e esz 0 [])]⟩ a w := ⟨hHp, hr.2.1.ext he, hr.2.2⟩
  have hk : k < L.length := (List.getElem?_eq_some_iff.1 gb.h).1
  have hH : (Hn n L ++ [some (AB.row e esz 0 [])])[n + k]? = some (some (.row bt sz ep rows)) := by
    rw [List.getElem?_append_left (by rw [Hn_len]; omega), Hn_get]; exact gb.h
  have hm : m = L.length := pb.k.symm
  have h := Rel.reRow (s := ⟨l, Hn n L ++ [some (.row e esz 0 [])]⟩) (id := n + k) (rows' := rows.set r (row.set c (.own (n + m) 0 0 0))) hr1 hH (by simp) (fun xs _ hxs he2 => hxs.cell he2 hrow (fun x ⟨av, h1, h3⟩ => by
    rw [hcell] at h1
    obtain rfl := Option.some.inj h1
    cases h3
    refine .own ⟨?_, fun e' sz' ep' rows' h4 => ?_⟩ ⟨none, 0, rfl⟩
    · show n + m < ((Hn n L ++ [some (AB.row e esz 0 [])]).set (n + k) _).length
      rw [List.length_set, List.length_append, e0]; simp
    · have h4 : ((Hn n L ++ [some (AB.row e esz 0 [])]).set (n + k) _)[n + m]? = some (some (.row e' sz' ep' rows')) := h4
      rw [List.getElem?_set_ne (by omega), List.getElem?_append_right (by omega), e0, Nat.sub_self] at h4
      simp at h4
      obtain ⟨rfl, rfl, rfl, rfl⟩ := h4
      exact ⟨Nat.le_refl _, fun _ => ⟨by simp, none, 0, none, by simp [pushσ, e0], by simp, by simp, by simp⟩⟩))
  have e1 : (Hn n L ++ [some (AB.row e esz 0 [])]).set (n + k) (some (AB.row bt sz ep (rows.set r (row.set c (.own (n + m) 0 0 0))))) = Hn n L'' := by
    rw [Hn_push, pb.h, Hn_set, sb.h]
  simp only [e1] at h
  exact ⟨_, h.1, he.trans h.2⟩
/-- A row of the call's own that stands in a row's cell is not written any more. -/
theorem Gh.freezeR {n ep ep2 len sz esz : Nat} {L L1 L2 : List (Option AB)} {l : List AV} {bt e : TypeId} {rows rows2 rowsE : List (List AV)} {row : List AV} (k m r c : Nat) [gb : GB L k (.row bt sz ep rows)] (hrow : rows[r]? = some row) (hcell : row[c]? = some (.own (n + m) ep2 0 len)) [gr : GB L m (.row e esz ep2 rowsE)] (h2 : rows.set r (row.set c (.rd esz rowsE)) = rows2) [s1 : SB L m none L1] [s2 : SB L1 k (some (.row bt sz ep rows2)) L2] (hl : rowsE.length = len) (hm : rowsE.length ≤ 9223372036854775807) (hne : k ≠ m) :
    Gh base ⟨l, Hn n L⟩ ⟨l, Hn n L2⟩ := fun σ a w hr => by
  subst h2
  have hH : (Hn n L)[n + k]? = some (some (.row bt sz ep rows)) := by rw [Hn_get]; exact gb.h
  have hR : (Hn n L)[n + m]? = some (some (.row e esz ep2 rowsE)) := by rw [Hn_get]; exact gr.h
  have hne : n + m ≠ n + k := by omega
  have hf := Ext.forget (base := base) (w := w) (H := Hn n L) (H' := (Hn n L).set (n + m) none) (σ := σ) (by simp) (fun i b h => (set_none h).1)
  have hr1 : Rel base σ ⟨l, (Hn n L).set (n + m) none⟩ a w := ⟨hr.1.forget (by simp) (fun i b h => (set_none h).1), hr.2.1.ext hf, hr.2.2⟩
  have hH1 : ((Hn n L).set (n + m) none)[n + k]? = some (some (.row bt sz ep rows)) := by rw [List.getElem?_set_ne hne]; exact hH
  obtain ⟨xs0, q1, q2⟩ := hr.1.live _ _ hH
  have h := Rel.reRow (s := ⟨l, (Hn n L).set (n + m) none⟩) (rows' := rows.set r (row.set c (.rd esz rowsE))) hr1 hH1 (by simp) (fun xs hown hxs he2 => ?_)
  · have e1 : ((Hn n L).set (n + m) none).set (n + k) (some (AB.row bt sz ep (rows.set r (row.set c (.rd esz rowsE))))) = Hn n L2 := by rw [Hn_set, s1.h, Hn_set, s2.h]
    simp only [e1] at h
    exact ⟨σ, h.1, hf.trans h.2⟩
  · have q1 : w.ownsRow base.b bt sz (σ (n + k)) rows.length xs0 := q1
    obtain rfl : xs = xs0 := owns_same hown q1 (hxs.2.1.trans q2.2.1.symm)
    refine ⟨fun q hq => ?_, by rw [List.length_set]; exact hxs.2.1, hxs.2.2.1, fun i q j av hi hj => ?_⟩
    · rcases List.mem_or_eq_of_mem_set hq with hq | rfl
      · exact hxs.1 q hq
      · rw [List.length_set]; exact hxs.1 row (List.mem_of_getElem? hrow)
    · by_cases hri : r = i
      · subst hri
        rw [List.getElem?_set_self (List.getElem?_eq_some_iff.1 hrow).1] at hi
        obtain rfl := Option.some.inj hi
        by_cases hcj : c = j
        · subst hcj
          have hlt : c < row.length := by have := (List.getElem?_eq_some_iff.1 hj).1; simpa using this
          rw [List.getElem?_set_self hlt] at hj
          obtain rfl := Option.some.inj hj
          obtain ⟨x, h1, h2⟩ := q2.2.2.2 r row c _ hrow hcell
          have hv := own_rd hr.1 hR h2 (by unfold maxLen; omega)
          rw [List.drop_zero, ← hl, List.take_of_length_le (Nat.le_refl _)] at hv
          exact ⟨x, h1, hv.ext he2⟩
        · rw [List.getElem?_set_ne hcj] at hj
          obtain ⟨x, h1, h2⟩ := hxs.2.2.2 r row j av hrow hj
          exact ⟨x, h1, h2.ext he2⟩
      · rw [List.getElem?_set_ne hri] at hi
        obtain ⟨x, h1, h2⟩ := hxs.2.2.2 i q j av hi hj
        exact ⟨x, h1, h2.ext he2⟩
end
end Go.Proofs.YtdniaamhbfadnaaGreat.AL
namespace Go.Proofs.YtdniaamhbfadnaaGreat.AL
open Go Go.RowKit
set_option linter.unusedVariables false
set_option linter.unusedSimpArgs false
section
variable {P : Program} {base : Cx} {l l' : List AV} {Q : Exit → St → Prop} {ops : Array Oper} {rest : OT} {d : Option Tmp} {t ty bt : TypeId} {pos : String} {af : Array Edge} {x y : Operand} {n kk ep i off sz sz' ix : Nat} {L L' : List (Option AB)} {rows : List (List AV)} {ps : List AV} {av0 : AV} {gg : Bool} {ds : List Nat}
theorem AZ.ldR1 (row : List AV) (av : AV) (hi : ops[ix]? = some ⟨d, .load t x, ty, pos, af, none⟩) [tg : TG P t false sz] [h : EC true l x (.optr (n + kk) ep i off)] [hb : GB L kk (.row bt sz' ep rows)] (hr : rows[i]? = some row) (hv : row[off]? = some av) [hd : DL l d av l'] (k : AZ P base ops ds rest ⟨l', Hn n L⟩ Q) : AZ P base ops ds (.one ix false rest) ⟨l, Hn n L⟩ Q :=
  AZ.light hi rfl (Lt.loadO1 (sz := sz) rfl (h.h rfl _) hb.h hr hv) (by rw [hd.h]; exact k)
theorem AZ.stR (rows' : List (List AV)) (hi' : ops[ix]? = some ⟨none, .store t x y, ty, pos, af, none⟩) (hds : ds.contains ix = true) [tg : TG P t gg sz'] [h : EC true l x (.optr (n + kk) ep i off)] [gb : GB L kk (.row bt sz ep rows)] [h' : EC true l y av0] [hv : PVc av0 ps] [hn : LN ps sz'] (hi : i < rows.length ∧ off + sz' ≤ sz) (hr : rows.set i (layAt (rows.getD i []) off ps) = rows') [sb : SB L kk (some (.row bt sz ep rows')) L'] (k : AZ P base ops ds rest ⟨l, Hn n L'⟩ Q) : AZ P base ops ds (.one ix true rest) ⟨l, Hn n L⟩ Q := by
  subst hr
  have hs : HS P (.store t x y) l (Hn n L) (Hn n L') (i < rows.length ∧ off + sz' ≤ sz) := inferInstance
  exact AZ.last hi' hds rfl (hs.h hi base ty pos af none) fun s1 h1 => by subst h1; exact k
end
section
variable {P : Program} {base : Cx} {l l' : List AV} {Q : Exit → St → Prop} {os : List Oper} {as : List Operand} {rest : OT} {d : Option Tmp} {t : TypeId} {pos : String} {af : Array Edge} {av : AV} {f : FuncId} {fn : Func} {ts : Array TypeId} {ra cs : List AV} {n k i j u : Nat} {L : List (Option AB)} {bt : TypeId} {want c : Bool} {ds : List Nat}
theorem AZ.gxcallB (cs' : List AV) (hi : os.toArray[i]? = some ⟨d, .call { callee := .value (.func f), args := as.toArray, argTypes := ts }, t, pos, af, some (j, want)⟩) [ho : DO os j u] [gx : GX l u want c] (hf : P.funcs[f]? = some fn) (hname : (fn.name == "runtime.NumGoroutine") = false) (hb : fn.body.isSome = true)
    [ha : ARGc c l as (.box (n + k) 0 :: ra)] [hga : GA (Hn n L).length ra] [gb : GB L k (.box bt cs)] (h : c = true → A0 P f (.eptr cs' :: ra) (fun r => r = av)) (hc : ∃ t, cs = cs' ++ t) (h8 : (cs.all NoU8) = true) [hg' : GA (Hn n L).length cs'] [pr : PlainR av] [hd : DL l d (cv c av) l'] (kk : AZ P base os.toArray ds rest ⟨l', Hn n L⟩ Q) : AZ P base os.toArray ds (.one i true rest) ⟨l, Hn n L⟩ Q := by
  refine AZ.gxh (cn := c) hi (fun hcc => ?_) (hd.h (Hn n L)) kk
  intro σ a w hr Q' K hk
  exact HvK.callB (s := ⟨l, Hn n L⟩) cs' hf hname hb (ha.h hcc (Hn n L)) hga.h (by show (Hn n L)[n + k]? = _; rw [Hn_get]; exact gb.h) hc hg'.h h8 (h hcc) σ a w hr Q' K fun σ' s' a' w' h1 h2 h3 h4 => hk σ' s' a' w' h1 h2 h3 h4
end
class PO (P : Program) (o : Op) (l : List AV) (H : List (Option AB)) (av : outParam AV) (ob : outParam Prop) : Prop where
  h : ob → Pu P o ⟨l, H⟩ av
section
variable {P : Program} {base : Cx} {l l' : List AV} {H : List (Option AB)} {L : List (Option AB)} {Q : Exit → St → Prop} {ops : Array Oper} {rest : OT} {d : Option Tmp} {op : Op} {t t' e bt : TypeId} {pos : String} {af : Array Edge} {i n kk ep off m sz : Nat} {g : Bool} {ds : List Nat} {av : AV} {ob : Prop} {k : IntKind} {p q lo hi : Int} {x y : Operand} {rows : List (List AV)}
instance [ir : IR k lo hi] [h : EC true l x (.v (.int k p))] [h' : EC true l y (.v (.int k q))] : PO P (.binOp .sub t x y t') l H (.v (.int k (p - q))) (lo ≤ p - q ∧ p - q ≤ hi) := ⟨fun ob => Pu.sub (h.h rfl H) (h'.h rfl H) (ir.h _ ob)⟩
instance [ht : TU P t (.slice e)] [hg : TG P e g sz] [h : EC true l x (.own (n + kk) ep off m)] [hb : GB L kk (.row bt sz ep rows)] [h' : EC true l y (.v (.int k p))] : PO P (.indexAddr t x y) l (Hn n L) (.optr (n + kk) ep (off + p.toNat) 0) (0 ≤ p ∧ p < m) := ⟨fun ob => Pu.index_own ht.h (TG.s (g := g)) (h.h rfl _) (getN rfl hb.h) (h'.h rfl _) ob.1 ob.2⟩
theorem AZ.po (hi : ops[i]? = some ⟨d, op, t, pos, af, none⟩) [hp : PO P op l H av ob] [hd : DL l d av l'] (hob : ob) (k : AZ P base ops ds rest ⟨l', H⟩ Q) : AZ P base ops ds (.pur i rest) ⟨l, H⟩ Q :=
  AZ.pureZ hi rfl (hp.h hob) (by rw [hd.h]; exact k)
end
end Go.Proofs.YtdniaamhbfadnaaGreat.AL
namespace Go.Proofs.YtdniaamhbfadnaaGreat.AL
open Go Go.RowKit
set_option linter.unusedVariables false
set_option linter.unusedSimpArgs false
section
variable {P : Program} {base : Cx} {l l' : List AV} {H : List (Option AB)} {Q : Exit → St → Prop} {os : List Oper} {rest : List Oper} {d : Option Tmp} {op : Op} {t : TypeId} {pos : String} {af : Array Edge} {j u : Nat} {b want : Bool}
theorem AO.sk [ho : DO os j u] [hg : GL l u (.v (.bool b))] (hb : b = !want) [hd : DL l d (.v undef) l'] (k : AO P base os.toArray rest ⟨l', H⟩ Q) : AO P base os.toArray (⟨d, op, t, pos, af, some (j, want)⟩ :: rest) ⟨l, H⟩ Q :=
  AO.skipG (wanted_some (s := ⟨l, H⟩) (by simpa using ho.h) (hg.ev H) |>.trans (by rw [hb]; cases want <;> rfl)) (by rw [hd.h]; exact k)
end
theorem tell_map {α : Type} {sz : Nat} {f g : α → List AV} {l : List α} (h : ∀ a ∈ l, TELLs (f a) (g a)) : TELL (.rd sz (l.map f)) (.rd sz (l.map g)) := ⟨fun E x hx => by
  cases hx with
  | rd u hc hm hz hA hu =>
    rw [List.length_map] at hc hA
    have hfg : ∀ (i : Nat) (row : List AV), (l.map g)[i]? = some row → ∃ a ∈ l, (l.map f)[i]? = some (f a) ∧ row = g a := fun i row hi => by
      rw [List.getElem?_map] at hi
      cases hq : l[i]? with
      | none => rw [hq] at hi; cases hi
      | some a => rw [hq] at hi; exact ⟨a, List.mem_of_getElem? hq, by rw [List.getElem?_map, hq]; rfl, (Option.some.inj hi).symm⟩
    have hcell : ∀ (a : α), a ∈ l → ∀ (j : Nat) (av : AV), (g a)[j]? = some av → ∃ av0, (f a)[j]? = some av0 := fun a ha j av hj => by
      have hlt : j < (f a).length := by rw [(h a ha).h.1]; exact (List.getElem?_eq_some_iff.1 hj).1
      exact ⟨_, List.getElem?_eq_getElem hlt⟩
    rw [List.length_map, ← List.length_map (f := g)]
    refine .rd u (by rw [List.length_map]; exact hc) hm (fun row hr => ?_) (fun h0 => ?_) (fun i row j av hi hj => ?_)
    · obtain ⟨a, ha, rfl⟩ := List.mem_map.1 hr
      rw [← (h a ha).h.1]
      exact hz _ (List.mem_map.2 ⟨a, ha, rfl⟩)
    · rw [List.length_map] at h0
      obtain ⟨ad, e1, e2, e3, e4⟩ := hA h0
      refine ⟨ad, e1, e2, e3, fun i row j av hi hj => ?_⟩
      obtain ⟨a, ha, h1, rfl⟩ := hfg i row hi
      obtain ⟨av0, h2⟩ := hcell a ha j av hj
      exact e4 i _ j av0 h1 h2
    · obtain ⟨a, ha, h1, rfl⟩ := hfg i row hi
      obtain ⟨av0, h2⟩ := hcell a ha j av hj
      exact (h a ha).h.2 E j av0 av _ h2 hj (hu i _ j av0 h1 h2)⟩
instance pvMap {id : Nat} : PVc (.omap id) [.omap id] := ⟨rfl⟩
end Go.Proofs.YtdniaamhbfadnaaGreat.AL
namespace Go.Proofs.YtdniaamhbfadnaaGreat.AL
open Go Go.RowKit
set_option linter.unusedVariables false
set_option linter.unusedSimpArgs false
section
open Go.Proofs.YtdniaamhbfadnaaGreatW.PrintLast
def triB (ops : Array Oper) (ds : List Nat) (fl : List Bool) (i j m : Nat) (ri rj rm : OT) : Bool :=
  Nat.beq fl.length ops.size && Region.closedB .any ops ⟨fl⟩ && Region.noSelect ops && backS 0 (sigsOf ops) && (Region.ready .any ops ⟨fl⟩ == [i, j, m]) && Nat.beq ri.len rj.len && Nat.beq ri.len rm.len &&
  okS (sigsOf ops) ds ri (fl.set i true) && okS (sigsOf ops) ds rj (fl.set j true) && okS (sigsOf ops) ds rm (fl.set m true)
variable {P : Program} {base : Cx} {s : St} {Q : Exit → St → Prop} {ops : Array Oper} {ds : List Nat} {n : Nat} {fl : Array Bool}
theorem AY.triZ (i j m : Nat) (ri rj rm : OT) (fL : List Bool) (hfl : (fl == ⟨fL⟩) = true) (hn : Nat.beq n (ri.len + 1) = true) (hc : triB ops ds fL i j m ri rj rm = true) (hi : AZi P base ops ds i ri s Q) (hj : AZi P base ops ds j rj s Q) (hm : AZi P base ops ds m rm s Q) : AY P base ops ds n fl s Q := by
  simp only [triB, Bool.and_eq_true] at hc
  obtain ⟨⟨⟨⟨⟨⟨⟨⟨⟨h1, h2⟩, h3⟩, h4⟩, h5⟩, h6⟩, h7⟩, h8⟩, h9⟩, h10⟩ := hc
  have e : fl = ⟨fL⟩ := by simpa using hfl
  subst e
  obtain rfl := Nat.eq_of_beq_eq_true hn
  have hcl := Region.closedB_spec h2
  have hl := Nat.eq_of_beq_eq_true h1
  have hr : Region.ready .any ops ⟨fL⟩ = [i, j, m] := by simpa using h5
  have e6 := Nat.eq_of_beq_eq_true h6
  have e7 := Nat.eq_of_beq_eq_true h7
  refine AY.three i j m h5 (hi fL hl hcl h3 h4 (by rw [hr]; simp) h8) ?_ ?_
  · rw [e6]; exact hj fL hl hcl h3 h4 (by rw [hr]; simp) h9
  · rw [e7]; exact hm fL hl hcl h3 h4 (by rw [hr]; simp) h10
end
section
variable {P : Program} {base : Cx} {l : List AV} {l' : List AV} {H : List (Option AB)} {Q : Exit → St → Prop} {ops : Array Oper} {rest : List Oper} {d : Option Tmp} {t e ty : TypeId} {pos : String} {af : Array Edge} {sz bytes i : Nat} {z : Value} {ds : List Nat} {rst : OT} {y : Operand} {u : Tmp} {l1 : List AV} {ad : Addr} {rows2 : List (List AV)}
theorem AZi.app0 (hi : ops[i]? = some ⟨d, .call { callee := .builtin .append, args := #[.tmp u, y], argTypes := #[t, t] }, ty, pos, af, none⟩) [tu : TU P t (.slice e)] [ti : TI P e z sz bytes] [hx : EC true l (.tmp u) (.v (.slice (some ad) 0 0))] [hy : EC true l y (.rd sz rows2)] [sl : SL l u .any l1] [hd : DL l1 d (.rd sz rows2) l'] (hz : ((z.cells.size == sz) && Nat.blt 0 sz) = true) (hb : rows2.length * bytes ≤ 140737488355328) (h63 : rows2.length ≤ 9223372036854775807) (k : AZ P base ops ds rst ⟨l', H⟩ Q) : AZi P base ops ds i rst ⟨l, H⟩ Q := by
  simp only [Bool.and_eq_true, beq_iff_eq, Nat.blt_eq] at hz
  exact AZi.heavy hi rfl (HvK.app0 (s := ⟨l, H⟩) tu.h ti.h hz.1 hz.2 (hx.h rfl H) (hy.h rfl H) hb (by unfold maxLen; omega)) fun s1 h => by
    subst h
    show AZ P base ops ds rst ((⟨l.set u .any, H⟩ : St).put d _) Q
    rw [sl.h, hd.h]; exact k
end
end Go.Proofs.YtdniaamhbfadnaaGreat.AL
