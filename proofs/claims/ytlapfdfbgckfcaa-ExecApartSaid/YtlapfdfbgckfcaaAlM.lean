/- An intermediate logic over abstract blocks, further rules; no condition. -/
import Derived.Test.YtlapfdfbgckfcaaAlL
import Derived.Lib.AppendStr
import Derived.Lib.BytesEntry
import Derived.Lib.Bytealg
namespace Go.Proofs.Ytlapfdfbgckfcaa.AL
open Go Go.RowKit
set_option linter.unusedVariables false
set_option linter.unusedSimpArgs false
/-! An append of a string; the entries that look for a byte. -/
section
variable {P : Program} {base : Cx} {s : St}
@[reducible] def strB (b : ByteArray) : List Int := b.data.toList.map fun c => (c.toNat : Int)
theorem strB_len (b : ByteArray) : (strB b).length = b.size := by rw [List.length_map, Array.length_toList]; rfl
theorem strB_bytes (b : ByteArray) : ∀ x ∈ strB b, 0 ≤ x ∧ x < 256 := fun x hx => by
  obtain ⟨c, _, rfl⟩ := List.mem_map.1 hx
  have := c.toNat_lt
  omega
theorem strCells_eq (b : ByteArray) : Lib.strCells b = (strB b).map (Value.int .u8) := by simp [Lib.strCells, strB, List.map_map]
theorem run_append_str (w : World) (base : Nat) (t u ty e : TypeId) (i : TypeInfo) (ht : P.underlying t = some (.slice e)) (hu : P.underlying u = some .string) (hi : P.info? e = some i) (hz : i.zero = some (.int .u8 0))
    (hsize : i.size = 1) (hby : i.bytes = 1) (v : Value) (n : Nat) (xs : List Value) (hown : w.ownsRow base e 1 v n xs) (s : ByteArray) (h63 : n + s.size ≤ maxLen) (hbytes : n + s.size ≤ 140737488355328) (hbase : base ≤ w.heap.size) :
    ∃ v' w', (Builtin.append_ #[t, u] ty #[v, .string s]).run P w = .ok v' w' ∧ w'.ownsRow base e 1 v' (n + s.size) (xs ++ Lib.strCells s) ∧ w.grownBy w' v.ownBlock ∧ (v'.ownBlock = v.ownBlock ∨ v'.ownBlock = some w.heap.size) := by
  obtain ⟨v', w', hr, h1, h2, h3⟩ := Lib.run_append_own_string w base t u ty e i ht hu hi hz hsize hby v n xs hown s h63 hbytes hbase
  refine ⟨v', w', hr, h1, h2, ?_⟩
  have hxl : xs.length = n := by simpa using hown.1
  rcases hown.2 with ⟨rfl, rfl⟩ | ⟨g, cap, cur, rfl, hbg, hg, hnc, hcm, hcs, htake⟩
  · have hx : xs = [] := List.eq_nil_of_length_eq_zero hxl
    subst hx
    by_cases hm : s.size = 0
    · left; rw [h3.2 ⟨rfl, hm⟩]
    · right
      have hr2 := run_append_nil_string (P := P) w t u ty e i (.int .u8 0) ht hu hi hz s (by omega) (by unfold maxLen at h63; omega) (by rw [hby]; omega)
      rw [hr2] at hr
      injection hr with hr _
      rw [← hr]; rfl
  · by_cases hroom : n + s.size ≤ cap
    · left
      have hcs' : cur.size = cap := by simpa using hcs
      have hr2 := Lib.run_append_room_string (P := P) w t u ty e i ht hu hi hsize g n cap cur hg s hroom (by omega)
      rw [hr2] at hr
      injection hr with hr _
      rw [← hr]; rfl
    · right
      have holds : ∀ j u, xs[j]? = some u → w.cell? ((⟨g, 0, none⟩ : Addr).add j) = some u := hown.cells (g := g) rfl
      have hr2 := Lib.run_append_grow_string (P := P) w t u ty e i (.int .u8 0) ht hu hi hz ⟨g, 0, none⟩ n cap xs (by rw [hsize]; simpa using hxl) holds s (by omega) (by unfold maxLen at h63; omega) (by rw [hby]; exact growslice_fits (by omega) (by omega))
      rw [hr2] at hr
      injection hr with hr _
      rw [← hr]; rfl
theorem RowsR_of_bys {E : Env} (l : List Int) : RowsR E 1 (bys l) (l.map (Value.int .u8)) := by
  refine ⟨fun row hr => ?_, by simp [bys], fun x hx => ?_, fun i row j av hi hj => ?_⟩
  · obtain ⟨n, _, rfl⟩ := List.mem_map.1 hr; rfl
  · obtain ⟨n, _, rfl⟩ := List.mem_map.1 hx; rfl
  · unfold bys at hi
    rw [List.getElem?_map] at hi
    cases hli : l[i]? with
    | none => rw [hli] at hi; cases hi
    | some n =>
      rw [hli] at hi
      obtain rfl := Option.some.inj hi
      cases j with
      | zero =>
        obtain rfl := Option.some.inj hj
        exact ⟨.int .u8 n, by simp [hli], .v _⟩
      | succ j => simp at hj
/-- An append of a string's bytes. -/
theorem Hv.appendS {d : Option Tmp} {t u e ty : TypeId} {x y : Operand} {pos : String} {af : Array Edge} {gd : Option (Nat × Bool)} {id ep : Nat} {b : ByteArray} {rows : List (List AV)} (ht : P.underlying t = some (.slice e)) (hu : P.underlying u = some .string)
    (hi : (P.info? e).map (fun i => (i.zero, i.size, i.bytes)) = some (some (.int .u8 0), 1, 1))
    (hx : ev s x = .own id ep 0 rows.length) (hH : s.H[id]? = some (some (.row e 1 ep rows))) (hy : ev s y = .v (.string b)) (hb : rows.length + b.size ≤ 140737488355328) :
    Hv P base ⟨d, .call { callee := .builtin .append, args := #[x, y], argTypes := #[t, u] }, ty, pos, af, gd⟩ s
      (fun s' => s' = (⟨s.fr, s.H.set id (some (.row e 1 (ep + 1) (rows ++ bys (strB b))))⟩ : St).put d (.own id (ep + 1) 0 (rows ++ bys (strB b)).length)) := by
  intro σ a w hr Q K hk
  obtain ⟨i, hi0, hz, hs, hby⟩ := info_parts hi
  obtain ⟨xs, hown, hrows⟩ := hr.1.live id _ hH
  have hown : w.ownsRow base.b e 1 (σ id) rows.length xs := hown
  have hxe : a.eval x = σ id := by
    have h4 := ev_ok hr x
    rw [hx] at h4
    generalize hq : a.eval x = q at h4
    cases h4 with
    | own h _ =>
      obtain ⟨_, A, c, A', h5, rfl, _, h6⟩ := (h.2 _ _ _ _ hH).2 rfl
      obtain rfl := h6 rfl
      exact h5.symm
  have hye := ev_v hr hy
  obtain ⟨v', w', hrun, h4, h5, h6⟩ := run_append_str (P := P) w base.b t u ty e i ht hu hi0 hz hs hby (σ id) rows.length xs hown b (by unfold maxLen; omega) hb hr.1.bs
  unfold Oper.wp
  have hrun' : (execOp a.eval ⟨d, .call { callee := .builtin .append, args := #[x, y], argTypes := #[t, u] }, ty, pos, af, gd⟩).run P w = .ok (.value v') w' := by
    simp only [execOp, resolve, Sem.run_bind, Sem.run_pure, Result.andThen_ok, invoke, builtin, List.map_toArray, List.map_cons, List.map_nil, hxe, hye, hrun]
  rw [hrun']
  have hl : (bys (strB b)).length = b.size := by rw [bys_length, strB_len]
  obtain ⟨σ', h7, h8⟩ := appended (rows2 := bys (strB b)) (news := Lib.strCells b) hr hH hrows (by rw [strCells_eq]; exact RowsR_of_bys _) (by rw [hl]; exact h4) h5 h6 d
  exact hk σ' _ _ _ h7 (by rw [put_H]; exact h8) rfl
end
section
variable {P : Program} {L L' : List (Option AB)} {l : List AV} {x y : Operand} {t u e : TypeId} {n k m ep : Nat} {b : ByteArray} {li : List Int}
instance (priority := 20000) apStr [tu : TU P t (.slice e)] [tv : TU P u .string] [ti : TI P e (.int .u8 0) 1 1] [h : EC true l x (.own (n + k) ep 0 m)] [gb : GB L k (.row e 1 ep (bys li))] [hy : EC true l y (.v (.string b))] [sb : SB L k (some (.row e 1 (ep + 1) (bys (li ++ strB b)))) L'] :
    HW P (.call { callee := .builtin .append, args := #[x, y], argTypes := #[t, u] }) l (Hn n L) (.own (n + k) (ep + 1) 0 (m + b.size)) (Hn n L') (li.length = m ∧ m + b.size ≤ 140737488355328) := ⟨fun ho base d ty pos af g => by
  have hH : (Hn n L)[n + k]? = some (some (.row e 1 ep (bys li))) := by rw [Hn_get]; exact gb.h
  have := Hv.appendS (P := P) (base := base) (d := d) (ty := ty) (pos := pos) (af := af) (gd := g) (s := ⟨l, Hn n L⟩) tu.h tv.h ti.h (by rw [bys_length, ho.1]; exact h.h rfl _) hH (hy.h rfl _) (by rw [bys_length]; omega)
  rw [← bys_append, bys_length, List.length_append, strB_len, ho.1] at this
  have e1 : (Hn n L).set (n + k) (some (AB.row e 1 (ep + 1) (bys (li ++ strB b)))) = Hn n L' := by rw [Hn_set, sb.h]
  rw [e1] at this
  exact this⟩
end
/-! The first byte of a kind. -/
theorem indexByte_idx (l : List UInt8) (c : UInt8) : Lib.indexByte l c = idxF (fun x => x == c) l := by
  induction l with
  | nil => rfl
  | cons b l ih =>
    unfold Lib.indexByte
    rw [ih]
    unfold idxF
    rw [List.findIdx?_cons]
    by_cases h : (b == c) = true
    · rw [if_pos h, if_pos h]; rfl
    · rw [if_neg h, if_neg h]
      cases hf : l.findIdx? (fun x => x == c) with
      | none => simp
      | some i =>
        simp only [Option.map_some]
        rw [if_neg (by rw [beq_iff_eq]; omega)]
        rfl
theorem idxF_map {α β : Type} (f : α → β) (q : β → Bool) (l : List α) : idxF q (l.map f) = idxF (fun x => q (f x)) l := by
  unfold idxF
  rw [List.findIdx?_map]; rfl
theorem idxF_congr {α : Type} {q r : α → Bool} {l : List α} (h : ∀ x ∈ l, q x = r x) : idxF q l = idxF r l := by
  have : l.findIdx? q = l.findIdx? r := by
    induction l with
    | nil => rfl
    | cons a l ih =>
      rw [List.findIdx?_cons, List.findIdx?_cons, h a (by simp), ih fun x hx => h x (by simp [hx])]
  unfold idxF
  rw [this]
/-- Where the first byte of a kind stands. -/
def firstB (l : List Int) (c : Int) : Int := idxF (fun x => x == c) l
theorem firstB_str (b : ByteArray) (c : Int) (h0 : 0 ≤ c) (h1 : c < 256) : Lib.indexByte b.data.toList c.toNat.toUInt8 = firstB (strB b) c := by
  rw [indexByte_idx]
  unfold firstB strB
  rw [idxF_map]
  refine idxF_congr fun x _ => ?_
  have hx := x.toNat_lt
  rw [Bool.eq_iff_iff, beq_iff_eq, beq_iff_eq]
  constructor
  · rintro rfl
    simp
    omega
  · intro h
    apply UInt8.toNat_inj.1
    simp
    omega
theorem firstB_bys (l : List Int) (hB : ∀ x ∈ l, 0 ≤ x ∧ x < 256) (c : Int) (h0 : 0 ≤ c) (h1 : c < 256) : Lib.indexByte (Lib.bytesOf l) c.toNat.toUInt8 = firstB l c := by
  rw [indexByte_idx]
  unfold firstB Lib.bytesOf
  rw [idxF_map]
  refine idxF_congr fun x hx => ?_
  have hx := hB x hx
  rw [Bool.eq_iff_iff, beq_iff_eq, beq_iff_eq]
  constructor
  · intro h
    have := congrArg UInt8.toNat h
    simp at this
    omega
  · rintro rfl; rfl
section
variable {P : Program} {s : St} {f : FuncId} {fn : Func} {x y : Operand} {ts : Array TypeId} {c : Int}
theorem run_ext {e : Array Value → Sem Value} (hf : P.funcs[f]? = some fn) (hname : (fn.name == "runtime.NumGoroutine") = false) (hb : fn.body.isNone = true) (hn : Extern.findNext fn = none) (he : Extern.find fn = some e) {d : Option Tmp} {as : List Operand} {ty : TypeId} {pos : String} {af : Array Edge} {gd : Option (Nat × Bool)} (a : Act) (w : World) {v : Value}
    (hv : (e ⟨as.map a.eval⟩).run P w = .ok v w) : (execOp a.eval ⟨d, .call { callee := .value (.func f), args := as.toArray, argTypes := ts }, ty, pos, af, gd⟩).run P w = .ok (.value v) w := by
  have h := run_callFunc_extern hf hname hb hn he ⟨as.map a.eval⟩ w
  rw [hv] at h
  unfold execOp
  simp [resolve, Deferred.ofValue, invoke, Act.eval, h]
theorem Lt.indexStr {b : ByteArray} (hf : P.funcs[f]? = some fn) (hname : (fn.name == "runtime.NumGoroutine") = false) (hb : fn.body.isNone = true) (hn : Extern.findNext fn = none) (he : Extern.find fn = some Extern.BytealgIndexByte.indexByte)
    (hx : ev s x = .v (.string b)) (hy : ev s y = .v (.int .u8 c)) (h0 : 0 ≤ c) (h1 : c < 256) :
    Lt P (.call { callee := .value (.func f), args := #[x, y], argTypes := ts }) s (.v (.int .i64 (firstB (strB b) c))) := fun d t pos af g base σ a w hr => by
  refine ⟨_, .v _, fun w' _ => ?_⟩
  refine run_ext (as := [x, y]) hf hname hb hn he a w' ?_
  have e1 := ev_v hr hx
  have e2 := ev_v hr hy
  simp only [List.map_cons, List.map_nil, e1, e2]
  rw [Lib.run_indexByteString, firstB_str b c h0 h1]
theorem run_indexRd {w : World} {A : Option Addr} {n cp : Nat} {xs : List Int} (hx : xs.length = n) (hA : 0 < n → ∃ ad, A = some ad ∧ ∀ j x, xs[j]? = some x → w.cell? (ad.add j) = some (.int .u8 x)) (cv : Int) :
    (Extern.BytealgIndexByte.indexByte #[.slice A n cp, .int .u8 cv]).run P w = .ok (.int .i64 (Lib.indexByte (Lib.bytesOf xs) cv.toNat.toUInt8)) w := by
  cases A with
  | none =>
    have hn : n = 0 := by
      rcases Nat.eq_zero_or_pos n with h | h
      · exact h
      · obtain ⟨ad, h, _⟩ := hA h; cases h
    subst hn
    obtain rfl : xs = [] := List.eq_nil_of_length_eq_zero hx
    exact Lib.run_indexByteNil w 0 cp cv
  | some ad =>
    have hcells : ∀ j x, xs[j]? = some x → w.cell? (ad.add j) = some (.int .u8 x) := by
      intro j x hj
      have hjl : j < xs.length := (List.getElem?_eq_some_iff.1 hj).1
      obtain ⟨ad', h, h'⟩ := hA (by omega)
      obtain rfl := Option.some.inj h
      exact h' j x hj
    have hl := Lib.run_loadBytesX (P := P) w xs ad .empty hcells
    rw [hx] at hl
    have hs := Lib.run_indexByteString (P := P) ⟨(Lib.bytesOf xs).toArray⟩ cv w
    have he : (⟨ByteArray.empty.data ++ (Lib.bytesOf xs).toArray⟩ : ByteArray) = ⟨(Lib.bytesOf xs).toArray⟩ := by
      apply ByteArray.ext
      show (#[] : Array UInt8) ++ (Lib.bytesOf xs).toArray = (Lib.bytesOf xs).toArray
      simp
    rw [he] at hl
    change Sem.run P (do
      let b ← Extern.Bytes.bytesOf (.slice (some ad) n cp)
      let c ← Extern.Bytes.asByte (.int .u8 cv)
      match (List.range b.size).find? fun i => b[i]! == c with
      | some i => pure (goInt i)
      | none => pure (goInt (-1))) w = _
    change Sem.run P (do
      let b ← Extern.Bytes.bytesOf (.string ⟨(Lib.bytesOf xs).toArray⟩)
      let c ← Extern.Bytes.asByte (.int .u8 cv)
      match (List.range b.size).find? fun i => b[i]! == c with
      | some i => pure (goInt i)
      | none => pure (goInt (-1))) w = _ at hs
    simp only [Extern.Bytes.bytesOf, Sem.run_bind, Sem.run_pure, hl, Result.andThen] at hs ⊢
    exact hs
theorem Lt.indexRd {li : List Int} (hf : P.funcs[f]? = some fn) (hname : (fn.name == "runtime.NumGoroutine") = false) (hb : fn.body.isNone = true) (hn : Extern.findNext fn = none) (he : Extern.find fn = some Extern.BytealgIndexByte.indexByte)
    (hx : ev s x = .rd 1 (bys li)) (hy : ev s y = .v (.int .u8 c)) (hB : ∀ x ∈ li, 0 ≤ x ∧ x < 256) (h0 : 0 ≤ c) (h1 : c < 256) :
    Lt P (.call { callee := .value (.func f), args := #[x, y], argTypes := ts }) s (.v (.int .i64 (firstB li c))) := fun d t pos af g base σ a w hr => by
  refine ⟨_, .v _, fun w' hw => ?_⟩
  refine run_ext (as := [x, y]) hf hname hb hn he a w' ?_
  have e2 := ev_v hr hy
  obtain ⟨A, cp, news, h2, h3, h4⟩ := Src.rd (base := base) hx σ a w hr
  have hnews := RowsR_bys h3
  simp only [List.map_cons, List.map_nil, e2, h2]
  rw [bys_length] at *
  rw [run_indexRd (xs := li) rfl (fun h5 => ?_), firstB_bys li hB c h0 h1]
  obtain ⟨ad, h6, h7⟩ := h4 h5
  refine ⟨ad, h6, fun j x hj => ?_⟩
  have h8 := h7 j (.int .u8 x) (by rw [hnews, List.getElem?_map, hj]; rfl)
  rw [hw.cell (cell_lt h8)]; exact h8
end
section
variable {P : Program} {base : Cx} {l l' : List AV} {H : List (Option AB)} {Q : Exit → St → Prop} {ops : Array Oper} {rest : List Oper} {d : Option Tmp} {t : TypeId} {pos : String} {af : Array Edge} {f : FuncId} {fn : Func} {x y : Operand} {ts : Array TypeId} {c : Int}
theorem AO.indexStr {b : ByteArray} [hx : EC true l x (.v (.string b))] [hy : EC true l y (.v (.int .u8 c))] (hf : P.funcs[f]? = some fn) (hname : (fn.name == "runtime.NumGoroutine") = false) (hb : fn.body.isNone = true) (hn : Extern.findNext fn = none) (he : Extern.find fn = some Extern.BytealgIndexByte.indexByte) (h0 : 0 ≤ c ∧ c < 256)
    [hd : DL l d (.v (.int .i64 (firstB (strB b) c))) l'] (k : AO P base ops rest ⟨l', H⟩ Q) : AO P base ops (⟨d, .call { callee := .value (.func f), args := #[x, y], argTypes := ts }, t, pos, af, none⟩ :: rest) ⟨l, H⟩ Q :=
  AO.light (Lt.indexStr hf hname hb hn he (hx.h rfl H) (hy.h rfl H) h0.1 h0.2) (by rw [hd.h]; exact k)
theorem AO.indexRd {li : List Int} [hx : EC true l x (.rd 1 (bys li))] [hy : EC true l y (.v (.int .u8 c))] (hf : P.funcs[f]? = some fn) (hname : (fn.name == "runtime.NumGoroutine") = false) (hb : fn.body.isNone = true) (hn : Extern.findNext fn = none) (he : Extern.find fn = some Extern.BytealgIndexByte.indexByte) (hB : ∀ x ∈ li, 0 ≤ x ∧ x < 256) (h0 : 0 ≤ c ∧ c < 256)
    [hd : DL l d (.v (.int .i64 (firstB li c))) l'] (k : AO P base ops rest ⟨l', H⟩ Q) : AO P base ops (⟨d, .call { callee := .value (.func f), args := #[x, y], argTypes := ts }, t, pos, af, none⟩ :: rest) ⟨l, H⟩ Q :=
  AO.light (Lt.indexRd hf hname hb hn he (hx.h rfl H) (hy.h rfl H) hB h0.1 h0.2) (by rw [hd.h]; exact k)
end
theorem idxF_lt {α : Type} {q : α → Bool} {l : List α} : idxF q l < l.length := by
  unfold idxF
  cases hf : l.findIdx? q with
  | none => show (-1 : Int) < _; omega
  | some i =>
    obtain ⟨h2, _⟩ := List.findIdx?_eq_some_iff_getElem.1 hf
    show (i : Int) < _; omega

end Go.Proofs.Ytlapfdfbgckfcaa.AL
