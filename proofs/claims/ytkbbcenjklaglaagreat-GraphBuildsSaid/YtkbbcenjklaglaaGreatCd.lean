/- A part of the proof: rules of an own logic over blocks, and what functions of the program compute, each by its own contract; the conditions stand with each. -/
import Derived.Test.YtkbbcenjklaglaaGreatCc
import Derived.Lib.AppendStr
import Derived.Lib.BytesEntry
import Derived.Lib.Bytealg
namespace Go.Proofs.YtkbbcenjklaglaaGreat.AL
open Go Go.RowKit
set_option linter.unusedVariables false
set_option linter.unusedSimpArgs false
section
variable {P : Program} {base : Cx} {s : St}
@[reducible] def strB (b : ByteArray) : List Int := b.data.toList.map fun c => (c.toNat : Int)
theorem strB_len (b : ByteArray) : (strB b).length = b.size := by rw [List.length_map, Array.length_toList]; rfl
theorem strCells_eq (b : ByteArray) : Lib.strCells b = (strB b).map (Value.int .u8) := by simp [Lib.strCells, strB, List.map_map]
theorem run_append_str (w : World) (base : Nat) (t u ty e : TypeId) (i : TypeInfo) (ht : P.underlying t = some (.slice e)) (hu : P.underlying u = some .string) (hi : P.info? e = some i) (hz : i.zero = some (.int .u8 0))
 (hsize : i.size = 1) (hby : i.bytes = 1) (v : Value) (n : Nat) (xs : List Value) (hown : w.ownsRow base e 1 v n xs) (s : ByteArray) (h63 : n + s.size ≤ maxLen) (hbytes : n + s.size ≤ 140737488355328) (hbase : base ≤ w.heap.size) :
 ∃ v' w', (Builtin.append_ #[t, u] ty #[v, .string s]).run P w = .ok v' w' ∧ w'.ownsRow base e 1 v' (n + s.size) (xs ++ Lib.strCells s) ∧ w.grownBy w' v.ownBlock ∧ (v'.ownBlock = v.ownBlock ∨ v'.ownBlock = some w.heap.size) := by
 obtain ⟨v', w', hr, h1, h2, h3⟩ := Lib.run_append_own_string w base t u ty e i ht hu hi hz hsize hby v n xs hown s h63 hbytes hbase;refine ⟨v', w', hr, h1, h2, ?_⟩;have hxl : xs.length = n := by simpa using hown.1
 rcases hown.2 with ⟨rfl, rfl⟩ | ⟨g, cap, cur, rfl, hbg, hg, hnc, hcm, hcs, htake⟩
 · have hx : xs = [] := List.eq_nil_of_length_eq_zero hxl
   subst hx;by_cases hm : s.size = 0
   · left; rw [h3.2 ⟨rfl, hm⟩]
   · right
     have hr2 := run_append_nil_string (P := P) w t u ty e i (.int .u8 0) ht hu hi hz s (by omega) (by unfold maxLen at h63; omega) (by rw [hby]; omega);rw [hr2] at hr
     injection hr with hr _
     rw [← hr]; rfl
 · by_cases hroom : n + s.size ≤ cap
   · left
     have hcs' : cur.size = cap := by simpa using hcs
     have hr2 := Lib.run_append_room_string (P := P) w t u ty e i ht hu hi hsize g n cap cur hg s hroom (by omega);rw [hr2] at hr
     injection hr with hr _
     rw [← hr]; rfl
   · right
     have holds : ∀ j u, xs[j]? = some u → w.cell? ((⟨g, 0, none⟩ : Addr).add j) = some u := hown.cells (g := g) rfl;have hr2 := Lib.run_append_grow_string (P := P) w t u ty e i (.int .u8 0) ht hu hi hz ⟨g, 0, none⟩ n cap xs (by rw [hsize]; simpa using hxl) holds s (by omega) (by unfold maxLen at h63; omega) (by rw [hby]; exact growslice_fits (by omega) (by omega));rw [hr2] at hr
     injection hr with hr _
     rw [← hr]; rfl
theorem RowsR_of_bys {E : Env} (l : List Int) : RowsR E 1 (bys l) (l.map (Value.int .u8)) := by
 refine ⟨fun row hr => ?_, by simp [bys], fun x hx => ?_, fun i row j av hi hj => ?_⟩
 · obtain ⟨n, _, rfl⟩ := List.mem_map.1 hr; rfl
 · obtain ⟨n, _, rfl⟩ := List.mem_map.1 hx; rfl
 · unfold bys at hi
   rw [List.getElem?_map] at hi
   cases hli : l[i]? with
   | none => rw [hli] at hi; cases hi
   | some n =>
    rw [hli] at hi;obtain rfl := Option.some.inj hi
    cases j with
    | zero =>
     obtain rfl := Option.some.inj hj;exact ⟨.int .u8 n, by simp [hli], .v _⟩
    | succ j => simp at hj
theorem Hv.appendS {d : Option Tmp} {t u e ty : TypeId} {x y : Operand} {pos : String} {af : Array Edge} {gd : Option (Nat × Bool)} {id ep : Nat} {b : ByteArray} {rows : List (List AV)} (ht : P.underlying t = some (.slice e)) (hu : P.underlying u = some .string)
 (hi : (P.info? e).map (fun i => (i.zero, i.size, i.bytes)) = some (some (.int .u8 0), 1, 1))
 (hx : ev s x = .own id ep 0 rows.length) (hH : s.H[id]? = some (some (.row e 1 ep rows))) (hy : ev s y = .v (.string b)) (hb : rows.length + b.size ≤ 140737488355328) :
 Hv P base ⟨d, .call { callee := .builtin .append, args := #[x, y], argTypes := #[t, u] }, ty, pos, af, gd⟩ s
  (fun s' => s' = (⟨s.fr, s.H.set id (some (.row e 1 (ep + 1) (rows ++ bys (strB b))))⟩ : St).put d (.own id (ep + 1) 0 (rows ++ bys (strB b)).length)) := by
 intro σ a w hr Q K hk;obtain ⟨i, hi0, hz, hs, hby⟩ := info_parts hi;obtain ⟨xs, hown, hrows⟩ := hr.1.live id _ hH;have hown : w.ownsRow base.b e 1 (σ id) rows.length xs := hown;have hxe : a.eval x = σ id := by
  have h4 := ev_ok hr x;rw [hx] at h4;generalize hq : a.eval x = q at h4
  cases h4 with
  | own h _ =>
   obtain ⟨_, A, c, A', h5, rfl, _, h6⟩ := (h.2 _ _ _ _ hH).2 rfl;obtain rfl := h6 rfl;exact h5.symm
 have hye := ev_v hr hy;obtain ⟨v', w', hrun, h4, h5, h6⟩ := run_append_str (P := P) w base.b t u ty e i ht hu hi0 hz hs hby (σ id) rows.length xs hown b (by unfold maxLen; omega) hb hr.1.bs;unfold Oper.wp;have hrun' : (execOp a.eval ⟨d, .call { callee := .builtin .append, args := #[x, y], argTypes := #[t, u] }, ty, pos, af, gd⟩).run P w = .ok (.value v') w' := by
  simp only [execOp, resolve, Sem.run_bind, Sem.run_pure, Result.andThen_ok, invoke, builtin, List.map_toArray, List.map_cons, List.map_nil, hxe, hye, hrun]
 rw [hrun'];have hl : (bys (strB b)).length = b.size := by rw [bys_length, strB_len]
 obtain ⟨σ', h7, h8⟩ := appended (rows2 := bys (strB b)) (news := Lib.strCells b) hr hH hrows (by rw [strCells_eq]; exact RowsR_of_bys _) (by rw [hl]; exact h4) h5 h6 d;exact hk σ' _ _ _ h7 (by rw [put_H]; exact h8) rfl
end
section
variable {P : Program} {L L' : List (Option AB)} {l : List AV} {x y : Operand} {t u e : TypeId} {n k m ep : Nat} {b : ByteArray} {li : List Int}
instance (priority := 20000) apStr [tu : TU P t (.slice e)] [tv : TU P u .string] [ti : TI P e (.int .u8 0) 1 1] [h : EC true l x (.own (n + k) ep 0 m)] [gb : GB L k (.row e 1 ep (bys li))] [hy : EC true l y (.v (.string b))] [sb : SB L k (some (.row e 1 (ep + 1) (bys (li ++ strB b)))) L'] :
 HW P (.call { callee := .builtin .append, args := #[x, y], argTypes := #[t, u] }) l (Hn n L) (.own (n + k) (ep + 1) 0 (m + b.size)) (Hn n L') (li.length = m ∧ m + b.size ≤ 140737488355328) := ⟨fun ho base d ty pos af g => by
 have hH : (Hn n L)[n + k]? = some (some (.row e 1 ep (bys li))) := by rw [Hn_get]; exact gb.h
 have := Hv.appendS (P := P) (base := base) (d := d) (ty := ty) (pos := pos) (af := af) (gd := g) (s := ⟨l, Hn n L⟩) tu.h tv.h ti.h (by rw [bys_length, ho.1]; exact h.h rfl _) hH (hy.h rfl _) (by rw [bys_length]; omega)
 rw [← bys_append, bys_length, List.length_append, strB_len, ho.1] at this
 have e1 : (Hn n L).set (n + k) (some (AB.row e 1 (ep + 1) (bys (li ++ strB b)))) = Hn n L' := by rw [Hn_set, sb.h]
 rw [e1] at this
 exact this⟩
end
theorem indexByte_idx (l : List UInt8) (c : UInt8) : Lib.indexByte l c = idxF (fun x => x == c) l := by
 induction l with
 | nil => rfl
 | cons b l ih =>
  unfold Lib.indexByte;rw [ih];unfold idxF;rw [List.findIdx?_cons];by_cases h : (b == c) = true
  · rw [if_pos h, if_pos h]; rfl
  · rw [if_neg h, if_neg h]
    cases hf : l.findIdx? (fun x => x == c) with
    | none => simp
    | some i =>
     simp only [Option.map_some];rw [if_neg (by rw [beq_iff_eq]; omega)];rfl
theorem idxF_map {α β : Type} (f : α → β) (q : β → Bool) (l : List α) : idxF q (l.map f) = idxF (fun x => q (f x)) l := by
 unfold idxF;rw [List.findIdx?_map]; rfl
theorem idxF_congr {α : Type} {q r : α → Bool} {l : List α} (h : ∀ x ∈ l, q x = r x) : idxF q l = idxF r l := by
 have : l.findIdx? q = l.findIdx? r := by
  induction l with
  | nil => rfl
  | cons a l ih =>
   rw [List.findIdx?_cons, List.findIdx?_cons, h a (by simp), ih fun x hx => h x (by simp [hx])]
 unfold idxF;rw [this]
def firstB (l : List Int) (c : Int) : Int := idxF (fun x => x == c) l
theorem firstB_str (b : ByteArray) (c : Int) (h0 : 0 ≤ c) (h1 : c < 256) : Lib.indexByte b.data.toList c.toNat.toUInt8 = firstB (strB b) c := by
 rw [indexByte_idx];unfold firstB strB;rw [idxF_map];refine idxF_congr fun x _ => ?_
 have hx := x.toNat_lt;rw [Bool.eq_iff_iff, beq_iff_eq, beq_iff_eq]
 constructor
 · rintro rfl
   simp;omega
 · intro h
   apply UInt8.toNat_inj.1;simp;omega
section
variable {P : Program} {s : St} {f : FuncId} {fn : Func} {x y : Operand} {ts : Array TypeId} {c : Int}
theorem run_ext {e : Array Value → Sem Value} (hf : P.funcs[f]? = some fn) (hname : (fn.name == "runtime.NumGoroutine") = false) (hb : fn.body.isNone = true) (hn : Extern.findNext fn = none) (he : Extern.find fn = some e) {d : Option Tmp} {as : List Operand} {ty : TypeId} {pos : String} {af : Array Edge} {gd : Option (Nat × Bool)} (a : Act) (w : World) {v : Value}
 (hv : (e ⟨as.map a.eval⟩).run P w = .ok v w) : (execOp a.eval ⟨d, .call { callee := .value (.func f), args := as.toArray, argTypes := ts }, ty, pos, af, gd⟩).run P w = .ok (.value v) w := by
 have h := run_callFunc_extern hf hname hb hn he ⟨as.map a.eval⟩ w;rw [hv] at h;unfold execOp;simp [resolve, Deferred.ofValue, invoke, Act.eval, h]
theorem Lt.indexStr {b : ByteArray} (hf : P.funcs[f]? = some fn) (hname : (fn.name == "runtime.NumGoroutine") = false) (hb : fn.body.isNone = true) (hn : Extern.findNext fn = none) (he : Extern.find fn = some Extern.BytealgIndexByte.indexByte)
 (hx : ev s x = .v (.string b)) (hy : ev s y = .v (.int .u8 c)) (h0 : 0 ≤ c) (h1 : c < 256) :
 Lt P (.call { callee := .value (.func f), args := #[x, y], argTypes := ts }) s (.v (.int .i64 (firstB (strB b) c))) := fun d t pos af g base σ a w hr => by
 refine ⟨_, .v _, fun w' _ => ?_⟩
 refine run_ext (as := [x, y]) hf hname hb hn he a w' ?_
 have e1 := ev_v hr hx
 have e2 := ev_v hr hy
 simp only [List.map_cons, List.map_nil, e1, e2]
 rw [Lib.run_indexByteString, firstB_str b c h0 h1]
end
section
variable {P : Program} {base : Cx} {l l' : List AV} {H : List (Option AB)} {Q : Exit → St → Prop} {ops : Array Oper} {rest : List Oper} {d : Option Tmp} {t : TypeId} {pos : String} {af : Array Edge} {f : FuncId} {fn : Func} {x y : Operand} {ts : Array TypeId} {c : Int}
theorem AO.indexStr {b : ByteArray} [hx : EC true l x (.v (.string b))] [hy : EC true l y (.v (.int .u8 c))] (hf : P.funcs[f]? = some fn) (hname : (fn.name == "runtime.NumGoroutine") = false) (hb : fn.body.isNone = true) (hn : Extern.findNext fn = none) (he : Extern.find fn = some Extern.BytealgIndexByte.indexByte) (h0 : 0 ≤ c ∧ c < 256)
 [hd : DL l d (.v (.int .i64 (firstB (strB b) c))) l'] (k : AO P base ops rest ⟨l', H⟩ Q) : AO P base ops (⟨d, .call { callee := .value (.func f), args := #[x, y], argTypes := ts }, t, pos, af, none⟩ :: rest) ⟨l, H⟩ Q :=
 AO.light (Lt.indexStr hf hname hb hn he (hx.h rfl H) (hy.h rfl H) h0.1 h0.2) (by rw [hd.h]; exact k)
end
def ifV (t : TypeId) (c : Int) : Value := if c = 0 then .nilIface else .iface t (.int .i64 c)
class TCMP (P : Program) (t : TypeId) : Prop where
 h : (P.info? t).map (·.comparable) = some true
section
variable {P : Program} {s : St} {t tc : TypeId} {x y : Operand} {a b : Int} {ms : Array (String × TypeId)}
theorem Pu.mkIf {d : TypeDesc} {v : Value} (hu : P.underlying t = some d) (hd : (match d with | .interface _ => false | _ => true) = true) (hx : ev s x = .v v) : Pu P (.makeInterface t x) s (.v (.iface t v)) := fun d' t' pos af g base σ a w hr => by
 refine ⟨_, .v _, fun w' => ?_⟩
 rw [show execOp a.eval ⟨d', .makeInterface t x, t', pos, af, g⟩ = (do pure (Next.value (← Instr.makeInterface t (a.eval x)))) from rfl, ev_v hr hx]
 unfold Instr.makeInterface
 cases d <;> simp_all [run_underlying hu, Result.andThen]
theorem run_eqIf {u : TypeDesc} (hu : P.underlying t = some u) (hi : (match u with | .interface _ => true | _ => false) = true) (hc : P.underlying tc = some (.int .i64)) (hp : (P.info? tc).map (·.comparable) = some true) (hb : b ≠ 0) (w : World) :
 (Op.equal t (ifV tc a) (.iface tc (.int .i64 b))).run P w = .ok (decide (a = b)) w := by
 obtain ⟨i, h1, h2⟩ : ∃ i, P.info? tc = some i ∧ i.comparable = true := by
  cases hq : P.info? tc with
  | none => rw [hq] at hp; cases hp
  | some i => rw [hq] at hp; exact ⟨i, rfl, by simpa using hp⟩
 cases u with
 | interface ms =>
  unfold Op.equal Op.maxDepth ifV;by_cases h : a = 0
  · subst h
    rw [if_pos rfl, decide_eq_false (Ne.symm hb)];unfold Op.equalIn;simp [run_underlying hu, Result.andThen]
  · rw [if_neg h]
    unfold Op.equalIn;simp only [Sem.run_bind, run_underlying hu, Result.andThen_ok];simp only [ne_eq, not_true_eq_false, if_false, Sem.run_bind, typeInfo, run_program, Result.andThen_ok, h1, Sem.run_pure, h2, Bool.not_true, Bool.false_eq_true];unfold Op.equalIn;simp [run_underlying hc, Result.andThen];rw [Bool.eq_iff_iff, beq_iff_eq, decide_eq_true_eq]
 | _ => simp at hi
theorem run_eqNil {u : TypeDesc} (hu : P.underlying t = some u) (hi : (match u with | .interface _ => true | _ => false) = true) (w : World) :
 (Op.equal t (ifV tc a) .nilIface).run P w = .ok (decide (a = 0)) w := by
 cases u with
 | interface ms =>
  unfold Op.equal Op.maxDepth ifV;unfold Op.equalIn;by_cases h : a = 0
  · rw [if_pos h, decide_eq_true h]
    simp [run_underlying hu, Result.andThen]
  · rw [if_neg h, decide_eq_false h]
    simp [run_underlying hu, Result.andThen]
 | _ => simp at hi
theorem Pu.eqIf {yt : TypeId} {u : TypeDesc} (hu : P.underlying t = some u) (hi : (match u with | .interface _ => true | _ => false) = true) (hc : P.underlying tc = some (.int .i64)) (hp : (P.info? tc).map (·.comparable) = some true) (hb : b ≠ 0) (hx : ev s x = .v (ifV tc a)) (hy : ev s y = .v (.iface tc (.int .i64 b))) :
 Pu P (.binOp .eql t x y yt) s (.v (.bool (decide (a = b)))) :=
 Pu.bin hx hy fun w => by
  have h := run_eqIf (a := a) hu hi hc hp hb w
  have hg : (eqGuard .eql t x y (ifV tc a) (.iface tc (.int .i64 b))).run P w = .ok () w := by
   unfold ifV; by_cases ha : a = 0 <;> simp [ha, eqGuard]
  simp [Sem.run_bind, hg, binOp, h, Result.andThen]
theorem Pu.neIf {yt : TypeId} {u : TypeDesc} (hu : P.underlying t = some u) (hi : (match u with | .interface _ => true | _ => false) = true) (hc : P.underlying tc = some (.int .i64)) (hp : (P.info? tc).map (·.comparable) = some true) (hb : b ≠ 0) (hx : ev s x = .v (ifV tc a)) (hy : ev s y = .v (.iface tc (.int .i64 b))) :
 Pu P (.binOp .neq t x y yt) s (.v (.bool (decide (a ≠ b)))) :=
 Pu.bin hx hy fun w => by
  have h := run_eqIf (a := a) hu hi hc hp hb w
  have hg : (eqGuard .neq t x y (ifV tc a) (.iface tc (.int .i64 b))).run P w = .ok () w := by
   unfold ifV; by_cases ha : a = 0 <;> simp [ha, eqGuard]
  simp [Sem.run_bind, hg, binOp, h, Result.andThen]
theorem Pu.eqNil {yt : TypeId} {u : TypeDesc} (hu : P.underlying t = some u) (hi : (match u with | .interface _ => true | _ => false) = true) (hx : ev s x = .v (ifV tc a)) :
 Pu P (.binOp .eql t x (.const .nilIface) yt) s (.v (.bool (decide (a = 0)))) :=
 Pu.bin (y := .const .nilIface) hx rfl fun w => by
  have h := run_eqNil (tc := tc) (a := a) hu hi w
  have hg : (eqGuard .eql t x (.const .nilIface) (ifV tc a) .nilIface).run P w = .ok () w := by
   unfold ifV; by_cases ha : a = 0 <;> simp [ha, eqGuard]
  simp [Sem.run_bind, hg, binOp, h, Result.andThen]
theorem Pu.neNil {yt : TypeId} {u : TypeDesc} (hu : P.underlying t = some u) (hi : (match u with | .interface _ => true | _ => false) = true) (hx : ev s x = .v (ifV tc a)) :
 Pu P (.binOp .neq t x (.const .nilIface) yt) s (.v (.bool (decide (a ≠ 0)))) :=
 Pu.bin (y := .const .nilIface) hx rfl fun w => by
  have h := run_eqNil (tc := tc) (a := a) hu hi w
  have hg : (eqGuard .neq t x (.const .nilIface) (ifV tc a) .nilIface).run P w = .ok () w := by
   unfold ifV; by_cases ha : a = 0 <;> simp [ha, eqGuard]
  simp [Sem.run_bind, hg, binOp, h, Result.andThen]
variable {c : Bool} {l : List AV} {H : List (Option AB)} {yt : TypeId}
instance mkIfI {k : IntKind} [tu : TU P t (.int k)] {v : Value} [h : EC c l x (.v v)] : PC c P (.makeInterface t x) l H (.v (.iface t v)) := ⟨fun hc => Pu.mkIf tu.h rfl (h.h hc H)⟩
instance eqIfN [tu : TU P t (.interface ms)] [h : EC c l x (.v (ifV tc a))] : PC c P (.binOp .eql t x (.const .nilIface) yt) l H (.v (.bool (decide (a = 0)))) := ⟨fun hc => Pu.eqNil tu.h rfl (h.h hc H)⟩
instance neIfN [tu : TU P t (.interface ms)] [h : EC c l x (.v (ifV tc a))] : PC c P (.binOp .neq t x (.const .nilIface) yt) l H (.v (.bool (decide (a ≠ 0)))) := ⟨fun hc => Pu.neNil tu.h rfl (h.h hc H)⟩
instance eqIfC [tu : TU P t (.interface ms)] [tv : TU P tc (.int .i64)] [tp : TCMP P tc] [h : EC c l x (.v (ifV tc a))] [h' : EC c l y (.v (.iface tc (.int .i64 b)))] : OC c P (.binOp .eql t x y yt) l H (.v (.bool (decide (a = b)))) (b ≠ 0) := ⟨fun hc hb => (Pu.eqIf tu.h rfl tv.h tp.h hb (h.h hc H) (h'.h hc H)).lt⟩
instance neIfC [tu : TU P t (.interface ms)] [tv : TU P tc (.int .i64)] [tp : TCMP P tc] [h : EC c l x (.v (ifV tc a))] [h' : EC c l y (.v (.iface tc (.int .i64 b)))] : OC c P (.binOp .neq t x y yt) l H (.v (.bool (decide (a ≠ b)))) (b ≠ 0) := ⟨fun hc hb => (Pu.neIf tu.h rfl tv.h tp.h hb (h.h hc H) (h'.h hc H)).lt⟩
end
section
variable {P : Program} {base : Cx} {s s1 : St} {Q : Exit → St → Prop}
variable {l l' : List AV} {H : List (Option AB)} {os : List Oper} {ops : Array Oper} {rest : List Oper} {d : Option Tmp} {op : Op} {t : TypeId} {pos : String} {af : Array Edge} {j u : Nat} {b want : Bool}
theorem execOp_guard {ρ : Operand → Value} {g : Option (Nat × Bool)} : execOp ρ ⟨d, op, t, pos, af, g⟩ = execOp ρ ⟨d, op, t, pos, af, none⟩ := by unfold execOp; rfl
theorem AO.gk [ho : DO os j u] [hg : GL l u (.v (.bool b))] (hb : b = want) (k : AO P base os.toArray (⟨d, op, t, pos, af, none⟩ :: rest) ⟨l, H⟩ Q) : AO P base os.toArray (⟨d, op, t, pos, af, some (j, want)⟩ :: rest) ⟨l, H⟩ Q := by
 intro σ a w hr K hk;have h := k σ a w hr K hk;have hw := wanted_ok (ops := os.toArray) hr (o := ⟨d, op, t, pos, af, some (j, want)⟩) (b := true) (by rw [wanted_some (s := ⟨l, H⟩) (by simpa using ho.h) (hg.ev H), hb]; simp);unfold wpList at h ⊢;rw [hw, if_pos rfl];rw [show Region.wanted (⟨d, op, t, pos, af, none⟩ : Oper) (yielded os.toArray a.tmps) = true from rfl, if_pos rfl] at h
 rcases h with h | h
 · refine .inl ?_
   unfold Oper.wp at h ⊢;rw [execOp_guard];exact h
 · refine .inr ⟨?_, h.2⟩
   have h1 := h.1;unfold Oper.asks at h1 ⊢;rw [execOp_guard];exact h1
theorem AO.callE {α : Type} {av : α → AV} {H2 : α → List (Option AB)} {p : α → Prop} {lx : α → List AV} {f : FuncId} {fn : Func} {as : List Operand} {ts : Array TypeId} {args : List AV} (hf : P.funcs[f]? = some fn) (hname : (fn.name == "runtime.NumGoroutine") = false) (hb : fn.body.isSome = true)
 [ha : ARG l as args] (h : AC P f H args (fun r H' => ∃ x, r = av x ∧ H' = H2 x ∧ p x)) [hd : ∀ x, DL l d (av x) (lx x)] (k : ∀ x, p x → AO P base ops rest ⟨lx x, H2 x⟩ Q) : AO P base ops (⟨d, .call { callee := .value (.func f), args := as.toArray, argTypes := ts }, t, pos, af, none⟩ :: rest) ⟨l, H⟩ Q := by
 refine AO.heavy rfl (Hv.call hf hname hb (ha.h H) h) fun s1 ⟨r, H', h1, h2⟩ => ?_
 obtain ⟨x, h3, h4, h5⟩ := h1;subst h3; subst h4; subst h2;rw [(hd x).h]; exact k x h5
end
section
variable {P : Program} {base : Cx} {s : St}
theorem set_some {H : List (Option AB)} {id i : Nat} {b c : AB} (h : (H.set id (some c))[i]? = some (some b)) : (i = id ∧ b = c) ∨ (i ≠ id ∧ H[i]? = some (some b)) := by
 by_cases he : id = i
 · subst he
   by_cases hl : id < H.length
   · rw [List.getElem?_set_self hl] at h; exact .inl ⟨rfl, (Option.some.inj (Option.some.inj h)).symm⟩
   · rw [List.getElem?_eq_none (by simp; omega)] at h; cases h
 · rw [List.getElem?_set_ne he] at h
   exact .inr ⟨Ne.symm he, h⟩
theorem Rel.reBox {σ : Nat → Value} {a : Act} {w : World} {id : Nat} {t : TypeId} {cs cs' : List AV} (hr : Rel base σ s a w) (hH : s.H[id]? = some (some (.box t cs))) (hl : cs'.length = cs.length)
 (hc : ∀ (j : Nat) (av av' : AV) (x : Value), cs[j]? = some av → cs'[j]? = some av' → VR ⟨w, s.H.set id (some (.box t cs')), σ, base.F⟩ av x → VR ⟨w, s.H.set id (some (.box t cs')), σ, base.F⟩ av' x) :
 Rel base σ ⟨s.fr, s.H.set id (some (.box t cs'))⟩ a w ∧ Ext ⟨w, s.H, σ, base.F⟩ ⟨w, s.H.set id (some (.box t cs')), σ, base.F⟩ := by
 have hours : ∀ k, Env.ours ⟨w, s.H.set id (some (.box t cs')), σ, base.F⟩ k → Env.ours ⟨w, s.H, σ, base.F⟩ k := by
  rintro k ⟨i, b, h1, h2⟩
  rcases set_some h1 with ⟨rfl, _⟩ | ⟨_, h3⟩
  · exact ⟨i, _, hH, h2⟩
  · exact ⟨i, b, h3, h2⟩
 have he : Ext ⟨w, s.H, σ, base.F⟩ ⟨w, s.H.set id (some (.box t cs')), σ, base.F⟩ := by
  refine ⟨rfl, rfl, rfl, Nat.le_refl _, rfl, fun k _ _ => rfl, fun k h _ => hours k h, by simp, fun i e sz ep rows' h1 _ => ?_, fun i t2 cs2 h1 _ => ?_, fun i es' h1 _ => ?_⟩
  · rcases set_some h1 with ⟨_, h3⟩ | ⟨_, h3⟩
    · cases h3
    · exact ⟨ep, rows', h3, .inr ⟨rfl, rfl, rfl⟩⟩
  · rcases set_some h1 with ⟨rfl, h3⟩ | ⟨_, h3⟩
    · cases h3; exact ⟨cs, hH, rfl, hl⟩
    · exact ⟨cs2, h3, rfl, rfl⟩
  · rcases set_some h1 with ⟨_, h3⟩ | ⟨_, h3⟩
    · cases h3
    · exact ⟨es', h3, rfl⟩
 refine ⟨⟨⟨hr.1.bs, hr.1.far, fun g h => hr.1.clear g (hours g h), fun i b h1 => ?_, fun i i' b b' g h1 h2 h3 h4 => ?_⟩, hr.2.1.ext he, hr.2.2⟩, he⟩
 · rcases set_some h1 with ⟨rfl, rfl⟩ | ⟨_, h3⟩
   · obtain ⟨g, us, q1, q2, q3, q4⟩ := hr.1.live i _ hH
     refine ⟨g, us, q1, q2, q3, q4.1.trans hl.symm, q4.2.1, fun j av' x hj hx => ?_⟩;have hlt : j < cs.length := by rw [← hl]; exact (List.getElem?_eq_some_iff.1 hj).1
     exact hc j _ av' x (List.getElem?_eq_getElem hlt) hj ((q4.2.2 j _ x (List.getElem?_eq_getElem hlt) hx).ext he)
   · exact (hr.1.live i b h3).keep he rfl fun _ _ => rfl
 · rcases set_some h1 with ⟨rfl, _⟩ | ⟨_, k1⟩ <;> rcases set_some h2 with ⟨rfl, _⟩ | ⟨_, k2⟩
   · rfl
   · exact hr.1.apart i i' _ _ g hH k2 h3 h4
   · exact hr.1.apart i i' _ _ g k1 hH h3 h4
   · exact hr.1.apart i i' _ _ g k1 k2 h3 h4
instance tellNilB : TELL (.v (.slice none 0 0)) (.rd 1 (bys [])) := tellNil
theorem Gh.tellC {n : Nat} {L L' : List (Option AB)} {l : List AV} {bt : TypeId} {cs : List AV} (k : Nat) (cs' : List AV) [gb : GB L k (.box bt cs)] [te : TELLs cs cs'] [sb : SB L k (some (.box bt cs')) L'] : Gh base ⟨l, Hn n L⟩ ⟨l, Hn n L'⟩ := fun σ a w hr => by
 have hH : (Hn n L)[n + k]? = some (some (.box bt cs)) := by rw [Hn_get]; exact gb.h
 have h := Rel.reBox (cs' := cs') hr hH te.h.1.symm (fun j av av' x h1 h2 h3 => te.h.2 _ j av av' x h1 h2 h3)
 have e1 : (Hn n L).set (n + k) (some (AB.box bt cs')) = Hn n L' := by rw [Hn_set, sb.h]
 simp only [e1] at h
 exact ⟨σ, h.1, h.2⟩
theorem Gh.adoptC {n m : Nat} {L L' L'' : List (Option AB)} {l : List AV} {bt : TypeId} {cs cs' : List AV} (k j : Nat) (e : TypeId) (sz : Nat) [gb : GB L k (.box bt cs)] (hj : cs[j]? = some (.v (.slice none 0 0))) [pb : PB L (some (.row e sz 0 [])) m L'] [sl : SL cs j (.own (n + m) 0 0 0) cs'] [sb : SB L' k (some (.box bt cs')) L''] : Gh base ⟨l, Hn n L⟩ ⟨l, Hn n L''⟩ := fun σ a w hr => by
 obtain rfl := sl.h
 have hv : ∀ g, blkOf (.slice none 0 0) = some g → w.heap.size ≤ g := fun g hg => by cases hg
 have he := Ext.push (base := base) (w := w) (w1 := w) (H := Hn n L) (σ := σ) (.row e sz 0 []) (.slice none 0 0) rfl rfl rfl (KeepW.refl w) hv
 have hHp := hr.1.push he (KeepW.refl w) hv (b := .row e sz 0 []) ⟨[], ⟨by simp, .inl ⟨by simp [pushσ], rfl⟩⟩, RowsR.nil _ _⟩
 have e0 : (Hn n L).length = n + m := by rw [Hn_len, pb.k]
 have hr1 : Rel base (pushσ σ (Hn n L).length (.slice none 0 0)) ⟨l, Hn n L ++ [some (.row e sz 0 [])]⟩ a w := ⟨hHp, hr.2.1.ext he, hr.2.2⟩
 have hk : k < L.length := (List.getElem?_eq_some_iff.1 gb.h).1
 have hH : (Hn n L ++ [some (AB.row e sz 0 [])])[n + k]? = some (some (.box bt cs)) := by
  rw [List.getElem?_append_left (by rw [Hn_len]; omega), Hn_get]; exact gb.h
 have hm : m = L.length := pb.k.symm;have h := Rel.reBox (s := ⟨l, Hn n L ++ [some (.row e sz 0 [])]⟩) (id := n + k) (cs' := cs.set j (.own (n + m) 0 0 0)) hr1 hH (by simp) (fun i av av' x h1 h2 h3 => by
  by_cases hji : j = i
  · subst hji
    rw [List.getElem?_set_self (List.getElem?_eq_some_iff.1 hj).1] at h2;obtain rfl := Option.some.inj h2;rw [hj] at h1;obtain rfl := Option.some.inj h1;cases h3;refine .own ⟨?_, fun e' sz' ep' rows' h4 => ?_⟩ ⟨none, 0, rfl⟩
    · show n + m < ((Hn n L ++ [some (AB.row e sz 0 [])]).set (n + k) _).length
      rw [List.length_set, List.length_append, e0]; simp
    · have h4 : ((Hn n L ++ [some (AB.row e sz 0 [])]).set (n + k) _)[n + m]? = some (some (.row e' sz' ep' rows')) := h4
      rw [List.getElem?_set_ne (by omega), List.getElem?_append_right (by omega), e0, Nat.sub_self] at h4;simp at h4;obtain ⟨rfl, rfl, rfl, rfl⟩ := h4;exact ⟨Nat.le_refl _, fun _ => ⟨by simp, none, 0, none, by simp [pushσ, e0], by simp, by simp, by simp⟩⟩
  · rw [List.getElem?_set_ne hji] at h2
    rw [h1] at h2;obtain rfl := Option.some.inj h2;exact h3)
 have e1 : (Hn n L ++ [some (AB.row e sz 0 [])]).set (n + k) (some (AB.box bt (cs.set j (.own (n + m) 0 0 0)))) = Hn n L'' := by
  rw [Hn_push, pb.h, Hn_set, sb.h]
 have e1' := e1;rw [Hn_push, pb.h] at e1';simp only [e1] at h;exact ⟨_, h.1, he.trans h.2⟩
end
section
variable {P : Program} {base : Cx} {s : St}
theorem Rel.reBox2 {σ : Nat → Value} {a : Act} {w : World} {id : Nat} {t : TypeId} {cs cs' : List AV} (hr : Rel base σ s a w) (hH : s.H[id]? = some (some (.box t cs))) (hl : cs'.length = cs.length)
 (hc : ∀ (g : Nat) (us : List Value), σ id = .pointer (some ⟨g, 0, none⟩) → w.heap[g]? = some (.cells ⟨us⟩ t (0, 0)) → ∀ (j : Nat) (av' : AV) (x : Value), cs'[j]? = some av' → us[j]? = some x → VR ⟨w, s.H.set id (some (.box t cs')), σ, base.F⟩ av' x) :
 Rel base σ ⟨s.fr, s.H.set id (some (.box t cs'))⟩ a w ∧ Ext ⟨w, s.H, σ, base.F⟩ ⟨w, s.H.set id (some (.box t cs')), σ, base.F⟩ := by
 have hours : ∀ k, Env.ours ⟨w, s.H.set id (some (.box t cs')), σ, base.F⟩ k → Env.ours ⟨w, s.H, σ, base.F⟩ k := by
  rintro k ⟨i, b, h1, h2⟩
  rcases set_some h1 with ⟨rfl, _⟩ | ⟨_, h3⟩
  · exact ⟨i, _, hH, h2⟩
  · exact ⟨i, b, h3, h2⟩
 have he : Ext ⟨w, s.H, σ, base.F⟩ ⟨w, s.H.set id (some (.box t cs')), σ, base.F⟩ := by
  refine ⟨rfl, rfl, rfl, Nat.le_refl _, rfl, fun k _ _ => rfl, fun k h _ => hours k h, by simp, fun i e sz ep rows' h1 _ => ?_, fun i t2 cs2 h1 _ => ?_, fun i es' h1 _ => ?_⟩
  · rcases set_some h1 with ⟨_, h3⟩ | ⟨_, h3⟩
    · cases h3
    · exact ⟨ep, rows', h3, .inr ⟨rfl, rfl, rfl⟩⟩
  · rcases set_some h1 with ⟨rfl, h3⟩ | ⟨_, h3⟩
    · cases h3; exact ⟨cs, hH, rfl, hl⟩
    · exact ⟨cs2, h3, rfl, rfl⟩
  · rcases set_some h1 with ⟨_, h3⟩ | ⟨_, h3⟩
    · cases h3
    · exact ⟨es', h3, rfl⟩
 refine ⟨⟨⟨hr.1.bs, hr.1.far, fun g h => hr.1.clear g (hours g h), fun i b h1 => ?_, fun i i' b b' g h1 h2 h3 h4 => ?_⟩, hr.2.1.ext he, hr.2.2⟩, he⟩
 · rcases set_some h1 with ⟨rfl, rfl⟩ | ⟨_, h3⟩
   · obtain ⟨g, us, q1, q2, q3, q4⟩ := hr.1.live i _ hH
     exact ⟨g, us, q1, q2, q3, q4.1.trans hl.symm, q4.2.1, fun j av' x hj hx => hc g us q1 q3 j av' x hj hx⟩
   · exact (hr.1.live i b h3).keep he rfl fun _ _ => rfl
 · rcases set_some h1 with ⟨rfl, _⟩ | ⟨_, k1⟩ <;> rcases set_some h2 with ⟨rfl, _⟩ | ⟨_, k2⟩
   · rfl
   · exact hr.1.apart i i' _ _ g hH k2 h3 h4
   · exact hr.1.apart i i' _ _ g k1 hH h3 h4
   · exact hr.1.apart i i' _ _ g k1 k2 h3 h4
theorem Gh.freezeC {n m ep len sz : Nat} {L L1 L2 : List (Option AB)} {l : List AV} {bt e : TypeId} {cs cs' : List AV} {rows : List (List AV)} (k j : Nat) [gb : GB L k (.box bt cs)] [gj : GL cs j (.own (n + m) ep 0 len)] [gr : GB L m (.row e sz ep rows)] [sl : SL cs j (.rd sz rows) cs'] [s1 : SB L m none L1] [s2 : SB L1 k (some (.box bt cs')) L2] (hl : rows.length = len) (hm : rows.length ≤ 9223372036854775807) :
 Gh base ⟨l, Hn n L⟩ ⟨l, Hn n L2⟩ := fun σ a w hr => by
 have hH : (Hn n L)[n + k]? = some (some (.box bt cs)) := by rw [Hn_get]; exact gb.h
 have hR : (Hn n L)[n + m]? = some (some (.row e sz ep rows)) := by rw [Hn_get]; exact gr.h
 have hne : n + m ≠ n + k := fun h => by rw [h, hH] at hR; cases hR
 obtain ⟨g, us, q1, q2, q3, q4⟩ := hr.1.live _ _ hH
 have q1 : σ (n + k) = .pointer (some ⟨g, 0, none⟩) := q1
 have q3 : w.heap[g]? = some (.cells ⟨us⟩ bt (0, 0)) := q3
 have hf := Ext.forget (base := base) (w := w) (H := Hn n L) (H' := (Hn n L).set (n + m) none) (σ := σ) (by simp) (fun i b h => (set_none h).1)
 have hr1 : Rel base σ ⟨l, (Hn n L).set (n + m) none⟩ a w := ⟨hr.1.forget (by simp) (fun i b h => (set_none h).1), hr.2.1.ext hf, hr.2.2⟩
 have hH1 : ((Hn n L).set (n + m) none)[n + k]? = some (some (.box bt cs)) := by rw [List.getElem?_set_ne hne]; exact hH
 have hjl : j < cs.length := (List.getElem?_eq_some_iff.1 gj.h).1
 have h := Rel.reBox2 (s := ⟨l, (Hn n L).set (n + m) none⟩) (cs' := cs') hr1 hH1 (by rw [← sl.h]; simp) (fun g' us' p1 p2 i av' x h1 h2 => by
  rw [q1] at p1
  cases p1
  rw [q3] at p2
  cases p2
  rw [← sl.h] at h1
  have hE : Ext ⟨w, (Hn n L).set (n + m) none, σ, base.F⟩ ⟨w, ((Hn n L).set (n + m) none).set (n + k) (some (.box bt cs')), σ, base.F⟩ := by
   have hl' : cs'.length = cs.length := by rw [← sl.h]; simp
   refine ⟨rfl, rfl, rfl, Nat.le_refl _, rfl, fun k _ _ => rfl, fun g ⟨i, b, h1, h2⟩ _ => ?_, by simp, fun i e sz ep rows' h1 _ => ?_, fun i t2 cs2 h1 _ => ?_, fun i es' h1 _ => ?_⟩
   · rcases set_some h1 with ⟨rfl, _⟩ | ⟨_, h3⟩
     · exact ⟨_, _, hH1, h2⟩
     · exact ⟨i, b, h3, h2⟩
   · rcases set_some h1 with ⟨_, h3⟩ | ⟨_, h3⟩
     · cases h3
     · exact ⟨ep, rows', h3, .inr ⟨rfl, rfl, rfl⟩⟩
   · rcases set_some h1 with ⟨rfl, h3⟩ | ⟨_, h3⟩
     · cases h3; exact ⟨cs, hH1, rfl, hl'⟩
     · exact ⟨cs2, h3, rfl, rfl⟩
   · rcases set_some h1 with ⟨_, h3⟩ | ⟨_, h3⟩
     · cases h3
     · exact ⟨es', h3, rfl⟩
  by_cases hji : j = i
  · subst hji
    rw [List.getElem?_set_self hjl] at h1;obtain rfl := Option.some.inj h1;have hv := own_rd hr.1 hR (q4.2.2 j _ x gj.h h2) (by unfold maxLen; omega);rw [List.drop_zero, ← hl, List.take_of_length_le (Nat.le_refl _)] at hv;exact hv.ext hE
  · rw [List.getElem?_set_ne hji] at h1
    exact ((q4.2.2 i av' x h1 h2).ext hf).ext hE)
 have e1 : ((Hn n L).set (n + m) none).set (n + k) (some (AB.box bt cs')) = Hn n L2 := by rw [Hn_set, s1.h, Hn_set, s2.h]
 simp only [e1] at h;exact ⟨σ, h.1, hf.trans h.2⟩
end
section
variable {P : Program} {s : St} {c : Bool} {l : List AV} {H : List (Option AB)} {x y : Operand} {t t' : TypeId} {k : IntKind} {p q : Int}
theorem Pu.andNot_ {xt yt : TypeId} (hx : ev s x = .v (.int k p)) (hy : ev s y = .v (.int k q)) : Pu P (.binOp .andNot xt x y yt) s (.v (.int k (Go.bits .andNot k p q))) :=
 Pu.bin hx hy fun w => by simp [eqGuard, binOp, Op.intBits, Go.bits]
instance [h : EC c l x (.v (.int k p))] [h' : EC c l y (.v (.int k q))] : PC c P (.binOp .andNot t x y t') l H (.v (.int k (Go.bits .andNot k p q))) := ⟨fun hc => Pu.andNot_ (h.h hc H) (h'.h hc H)⟩
end
section
variable {P : Program} {base : Cx} {l l' : List AV} {Q : Exit → St → Prop} {ops : Array Oper} {rest : List Oper} {d : Option Tmp} {t ty bt : TypeId} {pos : String} {af : Array Edge} {x y : Operand} {n kk ep i off sz sz' : Nat} {L L' : List (Option AB)} {rows : List (List AV)} {ps : List AV} {av0 : AV} {gg : Bool}
theorem AO.ldR1 (row : List AV) (av : AV) [tg : TG P t false sz] [h : EC true l x (.optr (n + kk) ep i off)] [hb : GB L kk (.row bt sz' ep rows)] (hr : rows[i]? = some row) (hv : row[off]? = some av) [hd : DL l d av l'] (k : AO P base ops rest ⟨l', Hn n L⟩ Q) : AO P base ops (⟨d, .load t x, ty, pos, af, none⟩ :: rest) ⟨l, Hn n L⟩ Q :=
 AO.light (Lt.loadO1 (sz := sz) rfl (h.h rfl _) hb.h hr hv) (by rw [hd.h]; exact k)
theorem AO.ldRN (row cs' : List AV) [tg : TG P t true sz] [h : EC true l x (.optr (n + kk) ep i off)] [hb : GB L kk (.row bt sz' ep rows)] (hr : rows[i]? = some row) (ho : off < row.length) (hs : off + sz ≤ row.length) (hc : (row.drop off).take sz = cs') [hd : DL l d (.agg cs') l'] (k : AO P base ops rest ⟨l', Hn n L⟩ Q) : AO P base ops (⟨d, .load t x, ty, pos, af, none⟩ :: rest) ⟨l, Hn n L⟩ Q :=
 AO.light (Lt.loadON (sz := sz) rfl (h.h rfl _) hb.h hr ho hs hc) (by rw [hd.h]; exact k)
theorem AO.stR (rows' : List (List AV)) [tg : TG P t gg sz'] [h : EC true l x (.optr (n + kk) ep i off)] [gb : GB L kk (.row bt sz ep rows)] [h' : EC true l y av0] [hv : PVc av0 ps] [hn : LN ps sz'] (hi : i < rows.length ∧ off + sz' ≤ sz) (hr : rows.set i (layAt (rows.getD i []) off ps) = rows') [sb : SB L kk (some (.row bt sz ep rows')) L'] (k : AO P base ops rest ⟨l, Hn n L'⟩ Q) : AO P base ops (⟨none, .store t x y, ty, pos, af, none⟩ :: rest) ⟨l, Hn n L⟩ Q := by
 subst hr;have hs : HS P (.store t x y) l (Hn n L) (Hn n L') (i < rows.length ∧ off + sz' ≤ sz) := inferInstance;exact AO.heavy rfl (hs.h hi base ty pos af none) fun s1 h1 => by subst h1; exact k
end
class ASJ (X : List (Option AB)) (j : Nat) (L : outParam (List (Option AB))) (T : outParam (List (Option AB))) : Prop where
 h : X = (L ++ List.replicate j none) ++ T
instance (priority := high) asjSelf {L T : List (Option AB)} {j : Nat} : ASJ ((L ++ List.replicate j none) ++ T) j L T := ⟨rfl⟩
instance asjMore {A B L T : List (Option AB)} {j : Nat} [h : ASJ A j L T] : ASJ (A ++ B) j L (T ++ B) := ⟨by rw [h.h, List.append_assoc]⟩
section
variable {α : Type} {P : Program} {base : Cx} {l lm : List AV} {Q : Exit → St → Prop}
theorem AW.backE (m : List KP) [mk : MK l m lm] {l1 : α → List AV} {H1 : α → List (Option AB)} {I : Nat → α → Prop} {n nn : Nat} {X T L : List (Option AB)} (j : Nat) [as : ASJ X j L T] (n' : Nat) (x' : α) (hn : n' < n) (hI : I n' x') (hl : lm = l1 x') (hH : Hn nn ((L ++ List.replicate (j + T.length) none) ++ []) = H1 x') :
 ∃ s2, Gh base ⟨l, Hn nn X⟩ s2 ∧ LU l1 H1 I n Q .normal s2 := by
 haveI : ASC X (L ++ List.replicate j none) T := ⟨as.h⟩
 exact AW.backD m L j n' x' hn hI hl hH
end
instance (priority := low) pbAbs {L : List (Option AB)} {z : Nat} {b : Option AB} [h : LEN L z] : PB L b (zadd z 0) (L ++ [b]) := ⟨rfl, by rw [h.h]; rfl⟩
theorem Gh.dropT {base : Cx} {l : List AV} {n : Nat} {L T : List (Option AB)} : Gh base ⟨l, Hn n (L ++ T)⟩ ⟨l, Hn n (L ++ List.replicate T.length none)⟩ := by
 have h := Gh.dead (base := base) (l := l) (n := n) (j := 0) (L := L) (T := T);simpa using h
section
variable {P : Program} {base : Cx} {s : St}
theorem Rel.later {σ : Nat → Value} {a : Act} {w w' : World} (hr : Rel base σ s a w) (hk : KeepW w w') (h1 : w'.os = w.os) (h2 : w'.tape = w.tape) (h3 : w'.output = w.output) : Rel base σ s a w' ∧ Ext ⟨w, s.H, σ, base.F⟩ ⟨w', s.H, σ, base.F⟩ := by
 have he : Ext ⟨w, s.H, σ, base.F⟩ ⟨w', s.H, σ, base.F⟩ :=
  ⟨h1, h2, h3, hk.1, rfl, fun k h _ => hk.2 k h, fun k h _ => h, Nat.le_refl _, fun id e sz ep rows' h6 _ => ⟨ep, rows', h6, .inr ⟨rfl, rfl, rfl⟩⟩, fun id t cs' h6 _ => ⟨cs', h6, rfl, rfl⟩, fun id es' h6 _ => ⟨es', h6, rfl⟩⟩
 exact ⟨⟨⟨Nat.le_trans hr.1.bs hk.1, fun g h => Nat.lt_of_lt_of_le (hr.1.far g h) hk.1, hr.1.clear, fun id b h6 => (hr.1.live id b h6).keep he rfl fun g hg' => hk.2 g (blk_lt hr.1 h6 hg').2, hr.1.apart⟩, hr.2.1.ext he, hr.2.2⟩, he⟩
theorem HvK.b0 {d : Option Tmp} {t e ty : TypeId} {sz : Nat} {pos : String} {af : Array Edge} {g : Option (Nat × Bool)} (hu : P.underlying t = some (.slice e)) (hs : (P.info? e).map (·.size) = some sz) :
 HvK P base ⟨d, .buildSlice t 0 #[], ty, pos, af, g⟩ s (fun s' => ∃ ad, s' = s.put d (.v (.slice (some ad) 0 0))) := by
 intro σ a w hr Q K hk;unfold Oper.wp;have hrun : (execOp a.eval ⟨d, .buildSlice t 0 #[], ty, pos, af, g⟩).run P w = .ok (.value (.slice (some ⟨w.heap.size, 0, none⟩) 0 0)) (w.alloc (.cells ⟨[]⟩ e)) := by
  simp [execOp, Instr.buildSlice, run_underlying hu, run_size hs, Instr.fill, newRow, Array.range_zero']
 rw [hrun];obtain ⟨h1, h2⟩ := hr.later (keep_alloc w (.cells ⟨[]⟩ e)) rfl rfl rfl;exact hk σ _ _ _ (h1.put d (.v _)) (by rw [put_H]; exact h2) (keep_alloc _ _) ⟨_, rfl⟩
theorem HvK.app0 {d : Option Tmp} {t e ty : TypeId} {u : Tmp} {y : Operand} {pos : String} {af : Array Edge} {gd : Option (Nat × Bool)} {sz bytes : Nat} {z : Value} {ad : Addr} {rows2 : List (List AV)} (ht : P.underlying t = some (.slice e))
 (hi3 : (P.info? e).map (fun i => (i.zero, i.size, i.bytes)) = some (some z, sz, bytes)) (hzs : z.cells.size = sz) (hsz : 0 < sz) (hx : ev s (.tmp u) = .v (.slice (some ad) 0 0)) (hy : ev s y = .rd sz rows2) (hb : rows2.length * bytes ≤ 140737488355328) (h63 : rows2.length ≤ maxLen) :
 HvK P base ⟨d, .call { callee := .builtin .append, args := #[.tmp u, y], argTypes := #[t, t] }, ty, pos, af, gd⟩ s (fun s' => s' = (⟨s.fr.set u .any, s.H⟩ : St).put d (.rd sz rows2)) := by
 intro σ a w hr Q K hk;have hr0 : Rel base σ ⟨s.fr.set u .any, s.H⟩ a w := ⟨hr.1, ⟨by simpa using hr.2.1.1, fun i av hi => by
  have hi : (s.fr.set u .any)[i]? = some av := hi;by_cases he : u = i
  · subst he
    have hl : u < s.fr.length := by have := (List.getElem?_eq_some_iff.1 hi).1; simpa using this
    rw [List.getElem?_set_self hl] at hi;obtain rfl := Option.some.inj hi;obtain ⟨x, h1, _⟩ := hr.2.1.2 u _ (List.getElem?_eq_getElem hl);exact ⟨x, h1, .any x⟩
  · rw [List.getElem?_set_ne he] at hi
    exact hr.2.1.2 i av hi⟩, hr.2.2⟩
 obtain ⟨i, hi0, hz, hs, hby⟩ := info_parts hi3;have ex := ev_v hr hx;obtain ⟨B0, c1, ys, hy0, hys, hya⟩ := Src.rd (base := base) hy σ a w hr;unfold Oper.wp;rcases Nat.eq_zero_or_pos rows2.length with h0 | h0
 · have h20 : rows2 = [] := List.length_eq_zero_iff.1 h0
   have hrun : (execOp a.eval ⟨d, .call { callee := .builtin .append, args := #[.tmp u, y], argTypes := #[t, t] }, ty, pos, af, gd⟩).run P w = .ok (.value (.slice (some ad) 0 0)) w := by
    simp only [execOp, resolve, Sem.run_bind, Sem.run_pure, Result.andThen_ok, invoke, builtin, List.map_toArray, List.map_cons, List.map_nil, ex, hy0];rw [run_append_none ht hi0 h0 w];simp only [Result.andThen_ok]
   rw [hrun];subst h20;refine hk σ _ _ w (hr0.put d (.rd (fun _ _ => undef) (Nat.le_refl _) (by simp) (fun row h => by cases h) (fun h => by simp at h) (fun i row j av h => by simp at h))) (by rw [put_H]; exact Ext.refl _) (KeepW.refl w) rfl
 · obtain ⟨bd, rfl, hcell⟩ := hya h0
   obtain ⟨v', w', hrun, r1, r2⟩ := run_append_arg_grows (P := P) w t ty e i z sz bytes ht hi0 hz hs hby hzs hsz ad 0 0 [] (by simp) (fun j u h => by simp at h) bd rows2.length c1 ys hys.2.1 hcell (by omega) (by rw [Nat.zero_add]; exact h63) (by rw [Nat.zero_add]; exact hb)
   have hrun' : (execOp a.eval ⟨d, .call { callee := .builtin .append, args := #[.tmp u, y], argTypes := #[t, t] }, ty, pos, af, gd⟩).run P w = .ok (.value v') w' := by
    simp only [execOp, resolve, Sem.run_bind, Sem.run_pure, Result.andThen_ok, invoke, builtin, List.map_toArray, List.map_cons, List.map_nil, ex, hy0, hrun]
   rw [hrun'];rw [Nat.zero_add, List.nil_append] at r1;obtain ⟨q1, q2⟩ := grown_rd (s := ⟨s.fr.set u .any, s.H⟩) hr0 hys h63 r1 r2 h0 d;exact hk σ _ _ w' q1 (by rw [put_H]; exact q2) ⟨r2.size, fun k hk => r2.block k hk (by simp)⟩ rfl
end
section
variable {P : Program} {base : Cx} {l : List AV} {l' : List AV} {H : List (Option AB)} {Q : Exit → St → Prop} {ops : Array Oper} {rest : List Oper} {d : Option Tmp} {t e ty : TypeId} {pos : String} {af : Array Edge} {sz bytes i : Nat} {z : Value} {ds : List Nat} {rst : OT} {y : Operand} {u : Tmp} {l1 : List AV} {ad : Addr} {rows2 : List (List AV)}
theorem AO.b0 {lx : Addr → List AV} {g : Bool} [tu : TU P t (.slice e)] [tg : TG P e g sz] [hd : ∀ ad, DL l d (.v (.slice (some ad) 0 0)) (lx ad)] (k : ∀ ad, AO P base ops rest ⟨lx ad, H⟩ Q) : AO P base ops (⟨d, .buildSlice t 0 #[], ty, pos, af, none⟩ :: rest) ⟨l, H⟩ Q :=
 AO.heavy rfl (HvK.b0 (s := ⟨l, H⟩) tu.h (TG.s (g := g))).hv fun s1 ⟨ad, h⟩ => by subst h; rw [(hd ad).h]; exact k ad
theorem AO.app0 [tu : TU P t (.slice e)] [ti : TI P e z sz bytes] [hx : EC true l (.tmp u) (.v (.slice (some ad) 0 0))] [hy : EC true l y (.rd sz rows2)] [sl : SL l u .any l1] [hd : DL l1 d (.rd sz rows2) l'] (hz : ((z.cells.size == sz) && Nat.blt 0 sz) = true) (hb : rows2.length * bytes ≤ 140737488355328) (h63 : rows2.length ≤ 9223372036854775807) (k : AO P base ops rest ⟨l', H⟩ Q) : AO P base ops (⟨d, .call { callee := .builtin .append, args := #[.tmp u, y], argTypes := #[t, t] }, ty, pos, af, none⟩ :: rest) ⟨l, H⟩ Q := by
 simp only [Bool.and_eq_true, beq_iff_eq, Nat.blt_eq] at hz;exact AO.heavy rfl (HvK.app0 (s := ⟨l, H⟩) tu.h ti.h hz.1 hz.2 (hx.h rfl H) (hy.h rfl H) hb (by unfold maxLen; omega)).hv fun s1 h => by
  subst h;show AO P base ops rest ((⟨l.set u .any, H⟩ : St).put d _) Q
  rw [sl.h, hd.h]; exact k
end
theorem Gh.dropX {base : Cx} {l : List AV} {n : Nat} {A X T : List (Option AB)} : Gh base ⟨l, Hn n (A ++ (X ++ T))⟩ ⟨l, Hn n ((A ++ X) ++ List.replicate T.length none)⟩ := by
 rw [← List.append_assoc]; exact Gh.dropT
theorem AC.cong {P : Program} {f : FuncId} {H H0 : List (Option AB)} {args : List AV} {R R' : AV → List (Option AB) → Prop} (h : AC P f H args R) (e : H0 = H) (hr : ∀ r H', R r H' → R' r H') : AC P f H0 args R' := by
 subst e; exact h.mono hr
section
variable {P : Program} {base : Cx} {l l' : List AV} {H : List (Option AB)} {Q : Exit → St → Prop} {os : List Oper} {rest : OT} {d : Option Tmp} {op : Op} {t : TypeId} {pos : String} {af : Array Edge} {i j u : Nat} {b want : Bool} {ds : List Nat} {av : AV} {ob : Prop}
theorem AZ.sk {hv : Bool} (hi : os.toArray[i]? = some ⟨d, op, t, pos, af, some (j, want)⟩) [ho : DO os j u] [hg : GL l u (.v (.bool b))] (hb : b = !want) [hd : DL l d (.v undef) l'] (k : AZ P base os.toArray ds rest ⟨l', H⟩ Q) : AZ P base os.toArray ds (.one i hv rest) ⟨l, H⟩ Q := by
 subst hb;exact AZ.gxs hi (.inl hg) (hd.h H) k
theorem AZ.gkc (hi : os.toArray[i]? = some ⟨d, op, t, pos, af, some (j, want)⟩) [ho : DO os j u] [hg : GL l u (.v (.bool b))] (hb : b = want) [hp : LC true P op l H av] [hd : DL l d av l'] (k : AZ P base os.toArray ds rest ⟨l', H⟩ Q) : AZ P base os.toArray ds (.one i false rest) ⟨l, H⟩ Q :=
 AZ.light hi (wanted_some (s := ⟨l, H⟩) (by simpa using ho.h) (hg.ev H) |>.trans (by rw [hb]; simp)) (hp.h rfl) (by rw [hd.h]; exact k)
theorem AZ.gkL {f : FuncId} {fn : Func} {as : List Operand} {ts : Array TypeId} {args : List AV} {H2 : List (Option AB)} (hi : os.toArray[i]? = some ⟨d, .call { callee := .value (.func f), args := as.toArray, argTypes := ts }, t, pos, af, some (j, want)⟩) (hs : ds.contains i = true) (hf : P.funcs[f]? = some fn) (hname : (fn.name == "runtime.NumGoroutine") = false) (hb : fn.body.isSome = true)
 [ho : DO os j u] [hg : GL l u (.v (.bool b))] (hbw : b = want) [ha : ARG l as args] (h : AC P f H args (fun r H' => r = av ∧ H' = H2)) [hd : DL l d av l'] (kk : AZ P base os.toArray ds rest ⟨l', H2⟩ Q) : AZ P base os.toArray ds (.one i true rest) ⟨l, H⟩ Q := by
 refine AZ.last hi hs (wanted_some (s := ⟨l, H⟩) (by simpa using ho.h) (hg.ev _) |>.trans (by rw [hbw]; simp)) (Hv.call (s := ⟨l, H⟩) hf hname hb (ha.h H) h) fun s1 ⟨r, H', h1, h2⟩ => ?_
 obtain ⟨h3, h4⟩ := h1;subst h3; subst h4; subst h2;rw [hd.h]; exact kk
end
section
variable {P : Program} {base : Cx} {s : St}
theorem Rel.reRow {σ : Nat → Value} {a : Act} {w : World} {id : Nat} {e : TypeId} {sz ep : Nat} {rows rows' : List (List AV)} (hr : Rel base σ s a w) (hH : s.H[id]? = some (some (.row e sz ep rows))) (hl : rows'.length = rows.length)
 (hc : ∀ xs, w.ownsRow base.b e sz (σ id) rows.length xs → RowsR ⟨w, s.H, σ, base.F⟩ sz rows xs → Ext ⟨w, s.H, σ, base.F⟩ ⟨w, s.H.set id (some (.row e sz ep rows')), σ, base.F⟩ → RowsR ⟨w, s.H.set id (some (.row e sz ep rows')), σ, base.F⟩ sz rows' xs) :
 Rel base σ ⟨s.fr, s.H.set id (some (.row e sz ep rows'))⟩ a w ∧ Ext ⟨w, s.H, σ, base.F⟩ ⟨w, s.H.set id (some (.row e sz ep rows')), σ, base.F⟩ := by
 have hours : ∀ k, Env.ours ⟨w, s.H.set id (some (.row e sz ep rows')), σ, base.F⟩ k → Env.ours ⟨w, s.H, σ, base.F⟩ k := by
  rintro k ⟨i, b, h1, h2⟩
  rcases set_some h1 with ⟨rfl, _⟩ | ⟨_, h3⟩
  · exact ⟨i, _, hH, h2⟩
  · exact ⟨i, b, h3, h2⟩
 have he : Ext ⟨w, s.H, σ, base.F⟩ ⟨w, s.H.set id (some (.row e sz ep rows')), σ, base.F⟩ := by
  refine ⟨rfl, rfl, rfl, Nat.le_refl _, rfl, fun k _ _ => rfl, fun k h _ => hours k h, by simp, fun i e sz ep rows' h1 _ => ?_, fun i t2 cs2 h1 _ => ?_, fun i es' h1 _ => ?_⟩
  · rcases set_some h1 with ⟨rfl, h3⟩ | ⟨_, h3⟩
    · cases h3; exact ⟨_, rows, hH, .inr ⟨rfl, rfl, hl⟩⟩
    · exact ⟨ep, rows', h3, .inr ⟨rfl, rfl, rfl⟩⟩
  · rcases set_some h1 with ⟨_, h3⟩ | ⟨_, h3⟩
    · cases h3
    · exact ⟨cs2, h3, rfl, rfl⟩
  · rcases set_some h1 with ⟨_, h3⟩ | ⟨_, h3⟩
    · cases h3
    · exact ⟨es', h3, rfl⟩
 refine ⟨⟨⟨hr.1.bs, hr.1.far, fun g h => hr.1.clear g (hours g h), fun i b h1 => ?_, fun i i' b b' g h1 h2 h3 h4 => ?_⟩, hr.2.1.ext he, hr.2.2⟩, he⟩
 · rcases set_some h1 with ⟨rfl, rfl⟩ | ⟨_, h3⟩
   · obtain ⟨xs, q1, q2⟩ := hr.1.live i _ hH
     exact ⟨xs, by rw [hl]; exact q1, hc xs q1 q2 he⟩
   · exact (hr.1.live i b h3).keep he rfl fun _ _ => rfl
 · rcases set_some h1 with ⟨rfl, _⟩ | ⟨_, k1⟩ <;> rcases set_some h2 with ⟨rfl, _⟩ | ⟨_, k2⟩
   · rfl
   · exact hr.1.apart i i' _ _ g hH k2 h3 h4
   · exact hr.1.apart i i' _ _ g k1 hH h3 h4
   · exact hr.1.apart i i' _ _ g k1 k2 h3 h4
theorem RowsR.cell {E E' : Env} {sz r c : Nat} {rows : List (List AV)} {xs : List Value} {row : List AV} {av' : AV} (h : RowsR E sz rows xs) (he : Ext E E') (hr : rows[r]? = some row) (hv : ∀ x, (∃ av, row[c]? = some av ∧ VR E av x) → VR E' av' x) : RowsR E' sz (rows.set r (row.set c av')) xs := by
 refine ⟨fun q hq => ?_, by rw [List.length_set]; exact h.2.1, h.2.2.1, fun i q j av hi hj => ?_⟩
 · rcases List.mem_or_eq_of_mem_set hq with hq | rfl
   · exact h.1 q hq
   · rw [List.length_set]; exact h.1 row (List.mem_of_getElem? hr)
 · by_cases hri : r = i
   · subst hri
     rw [List.getElem?_set_self (List.getElem?_eq_some_iff.1 hr).1] at hi;obtain rfl := Option.some.inj hi;by_cases hcj : c = j
     · subst hcj
       have hlt : c < row.length := by have := (List.getElem?_eq_some_iff.1 hj).1; simpa using this
       rw [List.getElem?_set_self hlt] at hj;obtain rfl := Option.some.inj hj;obtain ⟨x, h1, h2⟩ := h.2.2.2 r row c _ hr (List.getElem?_eq_getElem hlt);exact ⟨x, h1, hv x ⟨_, List.getElem?_eq_getElem hlt, h2⟩⟩
     · rw [List.getElem?_set_ne hcj] at hj
       obtain ⟨x, h1, h2⟩ := h.2.2.2 r row j av hr hj;exact ⟨x, h1, h2.ext he⟩
   · rw [List.getElem?_set_ne hri] at hi
     obtain ⟨x, h1, h2⟩ := h.2.2.2 i q j av hi hj;exact ⟨x, h1, h2.ext he⟩
end
theorem owns_same {w : World} {bb : Nat} {e : TypeId} {sz n : Nat} {v : Value} {xs ys : List Value} (h : w.ownsRow bb e sz v n xs) (h' : w.ownsRow bb e sz v n ys) (hl : xs.length = ys.length) : xs = ys := by
 rcases h.2 with ⟨rfl, h7⟩ | ⟨g, cap, cur, rfl, _⟩
 · have h1 := h.1
   subst h7;have e1 : xs = [] := List.eq_nil_of_length_eq_zero (by simpa using h1);subst e1;exact (List.eq_nil_of_length_eq_zero hl.symm).symm
 · apply List.ext_getElem? 
   intro j;by_cases hj : j < xs.length
   · have c1 := h.cells (g := g) rfl j xs[j] (List.getElem?_eq_getElem hj)
     have c2 := h'.cells (g := g) rfl j (ys[j]'(by omega)) (List.getElem?_eq_getElem (by omega));rw [List.getElem?_eq_getElem hj, List.getElem?_eq_getElem (by omega), ← c1, c2]
   · rw [List.getElem?_eq_none (by omega), List.getElem?_eq_none (by omega)]
section
variable {base : Cx}
theorem Gh.adoptR {n m sz ep : Nat} {L L' L'' : List (Option AB)} {l : List AV} {bt : TypeId} {rows rows2 : List (List AV)} {row : List AV} (k r c : Nat) (e : TypeId) (esz : Nat) [gb : GB L k (.row bt sz ep rows)] (hrow : rows[r]? = some row) (hcell : row[c]? = some (.v (.slice none 0 0))) [pb : PB L (some (.row e esz 0 [])) m L'] (h2 : rows.set r (row.set c (.own (n + m) 0 0 0)) = rows2) [sb : SB L' k (some (.row bt sz ep rows2)) L''] : Gh base ⟨l, Hn n L⟩ ⟨l, Hn n L''⟩ := fun σ a w hr => by
 subst h2
 have hv : ∀ g, blkOf (.slice none 0 0) = some g → w.heap.size ≤ g := fun g hg => by cases hg
 have he := Ext.push (base := base) (w := w) (w1 := w) (H := Hn n L) (σ := σ) (.row e esz 0 []) (.slice none 0 0) rfl rfl rfl (KeepW.refl w) hv
 have hHp := hr.1.push he (KeepW.refl w) hv (b := .row e esz 0 []) ⟨[], ⟨by simp, .inl ⟨by simp [pushσ], rfl⟩⟩, RowsR.nil _ _⟩
 have e0 : (Hn n L).length = n + m := by rw [Hn_len, pb.k]
 have hr1 : Rel base (pushσ σ (Hn n L).length (.slice none 0 0)) ⟨l, Hn n L ++ [some (.row e esz 0 [])]⟩ a w := ⟨hHp, hr.2.1.ext he, hr.2.2⟩
 have hk : k < L.length := (List.getElem?_eq_some_iff.1 gb.h).1
 have hH : (Hn n L ++ [some (AB.row e esz 0 [])])[n + k]? = some (some (.row bt sz ep rows)) := by
  rw [List.getElem?_append_left (by rw [Hn_len]; omega), Hn_get]; exact gb.h
 have hm : m = L.length := pb.k.symm;have h := Rel.reRow (s := ⟨l, Hn n L ++ [some (.row e esz 0 [])]⟩) (id := n + k) (rows' := rows.set r (row.set c (.own (n + m) 0 0 0))) hr1 hH (by simp) (fun xs _ hxs he2 => hxs.cell he2 hrow (fun x ⟨av, h1, h3⟩ => by
  rw [hcell] at h1;obtain rfl := Option.some.inj h1;cases h3;refine .own ⟨?_, fun e' sz' ep' rows' h4 => ?_⟩ ⟨none, 0, rfl⟩
  · show n + m < ((Hn n L ++ [some (AB.row e esz 0 [])]).set (n + k) _).length
    rw [List.length_set, List.length_append, e0]; simp
  · have h4 : ((Hn n L ++ [some (AB.row e esz 0 [])]).set (n + k) _)[n + m]? = some (some (.row e' sz' ep' rows')) := h4
    rw [List.getElem?_set_ne (by omega), List.getElem?_append_right (by omega), e0, Nat.sub_self] at h4;simp at h4;obtain ⟨rfl, rfl, rfl, rfl⟩ := h4;exact ⟨Nat.le_refl _, fun _ => ⟨by simp, none, 0, none, by simp [pushσ, e0], by simp, by simp, by simp⟩⟩))
 have e1 : (Hn n L ++ [some (AB.row e esz 0 [])]).set (n + k) (some (AB.row bt sz ep (rows.set r (row.set c (.own (n + m) 0 0 0))))) = Hn n L'' := by
  rw [Hn_push, pb.h, Hn_set, sb.h]
 simp only [e1] at h;exact ⟨_, h.1, he.trans h.2⟩
theorem Gh.freezeR {n ep ep2 len sz esz : Nat} {L L1 L2 : List (Option AB)} {l : List AV} {bt e : TypeId} {rows rows2 rowsE : List (List AV)} {row : List AV} (k m r c : Nat) [gb : GB L k (.row bt sz ep rows)] (hrow : rows[r]? = some row) (hcell : row[c]? = some (.own (n + m) ep2 0 len)) [gr : GB L m (.row e esz ep2 rowsE)] (h2 : rows.set r (row.set c (.rd esz rowsE)) = rows2) [s1 : SB L m none L1] [s2 : SB L1 k (some (.row bt sz ep rows2)) L2] (hl : rowsE.length = len) (hm : rowsE.length ≤ 9223372036854775807) (hne : k ≠ m) :
 Gh base ⟨l, Hn n L⟩ ⟨l, Hn n L2⟩ := fun σ a w hr => by
 subst h2
 have hH : (Hn n L)[n + k]? = some (some (.row bt sz ep rows)) := by rw [Hn_get]; exact gb.h
 have hR : (Hn n L)[n + m]? = some (some (.row e esz ep2 rowsE)) := by rw [Hn_get]; exact gr.h
 have hne : n + m ≠ n + k := by omega
 have hf := Ext.forget (base := base) (w := w) (H := Hn n L) (H' := (Hn n L).set (n + m) none) (σ := σ) (by simp) (fun i b h => (set_none h).1)
 have hr1 : Rel base σ ⟨l, (Hn n L).set (n + m) none⟩ a w := ⟨hr.1.forget (by simp) (fun i b h => (set_none h).1), hr.2.1.ext hf, hr.2.2⟩
 have hH1 : ((Hn n L).set (n + m) none)[n + k]? = some (some (.row bt sz ep rows)) := by rw [List.getElem?_set_ne hne]; exact hH
 obtain ⟨xs0, q1, q2⟩ := hr.1.live _ _ hH
 have h := Rel.reRow (s := ⟨l, (Hn n L).set (n + m) none⟩) (rows' := rows.set r (row.set c (.rd esz rowsE))) hr1 hH1 (by simp) (fun xs hown hxs he2 => ?_)
 · have e1 : ((Hn n L).set (n + m) none).set (n + k) (some (AB.row bt sz ep (rows.set r (row.set c (.rd esz rowsE))))) = Hn n L2 := by rw [Hn_set, s1.h, Hn_set, s2.h]
   simp only [e1] at h
   exact ⟨σ, h.1, hf.trans h.2⟩
 · have q1 : w.ownsRow base.b bt sz (σ (n + k)) rows.length xs0 := q1
   obtain rfl : xs = xs0 := owns_same hown q1 (hxs.2.1.trans q2.2.1.symm)
   refine ⟨fun q hq => ?_, by rw [List.length_set]; exact hxs.2.1, hxs.2.2.1, fun i q j av hi hj => ?_⟩
   · rcases List.mem_or_eq_of_mem_set hq with hq | rfl
     · exact hxs.1 q hq
     · rw [List.length_set]; exact hxs.1 row (List.mem_of_getElem? hrow)
   · by_cases hri : r = i
     · subst hri
       rw [List.getElem?_set_self (List.getElem?_eq_some_iff.1 hrow).1] at hi
       obtain rfl := Option.some.inj hi
       by_cases hcj : c = j
       · subst hcj
         have hlt : c < row.length := by have := (List.getElem?_eq_some_iff.1 hj).1; simpa using this
         rw [List.getElem?_set_self hlt] at hj
         obtain rfl := Option.some.inj hj
         obtain ⟨x, h1, h2⟩ := q2.2.2.2 r row c _ hrow hcell
         have hv := own_rd hr.1 hR h2 (by unfold maxLen; omega)
         rw [List.drop_zero, ← hl, List.take_of_length_le (Nat.le_refl _)] at hv
         exact ⟨x, h1, hv.ext he2⟩
       · rw [List.getElem?_set_ne hcj] at hj
         obtain ⟨x, h1, h2⟩ := hxs.2.2.2 r row j av hrow hj
         exact ⟨x, h1, h2.ext he2⟩
     · rw [List.getElem?_set_ne hri] at hi
       obtain ⟨x, h1, h2⟩ := hxs.2.2.2 i q j av hi hj
       exact ⟨x, h1, h2.ext he2⟩
end
section
variable {P : Program} {base : Cx} {l l' : List AV} {Q : Exit → St → Prop} {ops : Array Oper} {rest : OT} {d : Option Tmp} {t ty bt : TypeId} {pos : String} {af : Array Edge} {x y : Operand} {n kk ep i off sz sz' ix : Nat} {L L' : List (Option AB)} {rows : List (List AV)} {ps : List AV} {av0 : AV} {gg : Bool} {ds : List Nat}
theorem AZ.ldR1 (row : List AV) (av : AV) (hi : ops[ix]? = some ⟨d, .load t x, ty, pos, af, none⟩) [tg : TG P t false sz] [h : EC true l x (.optr (n + kk) ep i off)] [hb : GB L kk (.row bt sz' ep rows)] (hr : rows[i]? = some row) (hv : row[off]? = some av) [hd : DL l d av l'] (k : AZ P base ops ds rest ⟨l', Hn n L⟩ Q) : AZ P base ops ds (.one ix false rest) ⟨l, Hn n L⟩ Q :=
 AZ.light hi rfl (Lt.loadO1 (sz := sz) rfl (h.h rfl _) hb.h hr hv) (by rw [hd.h]; exact k)
theorem AZ.stR (rows' : List (List AV)) (hi' : ops[ix]? = some ⟨none, .store t x y, ty, pos, af, none⟩) (hds : ds.contains ix = true) [tg : TG P t gg sz'] [h : EC true l x (.optr (n + kk) ep i off)] [gb : GB L kk (.row bt sz ep rows)] [h' : EC true l y av0] [hv : PVc av0 ps] [hn : LN ps sz'] (hi : i < rows.length ∧ off + sz' ≤ sz) (hr : rows.set i (layAt (rows.getD i []) off ps) = rows') [sb : SB L kk (some (.row bt sz ep rows')) L'] (k : AZ P base ops ds rest ⟨l, Hn n L'⟩ Q) : AZ P base ops ds (.one ix true rest) ⟨l, Hn n L⟩ Q := by
 subst hr;have hs : HS P (.store t x y) l (Hn n L) (Hn n L') (i < rows.length ∧ off + sz' ≤ sz) := inferInstance;exact AZ.last hi' hds rfl (hs.h hi base ty pos af none) fun s1 h1 => by subst h1; exact k
end
class PO (P : Program) (o : Op) (l : List AV) (H : List (Option AB)) (av : outParam AV) (ob : outParam Prop) : Prop where
 h : ob → Pu P o ⟨l, H⟩ av
section
variable {P : Program} {base : Cx} {l l' : List AV} {H : List (Option AB)} {L : List (Option AB)} {Q : Exit → St → Prop} {ops : Array Oper} {rest : OT} {d : Option Tmp} {op : Op} {t t' e bt : TypeId} {pos : String} {af : Array Edge} {i n kk ep off m sz : Nat} {g : Bool} {ds : List Nat} {av : AV} {ob : Prop} {k : IntKind} {p q lo hi : Int} {x y : Operand} {rows : List (List AV)}
instance [ir : IR k lo hi] [h : EC true l x (.v (.int k p))] [h' : EC true l y (.v (.int k q))] : PO P (.binOp .add t x y t') l H (.v (.int k (p + q))) (lo ≤ p + q ∧ p + q ≤ hi) := ⟨fun ob => Pu.add (h.h rfl H) (h'.h rfl H) (ir.h _ ob)⟩
instance [ht : TU P t (.slice e)] [hg : TG P e g sz] [h : EC true l x (.own (n + kk) ep off m)] [hb : GB L kk (.row bt sz ep rows)] [h' : EC true l y (.v (.int k p))] : PO P (.indexAddr t x y) l (Hn n L) (.optr (n + kk) ep (off + p.toNat) 0) (0 ≤ p ∧ p < m) := ⟨fun ob => Pu.index_own ht.h (TG.s (g := g)) (h.h rfl _) (getN rfl hb.h) (h'.h rfl _) ob.1 ob.2⟩
theorem AZ.po (hi : ops[i]? = some ⟨d, op, t, pos, af, none⟩) [hp : PO P op l H av ob] [hd : DL l d av l'] (hob : ob) (k : AZ P base ops ds rest ⟨l', H⟩ Q) : AZ P base ops ds (.pur i rest) ⟨l, H⟩ Q :=
 AZ.pureZ hi rfl (hp.h hob) (by rw [hd.h]; exact k)
end
instance pvMap {id : Nat} : PVc (.omap id) [.omap id] := ⟨rfl⟩
class PlainV (av : AV) : Prop where
 h : ∀ (E E' : Env) (x : Value), VR E av x → VR E' av x
class PlainVs (cs : List AV) : Prop where
 h : ∀ (E E' : Env) (j : Nat) (av : AV) (x : Value), cs[j]? = some av → VR E av x → VR E' av x
instance pvV {x : Value} : PlainV (.v x) := ⟨fun E E' y h => by cases h; exact .v _⟩
instance pvNil : PlainVs [] := ⟨fun E E' j av x h => by simp at h⟩
instance pvCons {a : AV} {cs : List AV} [h : PlainV a] [h' : PlainVs cs] : PlainVs (a :: cs) := ⟨fun E E' j av x hj hx => by
 cases j with
 | zero => obtain rfl := Option.some.inj hj; exact h.h E E' x hx
 | succ j => exact h'.h E E' j av x hj hx⟩
instance pvTup {cs : List AV} [h : PlainVs cs] : PlainV (.tup cs) := ⟨fun E E' y hy => by
 cases hy with
 | tup hl hu => exact .tup hl fun j av x hj hx => h.h E E' j av x hj (hu j av x hj hx)⟩
def Shows (id ep sz : Nat) (rows : List (List AV)) : List AV → List AV → Prop
 | [], [] => True
 | a :: as, b :: bs => (a = b ∨ ∃ off m, a = .own id ep off m ∧ b = .rd sz ((rows.drop off).take m)) ∧ Shows id ep sz rows as bs
 | _, _ => False
theorem showOwn {id sz ep m : Nat} {rows rows' : List (List AV)} (h : rows.length = m) (hr : rows = rows') : AV.own id ep 0 m = .rd sz rows' ∨ ∃ off m', AV.own id ep 0 m = .own id ep off m' ∧ (.rd sz rows' : AV) = .rd sz ((rows.drop off).take m') :=
 .inr ⟨0, m, rfl, by rw [List.drop_zero, ← h, List.take_length, hr]⟩
theorem Shows.at_ {id ep sz : Nat} {rows : List (List AV)} : ∀ {as bs : List AV}, Shows id ep sz rows as bs → as.length = bs.length ∧ ∀ (j : Nat) (b : AV), bs[j]? = some b → ∃ a, as[j]? = some a ∧ (a = b ∨ ∃ off m, a = .own id ep off m ∧ b = .rd sz ((rows.drop off).take m)) := by
 intro as
 induction as with
 | nil =>
  intro bs h
  cases bs with
  | nil => exact ⟨rfl, fun j b h => by simp at h⟩
  | cons b bs => exact h.elim
 | cons a as ih =>
  intro bs h
  cases bs with
  | nil => exact h.elim
  | cons b bs =>
   obtain ⟨h1, h2⟩ := ih h.2;refine ⟨by simp [h1], fun j c hj => ?_⟩
   cases j with
   | zero => obtain rfl := Option.some.inj hj; exact ⟨a, rfl, h.1⟩
   | succ j => exact h2 j c hj
section
variable {P : Program} {base : Cx} {s : St}
theorem HvK.callO {d : Option Tmp} {f : FuncId} {fn : Func} {as : List Operand} {ts : Array TypeId} {ty : TypeId} {pos : String} {af : Array Edge} {gd : Option (Nat × Bool)} {args bs : List AV} {av : AV} {id : Nat} {e : TypeId} {sz ep : Nat} {rows : List (List AV)} (hf : P.funcs[f]? = some fn) (hname : (fn.name == "runtime.NumGoroutine") = false) (hb : fn.body.isSome = true)
 (ha : as.map (ev s) = args) (hs : Shows id ep sz rows args bs) (hg : ∀ av ∈ bs, Gen s.H.length av) (hH : s.H[id]? = some (some (.row e sz ep rows))) (hm : rows.length ≤ 9223372036854775807) (h : A0 P f bs (fun r => r = av)) [pr : PlainV av] :
 HvK P base ⟨d, .call { callee := .value (.func f), args := as.toArray, argTypes := ts }, ty, pos, af, gd⟩ s (fun s' => s' = s.put d av) := by
 intro σ a w hr Q K hk;unfold Oper.wp;rw [run_call hf hname hb]
 let n := s.H.length
 obtain ⟨hl, hsa⟩ := hs.at_
 let E1 : Env := ⟨w, s.H.set id none, σ, base.F⟩
 let F' : Nat → Prop := fun g => E1.mine g
 have hbs : base.b ≤ w.heap.size := hr.1.bs;have hfg := Ext.forget (base := base) (w := w) (H := s.H) (H' := s.H.set id none) (σ := σ) (by simp) (fun i b h => (set_none h).1);have hF' : ∀ g, F' g → g < w.heap.size := by
  rintro g (⟨i, b, h1, h2⟩ | h1)
  · exact (blk_lt hr.1 (set_none h1).1 h2).2
  · exact hr.1.far g h1
 have hheap : Heap ⟨w.heap.size, F'⟩ ⟨w, List.replicate n none, σ, F'⟩ := by
  refine ⟨Nat.le_refl _, hF', fun g h => (ours_none g h).elim, fun id b h => (rep_none h).elim, fun id id' b b' g h1 h2 h3 h4 => (rep_none h1).elim⟩
 have hmv : ∀ (av : AV) (x : Value), Gen n av → VR E1 av x → VR ⟨w, List.replicate n none, σ, F'⟩ av x := fun av x hgn hv => by
  refine VR.move (E := E1) (E' := ⟨w, List.replicate n none, σ, F'⟩) (n := n) rfl (fun g hm => ?_) (by show (s.H.set id none).length ≤ (List.replicate n (none : Option AB)).length; simp [n]) (fun i hid => ?_) (fun _ _ => rfl) hv hgn
  · rcases hm with hm | hm
    · exact (ours_none g hm).elim
    · exact hm
  · show (List.replicate n (none : Option AB))[i]? = (s.H.set id none)[i]?
    have hid : s.H.length ≤ i := hid;rw [List.getElem?_eq_none (by simp; exact hid), List.getElem?_eq_none (by simp [n]; exact hid)]
 have hlen : as.length = bs.length := by rw [← hl, ← ha, List.length_map]
 refine (h n ⟨w.heap.size, F'⟩ σ w (as.map a.eval) hheap (by simpa using hlen) (fun j av x h1 h2 => ?_)).mono ?_
 · obtain ⟨av0, h3, h4⟩ := hsa j av h1
   have h5 := args_ok hr as j av0 x (by rw [ha]; exact h3) h2;refine hmv av x (hg av (List.mem_of_getElem? h1)) ?_;rcases h4 with rfl | ⟨off, m, rfl, rfl⟩
   · exact h5.ext hfg
   · exact own_rd hr.1 hH h5 (by unfold maxLen; omega)
 rintro e' w' ⟨x, r, H', σ', h1, h2, h3, h4, h5, h6⟩
 subst h1;subst h6;have hkeep : ∀ k, k < w.heap.size → w'.heap[k]? = w.heap[k]? := fun k hk => h3.keep k hk (ours_none k)
 have hsize : w.heap.size ≤ w'.heap.size := h3.size;have hext : Ext ⟨w, s.H, σ, base.F⟩ ⟨w', s.H, σ, base.F⟩ :=
  ⟨h3.os, h3.tape, h3.output, hsize, rfl, fun k hk _ => hkeep k hk, fun k hk _ => hk, Nat.le_refl _, fun id e sz ep rows' h6 _ => ⟨ep, rows', h6, .inr ⟨rfl, rfl, rfl⟩⟩, fun id t cs' h6 _ => ⟨cs', h6, rfl, rfl⟩, fun id es' h6 _ => ⟨es', h6, rfl⟩⟩
 have hheap2 : Heap base ⟨w', s.H, σ, base.F⟩ :=
  ⟨Nat.le_trans hbs hsize, fun g hf => Nat.lt_of_lt_of_le (hr.1.far g hf) hsize, hr.1.clear, fun id b h6 => (hr.1.live id b h6).keep hext rfl fun g hg => hkeep g (blk_lt hr.1 h6 hg).2, hr.1.apart⟩
 have hrel : Rel base σ s a w' := ⟨hheap2, hr.2.1.ext hext, hr.2.2⟩;exact hk σ _ _ w' (hrel.put d (pr.h ⟨w', H', σ', F'⟩ ⟨w', s.H, σ, base.F⟩ x h4)) (by rw [put_H]; exact hext) ⟨hsize, hkeep⟩ rfl
end
section
variable {P : Program} {base : Cx} {l l' : List AV} {Q : Exit → St → Prop} {os : List Oper} {as : List Operand} {ops : Array Oper} {rest : List Oper} {d : Option Tmp} {t : TypeId} {pos : String} {af : Array Edge} {av : AV} {f : FuncId} {fn : Func} {ts : Array TypeId} {args : List AV} {n i j u sz ep : Nat} {L : List (Option AB)} {bt : TypeId} {rows : List (List AV)} {want c : Bool} {ds : List Nat} {rst : OT}
theorem AZ.callO (k : Nat) (bs : List AV) (hi : ops[i]? = some ⟨d, .call { callee := .value (.func f), args := as.toArray, argTypes := ts }, t, pos, af, none⟩) (hf : P.funcs[f]? = some fn) (hname : (fn.name == "runtime.NumGoroutine") = false) (hb : fn.body.isSome = true)
 [ha : ARG l as args] [gb : GB L k (.row bt sz ep rows)] (hs : Shows (n + k) ep sz rows args bs) [hga : GA (Hn n L).length bs] (hm : rows.length ≤ 9223372036854775807) (h : A0 P f bs (fun r => r = av)) [pr : PlainV av] [hd : DL l d av l'] (kk : AZ P base ops ds rst ⟨l', Hn n L⟩ Q) : AZ P base ops ds (.one i true rst) ⟨l, Hn n L⟩ Q := by
 refine AZ.heavy hi rfl (HvK.callO (s := ⟨l, Hn n L⟩) hf hname hb (ha.h (Hn n L)) hs hga.h (by show (Hn n L)[n + k]? = _; rw [Hn_get]; exact gb.h) hm h) fun s1 h1 => ?_
 subst h1; rw [hd.h]; exact kk
end
section
variable {P : Program} {base : Cx} {s : St}
theorem regrown {σ : Nat → Value} {a : Act} {w w' : World} (hr : Rel base σ s a w) {id sz ep : Nat} {e : TypeId} {rows rows3 : List (List AV)} {xs3 : List Value} {v' : Value} (hH : s.H[id]? = some (some (.row e sz ep rows)))
 (hrows3 : RowsR ⟨w, s.H, σ, base.F⟩ sz rows3 xs3) (hown' : w'.ownsRow base.b e sz v' rows3.length xs3) (hg : w.grownBy w' (σ id).ownBlock) (hat : v'.ownBlock = (σ id).ownBlock ∨ v'.ownBlock = some w.heap.size) (d : Option Tmp) :
 ∃ σ', Rel base σ' ((⟨s.fr, s.H.set id (some (.row e sz (ep + 1) rows3))⟩ : St).put d (.own id (ep + 1) 0 rows3.length)) (a.put d v') w' ∧ Ext ⟨w, s.H, σ, base.F⟩ ⟨w', s.H.set id (some (.row e sz (ep + 1) rows3)), σ', base.F⟩ :=
 have ⟨σ', h1, h2, _⟩ := regrownS hr hH hrows3 hown' hg hat d
 ⟨σ', h1, h2⟩
end
theorem RowsR.takeI {E : Env} {sz : Nat} {rows : List (List AV)} {xs : List Value} (h : RowsR E sz rows xs) {i : Nat} (hi : i ≤ rows.length) : RowsR E sz (rows.take i) (xs.take (i * sz)) := by
 have hm := Nat.mul_le_mul_right sz hi;refine ⟨fun row hr => h.1 row (List.mem_of_mem_take hr), by rw [List.length_take, List.length_take, h.2.1, Nat.min_eq_left hi]; omega, fun x hx => h.2.2.1 x (List.mem_of_mem_take hx), fun k row j av hk hj => ?_⟩;rw [List.getElem?_take] at hk
 split at hk
 · rename_i hlt
   obtain ⟨x, h1, h2⟩ := h.2.2.2 k row j av hk hj;have hjl : j < sz := by have := (List.getElem?_eq_some_iff.1 hj).1; rw [h.1 row (List.mem_of_getElem? hk)] at this; exact this
   have hb : (k + 1) * sz ≤ i * sz := Nat.mul_le_mul_right sz hlt;rw [Nat.add_mul, Nat.one_mul] at hb;exact ⟨x, by rw [List.getElem?_take, if_pos (by omega)]; exact h1, h2⟩
 · cases hk
theorem RowsR.dropI {E : Env} {sz : Nat} {rows : List (List AV)} {xs : List Value} (h : RowsR E sz rows xs) {i : Nat} (hi : i ≤ rows.length) : RowsR E sz (rows.drop i) (xs.drop (i * sz)) := by
 refine ⟨fun row hr => h.1 row (List.mem_of_mem_drop hr), by rw [List.length_drop, List.length_drop, h.2.1, Nat.sub_mul], fun x hx => h.2.2.1 x (List.mem_of_mem_drop hx), fun k row j av hk hj => ?_⟩;rw [List.getElem?_drop] at hk;obtain ⟨x, h1, h2⟩ := h.2.2.2 (i + k) row j av hk hj;exact ⟨x, by rw [List.getElem?_drop, ← Nat.add_assoc, ← Nat.add_mul]; exact h1, h2⟩
def bLt (a b : List UInt8) : Bool := Op.bytesLess a b
theorem bLt_irrefl : ∀ a : List UInt8, bLt a a = false := by
 intro a
 induction a with
 | nil => rfl
 | cons x a ih =>
  unfold bLt at ih ⊢;rw [Op.bytesLess, ih];simp
theorem bLt_trans : ∀ a b c : List UInt8, bLt a b = true → bLt b c = true → bLt a c = true := by
 intro a
 induction a with
 | nil =>
  intro b c h1 h2
  cases c with
  | nil => unfold bLt at h2; cases b <;> simp [Op.bytesLess] at h2
  | cons z c => rfl
 | cons x a ih =>
  intro b c h1 h2
  cases b with
  | nil => unfold bLt at h1; simp [Op.bytesLess] at h1
  | cons y b =>
   cases c with
   | nil => unfold bLt at h2; simp [Op.bytesLess] at h2
   | cons z c =>
    unfold bLt at h1 h2 ih ⊢;simp only [Op.bytesLess, Bool.or_eq_true, Bool.and_eq_true, decide_eq_true_eq, beq_iff_eq] at h1 h2 ⊢;rcases h1 with h1 | ⟨rfl, h1⟩
    · rcases h2 with h2 | ⟨rfl, h2⟩
      · exact .inl (UInt8.lt_trans h1 h2)
      · exact .inl h1
    · rcases h2 with h2 | ⟨rfl, h2⟩
      · exact .inl h2
      · exact .inr ⟨rfl, ih _ _ h1 h2⟩
theorem bLt_tri : ∀ a b : List UInt8, bLt a b = false → bLt b a = false → a = b := by
 intro a
 induction a with
 | nil =>
  intro b h1 h2
  cases b with
  | nil => rfl
  | cons y b => unfold bLt at h1; simp [Op.bytesLess] at h1
 | cons x a ih =>
  intro b h1 h2
  cases b with
  | nil => unfold bLt at h2; simp [Op.bytesLess] at h2
  | cons y b =>
   unfold bLt at h1 h2 ih;simp only [Op.bytesLess, Bool.or_eq_false_iff, Bool.and_eq_false_iff, decide_eq_false_iff_not, beq_eq_false_iff_ne] at h1 h2;have hxy : x = y := by
    apply UInt8.toNat_inj.1;have e1 : ¬ x.toNat < y.toNat := h1.1;have e2 : ¬ y.toNat < x.toNat := h2.1;omega
   subst hxy;rw [ih b (h1.2.resolve_left (fun h => h rfl)) (h2.2.resolve_left (fun h => h rfl))]
def sLt (a b : ByteArray) : Bool := bLt a.toList b.toList
theorem sLt_irrefl (a : ByteArray) : sLt a a = false := bLt_irrefl _
theorem sLt_trans {a b c : ByteArray} (h : sLt a b = true) (h' : sLt b c = true) : sLt a c = true := bLt_trans _ _ _ h h'
theorem sLt_tri {a b : ByteArray} (h : sLt a b = false) (h' : sLt b a = false) : a.toList = b.toList := bLt_tri _ _ h h'
theorem sLt_asym {a b : ByteArray} (h : sLt a b = true) : sLt b a = false := by
 cases h' : sLt b a with
 | false => rfl
 | true => have := sLt_trans h h'; rw [sLt_irrefl] at this; cases this
theorem sLt_gtr (a b : ByteArray) : (!(Op.bytesLess a.toList b.toList || a.toList == b.toList)) = sLt b a := by
 have e : Op.bytesLess a.toList b.toList = sLt a b := rfl;rw [e]
 cases h : sLt a b with
 | true => rw [sLt_asym h]; rfl
 | false =>
  cases h' : sLt b a with
  | true =>
   have : (a.toList == b.toList) = false := by
    rw [beq_eq_false_iff_ne];intro he;have : sLt b a = sLt a a := by unfold sLt; rw [he]
    rw [h', sLt_irrefl] at this;cases this
   rw [this]; rfl
  | false => rw [sLt_tri h h']; simp
section
variable {P : Program} {base : Cx} {l l' : List AV} {H : List (Option AB)} {Q : Exit → St → Prop} {os : List Oper} {rest : List Oper} {d : Option Tmp} {t t' ty : TypeId} {pos : String} {af : Array Edge} {av : AV} {f : FuncId} {c want : Bool} {j u : Nat} {x y : Operand} {a b : ByteArray}
instance sLssI [h : EC c l x (.v (.string a))] [h' : EC c l y (.v (.string b))] : PC c P (.binOp .lss t x y t') l H (.v (.bool (sLt a b))) := ⟨fun hc => Pu.bin (h.h hc H) (h'.h hc H) fun w => by simp [eqGuard, binOp, Op.stringOp, sLt, bLt]⟩
instance sGtrI [h : EC c l x (.v (.string a))] [h' : EC c l y (.v (.string b))] : PC c P (.binOp .gtr t x y t') l H (.v (.bool (sLt b a))) := ⟨fun hc => Pu.bin (h.h hc H) (h'.h hc H) fun w => by rw [← sLt_gtr]; simp [eqGuard, binOp, Op.stringOp]⟩
theorem AO.gxcallF {fn : Func} {g : Operand} {as : List Operand} {ts : Array TypeId} {args cs args' : List AV} [ho : DO os j u] [gx : GX l u want c] [eg : EC c l g (.fn f cs)] [ha : ARGc c l as args] [hga : GA H.length args] (hgc : ∀ n, ∀ av ∈ cs, Gen n av) (hf : P.funcs[f]? = some fn) (hname : (fn.name == "runtime.NumGoroutine") = false) (hb : fn.body.isSome = true)
 (h : c = true → A0 P f args' (fun r => r = av)) (he : args ++ cs = args') [hd : DL l d (cv c av) l'] (k : AO P base os.toArray rest ⟨l', H⟩ Q) : AO P base os.toArray (⟨d, .call { callee := .value g, args := as.toArray, argTypes := ts }, t, pos, af, some (j, want)⟩ :: rest) ⟨l, H⟩ Q := by
 subst he;refine AO.gxw (c := c) rfl (hd.h H) (fun hcc => ?_) k;intro σ a w hr Q' K hk;exact HvK.callF (s := ⟨l, H⟩) hf hname hb (eg.h hcc H) (ha.h hcc H) (ga_append hga.h (hgc _)) (h hcc) σ a w hr Q' K fun σ' s' a' w' h1 h2 h3 ⟨r, h4, h5⟩ => hk σ' s' a' w' h1 h2 (by subst h4; exact h5)
end
theorem A0.fn0 {P : Program} {f g : FuncId} {pre : List AV} {R : AV → Prop} (h : A0 P f (pre ++ [.fn g []]) R) : A0 P f (pre ++ [.v (.func (.func g) #[] #[])]) R :=
 h.args (by simp) fun E j av av' x h1 h2 hv => by
  by_cases hj : j < pre.length
  · rw [List.getElem?_append_left hj] at h1 h2
    rw [h1] at h2
    obtain rfl := Option.some.inj h2
    exact hv
  · rw [List.getElem?_append_right (by omega)] at h1 h2
    cases hk : j - pre.length with
    | zero =>
     rw [hk] at h1 h2
     obtain rfl := Option.some.inj h1
     obtain rfl := Option.some.inj h2
     exact vr_fn0 hv
    | succ k => rw [hk] at h1; simp at h1
section
open Go.Proofs.YtkbbcenjklaglaaGreatW.PrintLast
def triB (ops : Array Oper) (ds : List Nat) (fl : List Bool) (i j m : Nat) (ri rj rm : OT) : Bool :=
 Nat.beq fl.length ops.size && Region.closedB .any ops ⟨fl⟩ && Region.noSelect ops && backS 0 (sigsOf ops) && (Region.ready .any ops ⟨fl⟩ == [i, j, m]) && Nat.beq ri.len rj.len && Nat.beq ri.len rm.len &&
 okS (sigsOf ops) ds ri (fl.set i true) && okS (sigsOf ops) ds rj (fl.set j true) && okS (sigsOf ops) ds rm (fl.set m true)
variable {P : Program} {base : Cx} {s : St} {Q : Exit → St → Prop} {ops : Array Oper} {ds : List Nat} {n : Nat} {fl : Array Bool}
theorem AY.triZ (i j m : Nat) (ri rj rm : OT) (fL : List Bool) (hfl : (fl == ⟨fL⟩) = true) (hn : Nat.beq n (ri.len + 1) = true) (hc : triB ops ds fL i j m ri rj rm = true) (hi : AZi P base ops ds i ri s Q) (hj : AZi P base ops ds j rj s Q) (hm : AZi P base ops ds m rm s Q) : AY P base ops ds n fl s Q := by
 simp only [triB, Bool.and_eq_true] at hc;obtain ⟨⟨⟨⟨⟨⟨⟨⟨⟨h1, h2⟩, h3⟩, h4⟩, h5⟩, h6⟩, h7⟩, h8⟩, h9⟩, h10⟩ := hc;have e : fl = ⟨fL⟩ := by simpa using hfl
 subst e;obtain rfl := Nat.eq_of_beq_eq_true hn;have hcl := Region.closedB_spec h2;have hl := Nat.eq_of_beq_eq_true h1;have hr : Region.ready .any ops ⟨fL⟩ = [i, j, m] := by simpa using h5
 have e6 := Nat.eq_of_beq_eq_true h6;have e7 := Nat.eq_of_beq_eq_true h7;refine AY.three i j m h5 (hi fL hl hcl h3 h4 (by rw [hr]; simp) h8) ?_ ?_
 · rw [e6]; exact hj fL hl hcl h3 h4 (by rw [hr]; simp) h9
 · rw [e7]; exact hm fL hl hcl h3 h4 (by rw [hr]; simp) h10
end
section
variable {P : Program} {base : Cx} {l l' : List AV} {H : List (Option AB)} {Q : Exit → St → Prop} {ops : Array Oper} {rest : OT} {d : Option Tmp} {t : TypeId} {pos : String} {af : Array Edge} {i : Nat} {ds : List Nat} {av : AV}
theorem AZ.callL {f : FuncId} {fn : Func} {as : List Operand} {ts : Array TypeId} {args : List AV} {H2 : List (Option AB)} (hi : ops[i]? = some ⟨d, .call { callee := .value (.func f), args := as.toArray, argTypes := ts }, t, pos, af, none⟩) (hs : ds.contains i = true) (hf : P.funcs[f]? = some fn) (hname : (fn.name == "runtime.NumGoroutine") = false) (hb : fn.body.isSome = true)
 [ha : ARG l as args] (h : AC P f H args (fun r H' => r = av ∧ H' = H2)) [hd : DL l d av l'] (kk : AZ P base ops ds rest ⟨l', H2⟩ Q) : AZ P base ops ds (.one i true rest) ⟨l, H⟩ Q := by
 refine AZ.last hi hs rfl (Hv.call (s := ⟨l, H⟩) hf hname hb (ha.h H) h) fun s1 ⟨r, H', h1, h2⟩ => ?_
 obtain ⟨h3, h4⟩ := h1;subst h3; subst h4; subst h2;rw [hd.h]; exact kk
end
section
variable {P : Program} {base : Cx} {l l' : List AV} {H : List (Option AB)} {Q : Exit → St → Prop} {ops : Array Oper} {rest : OT} {d : Option Tmp} {t : TypeId} {pos : String} {af : Array Edge} {i : Nat} {ds : List Nat} {av : AV} {x y z : Operand} {b : Bool}
theorem AZ.pt (hi : ops[i]? = some ⟨d, .pick x y z, t, pos, af, none⟩) [h : EC true l x (.v (.bool b))] (hb : b = true) [h1 : EC true l y av] [hd : DL l d av l'] (k : AZ P base ops ds rest ⟨l', H⟩ Q) : AZ P base ops ds (.one i false rest) ⟨l, H⟩ Q :=
 AZ.light hi rfl (Pu.pick (h.h rfl H) (pickT_ hb (h1.h rfl H))).lt (by rw [hd.h]; exact k)
theorem AZ.pf (hi : ops[i]? = some ⟨d, .pick x y z, t, pos, af, none⟩) [h : EC true l x (.v (.bool b))] (hb : b = false) [h1 : EC true l z av] [hd : DL l d av l'] (k : AZ P base ops ds rest ⟨l', H⟩ Q) : AZ P base ops ds (.one i false rest) ⟨l, H⟩ Q :=
 AZ.light hi rfl (Pu.pick (h.h rfl H) (pickF_ hb (h1.h rfl H))).lt (by rw [hd.h]; exact k)
end
@[reducible] def kP (p : Int × Int) : Value := .agg ⟨[.int .i64 p.1, .int .i64 p.2]⟩
class PairT (P : Program) (kt : TypeId) : Prop where
 h : ∃ (t1 t2 : TypeId) (n1 n2 g1 g2 p1 p2 : String) (e1 e2 : Bool) (b1 b2 : Nat), P.underlying kt = some (.struct #[⟨n1, t1, 0, e1, g1, p1, b1⟩, ⟨n2, t2, 1, e2, g2, p2, b2⟩]) ∧ (n1 == "_") = false ∧ (n2 == "_") = false ∧ P.stoodInHeld kt = false ∧
  P.underlying t1 = some (.int .i64) ∧ P.underlying t2 = some (.int .i64) ∧ aggB P t1 = some false ∧ aggB P t2 = some false
theorem eqf_int {P : Program} {t : TypeId} {k : IntKind} {p q : Int} {d : Nat} {w : World} (hu : P.underlying t = some (.int k)) : (Op.equalIn (d + 1) t (.int k p) (.int k q)).run P w = .ok (decide (p = q)) w := by
 simp only [Op.equalIn, Sem.run_bind, run_underlying hu, Result.andThen_ok];have : (p == q) = decide (p = q) := by by_cases h : p = q <;> simp [h]
 simp [this]
theorem pair_equal {P : Program} {kt : TypeId} [pt : PairT P kt] (p q : Int × Int) (w : World) : (Op.equal kt (kP p) (kP q)).run P w = .ok (decide (p = q)) w := by
 obtain ⟨t1, t2, n1, n2, g1, g2, p1, p2, e1, e2, b1, b2, hu, h1, h2, hs, u1, u2, a1, a2⟩ := pt.h;unfold Op.equal Op.maxDepth kP;have hf : P.fieldsOf kt = #[⟨n1, t1, 0, e1, g1, p1, b1⟩, ⟨n2, t2, 1, e2, g2, p2, b2⟩] := by simp [Program.fieldsOf, hu]
 rw [run_equalIn_struct (P := P) w 9999 kt ⟨[.int .i64 p.1, .int .i64 p.2]⟩ ⟨[.int .i64 q.1, .int .i64 q.2]⟩ (by rw [hf]; exact hu) hs, hf];have e3 : (Op.eqFields (9998 + 1) ⟨[.int .i64 p.1, .int .i64 p.2]⟩ ⟨[.int .i64 q.1, .int .i64 q.2]⟩ [⟨n1, t1, 0, e1, g1, p1, b1⟩, ⟨n2, t2, 1, e2, g2, p2, b2⟩]).run P w = .ok (decide (p.1 = q.1) && (decide (p.2 = q.2) && true)) w := by
  refine eqf_step h1 (run_part1 a1 rfl w) (run_part1 a1 rfl w) (eqf_int u1) ?_;refine eqf_step h2 (run_part1 a2 rfl w) (run_part1 a2 rfl w) (eqf_int u2) ?_;simp [Op.eqFields]
 have e4 : (decide (p.1 = q.1) && (decide (p.2 = q.2) && true)) = decide (p = q) := by
  rw [Bool.and_true, ← Bool.decide_and, decide_eq_decide];exact Prod.ext_iff.symm
 rw [← e4];exact e3
theorem kP_inj {p q : Int × Int} (h : kP p = kP q) : p = q := by
 unfold kP at h;simp only [Value.agg.injEq, Array.mk.injEq, List.cons.injEq, Value.int.injEq, true_and, and_true] at h;exact Prod.ext h.1 h.2
theorem KeyT.pair {P : Program} {kt : TypeId} [pt : PairT P kt] : KeyT P kt (fun v => ∃ p, v = kP p) where
 check := fun em x w ⟨p, hp⟩ => by
  subst hp
  obtain ⟨t1, t2, n1, n2, g1, g2, p1, p2, e1, e2, b1, b2, hu, h1, h2, hs, u1, u2, a1, a2⟩ := pt.h
  have q1 : ¬ n1 = "_" := by simpa using h1
  have q2 : ¬ n2 = "_" := by simpa using h2
  have c1 : (Instr.checkKey em 9999 t1 (.int .i64 p.1)).run P w = .ok () w := MapKept.run_checkKey u1 (k := .int .i64 p.1) rfl em 9998
  have c2 : (Instr.checkKey em 9999 t2 (.int .i64 p.2)).run P w = .ok () w := MapKept.run_checkKey u2 (k := .int .i64 p.2) rfl em 9998
  have d1 : (part t1 ⟨[.int .i64 p.1, .int .i64 p.2]⟩ 0).run P w = .ok (.int .i64 p.1) w := run_part1 a1 rfl w
  have d2 : (part t2 ⟨[.int .i64 p.1, .int .i64 p.2]⟩ 1).run P w = .ok (.int .i64 p.2) w := run_part1 a2 rfl w
  unfold Instr.checkKey kP
  simp only [Sem.run_bind, run_underlying hu, Result.andThen_ok]
  simp [q1, q2, c1, c2, d1, d2]
 find := fun x es w ⟨p, hp⟩ hes => by
  subst hp
  obtain ⟨t1, t2, n1, n2, g1, g2, p1, p2, e1, e2, b1, b2, hu, h1, h2, hs, u1, u2, a1, a2⟩ := pt.h
  have hask : ∀ (es : List MapEntry) (i : Nat), (∀ e ∈ es, ∃ q, e.key = kP q) → ∃ r, (Instr.findAsking kt (kP p) es i).run P w = .ok r w ∧ ((r = none ∧ ∀ e ∈ es, e.key ≠ kP p) ∨ ∃ j e, r = some (i + j, e.val) ∧ es[j]? = some e ∧ e.key = kP p) := by
   intro es
   induction es with
   | nil => intro i _; exact ⟨none, by simp [Instr.findAsking], .inl ⟨rfl, by simp⟩⟩
   | cons e es ih =>
    intro i hall;obtain ⟨q, hq⟩ := hall e (by simp);have heq := pair_equal (P := P) (kt := kt) p q w;by_cases hpq : p = q
    · subst hpq
      refine ⟨some (i, e.val), ?_, .inr ⟨0, e, rfl, rfl, hq⟩⟩;have heq2 : (Op.equal kt (kP p) (kP p)).run P w = .ok true w := by rw [heq, decide_eq_true rfl]
      unfold Instr.findAsking;rw [hq];simp only [Sem.run_bind, heq2, Result.andThen_ok, if_true, Sem.run_pure]
    · obtain ⟨r, hr, hc⟩ := ih (i + 1) (fun e he => hall e (by simp [he]))
      refine ⟨r, ?_, ?_⟩
      · unfold Instr.findAsking
        rw [hq];simp only [Sem.run_bind, heq, Result.andThen_ok, hpq, decide_false, Bool.false_eq_true, if_false];exact hr
      · rcases hc with ⟨h3, h4⟩ | ⟨j, e', h3, h4, h5⟩
        · refine .inl ⟨h3, fun e' he' => ?_⟩
          rcases List.mem_cons.1 he' with rfl | he'
          · rw [hq]; exact fun c => hpq (kP_inj c).symm
          · exact h4 e' he'
        · exact .inr ⟨j + 1, e', by rw [h3]; congr 2; omega, by simpa using h4, h5⟩
  cases es with
  | nil => exact ⟨none, by simp [Instr.findKey, run_underlying hu, Instr.findNow], .inl ⟨rfl, by simp⟩⟩
  | cons e es =>
   obtain ⟨r, hr, hc⟩ := hask (e :: es) 0 hes;refine ⟨r, ?_, ?_⟩
   · obtain ⟨q, hq⟩ := hes e (by simp)
     have hn : Instr.findNow (.struct #[⟨n1, t1, 0, e1, g1, p1, b1⟩, ⟨n2, t2, 1, e2, g2, p2, b2⟩]) (kP p) (e :: es) 0 = none := by
      unfold Instr.findNow;rw [hq];rfl
     unfold Instr.findKey;simp only [Sem.run_bind, run_underlying hu, Result.andThen_ok, hn];exact hr
   · simpa using hc
 same := fun x ⟨p, hp⟩ => by
  subst hp;unfold kP;simp [Instr.sameBits]
instance {P : Program} {kt : TypeId} [pt : PairT P kt] : KF P kt kP := ⟨⟨_, KeyT.pair, fun k => ⟨k, rfl⟩⟩, fun a b h => kP_inj h⟩
instance {a b : Int} : KV kP (.agg ⟨[.int .i64 a, .int .i64 b]⟩) (a, b) := ⟨rfl⟩
instance tellPair {a b : Value} : TELL (.agg [.v a, .v b]) (.v (.agg ⟨[a, b]⟩)) := ⟨fun E x hx => by
 cases hx with
 | agg hl h1c hu =>
  rename_i us
  match us, hl with
  | [u1, u2], _ =>
   have h1 := hu 0 (.v a) u1 rfl rfl
   have h2 := hu 1 (.v b) u2 rfl rfl
   cases h1
   cases h2
   exact .v _⟩
section
variable {P : Program} {base : Cx} {l : List AV} {H : List (Option AB)} {Q : Exit → St → Prop} {ops : Array Oper} {rest : OT} {d : Option Tmp} {t : TypeId} {pos : String} {af : Array Edge} {i : Nat} {ds : List Nat}
theorem AZ.callE {α : Type} {av : α → AV} {H2 : α → List (Option AB)} {p : α → Prop} {lx : α → List AV} {f : FuncId} {fn : Func} {as : List Operand} {ts : Array TypeId} {args : List AV} (hi : ops[i]? = some ⟨d, .call { callee := .value (.func f), args := as.toArray, argTypes := ts }, t, pos, af, none⟩) (hs : ds.contains i = true) (hf : P.funcs[f]? = some fn) (hname : (fn.name == "runtime.NumGoroutine") = false) (hb : fn.body.isSome = true)
 [ha : ARG l as args] (h : AC P f H args (fun r H' => ∃ x, r = av x ∧ H' = H2 x ∧ p x)) [hd : ∀ x, DL l d (av x) (lx x)] (k : ∀ x, p x → AZ P base ops ds rest ⟨lx x, H2 x⟩ Q) : AZ P base ops ds (.one i true rest) ⟨l, H⟩ Q := by
 refine AZ.last hi hs rfl (Hv.call (s := ⟨l, H⟩) hf hname hb (ha.h H) h) fun s1 ⟨r, H', h1, h2⟩ => ?_
 obtain ⟨x, h3, h4, h5⟩ := h1;subst h3; subst h4; subst h2;rw [(hd x).h]; exact k x h5
end
section
variable {P : Program} {base : Cx} {l l' : List AV} {H : List (Option AB)} {Q : Exit → St → Prop} {ops : Array Oper} {rest : List Oper} {d : Option Tmp} {t : TypeId} {pos : String} {af : Array Edge} {av : AV}
theorem AO.callL {f : FuncId} {fn : Func} {as : List Operand} {ts : Array TypeId} {args : List AV} {H2 : List (Option AB)} (hf : P.funcs[f]? = some fn) (hname : (fn.name == "runtime.NumGoroutine") = false) (hb : fn.body.isSome = true)
 [ha : ARG l as args] (h : AC P f H args (fun r H' => r = av ∧ H' = H2)) [hd : DL l d av l'] (kk : AO P base ops rest ⟨l', H2⟩ Q) : AO P base ops (⟨d, .call { callee := .value (.func f), args := as.toArray, argTypes := ts }, t, pos, af, none⟩ :: rest) ⟨l, H⟩ Q := by
 refine AO.heavy rfl (Hv.call hf hname hb (ha.h H) h) fun s1 ⟨r, H', h1, h2⟩ => ?_
 obtain ⟨h3, h4⟩ := h1;subst h3; subst h4; subst h2;rw [hd.h]; exact kk
end
section
variable {P : Program} {base : Cx} {l : List AV} {H : List (Option AB)} {Q : Exit → St → Prop} {ops : Array Oper} {rest : OT} {d : Option Tmp} {t : TypeId} {pos : String} {af : Array Edge} {i : Nat} {ds : List Nat}
theorem AZi.callE {α : Type} {av : α → AV} {H2 : α → List (Option AB)} {p : α → Prop} {lx : α → List AV} {f : FuncId} {fn : Func} {as : List Operand} {ts : Array TypeId} {args : List AV} (hi : ops[i]? = some ⟨d, .call { callee := .value (.func f), args := as.toArray, argTypes := ts }, t, pos, af, none⟩) (hs : ds.contains i = true) (hf : P.funcs[f]? = some fn) (hname : (fn.name == "runtime.NumGoroutine") = false) (hb : fn.body.isSome = true)
 [ha : ARG l as args] (h : AC P f H args (fun r H' => ∃ x, r = av x ∧ H' = H2 x ∧ p x)) [hd : ∀ x, DL l d (av x) (lx x)] (k : ∀ x, p x → AZ P base ops ds rest ⟨lx x, H2 x⟩ Q) : AZi P base ops ds i rest ⟨l, H⟩ Q := by
 refine AZi.last hi hs rfl (Hv.call (s := ⟨l, H⟩) hf hname hb (ha.h H) h) fun s1 ⟨r, H', h1, h2⟩ => ?_
 obtain ⟨x, h3, h4, h5⟩ := h1;subst h3; subst h4; subst h2;rw [(hd x).h]; exact k x h5
theorem AW.midE {α : Type} {s : St} {c : Code} {s1 : α → St} (h : AW P base c s (fun e s' => e = .normal ∧ ∃ x, s' = s1 x)) (k : ∀ x, Q .normal (s1 x)) : AW P base c s Q :=
 fun σ a w hr K hk => h σ a w hr K fun _ _ _ _ _ h1 h2 ⟨he, x, hs⟩ => by subst he; subst hs; exact hk _ _ _ _ _ h1 h2 (k x)
theorem AW.midF {s : St} {c : Code} {s1 : Nat → Nat → St} (h : AW P base c s (fun e s' => e = .normal ∧ ∃ x y, s' = s1 x y)) (k : ∀ x y, Q .normal (s1 x y)) : AW P base c s Q :=
 fun σ a w hr K hk => h σ a w hr K fun _ _ _ _ _ h1 h2 ⟨he, x, y, hs⟩ => by subst he; subst hs; exact hk _ _ _ _ _ h1 h2 (k x y)
theorem Gh.forgetTo {H' : List (Option AB)} (hl : H'.length = H.length) (hf : ∀ (i : Nat) (b : AB), H'[i]? = some (some b) → H[i]? = some (some b)) : Gh base ⟨l, H⟩ ⟨l, H'⟩ := fun σ a w hr =>
 ⟨σ, ⟨hr.1.forget hl hf, ⟨hr.2.1.1, fun i av hi => by
  obtain ⟨x, h1, h2⟩ := hr.2.1.2 i av hi
  exact ⟨x, h1, h2.ext (Ext.forget hl hf)⟩⟩, hr.2.2⟩, Ext.forget hl hf⟩
theorem Gh.canon {n a b : Nat} {z g : Option AB} {L : List (Option AB)} (M T : List (Option AB)) (hL : L = z :: (M ++ g :: T)) (hM : M.length = a) (hT : T.length = b) : Gh base ⟨l, Hn n L⟩ ⟨l, Hn n (((([z] ++ List.replicate a none) ++ [g]) ++ List.replicate b none) ++ [])⟩ := by
 subst hL hM hT;refine Gh.forgetTo (by unfold Hn; simp) fun i c hc => ?_
 have key : ∀ (A : List (Option AB)) (N : Nat), A.length = N → ∀ (R R' : List (Option AB)) (k : Nat), (∀ k : Nat, R'[k]? = some (some c) → R[k]? = some (some c)) → (List.replicate N none ++ R')[k]? = some (some c) → (A ++ R)[k]? = some (some c) := by
  intro A N hA R R' k hR hk;subst hA;by_cases h : k < A.length
  · rw [List.getElem?_append_left (by simpa using h), List.getElem?_replicate] at hk
    rw [if_pos h] at hk; cases hk
  · rw [List.getElem?_append_right (by simp; omega), List.length_replicate] at hk
    rw [List.getElem?_append_right (by omega)];exact hR _ hk
 have e1 : Hn n (((([z] ++ List.replicate M.length none) ++ [g]) ++ List.replicate T.length none) ++ []) = List.replicate n none ++ (z :: (List.replicate M.length none ++ (g :: (List.replicate T.length none ++ [])))) := by unfold Hn; simp
 have e2 : Hn n (z :: (M ++ g :: T)) = List.replicate n none ++ (z :: (M ++ (g :: (T ++ [])))) := by unfold Hn; simp
 rw [e1] at hc;rw [e2];refine key _ n (by simp) _ _ i (fun k hk => ?_) hc
 cases k with
 | zero => exact hk
 | succ k =>
  rw [List.getElem?_cons_succ] at hk ⊢;refine key M M.length rfl _ _ k (fun q hq => ?_) hk
  cases q with
  | zero => exact hq
  | succ q =>
   rw [List.getElem?_cons_succ] at hq ⊢;exact key T T.length rfl [] [] q (fun _ h => h) hq
end
section
variable {P : Program} {base : Cx} {l l' : List AV} {H : List (Option AB)} {Q : Exit → St → Prop} {ops : Array Oper} {ds : List Nat} {n : Nat} {fl : Array Bool} {d : Option Tmp} {op : Op} {t : TypeId} {pos : String} {af : Array Edge} {av : AV}
theorem AY.p (i : Nat) (hi : ops[i]? = some ⟨d, op, t, pos, af, none⟩) (hc : anyR ops fl (fl.setIfInBounds i true) i = true) [hp : PC true P op l H av] [hd : DL l d av l'] (k : AY P base ops ds n (fl.setIfInBounds i true) ⟨l', H⟩ Q) : AY P base ops ds (n + 1) fl ⟨l, H⟩ Q :=
 AY.pure hi hc rfl (hp.h rfl) (by rw [hd.h]; exact k)
end
section
variable {P : Program} {κ β : Type} [DecidableEq κ] {kf : κ → Value} {vf : β → AV} {l : List (κ × β)}
theorem eval_put {base : Cx} {σ : Nat → Value} {s : St} {a : Act} {w : World} (hr : Rel base σ s a w) {d : Tmp} (hd : d < s.fr.length) (x : Value) : (a.put (some d) x).eval (.tmp d) = x := by
 have h := hr.put (some d) (av := .v x) (.v x);refine ev_v h (x := .tmp d) (y := x) ?_;show (s.fr.set d (.v x)).getD d .any = _
 rw [List.getD_eq_getElem?_getD, List.getElem?_set_self hd]; rfl
theorem find_born {ents : Array MapEntry} {j : Nat} {e : MapEntry} (hj : ents[j]? = some e) (hu : ∀ (i : Nat) (m : MapEntry), ents[i]? = some m → m.born = e.born → i = j) : ents.findIdx? (fun m => (m.born : Int) == (e.born : Int)) = some j := by
 have hlt := (Array.getElem?_eq_some_iff.1 hj).1;have he := (Array.getElem?_eq_some_iff.1 hj).2;rw [Array.findIdx?_eq_some_iff_getElem];refine ⟨hlt, by rw [he]; simp, fun i hi => ?_⟩;intro hc;have h1 : ((ents[i]'(by omega)).born : Int) = (e.born : Int) := by simpa using hc
 have := hu i _ (Array.getElem?_eq_getElem (by omega)) (by omega);omega
theorem inc_run {E : Env} {t kt et : TypeId} {zz : Value} [kk : KF P kt kf] (ht : P.underlying t = some (.map kt et)) (hz : ∀ w : World, (zeroValue et).run P w = .ok zz w) {r clock : Nat} {ents : Array MapEntry} {w : World} (h3 : w.heap[r]? = some (.map ents clock)) (h4 : MapR E (l.map (mE kf vf)) ents clock) (k : κ) :
 ∃ (v0 : Value) (b : Nat) (o1 : Obj), (Instr.mapEntry t (.map (some r)) (kf k)).run P w = .ok (.tuple #[v0, goInt (b : Int)]) (setBlk w r o1) ∧
  ∀ value : Value, ∃ o2 : Obj, (Instr.entryStore t (.map (some r)) (goInt (b : Int)) value).run P (setBlk w r o1) = .ok () (setBlk w r o2) ∧ (Instr.mapUpdate t (.map (some r)) (kf k) value).run P w = .ok () (setBlk w r o2) := by
 have hlt : r < w.heap.size := (Array.getElem?_eq_some_iff.1 h3).1;obtain ⟨q1, q2, q3⟩ := map_find (P := P) (kt := kt) h4 k;have store : ∀ (ents1 : Array MapEntry) (clock1 j : Nat) (e : MapEntry) (value : Value), ents1[j]? = some e → (∀ (i : Nat) (m : MapEntry), ents1[i]? = some m → m.born = e.born → i = j) →
  (Instr.entryStore t (.map (some r)) (goInt (e.born : Int)) value).run P (setBlk w r (.map ents1 clock1)) = .ok () (setBlk w r (.map (ents1.modify j fun e => { e with val := value }) clock1)) := by
  intro ents1 clock1 j e value hj hu;have hself : (setBlk w r (.map ents1 clock1)).heap[r]? = some (.map ents1 clock1) := setBlk_self w _ hlt;have hfi := find_born hj hu;have hset := MapKept.run_setObj_map (P := P) (.map (ents1.modify j fun e => { e with val := value }) clock1) hself
  have e1 : ({ setBlk w r (.map ents1 clock1) with heap := (setBlk w r (.map ents1 clock1)).heap.setIfInBounds r (.map (ents1.modify j fun e => { e with val := value }) clock1) } : World) = setBlk w r (.map (ents1.modify j fun e => { e with val := value }) clock1) := setBlk_setBlk w r _ _;rw [e1] at hset
  simp [Instr.entryStore, goInt, asInt, asIntOf, MapKept.run_getObj_map hself, hfi, hset, Result.andThen]
 rcases q3 with ⟨q3, q4, q5, q6⟩ | ⟨j, e, v0, q3, q4, q5, q6, q7, q8, q9⟩
 · refine ⟨zz, clock, .map (ents.push { key := kf k, val := zz, born := clock }) (clock + 1), ?_, fun value => ⟨.map (ents.push { key := kf k, val := value, born := clock }) (clock + 1), ?_, ?_⟩⟩
   · simp [Instr.mapEntry, run_underlying ht, MapKept.run_getObj_map h3, q1, q3 w, hz, MapKept.run_setObj_map _ h3, Result.andThen, setBlk]
   · have h := store (ents.push { key := kf k, val := zz, born := clock }) (clock + 1) ents.size { key := kf k, val := zz, born := clock } value (by simp) (fun i m hm hb => by
      rw [Array.getElem?_push] at hm;by_cases hi : i = ents.size
      · exact hi
      · rw [if_neg hi] at hm
        have := h4.2.2.1 i m hm;have hb : m.born = clock := hb;omega)
     rw [h]
     congr 2
     congr 1
     apply Array.ext_getElem?;intro i;rw [Array.getElem?_modify, Array.getElem?_push, Array.getElem?_push];by_cases hi : ents.size = i
     · subst hi; simp
     · rw [if_neg hi, if_neg (Ne.symm hi), if_neg (Ne.symm hi)]
   · simp [Instr.mapUpdate, run_underlying ht, MapKept.run_getObj_map h3, q1, q3 w, MapKept.run_setObj_map _ h3, Result.andThen, setBlk]
 · have hst : ∀ w : World, (Instr.keyThatStays e.key (kf k)).run P w = .ok (kf k) w := fun w => by rw [q5]; simp [Instr.keyThatStays, q2]
   refine ⟨e.val, e.born, .map (ents.modify j fun e => { e with key := kf k }) clock, ?_, fun value => ⟨.map (ents.modify j fun e => { e with key := kf k, val := value }) clock, ?_, ?_⟩⟩
   · simp [Instr.mapEntry, run_underlying ht, MapKept.run_getObj_map h3, q1, q3 w, MapKept.run_setObj_map _ h3, Result.andThen, setBlk, q4, hst]
   · have h := store (ents.modify j fun e => { e with key := kf k }) clock j { e with key := kf k } value (by rw [Array.getElem?_modify, if_pos rfl, q4]; rfl) (fun i m hm hb => by
      rw [Array.getElem?_modify] at hm;by_cases hi : j = i
      · exact hi.symm
      · rw [if_neg hi] at hm
        exact h4.2.2.2 i j m e hm q4 (.inl hb))
     refine Eq.trans h ?_
     congr 2
     congr 1
     apply Array.ext_getElem?;intro i;rw [Array.getElem?_modify, Array.getElem?_modify, Array.getElem?_modify];by_cases hi : j = i
     · subst hi; rw [if_pos rfl, if_pos rfl, if_pos rfl, q4]; rfl
     · rw [if_neg hi, if_neg hi, if_neg hi]
   · simp [Instr.mapUpdate, run_underlying ht, MapKept.run_getObj_map h3, q1, q3 w, MapKept.run_setObj_map _ h3, Result.andThen, setBlk, q4, hst]
end
section
variable {κ β : Type} {kf : κ → Value} {vf : β → AV} {l : List (κ × β)}
theorem mapR_push {E : Env} {ents : Array MapEntry} {clock : Nat} (h4 : MapR E (l.map (mE kf vf)) ents clock) {k : κ} {v : β} {x : Value} (hv : VR E (vf v) x) (hne : ∀ e ∈ ents.toList, e.key ≠ kf k) : MapR E ((l ++ [(k, v)]).map (mE kf vf)) (ents.push { key := kf k, val := x, born := clock }) (clock + 1) := by
 have hlen : ents.size = l.length := by simpa using h4.1
 have hget : ∀ (i : Nat) (p : κ × β) (m : MapEntry), l[i]? = some p → ents[i]? = some m → m.key = kf p.1 ∧ VR E (vf p.2) m.val := fun i p m h1 h2 => h4.2.1 i (mE kf vf p) m (by rw [List.getElem?_map, h1]; rfl) h2
 have key : ∀ (i : Nat) (m : MapEntry), (ents.push { key := kf k, val := x, born := clock })[i]? = some m → (i < ents.size ∧ ents[i]? = some m) ∨ (i = ents.size ∧ m = { key := kf k, val := x, born := clock }) := by
  intro i m hm;rw [Array.getElem?_push] at hm;by_cases hi : i = ents.size
  · rw [if_pos hi] at hm; exact .inr ⟨hi, (Option.some.inj hm).symm⟩
  · rw [if_neg hi] at hm; exact .inl ⟨(Array.getElem?_eq_some_iff.1 hm).1, hm⟩
 have hin : ∀ (i : Nat) (m : MapEntry), ents[i]? = some m → m.key ≠ kf k := fun i m hm => hne m (by have := (Array.getElem?_eq_some_iff.1 hm).2; rw [← this]; exact Array.getElem_mem_toList _)
 refine ⟨by simp [hlen], fun i p m hp hm => ?_, fun i m hm => ?_, fun i i' m m' hm hm' hor => ?_⟩
 · rw [List.getElem?_map] at hp
   rcases key i m hm with ⟨hi, hm⟩ | ⟨rfl, rfl⟩
   · rw [List.getElem?_append_left (by omega)] at hp
     cases hli : l[i]? with
     | none => rw [hli] at hp; cases hp
     | some q =>
      rw [hli] at hp;obtain rfl := Option.some.inj hp;exact hget i q m hli hm
   · rw [List.getElem?_append_right (by omega), hlen, Nat.sub_self] at hp
     obtain rfl := Option.some.inj hp;exact ⟨rfl, hv⟩
 · rcases key i m hm with ⟨hi, hm⟩ | ⟨rfl, rfl⟩
   · have := h4.2.2.1 i m hm; omega
   · exact Nat.lt_succ_self _
 · rcases key i m hm with ⟨hi, hm⟩ | ⟨rfl, rfl⟩ <;> rcases key i' m' hm' with ⟨hi', hm'⟩ | ⟨rfl, rfl⟩
   · exact h4.2.2.2 i i' m m' hm hm' hor
   · rcases hor with hor | hor
     · have h6 := h4.2.2.1 i m hm
       have hor : m.born = clock := hor;omega
     · exact absurd hor (hin i m hm)
   · rcases hor with hor | hor
     · have h6 := h4.2.2.1 i' m' hm'
       have hor : clock = m'.born := hor;omega
     · exact absurd hor.symm (hin i' m' hm')
   · rfl
end
section
variable {P : Program} {κ β : Type} [DecidableEq κ] {kf : κ → Value} {vf : β → AV} {l : List (κ × β)}
theorem inc_look {E : Env} {t kt et : TypeId} {zz : Value} {d : β} [kk : KF P kt kf] (ht : P.underlying t = some (.map kt et)) (hz : ∀ w : World, (zeroValue et).run P w = .ok zz w) (hzd : TELL (.v zz) (vf d)) {r clock : Nat} {ents : Array MapEntry} {w w1 : World} (h3 : w.heap[r]? = some (.map ents clock)) (h4 : MapR E (l.map (mE kf vf)) ents clock) (k : κ) {v0 : Value} {b : Nat} {o1 : Obj}
 (he : (Instr.mapEntry t (.map (some r)) (kf k)).run P w = .ok (.tuple #[v0, goInt (b : Int)]) (setBlk w r o1)) :
 ∃ xa, VR E (vf ((aget l k).getD d)) xa ∧ (Instr.lookup t (.map (some r)) (kf k) false).run P (setBlk w r o1) = .ok xa (setBlk w r o1) := by
 have hlt : r < w.heap.size := (Array.getElem?_eq_some_iff.1 h3).1;obtain ⟨q1, q2, q3⟩ := map_find (P := P) (kt := kt) h4 k;rcases q3 with ⟨q3, q4, q5, q6⟩ | ⟨j, e, v1, q3, q4, q5, q6, q7, q8, q9⟩
 · have h1 : (Instr.mapEntry t (.map (some r)) (kf k)).run P w = .ok (.tuple #[zz, goInt (clock : Int)]) (setBlk w r (.map (ents.push { key := kf k, val := zz, born := clock }) (clock + 1))) := by
    simp [Instr.mapEntry, run_underlying ht, MapKept.run_getObj_map h3, q1, q3 w, hz, MapKept.run_setObj_map _ h3, Result.andThen, setBlk]
   have hw : setBlk w r o1 = setBlk w r (.map (ents.push { key := kf k, val := zz, born := clock }) (clock + 1)) := by
    rw [he] at h1;exact (Result.ok.inj h1).2
   have hm := mapR_push h4 (hzd.h E zz (.v zz)) q4;have hself : (setBlk w r (.map (ents.push { key := kf k, val := zz, born := clock }) (clock + 1))).heap[r]? = some (.map (ents.push { key := kf k, val := zz, born := clock }) (clock + 1)) := setBlk_self w _ hlt;rw [hw];have hag : aget (l ++ [(k, d)]) k = some d := by
    have := aget_aput (l := l) (k := k) (k' := k) (v := d);rw [q6, if_pos rfl] at this; exact this
   obtain ⟨p1, p2, p3⟩ := map_find (P := P) (kt := kt) hm k;rcases p3 with ⟨_, _, p5, _⟩ | ⟨j, e, v1, p3, _, _, _, p7, p8, _⟩
   · rw [hag] at p5; cases p5
   · rw [hag] at p7
     obtain rfl := Option.some.inj p7;refine ⟨e.val, by rw [q5]; exact p8, ?_⟩;have p3' := p3;simp only [Array.toList_push] at p3';simp [Instr.lookup, run_underlying ht, MapKept.run_getObj_map hself, p1, p3' _, Result.andThen]
 · have hst : ∀ w : World, (Instr.keyThatStays e.key (kf k)).run P w = .ok (kf k) w := fun w => by rw [q5]; simp [Instr.keyThatStays, q2]
   have hmod : (ents.modify j fun e => { e with key := kf k }) = ents := by
    apply Array.ext_getElem?;intro i;rw [Array.getElem?_modify];by_cases hi : j = i
    · subst hi
      rw [if_pos rfl, q4];show some ({ e with key := kf k } : MapEntry) = _
      rw [← q5]
    · rw [if_neg hi]
   have h1 : (Instr.mapEntry t (.map (some r)) (kf k)).run P w = .ok (.tuple #[e.val, goInt (e.born : Int)]) (setBlk w r (.map (ents.modify j fun e => { e with key := kf k }) clock)) := by
    simp [Instr.mapEntry, run_underlying ht, MapKept.run_getObj_map h3, q1, q3 w, MapKept.run_setObj_map _ h3, Result.andThen, setBlk, q4, hst]
   rw [hmod, setBlk_same h3] at h1;have hw : setBlk w r o1 = w := by
    rw [he] at h1;exact (Result.ok.inj h1).2
   rw [hw, q7];refine ⟨e.val, q8, ?_⟩;simp [Instr.lookup, run_underlying ht, MapKept.run_getObj_map h3, q1, q3 w, Result.andThen]
end
section
variable {P : Program} {base : Cx} {l l1 l2 : List AV} {L L' : List (Option AB)} {Q : Exit → St → Prop} {ops : Array Oper} {rest : OT} {ds : List Nat} {κ β : Type} [DecidableEq κ] {kf : κ → Value} {vf : β → AV} {es : List (κ × β)} {key : κ} {v : β} {xv zz : Value} {av : AV} {n k sz bytes i j q : Nat}
theorem AZ.inc {di dj : Tmp} {t kt et ty ty2 ty3 : TypeId} {x y z : Operand} {pos pos2 pos3 : String} {af af2 af3 : Array Edge} (hi : ops[i]? = some ⟨some di, .mapEntry t x y, ty, pos, af, none⟩) (hj : ops[j]? = some ⟨some dj, .extract (.tmp di) 1, ty2, pos2, af2, none⟩) (hq : ops[q]? = some ⟨none, .entryStore t x (.tmp dj) z, ty3, pos3, af3, none⟩)
 (hdi : ds.contains i = true) (hdq : ds.contains q = true)
 [tu : TU P t (.map kt et)] [ti : TI P et zz sz bytes] [kf1 : KF P kt kf] [hx : EC true l x (.omap (n + k))] [gb : GB L k (.map (es.map (mE kf vf)))] [hy : EC true l y (.v xv)] [kv : KV kf xv key]
 [d1 : DL l (some di) .any l1] [g1 : GL l1 di .any] [d2 : DL l1 (some dj) .any l2] [g2 : GL l2 dj .any]
 [hx2 : EC true l2 x (.omap (n + k))] [hy2 : EC true l2 y (.v xv)] [hz : EC true l2 z av] [ev1 : EV vf av v] [sb : SB L k (some (.map ((aput es key v).map (mE kf vf)))) L']
 (kk : AZ P base ops ds rest ⟨l2, Hn n L'⟩ Q) : AZ P base ops ds (.one i true (.one j true (.one q true rest))) ⟨l, Hn n L⟩ Q := by
 intro fl hl hcl hs hb hk;obtain ⟨r1, c1, k1⟩ := ok_step hi hk;obtain ⟨r2, c2, k2⟩ := ok_step hj k1;obtain ⟨r3, c3, k3⟩ := ok_step hq k2;have hcl1 := hcl.set r1;rw [arrSet] at hcl1;have hcl2 := hcl1.set r2;rw [arrSet] at hcl2;have hcl3 := hcl2.set r3;rw [arrSet] at hcl3;simp only [cond_true] at c1 c2 c3;have o1 := only_ready hl c1 r1;have o2 := only_ready (by simpa using hl) c2 r2
 have o3 := only_ready (by simpa using hl) c3 r3;intro σ a w hrel K hK hkk;have hH : (Hn n L)[n + k]? = some (some (.map (es.map (mE kf vf)))) := by rw [Hn_get]; exact gb.h
 obtain ⟨r, ents, clock, m1, m2, m3, m4⟩ := hrel.1.live (n + k) _ hH;have m1 : σ (n + k) = .map (some r) := m1;have m3 : w.heap[r]? = some (.map ents clock) := m3;have hzero : ∀ w : World, (zeroValue et).run P w = .ok zz w := fun w => by
  have hz := ti.zero
  cases hi : P.info? et with
  | none => rw [hi] at hz; cases hz
  | some i =>
   rw [hi] at hz;have hz : i.zero = some zz := hz;simp [zeroValue, typeInfo, hi, hz, Result.andThen]
 obtain ⟨v0, b, ob1, e1, e2⟩ := inc_run (P := P) (kt := kt) tu.h hzero m3 m4 key;have hxe : a.eval x = .map (some r) := by
  have h5 := ev_ok hrel x;rw [hx.h rfl] at h5;exact (omap_val h5 hH).trans m1
 have hye : a.eval y = kf key := by rw [kv.h]; exact ev_v hrel (hy.h rfl _)
 have hdi' : di < l.length := by
  have h := (List.getElem?_eq_some_iff.1 g1.h).1;have e := congrArg St.fr (d1.h (Hn n L));have e : l.set di .any = l1 := e;rw [← e, List.length_set] at h; exact h
 have hdj' : dj < l1.length := by
  have h := (List.getElem?_eq_some_iff.1 g2.h).1;have e := congrArg St.fr (d2.h (Hn n L));have e : l1.set dj .any = l2 := e;rw [← e, List.length_set] at h; exact h
 have rel1 : Rel base σ ⟨l1, Hn n L⟩ (a.put (some di) (.tuple #[v0, goInt (b : Int)])) w := by
  have h := hrel.put (some di) (av := .any) (x := .tuple #[v0, goInt (b : Int)]) (.any _);rw [d1.h] at h; exact h
 have rel2 : Rel base σ ⟨l2, Hn n L⟩ ((a.put (some di) (.tuple #[v0, goInt (b : Int)])).put (some dj) (goInt (b : Int))) w := by
  have h := rel1.put (some dj) (av := .any) (x := goInt (b : Int)) (.any _);rw [d2.h] at h; exact h
 have t1 : (a.put (some di) (.tuple #[v0, goInt (b : Int)])).eval (.tmp di) = .tuple #[v0, goInt (b : Int)] := eval_put hrel hdi' _;have t2 : ((a.put (some di) (.tuple #[v0, goInt (b : Int)])).put (some dj) (goInt (b : Int))).eval (.tmp dj) = goInt (b : Int) := eval_put rel1 hdj' _
 have hxe2 : ((a.put (some di) (.tuple #[v0, goInt (b : Int)])).put (some dj) (goInt (b : Int))).eval x = .map (some r) := by
  have h5 := ev_ok rel2 x;rw [hx2.h rfl] at h5;exact (omap_val h5 hH).trans m1
 have hye2 : ((a.put (some di) (.tuple #[v0, goInt (b : Int)])).put (some dj) (goInt (b : Int))).eval y = kf key := by rw [kv.h]; exact ev_v rel2 (hy2.h rfl _)
 generalize ha2 : (a.put (some di) (.tuple #[v0, goInt (b : Int)])).put (some dj) (goInt (b : Int)) = a2 at rel2 t2 hxe2 hye2;obtain ⟨ob2, e3, e4⟩ := e2 (a2.eval z)
 have hupd := Hv.mapUpdate (P := P) (base := base) (s := ⟨l2, Hn n L⟩) (kf := kf) (vf := vf) (l := es) (id := n + k) (k := key) (v := v) (ty := ty3) (pos := pos3) (af := af3) (gd := none) (x := x) (y := y) (z := z) tu.h (hx2.h rfl _) hH ((hy2.h rfl _).trans (by rw [kv.h])) ((hz.h rfl _).trans ev1.h.symm)
  σ a2 w rel2 (fun _ _ _ => False) (fun a' w' => ∃ σ' s', Rel base σ' s' a' w' ∧ Ext ⟨w, Hn n L, σ, base.F⟩ ⟨w', s'.H, σ', base.F⟩ ∧ s' = ⟨l2, (Hn n L).set (n + k) (some (.map ((aput es key v).map (mE kf vf))))⟩) (fun σ' s' a' w' h1 h2 h3 => ⟨σ', s', h1, h2, h3⟩)
 have hrun : (execOp a2.eval ⟨none, .mapUpdate t x y z, ty3, pos3, af3, none⟩).run P w = .ok .skip (setBlk w r ob2) := by
  simp only [execOp, hxe2, hye2, Sem.run_bind, e4, Result.andThen_ok, Sem.run_pure]
 unfold Oper.wp at hupd;rw [hrun] at hupd;obtain ⟨σ', s', f1, f2, f3⟩ := hupd;subst f3;rw [Hn_set, sb.h] at f1 f2;have hw1 : ∀ (o : Oper) (yv), o.guard = none → Region.wanted o yv = true := fun o yv h => by unfold Region.wanted; rw [h]
 refine ⟨fun h0 => (by rw [o1] at h0; cases h0), fun c hc => ?_⟩;rw [o1] at hc;obtain rfl := List.mem_singleton.1 hc;unfold wpOp;simp only [hi];rw [if_pos (hw1 _ _ rfl)];refine .inl ?_;unfold Oper.wp;have hrun1 : (execOp a.eval ⟨some di, .mapEntry t x y, ty, pos, af, none⟩).run P w = .ok (.value (.tuple #[v0, goInt (b : Int)])) (setBlk w r ob1) := by
  simp only [execOp, hxe, hye, Sem.run_bind, e1, Result.andThen_ok, Sem.run_pure]
 rw [hrun1];refine ⟨fun hn => absurd (by simpa using hdi) hn, ?_⟩;rw [arrSet];refine ⟨fun h0 => (by rw [o2] at h0; cases h0), fun c hc => ?_⟩;rw [o2] at hc;obtain rfl := List.mem_singleton.1 hc;unfold wpOp;simp only [hj];rw [if_pos (hw1 _ _ rfl)];refine .inl ?_;unfold Oper.wp
 have hrun2 : (execOp (a.put (some di) (.tuple #[v0, goInt (b : Int)])).eval ⟨some dj, .extract (.tmp di) 1, ty2, pos2, af2, none⟩).run P (setBlk w r ob1) = .ok (.value (goInt (b : Int))) (setBlk w r ob1) := by
  simp only [execOp, t1, Sem.run_bind, Instr.extract];simp
 show Oper.upon _ _ _ _ _ _
 rw [hrun2];refine ⟨fun hn => KeepW.refl _, ?_⟩;rw [arrSet];refine ⟨fun h0 => (by rw [o3] at h0; cases h0), fun c hc => ?_⟩;rw [o3] at hc;obtain rfl := List.mem_singleton.1 hc;unfold wpOp;simp only [hq];rw [if_pos (hw1 _ _ rfl)];refine .inl ?_;unfold Oper.wp;show Oper.upon _ _ _ _ _ ((execOp ((a.put (some di) (.tuple #[v0, goInt (b : Int)])).put (some dj) (goInt (b : Int))).eval _).run P _)
 rw [ha2];have hrun3 : (execOp a2.eval ⟨none, .entryStore t x (.tmp dj) z, ty3, pos3, af3, none⟩).run P (setBlk w r ob1) = .ok .skip (setBlk w r ob2) := by
  simp only [execOp, hxe2, t2, Sem.run_bind, e3, Result.andThen_ok, Sem.run_pure]
 rw [hrun3];refine ⟨fun hn => absurd (by simpa using hdq) hn, ?_⟩;rw [arrSet];exact kk _ (by simpa using hl) hcl3 hs hb k3 σ' a2 _ f1 K hK fun e σ'' s'' a'' w'' h7 h8 h9 h10 => hkk e σ'' s'' a'' w'' h7 (f2.trans h8) h9 h10
variable {l3 l4 : List AV} {d : β} {avb : AV} {ob : Prop} {u b : Nat}
theorem AZi.incB {di dj da db : Tmp} {t kt et ty ty2 ty3 ty4 ty5 : TypeId} {x y z : Operand} {opb : Op} {pos pos2 pos3 pos4 pos5 : String} {af af2 af3 af4 af5 : Array Edge} (hi : ops[i]? = some ⟨some di, .mapEntry t x y, ty, pos, af, none⟩) (hj : ops[j]? = some ⟨some dj, .extract (.tmp di) 1, ty2, pos2, af2, none⟩)
 (hu : ops[u]? = some ⟨some da, .lookup t x y false, ty4, pos4, af4, none⟩) (hv : ops[b]? = some ⟨some db, opb, ty5, pos5, af5, none⟩) (hq : ops[q]? = some ⟨none, .entryStore t x (.tmp dj) z, ty3, pos3, af3, none⟩)
 (hdi : ds.contains i = true) (hdq : ds.contains q = true) (hne : (da == dj || db == dj) = false)
 [tu : TU P t (.map kt et)] [ti : TI P et zz sz bytes] [kf1 : KF P kt kf] [hx : EC true l x (.omap (n + k))] [gb : GB L k (.map (es.map (mE kf vf)))] [hy : EC true l y (.v xv)] [kv : KV kf xv key] [zv : ZV vf zz d]
 [d1 : DL l (some di) .any l1] [g1 : GL l1 di .any] [d2 : DL l1 (some dj) .any l2] [g2 : GL l2 dj .any] [hx2 : EC true l2 x (.omap (n + k))] [hy2 : EC true l2 y (.v xv)]
 [d3 : DL l2 (some da) (vf ((aget es key).getD d)) l3] [hp : PO P opb l3 (Hn n L) avb ob] (hob : ob) [d4 : DL l3 (some db) avb l4]
 [hx4 : EC true l4 x (.omap (n + k))] [hy4 : EC true l4 y (.v xv)] [hz : EC true l4 z av] [ev1 : EV vf av v] [sb : SB L k (some (.map ((aput es key v).map (mE kf vf)))) L']
 (kk : AZ P base ops ds rest ⟨l4, Hn n L'⟩ Q) : AZi P base ops ds i (.pur j (.one u true (.one b true (.one q true rest)))) ⟨l, Hn n L⟩ Q := by
 intro fl hl hcl hs hb r1 k1;obtain ⟨r2, c2, k2⟩ := ok_stepP hj k1;obtain ⟨r3, c3, k3⟩ := ok_step hu k2;obtain ⟨r4, c4, k4⟩ := ok_step hv k3;obtain ⟨r5, c5, k5⟩ := ok_step hq k4;have hcl1 := hcl.set r1;rw [arrSet] at hcl1;have hcl2 := hcl1.set r2;rw [arrSet] at hcl2;have hcl3 := hcl2.set r3;rw [arrSet] at hcl3;have hcl4 := hcl3.set r4;rw [arrSet] at hcl4;have hcl5 := hcl4.set r5
 rw [arrSet] at hcl5;simp only [cond_true] at c3 c4 c5;have o3 := only_ready (by simpa using hl) c3 r3;have o4 := only_ready (by simpa using hl) c4 r4;have o5 := only_ready (by simpa using hl) c5 r5;intro σ a w hrel K hK hkk;have hH : (Hn n L)[n + k]? = some (some (.map (es.map (mE kf vf)))) := by rw [Hn_get]; exact gb.h
 obtain ⟨r, ents, clock, m1, m2, m3, m4⟩ := hrel.1.live (n + k) _ hH;have m1 : σ (n + k) = .map (some r) := m1;have m3 : w.heap[r]? = some (.map ents clock) := m3;have hzero : ∀ w : World, (zeroValue et).run P w = .ok zz w := fun w => by
  have hz := ti.zero
  cases hi : P.info? et with
  | none => rw [hi] at hz; cases hz
  | some i =>
   rw [hi] at hz;have hz : i.zero = some zz := hz;simp [zeroValue, typeInfo, hi, hz, Result.andThen]
 obtain ⟨v0, st, ob1, e1, e2⟩ := inc_run (P := P) (kt := kt) tu.h hzero m3 m4 key;obtain ⟨xa, la1, la2⟩ := inc_look (w1 := w) tu.h hzero zv.h m3 m4 key e1;have hxv : ∀ {lx : List AV} {ax : Act}, Rel base σ ⟨lx, Hn n L⟩ ax w → EC true lx x (.omap (n + k)) → ax.eval x = .map (some r) := fun hr he => by
  have h5 := ev_ok hr x;rw [he.h rfl] at h5;exact (omap_val h5 hH).trans m1
 have hyv : ∀ {lx : List AV} {ax : Act}, Rel base σ ⟨lx, Hn n L⟩ ax w → EC true lx y (.v xv) → ax.eval y = kf key := fun hr he => by rw [kv.h]; exact ev_v hr (he.h rfl _)
 have hdi' : di < l.length := by
  have h := (List.getElem?_eq_some_iff.1 g1.h).1;have e := congrArg St.fr (d1.h (Hn n L));have e : l.set di .any = l1 := e;rw [← e, List.length_set] at h; exact h
 have hdj' : dj < l1.length := by
  have h := (List.getElem?_eq_some_iff.1 g2.h).1;have e := congrArg St.fr (d2.h (Hn n L));have e : l1.set dj .any = l2 := e;rw [← e, List.length_set] at h; exact h
 have rel1 : Rel base σ ⟨l1, Hn n L⟩ (a.put (some di) (.tuple #[v0, goInt (st : Int)])) w := by
  have h := hrel.put (some di) (av := .any) (x := .tuple #[v0, goInt (st : Int)]) (.any _);rw [d1.h] at h; exact h
 have t1 : (a.put (some di) (.tuple #[v0, goInt (st : Int)])).eval (.tmp di) = .tuple #[v0, goInt (st : Int)] := eval_put hrel hdi' _;have hxe := hxv hrel hx;have hye := hyv hrel hy;generalize ha1 : a.put (some di) (.tuple #[v0, goInt (st : Int)]) = a1 at rel1 t1;have rel2 : Rel base σ ⟨l2, Hn n L⟩ (a1.put (some dj) (goInt (st : Int))) w := by
  have h := rel1.put (some dj) (av := .any) (x := goInt (st : Int)) (.any _);rw [d2.h] at h; exact h
 have rel2' := rel1.put (some dj) (av := .v (goInt (st : Int))) (x := goInt (st : Int)) (.v _);generalize ha2 : a1.put (some dj) (goInt (st : Int)) = a2 at rel2 rel2';have rel3 : Rel base σ ⟨l3, Hn n L⟩ (a2.put (some da) xa) w := by
  have h := rel2.put (some da) (av := vf ((aget es key).getD d)) (x := xa) la1;rw [d3.h] at h; exact h
 have rel3' := rel2'.put (some da) (av := .any) (x := xa) (.any _);generalize ha3 : a2.put (some da) xa = a3 at rel3 rel3';obtain ⟨xb, lb1, lb2⟩ := hp.h hob (some db) ty5 pos5 af5 none base σ a3 w rel3;have rel4 : Rel base σ ⟨l4, Hn n L⟩ (a3.put (some db) xb) w := by
  have h := rel3.put (some db) (av := avb) (x := xb) lb1;rw [d4.h] at h; exact h
 have rel4' := rel3'.put (some db) (av := .any) (x := xb) (.any _);generalize ha4 : a3.put (some db) xb = a4 at rel4 rel4';have t4 : a4.eval (.tmp dj) = goInt (st : Int) := by
  have hne1 : da ≠ dj := fun e => by subst e; simp at hne
  have hne2 : db ≠ dj := fun e => by subst e; simp at hne
  refine ev_v rel4' (x := .tmp dj) ?_;show (((l1.set dj (.v (goInt (st : Int)))).set da .any).set db .any).getD dj .any = _
  rw [List.getD_eq_getElem?_getD, List.getElem?_set_ne hne2, List.getElem?_set_ne hne1, List.getElem?_set_self hdj']; rfl
 obtain ⟨ob2, e3, e4⟩ := e2 (a4.eval z);have hxe2 := hxv rel2 hx2;have hye2 := hyv rel2 hy2;have hxe4 := hxv rel4 hx4;have hye4 := hyv rel4 hy4
 have hupd := Hv.mapUpdate (P := P) (base := base) (s := ⟨l4, Hn n L⟩) (kf := kf) (vf := vf) (l := es) (id := n + k) (k := key) (v := v) (ty := ty3) (pos := pos3) (af := af3) (gd := none) (x := x) (y := y) (z := z) tu.h (hx4.h rfl _) hH ((hy4.h rfl _).trans (by rw [kv.h])) ((hz.h rfl _).trans ev1.h.symm)
  σ a4 w rel4 (fun _ _ _ => False) (fun a' w' => ∃ σ' s', Rel base σ' s' a' w' ∧ Ext ⟨w, Hn n L, σ, base.F⟩ ⟨w', s'.H, σ', base.F⟩ ∧ s' = ⟨l4, (Hn n L).set (n + k) (some (.map ((aput es key v).map (mE kf vf))))⟩) (fun σ' s' a' w' h1 h2 h3 => ⟨σ', s', h1, h2, h3⟩)
 have hrun : (execOp a4.eval ⟨none, .mapUpdate t x y z, ty3, pos3, af3, none⟩).run P w = .ok .skip (setBlk w r ob2) := by
  simp only [execOp, hxe4, hye4, Sem.run_bind, e4, Result.andThen_ok, Sem.run_pure]
 unfold Oper.wp at hupd;rw [hrun] at hupd;obtain ⟨σ', s', f1, f2, f3⟩ := hupd;subst f3;rw [Hn_set, sb.h] at f1 f2;have hw1 : ∀ (o : Oper) (yv), o.guard = none → Region.wanted o yv = true := fun o yv h => by unfold Region.wanted; rw [h]
 unfold wpOp;simp only [hi];rw [if_pos (hw1 _ _ rfl)];refine .inl ?_;unfold Oper.wp;have hrun1 : (execOp a.eval ⟨some di, .mapEntry t x y, ty, pos, af, none⟩).run P w = .ok (.value (.tuple #[v0, goInt (st : Int)])) (setBlk w r ob1) := by
  simp only [execOp, hxe, hye, Sem.run_bind, e1, Result.andThen_ok, Sem.run_pure]
 rw [hrun1];refine ⟨fun hn => absurd (by simpa using hdi) hn, ?_⟩;rw [arrSet];show wpAnyR P ops K ds _ _ (a.put (some di) _) _
 rw [ha1];have hrun2 : ∀ w' : World, (execOp a1.eval ⟨some dj, .extract (.tmp di) 1, ty2, pos2, af2, none⟩).run P w' = .ok (.value (goInt (st : Int))) w' := fun w' => by
  simp only [execOp, t1, Sem.run_bind, Instr.extract];simp
 refine wpAnyR_any hj (Region.noSelect_spec hs) (fun c a w h => (hK _ _ _ h).elim) _ ⟨fl.set i true⟩ a1 _ ?_ r2 (.inl ⟨hw1 _ _ rfl, hrun2⟩) ?_
 · intro g og hg hgn hun hno
   exact free_go _ _ 0 c2 g _ (sigs_get hg) (by rw [arrGet] at hun; exact hun) (by omega) (fun hm => by
    obtain ⟨e, he, hbd, hon⟩ := sig_e.1 hm;exact hno e he hbd hon)
 rw [arrSet];show wpAnyR P ops K ds _ _ (a1.put (some dj) _) _
 rw [ha2];refine ⟨fun h0 => (by rw [o3] at h0; cases h0), fun c hc => ?_⟩;rw [o3] at hc;obtain rfl := List.mem_singleton.1 hc;unfold wpOp;simp only [hu];rw [if_pos (hw1 _ _ rfl)];refine .inl ?_;unfold Oper.wp;have hrun3 : (execOp a2.eval ⟨some da, .lookup t x y false, ty4, pos4, af4, none⟩).run P (setBlk w r ob1) = .ok (.value xa) (setBlk w r ob1) := by
  simp only [execOp, hxe2, hye2, Sem.run_bind, la2, Result.andThen_ok, Sem.run_pure]
 rw [hrun3];refine ⟨fun hn => KeepW.refl _, ?_⟩;rw [arrSet];show wpAnyR P ops K ds _ _ (a2.put (some da) _) _
 rw [ha3];refine ⟨fun h0 => (by rw [o4] at h0; cases h0), fun c hc => ?_⟩;rw [o4] at hc;obtain rfl := List.mem_singleton.1 hc;unfold wpOp;simp only [hv];rw [if_pos (hw1 _ _ rfl)];refine .inl ?_;unfold Oper.wp;rw [lb2];refine ⟨fun hn => KeepW.refl _, ?_⟩;rw [arrSet];show wpAnyR P ops K ds _ _ (a3.put (some db) _) _
 rw [ha4];refine ⟨fun h0 => (by rw [o5] at h0; cases h0), fun c hc => ?_⟩;rw [o5] at hc;obtain rfl := List.mem_singleton.1 hc;unfold wpOp;simp only [hq];rw [if_pos (hw1 _ _ rfl)];refine .inl ?_;unfold Oper.wp;have hrun5 : (execOp a4.eval ⟨none, .entryStore t x (.tmp dj) z, ty3, pos3, af3, none⟩).run P (setBlk w r ob1) = .ok .skip (setBlk w r ob2) := by
  simp only [execOp, hxe4, t4, Sem.run_bind, e3, Result.andThen_ok, Sem.run_pure]
 rw [hrun5];refine ⟨fun hn => absurd (by simpa using hdq) hn, ?_⟩;rw [arrSet];exact kk _ (by simpa using hl) hcl5 hs hb k5 σ' a4 _ f1 K hK fun e σ'' s'' a'' w'' h7 h8 h9 h10 => hkk e σ'' s'' a'' w'' h7 (f2.trans h8) h9 h10
end
section
variable {P : Program} {s : St} {c : Bool} {l : List AV} {H : List (Option AB)} {x y : Operand} {ts : Array TypeId} {t t' : TypeId} {k k' : IntKind} {p q : Int} {a b : ByteArray}
theorem Pu.min2 (hx : ev s x = .v (.int k p)) (hy : ev s y = .v (.int k' q)) : Pu P (.call { callee := .builtin .min, args := #[x, y], argTypes := ts }) s (.v (.int k (min p q))) :=
 Pu.of fun base σ a w hr d t pos af g w' => by
  have e : (if q < p then q else p) = min p q := by omega
  simp [execOp, resolve, invoke, builtin, Builtin.min_, Builtin.min2, ev_v hr hx, ev_v hr hy, e]
instance [h : EC c l x (.v (.int k p))] [h' : EC c l y (.v (.int k' q))] : PC c P (.call { callee := .builtin .min, args := #[x, y], argTypes := ts }) l H (.v (.int k (min p q))) := ⟨fun hc => Pu.min2 (h.h hc H) (h'.h hc H)⟩
end
def ShowsT (id ep sz : Nat) (rows : List (List AV)) : List AV → List AV → Prop
 | [], [] => True
 | a :: as, b :: bs => (a = b ∨ ∃ off m, a = .own id ep off m ∧ TELL (.rd sz ((rows.drop off).take m)) b) ∧ ShowsT id ep sz rows as bs
 | _, _ => False
theorem tell_rows {sz : Nat} {rows rows' : List (List AV)} (hl : rows.length = rows'.length) (h : ∀ (i : Nat) (r r' : List AV), rows[i]? = some r → rows'[i]? = some r' → TELLs r r') : TELL (.rd sz rows) (.rd sz rows') := ⟨fun E x hx => by
 cases hx with
 | rd u hc hm hz hA hu =>
  have hpre : ∀ (i : Nat) (row : List AV), rows'[i]? = some row → ∃ r0, rows[i]? = some r0 ∧ TELLs r0 row := fun i row hi => by
   have hlt : i < rows.length := by rw [hl]; exact (List.getElem?_eq_some_iff.1 hi).1
   exact ⟨_, List.getElem?_eq_getElem hlt, h i _ row (List.getElem?_eq_getElem hlt) hi⟩
  have hcell : ∀ (r0 row : List AV), TELLs r0 row → ∀ (j : Nat) (av : AV), row[j]? = some av → ∃ av0, r0[j]? = some av0 := fun r0 row ht j av hj => by
   have hlt : j < r0.length := by rw [ht.h.1]; exact (List.getElem?_eq_some_iff.1 hj).1
   exact ⟨_, List.getElem?_eq_getElem hlt⟩
  rw [hl]
  refine .rd u (by rw [← hl]; exact hc) hm (fun row hr => ?_) (fun h0 => ?_) (fun i row j av hi hj => ?_)
  · obtain ⟨i, hi⟩ := List.getElem?_of_mem hr
    obtain ⟨r0, h1, h2⟩ := hpre i row hi
    rw [← h2.h.1]
    exact hz _ (List.mem_of_getElem? h1)
  · obtain ⟨ad, e1, e2, e3, e4⟩ := hA (by omega)
    refine ⟨ad, e1, e2, e3, fun i row j av hi hj => ?_⟩
    obtain ⟨r0, h1, h2⟩ := hpre i row hi
    obtain ⟨av0, h3⟩ := hcell r0 row h2 j av hj
    exact e4 i _ j av0 h1 h3
  · obtain ⟨r0, h1, h2⟩ := hpre i row hi
    obtain ⟨av0, h3⟩ := hcell r0 row h2 j av hj
    exact h2.h.2 E j av0 av _ h3 hj (hu i _ j av0 h1 h3)⟩
theorem showTell {id sz ep m : Nat} {rows : List (List AV)} {b : AV} (h : rows.length = m) (hr : TELL (.rd sz rows) b) : AV.own id ep 0 m = b ∨ ∃ off m', AV.own id ep 0 m = .own id ep off m' ∧ TELL (.rd sz ((rows.drop off).take m')) b :=
 .inr ⟨0, m, rfl, by rw [List.drop_zero, ← h, List.take_length]; exact hr⟩
theorem ShowsT.at_ {id ep sz : Nat} {rows : List (List AV)} : ∀ {as bs : List AV}, ShowsT id ep sz rows as bs → as.length = bs.length ∧ ∀ (j : Nat) (b : AV), bs[j]? = some b → ∃ a, as[j]? = some a ∧ (a = b ∨ ∃ off m, a = .own id ep off m ∧ TELL (.rd sz ((rows.drop off).take m)) b) := by
 intro as
 induction as with
 | nil =>
  intro bs h
  cases bs with
  | nil => exact ⟨rfl, fun j b h => by simp at h⟩
  | cons b bs => exact h.elim
 | cons a as ih =>
  intro bs h
  cases bs with
  | nil => exact h.elim
  | cons b bs =>
   obtain ⟨h1, h2⟩ := ih h.2;refine ⟨by simp [h1], fun j c hj => ?_⟩
   cases j with
   | zero => obtain rfl := Option.some.inj hj; exact ⟨a, rfl, h.1⟩
   | succ j => exact h2 j c hj
section
variable {P : Program} {base : Cx} {s : St}
theorem HvK.callT {d : Option Tmp} {f : FuncId} {fn : Func} {as : List Operand} {ts : Array TypeId} {ty : TypeId} {pos : String} {af : Array Edge} {gd : Option (Nat × Bool)} {args bs : List AV} {av : AV} {id : Nat} {e : TypeId} {sz ep : Nat} {rows : List (List AV)} (hf : P.funcs[f]? = some fn) (hname : (fn.name == "runtime.NumGoroutine") = false) (hb : fn.body.isSome = true)
 (ha : as.map (ev s) = args) (hs : ShowsT id ep sz rows args bs) (hg : ∀ av ∈ bs, Gen s.H.length av) (hH : s.H[id]? = some (some (.row e sz ep rows))) (hm : rows.length ≤ 9223372036854775807) (h : A0 P f bs (fun r => r = av)) [pr : PlainV av] :
 HvK P base ⟨d, .call { callee := .value (.func f), args := as.toArray, argTypes := ts }, ty, pos, af, gd⟩ s (fun s' => s' = s.put d av) := by
 intro σ a w hr Q K hk;unfold Oper.wp;rw [run_call hf hname hb]
 let n := s.H.length
 obtain ⟨hl, hsa⟩ := hs.at_
 let E1 : Env := ⟨w, s.H.set id none, σ, base.F⟩
 let F' : Nat → Prop := fun g => E1.mine g
 have hbs : base.b ≤ w.heap.size := hr.1.bs;have hfg := Ext.forget (base := base) (w := w) (H := s.H) (H' := s.H.set id none) (σ := σ) (by simp) (fun i b h => (set_none h).1);have hF' : ∀ g, F' g → g < w.heap.size := by
  rintro g (⟨i, b, h1, h2⟩ | h1)
  · exact (blk_lt hr.1 (set_none h1).1 h2).2
  · exact hr.1.far g h1
 have hheap : Heap ⟨w.heap.size, F'⟩ ⟨w, List.replicate n none, σ, F'⟩ := by
  refine ⟨Nat.le_refl _, hF', fun g h => (ours_none g h).elim, fun id b h => (rep_none h).elim, fun id id' b b' g h1 h2 h3 h4 => (rep_none h1).elim⟩
 have hmv : ∀ (av : AV) (x : Value), Gen n av → VR E1 av x → VR ⟨w, List.replicate n none, σ, F'⟩ av x := fun av x hgn hv => by
  refine VR.move (E := E1) (E' := ⟨w, List.replicate n none, σ, F'⟩) (n := n) rfl (fun g hm => ?_) (by show (s.H.set id none).length ≤ (List.replicate n (none : Option AB)).length; simp [n]) (fun i hid => ?_) (fun _ _ => rfl) hv hgn
  · rcases hm with hm | hm
    · exact (ours_none g hm).elim
    · exact hm
  · show (List.replicate n (none : Option AB))[i]? = (s.H.set id none)[i]?
    have hid : s.H.length ≤ i := hid;rw [List.getElem?_eq_none (by simp; exact hid), List.getElem?_eq_none (by simp [n]; exact hid)]
 have hlen : as.length = bs.length := by rw [← hl, ← ha, List.length_map]
 refine (h n ⟨w.heap.size, F'⟩ σ w (as.map a.eval) hheap (by simpa using hlen) (fun j av x h1 h2 => ?_)).mono ?_
 · obtain ⟨av0, h3, h4⟩ := hsa j av h1
   have h5 := args_ok hr as j av0 x (by rw [ha]; exact h3) h2;refine hmv av x (hg av (List.mem_of_getElem? h1)) ?_;rcases h4 with rfl | ⟨off, m, rfl, ht⟩
   · exact h5.ext hfg
   · exact ht.h _ _ (own_rd hr.1 hH h5 (by unfold maxLen; omega))
 rintro e' w' ⟨x, r, H', σ', h1, h2, h3, h4, h5, h6⟩
 subst h1;subst h6;have hkeep : ∀ k, k < w.heap.size → w'.heap[k]? = w.heap[k]? := fun k hk => h3.keep k hk (ours_none k)
 have hsize : w.heap.size ≤ w'.heap.size := h3.size;have hext : Ext ⟨w, s.H, σ, base.F⟩ ⟨w', s.H, σ, base.F⟩ :=
  ⟨h3.os, h3.tape, h3.output, hsize, rfl, fun k hk _ => hkeep k hk, fun k hk _ => hk, Nat.le_refl _, fun id e sz ep rows' h6 _ => ⟨ep, rows', h6, .inr ⟨rfl, rfl, rfl⟩⟩, fun id t cs' h6 _ => ⟨cs', h6, rfl, rfl⟩, fun id es' h6 _ => ⟨es', h6, rfl⟩⟩
 have hheap2 : Heap base ⟨w', s.H, σ, base.F⟩ :=
  ⟨Nat.le_trans hbs hsize, fun g hf => Nat.lt_of_lt_of_le (hr.1.far g hf) hsize, hr.1.clear, fun id b h6 => (hr.1.live id b h6).keep hext rfl fun g hg => hkeep g (blk_lt hr.1 h6 hg).2, hr.1.apart⟩
 have hrel : Rel base σ s a w' := ⟨hheap2, hr.2.1.ext hext, hr.2.2⟩;exact hk σ _ _ w' (hrel.put d (pr.h ⟨w', H', σ', F'⟩ ⟨w', s.H, σ, base.F⟩ x h4)) (by rw [put_H]; exact hext) ⟨hsize, hkeep⟩ rfl
end
section
variable {P : Program} {base : Cx} {l l' : List AV} {Q : Exit → St → Prop} {os : List Oper} {as : List Operand} {ops : Array Oper} {rest : List Oper} {d : Option Tmp} {t : TypeId} {pos : String} {af : Array Edge} {av : AV} {f : FuncId} {fn : Func} {ts : Array TypeId} {args : List AV} {n i j u sz ep : Nat} {L : List (Option AB)} {bt : TypeId} {rows : List (List AV)} {want c : Bool} {ds : List Nat} {rst : OT}
theorem AO.callT (k : Nat) (bs : List AV) (hf : P.funcs[f]? = some fn) (hname : (fn.name == "runtime.NumGoroutine") = false) (hb : fn.body.isSome = true)
 [ha : ARG l as args] [gb : GB L k (.row bt sz ep rows)] (hs : ShowsT (n + k) ep sz rows args bs) [hga : GA (Hn n L).length bs] (hm : rows.length ≤ 9223372036854775807) (h : A0 P f bs (fun r => r = av)) [pr : PlainV av] [hd : DL l d av l'] (kk : AO P base ops rest ⟨l', Hn n L⟩ Q) : AO P base ops (⟨d, .call { callee := .value (.func f), args := as.toArray, argTypes := ts }, t, pos, af, none⟩ :: rest) ⟨l, Hn n L⟩ Q := by
 refine AO.heavy rfl (HvK.callT (s := ⟨l, Hn n L⟩) hf hname hb (ha.h (Hn n L)) hs hga.h (by show (Hn n L)[n + k]? = _; rw [Hn_get]; exact gb.h) hm h).hv fun s1 h1 => ?_
 subst h1; rw [hd.h]; exact kk
end
end Go.Proofs.YtkbbcenjklaglaaGreat.AL
