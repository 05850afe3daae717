/- An intermediate logic over abstract blocks, further rules; no condition. -/
import Derived.Test.YtlapfdfbgckfcaaAlG
namespace Go.Proofs.Ytlapfdfbgckfcaa.AL
open Go Go.RowKit
set_option linter.unusedVariables false
set_option linter.unusedSimpArgs false
/-! Results that are rows of the caller's own; results in memory. -/
section
variable {P : Program} {base : Cx} {s : St}
/-- A contract whose result is a new row. -/
def A1 (P : Program) (f : FuncId) (args : List AV) (e : TypeId) (sz : Nat) (rows : List (List AV)) : Prop :=
  (∀ row ∈ rows, ∀ av ∈ row, NoId av) ∧ ∀ n, AC P f (List.replicate n none) args fun r H' => ∃ id ep, r = .own id ep 0 rows.length ∧ H'[id]? = some (some (.row e sz ep rows))
theorem A1.a0 {f : FuncId} {args : List AV} {e : TypeId} {sz : Nat} {rows : List (List AV)} (h : A1 P f args e sz rows) (hm : rows.length ≤ 9223372036854775807) : A0 P f args (fun r => r = .rd sz rows) := by
  intro n base σ w vs h1 h2 h3
  refine (h.2 n base σ w vs h1 h2 h3).mono fun e' w' ⟨x, r, H', σ', h4, h5, h6, h7, id, ep, h8, h9⟩ => ?_
  subst h8
  have hf := Ext.forget (base := base) (w := w') (H := H') (H' := H'.set id none) (σ := σ') (by simp) (fun i b h => (set_none h).1)
  have hv := own_rd h5 h9 h7 (by unfold maxLen; omega)
  rw [List.drop_zero, List.take_of_length_le (Nat.le_refl _)] at hv
  exact ⟨x, .rd sz rows, H'.set id none, σ', h4, h5.forget (by simp) (fun i b h => (set_none h).1), h6.trans hf, hv, NoId.rd h.1, rfl⟩
/-- The end of a body that tells a new row. -/
def FinO (P : Program) (base : Cx) (rs : List ResultVar) (e : TypeId) (sz : Nat) (rows : List (List AV)) : Exit → St → Prop := fun ex s' => (ex = .normal ∨ ex = .ret) ∧ ∃ s2, Gh base s' s2 ∧ ∃ id ep t, rs = [.tmp t] ∧ s2.fr[t]? = some (.own id ep 0 rows.length) ∧ s2.H[id]? = some (some (.row e sz ep rows))
theorem A1.body {f : FuncId} {fn : Func} {c : Code} {rs : List ResultVar} {args : List AV} {e : TypeId} {sz : Nat} {rows : List (List AV)} {l : List AV} (n : Nat) [fr : FR args n l] (hno : ∀ row ∈ rows, ∀ av ∈ row, NoId av) (hf : P.funcs[f]? = some fn) (hb : fn.body = some c) (hrs : fn.results = rs.toArray) (hn : fn.ntmps = n)
    (h : ∀ (base : Cx) (n0 : Nat), AW P base c ⟨l, Hn n0 []⟩ (FinO P base rs e sz rows)) : A1 P f args e sz rows := by
  refine ⟨hno, fun n0 => ?_⟩
  refine AC.of_body hf hb hrs n hn fun base => ?_
  have hw : Gh base ⟨frame0 args n, List.replicate n0 none⟩ ⟨l, List.replicate n0 none⟩ := by
    have hfl : (frame0 args n).length = n := by have := fr.le; simp [frame0]; omega
    refine Gh.weaken (s := ⟨frame0 args n, List.replicate n0 none⟩) (by rw [hfl]; exact fr.len) fun i av hi => ?_
    rcases fr.h i av hi with h1 | h1
    · exact .inl h1
    · refine .inr ?_
      have hlt := (List.getElem?_eq_some_iff.1 h1).1
      show (frame0 args n)[i]? = some av
      unfold frame0
      rw [List.getElem?_append_left hlt]; exact h1
  refine AW.ghost hw ?_
  have hh := h base n0
  have e1 : Hn n0 [] = List.replicate n0 (none : Option AB) := by simp [Hn]
  rw [e1] at hh
  refine AW.mono_ghost hh fun ex s1 ⟨he, s2, hg, id, ep, t, h1, h2, h3⟩ => ⟨s2, hg, he, [.own id ep 0 rows.length], ?_, id, ep, rfl, h3⟩
  subst h1
  have := ResR.tmp (P := P) (s := s2) (u := t) (rs := []) (avs := []) .nil
  rw [List.getD_eq_getElem?_getD, h2] at this
  exact this
theorem FinO.ret {rs : List ResultVar} {l l' : List AV} {H : List (Option AB)} {n k ep m : Nat} {L : List (Option AB)} {e : TypeId} {sz : Nat} {rows rows' : List (List AV)} (t : Tmp) (hg : Gh base ⟨l, H⟩ ⟨l', Hn n L⟩) (hrs : rs = [.tmp t]) [g : GL l' t (.own (n + k) ep 0 m)] [gb : GB L k (.row e sz ep rows')] (hr : rows' = rows) (hm : rows.length = m) {ex : Exit} (hex : ex = .normal ∨ ex = .ret) : FinO P base rs e sz rows ex ⟨l, H⟩ := by
  subst hr; subst hm
  exact ⟨hex, ⟨l', Hn n L⟩, hg, n + k, ep, t, hrs, g.h, by show (Hn n L)[n + k]? = _; rw [Hn_get]; exact gb.h⟩
theorem HvK.callR {d : Option Tmp} {f : FuncId} {fn : Func} {as : List Operand} {ts : Array TypeId} {ty : TypeId} {pos : String} {af : Array Edge} {gd : Option (Nat × Bool)} {args : List AV} {e : TypeId} {sz : Nat} {rows : List (List AV)} (hf : P.funcs[f]? = some fn) (hname : (fn.name == "runtime.NumGoroutine") = false) (hb : fn.body.isSome = true)
    (ha : as.map (ev s) = args) (hg : ∀ av ∈ args, Gen s.H.length av) (h : A1 P f args e sz rows) :
    HvK P base ⟨d, .call { callee := .value (.func f), args := as.toArray, argTypes := ts }, ty, pos, af, gd⟩ s (fun s' => s' = (⟨s.fr, s.H ++ [some (.row e sz 0 rows)]⟩ : St).put d (.own s.H.length 0 0 rows.length)) := by
  intro σ a w hr Q K hk
  unfold Oper.wp
  rw [run_call hf hname hb]
  subst ha
  let n := s.H.length
  let F' : Nat → Prop := Env.mine ⟨w, s.H, σ, base.F⟩
  have hbs : base.b ≤ w.heap.size := hr.1.bs
  have hF' : ∀ g, F' g → g < w.heap.size := by
    rintro g (⟨id, b, h1, h2⟩ | h1)
    · exact (blk_lt hr.1 h1 h2).2
    · exact hr.1.far g h1
  have hheap : Heap ⟨w.heap.size, F'⟩ ⟨w, List.replicate n none, σ, F'⟩ := by
    refine ⟨Nat.le_refl _, hF', fun g h => (ours_none g h).elim, fun id b h => (rep_none h).elim, fun id id' b b' g h1 h2 h3 h4 => (rep_none h1).elim⟩
  have hnone : ∀ id, n ≤ id → s.H[id]? = none := fun id h => List.getElem?_eq_none h
  have hrep : ∀ id, n ≤ id → (List.replicate n (none : Option AB))[id]? = none := fun id h => List.getElem?_eq_none (by simpa using h)
  refine (h.2 n ⟨w.heap.size, F'⟩ σ w (as.map a.eval) hheap (by simp) (fun j av x h1 h2 => ?_)).mono ?_
  · refine VR.move (E := ⟨w, s.H, σ, base.F⟩) (E' := ⟨w, List.replicate n none, σ, F'⟩) (n := n) rfl (fun g hm => ?_) (by show s.H.length ≤ (List.replicate n (none : Option AB)).length; simp [n]) (fun id hid => ?_) (fun _ _ => rfl) (args_ok hr as j av x h1 h2) (hg av (List.mem_of_getElem? h1))
    · rcases hm with hm | hm
      · exact (ours_none g hm).elim
      · exact hm
    · show (List.replicate n (none : Option AB))[id]? = s.H[id]?
      rw [hnone id hid, hrep id hid]
  rintro ex w' ⟨x, r, H', σ', h1, h2, h3, h4, id, ep, h5, h6⟩
  subst h1; subst h5
  have hkeep : KeepW w w' := ⟨h3.size, fun k hk => h3.keep k hk (ours_none k)⟩
  obtain ⟨xs, hown, hrows⟩ := h2.live id _ h6
  have hx : x = σ' id := by
    cases h4 with
    | own ho hs =>
      obtain ⟨_, A, c, A', q1, rfl, q3, q4⟩ := (ho.2 _ _ _ _ h6).2 rfl
      have q1' : σ' id = .slice A rows.length c := q1
      rw [q1', q4 rfl]; simp
  subst hx
  have hv : ∀ g, blkOf (σ' id) = some g → w.heap.size ≤ g := fun g hg => (blk_lt h2 h6 hg).1
  have he := Ext.push (base := base) (w := w) (w1 := w') (H := s.H) (σ := σ) (.row e sz 0 rows) (σ' id) h3.os h3.tape h3.output hkeep hv
  have hmine : ∀ g, Env.mine ⟨w', s.H ++ [some (.row e sz 0 rows)], pushσ σ s.H.length (σ' id), base.F⟩ g → Env.mine ⟨w', H', σ', F'⟩ g := by
    rintro g (⟨i, b, q1, q2⟩ | q1)
    · have q1 : (s.H ++ [some (.row e sz 0 rows)])[i]? = some (some b) := q1
      have q2 : blkOf (pushσ σ s.H.length (σ' id) i) = some g := q2
      unfold pushσ at q2
      by_cases hi : i = s.H.length
      · rw [if_pos hi] at q2
        exact .inl ⟨id, _, h6, q2⟩
      · rw [if_neg hi] at q2
        have hlt : i < s.H.length := by have := (List.getElem?_eq_some_iff.1 q1).1; simp at this; omega
        rw [List.getElem?_append_left hlt] at q1
        exact .inr (.inl ⟨i, b, q1, q2⟩)
    · exact .inr (.inr q1)
  have hown' : w'.ownsRow base.b e sz (σ' id) rows.length xs := by
    refine ⟨hown.1, ?_⟩
    rcases hown.2 with q | ⟨g, cap, cur, q1, q2, q3⟩
    · exact .inl q
    · exact .inr ⟨g, cap, cur, q1, Nat.le_trans hbs q2, q3⟩
  have hH := hr.1.push he hkeep hv (b := .row e sz 0 rows) ⟨xs, by simpa [pushσ] using hown', hrows.1, hrows.2.1, hrows.2.2.1, fun i row j av hi hj => by
    obtain ⟨y, q1, q2⟩ := hrows.2.2.2 i row j av hi hj
    exact ⟨y, q1, VR.move0 (E := ⟨w', H', σ', F'⟩) (E' := ⟨w', s.H ++ [some (.row e sz 0 rows)], pushσ σ s.H.length (σ' id), base.F⟩) rfl hmine q2 (h.1 row (List.mem_of_getElem? hi) av (List.mem_of_getElem? hj))⟩⟩
  have hrel : Rel base (pushσ σ s.H.length (σ' id)) ⟨s.fr, s.H ++ [some (.row e sz 0 rows)]⟩ a w' := ⟨hH, hr.2.1.ext he, hr.2.2⟩
  have hvr : VR ⟨w', s.H ++ [some (.row e sz 0 rows)], pushσ σ s.H.length (σ' id), base.F⟩ (.own s.H.length 0 0 rows.length) (σ' id) := by
    have hsl : ∃ A c, σ' id = .slice A rows.length c := by
      cases h4 with
      | own ho hs => obtain ⟨_, A, c, A', q1, _⟩ := (ho.2 _ _ _ _ h6).2 rfl; exact ⟨A, c, q1⟩
    obtain ⟨A, c, hA⟩ := hsl
    refine .own ⟨by simp, fun e' sz' ep' rows' q1 => ?_⟩ ⟨A, c, hA⟩
    simp at q1
    obtain ⟨rfl, rfl, rfl, rfl⟩ := q1
    refine ⟨Nat.le_refl _, fun _ => ⟨by omega, A, c, A, by simp [pushσ, hA], by simp [hA], fun _ => ?_, fun _ => rfl⟩⟩
    cases A <;> simp [Addr.add]
  exact hk _ _ _ w' (hrel.put d hvr) (by rw [put_H]; exact he) hkeep rfl
end
section
variable {P : Program} {base : Cx} {l l' : List AV} {Q : Exit → St → Prop} {ops : Array Oper} {rest : List Oper} {d : Option Tmp} {t : TypeId} {pos : String} {af : Array Edge} {n k m : Nat} {L L' : List (Option AB)} {e : TypeId} {sz : Nat} {rows : List (List AV)} {ds : List Nat} {rst : OT} {i : Nat}
theorem AO.callR {f : FuncId} {fn : Func} {as : List Operand} {ts : Array TypeId} {args : List AV} (hf : P.funcs[f]? = some fn) (hname : (fn.name == "runtime.NumGoroutine") = false) (hb : fn.body.isSome = true)
    [ha : ARG l as args] [hg : GA (Hn n L).length args] (h : A1 P f args e sz rows) (hm : rows.length = m) [pb : PB L (some (.row e sz 0 rows)) k L'] [hd : DL l d (.own (n + k) 0 0 m) l'] (kk : AO P base ops rest ⟨l', Hn n L'⟩ Q) : AO P base ops (⟨d, .call { callee := .value (.func f), args := as.toArray, argTypes := ts }, t, pos, af, none⟩ :: rest) ⟨l, Hn n L⟩ Q := by
  refine AO.heavy rfl (HvK.callR hf hname hb (ha.h (Hn n L)) hg.h h).hv fun s1 h1 => ?_
  subst h1; subst hm
  have e1 : (Hn n L).length = n + k := by rw [Hn_len, pb.k]
  show AO P base ops rest (St.put ⟨l, Hn n L ++ [some (.row e sz 0 rows)]⟩ d (.own (Hn n L).length 0 0 rows.length)) Q
  rw [e1, Hn_push, pb.h, hd.h]
  exact kk
theorem AZ.callR {f : FuncId} {fn : Func} {as : List Operand} {ts : Array TypeId} {args : List AV} (hi : ops[i]? = some ⟨d, .call { callee := .value (.func f), args := as.toArray, argTypes := ts }, t, pos, af, none⟩) (hf : P.funcs[f]? = some fn) (hname : (fn.name == "runtime.NumGoroutine") = false) (hb : fn.body.isSome = true)
    [ha : ARG l as args] [hg : GA (Hn n L).length args] (h : A1 P f args e sz rows) (hm : rows.length = m) [pb : PB L (some (.row e sz 0 rows)) k L'] [hd : DL l d (.own (n + k) 0 0 m) l'] (kk : AZ P base ops ds rst ⟨l', Hn n L'⟩ Q) : AZ P base ops ds (.one i true rst) ⟨l, Hn n L⟩ Q := by
  refine AZ.heavy hi rfl (HvK.callR hf hname hb (ha.h (Hn n L)) hg.h h) fun s1 h1 => ?_
  subst h1; subst hm
  have e1 : (Hn n L).length = n + k := by rw [Hn_len, pb.k]
  show AZ P base ops ds rst (St.put ⟨l, Hn n L ++ [some (.row e sz 0 rows)]⟩ d (.own (Hn n L).length 0 0 rows.length)) Q
  rw [e1, Hn_push, pb.h, hd.h]
  exact kk
theorem AZi.callR {f : FuncId} {fn : Func} {as : List Operand} {ts : Array TypeId} {args : List AV} (hi : ops[i]? = some ⟨d, .call { callee := .value (.func f), args := as.toArray, argTypes := ts }, t, pos, af, none⟩) (hf : P.funcs[f]? = some fn) (hname : (fn.name == "runtime.NumGoroutine") = false) (hb : fn.body.isSome = true)
    [ha : ARG l as args] [hg : GA (Hn n L).length args] (h : A1 P f args e sz rows) (hm : rows.length = m) [pb : PB L (some (.row e sz 0 rows)) k L'] [hd : DL l d (.own (n + k) 0 0 m) l'] (kk : AZ P base ops ds rst ⟨l', Hn n L'⟩ Q) : AZi P base ops ds i rst ⟨l, Hn n L⟩ Q := by
  refine AZi.heavy hi rfl (HvK.callR hf hname hb (ha.h (Hn n L)) hg.h h) fun s1 h1 => ?_
  subst h1; subst hm
  have e1 : (Hn n L).length = n + k := by rw [Hn_len, pb.k]
  show AZ P base ops ds rst (St.put ⟨l, Hn n L ++ [some (.row e sz 0 rows)]⟩ d (.own (Hn n L).length 0 0 rows.length)) Q
  rw [e1, Hn_push, pb.h, hd.h]
  exact kk
instance rrCell {p : Tmp} {ty bt : TypeId} {rs : List ResultVar} {avs cs : List AV} [g : GL l p (.box (n + k) 0)] [gb : GB L k (.box bt cs)] [tg : TG P ty true sz] [ln : LN cs sz] [h : RR P l (Hn n L) rs avs] : RR P l (Hn n L) (.cell p ty :: rs) (.agg cs :: avs) :=
  ⟨.cell g.h (by show (Hn n L)[n + k]? = _; rw [Hn_get]; exact gb.h) tg.g (by rw [tg.s, ln.h]) h.h⟩
instance rrCell1 {p : Tmp} {ty bt : TypeId} {rs : List ResultVar} {avs : List AV} {av : AV} [g : GL l p (.box (n + k) 0)] [gb : GB L k (.box bt [av])] [tg : TG P ty false sz] [h : RR P l (Hn n L) rs avs] : RR P l (Hn n L) (.cell p ty :: rs) (av :: avs) :=
  ⟨.cell1 g.h (by show (Hn n L)[n + k]? = _; rw [Hn_get]; exact gb.h) tg.g h.h⟩
end
section
variable {c : Bool} {P : Program} {l : List AV} {H : List (Option AB)} {x y : Operand} {t t' : TypeId} {a b : ByteArray}
theorem Pu.catS {s : St} {xt yt : TypeId} (hx : ev s x = .v (.string a)) (hy : ev s y = .v (.string b)) (hab : a.size + b.size ≤ 9223372036854775807) : Pu P (.binOp .add xt x y yt) s (.v (.string (a ++ b))) :=
  Pu.bin hx hy fun w => by
    simp [eqGuard, binOp, Op.stringOp]
    omega
instance catStr [h : EC c l x (.v (.string a))] [h' : EC c l y (.v (.string b))] : OC c P (.binOp .add t x y t') l H (.v (.string (a ++ b))) (a.size + b.size ≤ 9223372036854775807) := ⟨fun hc hab => (Pu.catS (h.h hc H) (h'.h hc H) hab).lt⟩
end
instance {l : List Int} : NIr (bys l) := ⟨fun row hr av ha => by
  obtain ⟨x, _, rfl⟩ := List.mem_map.1 hr
  obtain rfl := List.mem_singleton.1 ha
  exact .v _⟩
section
variable {c : Bool} {P : Program} {l : List AV} {x : Operand} {t bt : TypeId} {n kk ep i sz sz' : Nat} {L : List (Option AB)} {li : List Int}
theorem bys_at {li : List Int} {i : Nat} (h : i < li.length) : (bys li)[i]? = some [.v (.int .u8 (li.getD i 0))] := by
  unfold bys
  rw [List.getElem?_map, List.getElem?_eq_getElem h, List.getD_eq_getElem?_getD, List.getElem?_eq_getElem h]; rfl
/-- A byte of a row of the call's own. -/
instance loadRowB [tg : TG P t false sz] [h : EC c l x (.optr (n + kk) ep i 0)] [hb : GB L kk (.row bt sz' ep (bys li))] : OC c P (.load t x) l (Hn n L) (.v (.int .u8 (li.getD i 0))) (i < li.length) := ⟨fun hc ob => Lt.loadO1 (sz := sz) rfl (h.h hc _) hb.h (bys_at ob) rfl⟩
end
section
variable {P : Program} {s : St} {c : Bool} {l : List AV} {H : List (Option AB)} {x y : Operand} {t t' : TypeId} {k : IntKind} {p q : Int}
theorem Pu.xor_ {xt yt : TypeId} (hx : ev s x = .v (.int k p)) (hy : ev s y = .v (.int k q)) : Pu P (.binOp .xor xt x y yt) s (.v (.int k (Go.bits .xor k p q))) :=
  Pu.bin hx hy fun w => by simp [eqGuard, binOp, Op.intBits, Go.bits]
instance [h : EC c l x (.v (.int k p))] [h' : EC c l y (.v (.int k q))] : PC c P (.binOp .xor t x y t') l H (.v (.int k (Go.bits .xor k p q))) := ⟨fun hc => Pu.xor_ (h.h hc H) (h'.h hc H)⟩
end

end Go.Proofs.Ytlapfdfbgckfcaa.AL
