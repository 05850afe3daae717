/- An intermediate logic over abstract blocks, further rules; no condition. -/
import Derived.Test.YtlapfdfbgckfcaaAlJ
namespace Go.Proofs.Ytlapfdfbgckfcaa.AL
open Go Go.RowKit
set_option linter.unusedVariables false
set_option linter.unusedSimpArgs false
/-! Function values: a function, and what it has captured. -/
section
variable {P : Program} {base : Cx} {s : St} {R : AV → Prop} {f : FuncId}
theorem HvK.callG {o : Oper} {args : List AV} (hrun : ∀ (σ : Nat → Value) (a : Act) (w : World), Rel base σ s a w → ∃ vs : List Value, (execOp a.eval o).run P w = .ok (.enter f ⟨vs⟩) w ∧ vs.length = args.length ∧ ∀ (j : Nat) (av : AV) (x : Value), args[j]? = some av → vs[j]? = some x → VR ⟨w, s.H, σ, base.F⟩ av x)
    (hg : ∀ av ∈ args, Gen s.H.length av) (h : A0 P f args R) : HvK P base o s (fun s' => ∃ r, R r ∧ s' = s.put o.dst r) := by
  intro σ a w hr Q K hk
  unfold Oper.wp
  obtain ⟨vs, hrun1, hlen, hvr⟩ := hrun σ a w hr
  rw [hrun1]
  let n := s.H.length
  let F' : Nat → Prop := Env.mine ⟨w, s.H, σ, base.F⟩
  have hbs : base.b ≤ w.heap.size := hr.1.bs
  have hF' : ∀ g, F' g → g < w.heap.size := by
    rintro g (⟨id, b, h1, h2⟩ | h1)
    · exact (blk_lt hr.1 h1 h2).2
    · exact hr.1.far g h1
  have hheap : Heap ⟨w.heap.size, F'⟩ ⟨w, List.replicate n none, σ, F'⟩ := by
    refine ⟨Nat.le_refl _, hF', fun g h => (ours_none g h).elim, fun id b h => (rep_none h).elim, fun id id' b b' g h1 h2 h3 h4 => (rep_none h1).elim⟩
  have hnone : ∀ id, n ≤ id → s.H[id]? = none := fun id h => List.getElem?_eq_none h
  have hrep : ∀ id, n ≤ id → (List.replicate n (none : Option AB))[id]? = none := fun id h => List.getElem?_eq_none (by simpa using h)
  refine (h n ⟨w.heap.size, F'⟩ σ w vs hheap hlen (fun j av x h1 h2 => ?_)).mono ?_
  · refine VR.move (E := ⟨w, s.H, σ, base.F⟩) (E' := ⟨w, List.replicate n none, σ, F'⟩) (n := n) rfl (fun g hm => ?_) (by show s.H.length ≤ (List.replicate n (none : Option AB)).length; simp [n]) (fun id hid => ?_) (fun _ _ => rfl) (hvr j av x h1 h2) (hg av (List.mem_of_getElem? h1))
    · rcases hm with hm | hm
      · exact (ours_none g hm).elim
      · exact hm
    · show (List.replicate n (none : Option AB))[id]? = s.H[id]?
      rw [hnone id hid, hrep id hid]
  rintro e w' ⟨x, r, H', σ', h1, h2, h3, h4, h5, h6⟩
  subst h1
  have hkeep : ∀ k, k < w.heap.size → w'.heap[k]? = w.heap[k]? := fun k hk => h3.keep k hk (ours_none k)
  have hsize : w.heap.size ≤ w'.heap.size := h3.size
  have hext : Ext ⟨w, s.H, σ, base.F⟩ ⟨w', s.H, σ, base.F⟩ :=
    ⟨h3.os, h3.tape, h3.output, hsize, rfl, fun k hk _ => hkeep k hk, fun k hk _ => hk, Nat.le_refl _, fun id e sz ep rows' h6 _ => ⟨ep, rows', h6, .inr ⟨rfl, rfl, rfl⟩⟩, fun id t cs' h6 _ => ⟨cs', h6, rfl, rfl⟩, fun id es' h6 _ => ⟨es', h6, rfl⟩⟩
  have hmine : ∀ g, Env.mine ⟨w', s.H, σ, base.F⟩ g → Env.mine ⟨w', H', σ', F'⟩ g := fun g hg => .inr hg
  have hheap2 : Heap base ⟨w', s.H, σ, base.F⟩ :=
    ⟨Nat.le_trans hbs hsize, fun g hf => Nat.lt_of_lt_of_le (hr.1.far g hf) hsize, hr.1.clear, fun id b h6 => (hr.1.live id b h6).keep hext rfl fun g hg => hkeep g (blk_lt hr.1 h6 hg).2, hr.1.apart⟩
  have hrel : Rel base σ s a w' := ⟨hheap2, hr.2.1.ext hext, hr.2.2⟩
  exact hk σ _ _ w' (hrel.put o.dst (VR.move0 (E := ⟨w', H', σ', F'⟩) (E' := ⟨w', s.H, σ, base.F⟩) rfl hmine h4 h5)) (by rw [put_H]; exact hext) ⟨hsize, hkeep⟩ ⟨r, h6, rfl⟩
theorem vr_append {E : Env} {avs bvs : List AV} {xs ys : List Value} (hl : xs.length = avs.length) (h : ∀ (j : Nat) (av : AV) (x : Value), avs[j]? = some av → xs[j]? = some x → VR E av x) (h' : ∀ (j : Nat) (av : AV) (x : Value), bvs[j]? = some av → ys[j]? = some x → VR E av x) :
    ∀ (j : Nat) (av : AV) (x : Value), (avs ++ bvs)[j]? = some av → (xs ++ ys)[j]? = some x → VR E av x := by
  intro j av x h1 h2
  by_cases hj : j < avs.length
  · rw [List.getElem?_append_left hj] at h1
    rw [List.getElem?_append_left (by omega)] at h2
    exact h j av x h1 h2
  · rw [List.getElem?_append_right (by omega)] at h1 h2
    rw [hl] at h2
    exact h' _ av x h1 h2
/-- A call of a function value. -/
theorem HvK.callF {d : Option Tmp} {fn : Func} {g : Operand} {as : List Operand} {ts : Array TypeId} {ty : TypeId} {pos : String} {af : Array Edge} {gd : Option (Nat × Bool)} {args cs : List AV} (hf : P.funcs[f]? = some fn) (hname : (fn.name == "runtime.NumGoroutine") = false) (hb : fn.body.isSome = true)
    (hg0 : ev s g = .fn f cs) (ha : as.map (ev s) = args) (hg : ∀ av ∈ args ++ cs, Gen s.H.length av) (h : A0 P f (args ++ cs) R) :
    HvK P base ⟨d, .call { callee := .value g, args := as.toArray, argTypes := ts }, ty, pos, af, gd⟩ s (fun s' => ∃ r, R r ∧ s' = s.put d r) := by
  refine HvK.callG (o := ⟨d, .call { callee := .value g, args := as.toArray, argTypes := ts }, ty, pos, af, gd⟩) (args := args ++ cs) (fun σ a w hr => ?_) hg h
  have h1 := ev_ok hr g
  rw [hg0] at h1
  generalize hq : a.eval g = q at h1
  cases h1 with
  | @fn f cs us hl hu =>
    refine ⟨as.map a.eval ++ us, ?_, ?_, ?_⟩
    · have he := run_callFunc hf hname hb (⟨as.map a.eval⟩ ++ ⟨us⟩) w
      unfold execOp
      simp [resolve, Deferred.ofValue, invoke, hq, he]
      simpa using he
    · subst ha; simp [hl]
    · subst ha
      exact vr_append (by simp) (fun j av x h1 h2 => args_ok hr as j av x h1 h2) hu
theorem Pu.makeFunc {as : List Operand} {cs : List AV} (ha : as.map (ev s) = cs) : Pu P (.makeFunc (.func f) #[] as.toArray) s (.fn f cs) := fun d t pos af g base σ a w hr => by
  refine ⟨.func (.func f) #[] ⟨as.map a.eval⟩, ?_, fun w' => ?_⟩
  · subst ha
    exact .fn (by simp) (fun j av x h1 h2 => args_ok hr as j av x h1 h2)
  · simp [execOp, Instr.makeFunc]
theorem own_eptr {σ : Nat → Value} {w : World} {H : List (Option AB)} (hh : Heap base ⟨w, H, σ, base.F⟩) {id off : Nat} {bt : TypeId} {cs : List AV} (hH : H[id]? = some (some (.box bt cs))) {x : Value} (hx : VR ⟨w, H, σ, base.F⟩ (.box id 0) x) :
    VR ⟨w, H.set id none, σ, base.F⟩ (.eptr cs) x := by
  have hf := Ext.forget (base := base) (w := w) (H := H) (H' := H.set id none) (σ := σ) (by simp) (fun i b h => (set_none h).1)
  obtain ⟨g, us, h1, h2, h3, h4⟩ := hh.live id _ hH
  have h1 : σ id = .pointer (some ⟨g, 0, none⟩) := h1
  have h3 : w.heap[g]? = some (.cells ⟨us⟩ bt (0, 0)) := h3
  cases hx with
  | box h hs =>
    obtain ⟨a, q1, rfl⟩ := h.2 _ _ hH
    have q1 : σ id = .pointer (some a) := q1
    rw [h1] at q1
    obtain rfl : (⟨g, 0, none⟩ : Addr) = a := by simpa using q1
    have hadd : (⟨g, 0, none⟩ : Addr).add 0 = ⟨g, 0, none⟩ := by simp [Addr.add]
    rw [hadd]
    have hour : Env.ours ⟨w, H, σ, base.F⟩ g := ⟨id, _, hH, by show blkOf (σ id) = _; rw [h1]; rfl⟩
    have hlt : g < w.heap.size := (Array.getElem?_eq_some_iff.1 h3).1
    refine .eptr (fun j => us.getD j undef) (fun hm => ?_) hlt (fun j av hj => ?_) (fun j av hj => ?_)
    · rcases hm with ⟨i, b, q2, q3⟩ | q2
      · obtain ⟨q4, q5⟩ := set_none q2
        exact q5 (hh.apart i id b _ g q4 hH q3 (by show blkOf (σ id) = _; rw [h1]; rfl))
      · exact hh.clear g hour q2
    · have hjl : j < us.length := by rw [h4.1]; exact (List.getElem?_eq_some_iff.1 hj).1
      have hu : us[j]? = some (us.getD j undef) := by simp [hjl]
      refine ⟨?_, h4.2.1 _ (List.mem_of_getElem? hu)⟩
      rw [add_plain, Nat.zero_add]
      unfold World.cell?
      simp only [h3]
      simpa using hu
    · have hjl : j < us.length := by rw [h4.1]; exact (List.getElem?_eq_some_iff.1 hj).1
      have hu : us[j]? = some (us.getD j undef) := by simp [hjl]
      exact (h4.2.2 j av _ hj hu).ext hf
theorem Gh.freezeP {l l' : List AV} {n k : Nat} {L L' : List (Option AB)} (t : Tmp) {bt : TypeId} {cs : List AV} [g : GL l t (.box (n + k) 0)] [gb : GB L k (.box bt cs)] [sb : SB L k none L'] [sl : SL l t (.eptr cs) l'] : Gh base ⟨l, Hn n L⟩ ⟨l', Hn n L'⟩ := fun σ a w hr => by
  have hH : (Hn n L)[n + k]? = some (some (.box bt cs)) := by rw [Hn_get]; exact gb.h
  have hset : (Hn n L).set (n + k) none = Hn n L' := by rw [Hn_set, sb.h]
  have he := Ext.forget (base := base) (w := w) (H := Hn n L) (H' := (Hn n L).set (n + k) none) (σ := σ) (by simp) (fun i b h => (set_none h).1)
  have hf := hr.1.forget (H' := (Hn n L).set (n + k) none) (by simp) (fun i b h => (set_none h).1)
  refine ⟨σ, ⟨?_, ⟨?_, fun i av hi => ?_⟩, hr.2.2⟩, ?_⟩
  · show Heap base ⟨w, Hn n L', σ, base.F⟩
    rw [← hset]; exact hf
  · show l'.length = _
    rw [← sl.h]; simpa using hr.2.1.1
  · have hi : l'[i]? = some av := hi
    rw [← sl.h] at hi
    show ∃ x, a.tmps[i]? = some x ∧ VR ⟨w, Hn n L', σ, base.F⟩ av x
    rw [← hset]
    by_cases hti : t = i
    · subst hti
      rw [List.getElem?_set_self (List.getElem?_eq_some_iff.1 g.h).1] at hi
      obtain rfl := Option.some.inj hi
      obtain ⟨x, h1, h2⟩ := hr.2.1.2 t _ g.h
      exact ⟨x, h1, own_eptr (off := 0) hr.1 hH h2⟩
    · rw [List.getElem?_set_ne hti] at hi
      obtain ⟨x, h1, h2⟩ := hr.2.1.2 i av hi
      exact ⟨x, h1, h2.ext he⟩
  · rw [← hset]; exact he
end
section
variable {P : Program} {base : Cx} {l l' : List AV} {H : List (Option AB)} {Q : Exit → St → Prop} {ops : Array Oper} {rest : List Oper} {d : Option Tmp} {t : TypeId} {pos : String} {af : Array Edge} {av : AV} {f : FuncId} {c : Bool} {ds : List Nat} {rst : OT} {i : Nat}
instance {as : List Operand} {cs : List AV} [h : ARGc c l as cs] : PC c P (.makeFunc (.func f) #[] as.toArray) l H (.fn f cs) := ⟨fun hc => Pu.makeFunc (h.h hc H)⟩
instance {n : Nat} {cs : List AV} [h : GA n cs] : G1 n (.fn f cs) := ⟨.fn fun _ av hj => h.h av (List.mem_of_getElem? hj)⟩
theorem NoId.fn {cs : List AV} (h : ∀ av ∈ cs, NoId av) : NoId (.fn f cs) := fun n => .fn fun _ av hj => h av (List.mem_of_getElem? hj) n
instance {cs : List AV} [h : NIs cs] : NI (.fn f cs) := ⟨.fn h.h⟩
theorem ga_append {n : Nat} {a b : List AV} (h : ∀ av ∈ a, Gen n av) (h' : ∀ av ∈ b, Gen n av) : ∀ av ∈ a ++ b, Gen n av := fun av hm => (List.mem_append.1 hm).elim (h av) (h' av)
/-- A call of a function value. The contract is of its function, what it has captured behind the arguments. -/
theorem AO.callF {fn : Func} {g : Operand} {as : List Operand} {ts : Array TypeId} {args cs args' : List AV} [eg : EC true l g (.fn f cs)] [ha : ARG l as args] [hga : GA H.length args] (hgc : ∀ n, ∀ av ∈ cs, Gen n av) (hf : P.funcs[f]? = some fn) (hname : (fn.name == "runtime.NumGoroutine") = false) (hb : fn.body.isSome = true)
    (h : A0 P f args' (fun r => r = av)) (he : args ++ cs = args') [hd : DL l d av l'] (k : AO P base ops rest ⟨l', H⟩ Q) : AO P base ops (⟨d, .call { callee := .value g, args := as.toArray, argTypes := ts }, t, pos, af, none⟩ :: rest) ⟨l, H⟩ Q := by
  subst he
  refine AO.heavy rfl (HvK.callF (s := ⟨l, H⟩) hf hname hb (eg.h rfl H) (ha.h H) (ga_append hga.h (hgc _)) h).hv fun s1 ⟨r, h1, h2⟩ => ?_
  subst h1; subst h2; rw [hd.h]; exact k
theorem AZ.callF {fn : Func} {g : Operand} {as : List Operand} {ts : Array TypeId} {args cs args' : List AV} (hi : ops[i]? = some ⟨d, .call { callee := .value g, args := as.toArray, argTypes := ts }, t, pos, af, none⟩) [eg : EC true l g (.fn f cs)] [ha : ARG l as args] [hga : GA H.length args] (hgc : ∀ n, ∀ av ∈ cs, Gen n av) (hf : P.funcs[f]? = some fn) (hname : (fn.name == "runtime.NumGoroutine") = false) (hb : fn.body.isSome = true)
    (h : A0 P f args' (fun r => r = av)) (he : args ++ cs = args') [hd : DL l d av l'] (k : AZ P base ops ds rst ⟨l', H⟩ Q) : AZ P base ops ds (.one i true rst) ⟨l, H⟩ Q := by
  subst he
  refine AZ.heavy hi rfl (HvK.callF (s := ⟨l, H⟩) hf hname hb (eg.h rfl H) (ha.h H) (ga_append hga.h (hgc _)) h) fun s1 ⟨r, h1, h2⟩ => ?_
  subst h1; subst h2; rw [hd.h]; exact k
end
/-- Other words for arguments. -/
theorem A0.args {P : Program} {f : FuncId} {args args' : List AV} {R : AV → Prop} (h : A0 P f args R) (hl : args'.length = args.length) (ht : ∀ (E : Env) (j : Nat) (av av' : AV) (x : Value), args'[j]? = some av' → args[j]? = some av → VR E av' x → VR E av x) : A0 P f args' R := by
  intro n base σ w vs h1 h2 h3
  refine h n base σ w vs h1 (by omega) fun j av x h4 h5 => ?_
  have hj : j < args'.length := by rw [hl]; exact (List.getElem?_eq_some_iff.1 h4).1
  exact ht _ j av args'[j] x (List.getElem?_eq_getElem hj) h4 (h3 j _ x (List.getElem?_eq_getElem hj) h5)
theorem vr_fn0 {E : Env} {f : FuncId} {x : Value} (h : VR E (.v (.func (.func f) #[] #[])) x) : VR E (.fn f []) x := by
  cases h
  exact .fn (us := []) rfl (fun j av x h => by simp at h)
/-! Rows of bools and of numbers, at a number's place. -/
@[reducible] def iA (n : Int) : List AV := [.v (.int .i64 n)]
@[reducible] def bA (b : Bool) : List AV := [.v (.bool b)]
/-- A row's only cell. -/
class F1 {α : Type} (f : α → List AV) (g : outParam (α → AV)) : Prop where
  h : ∀ x, f x = [g x]
instance {α : Type} {g : α → AV} : F1 (fun x => [g x]) g := ⟨fun _ => rfl⟩
instance : F1 bA (fun b => .v (.bool b)) := ⟨fun _ => rfl⟩
instance : F1 iA (fun n => .v (.int .i64 n)) := ⟨fun _ => rfl⟩
/-- Of which element a value is. -/
class INV {α : Type} (f : α → List AV) (av : AV) (x : outParam α) : Prop where
  h : f x = [av]
instance {b : Bool} : INV bA (.v (.bool b)) b := ⟨rfl⟩
instance {n : Int} : INV iA (.v (.int .i64 n)) n := ⟨rfl⟩
section
variable {P : Program} {c : Bool} {l : List AV} {x y : Operand} {av : AV} {t e bt : TypeId} {n k kk m ep i sz : Nat} {L L' : List (Option AB)} {α : Type} {f : α → List AV} {g : α → AV} {li : List α} {v : α}
theorem f1_at [Inhabited α] [fg : F1 f g] {i : Nat} (h : i < li.length) : (li.map f)[i]? = some [g (li.getD i default)] := by
  rw [List.getElem?_map, List.getElem?_eq_getElem h, List.getD_eq_getElem?_getD, List.getElem?_eq_getElem h]
  simp [fg.h]
instance loadRowM [Inhabited α] [tg : TG P t false sz] [h : EC c l x (.optr (n + kk) ep i 0)] {sz' : Nat} [hb : GB L kk (.row bt sz' ep (li.map f))] [fg : F1 f g] : OC c P (.load t x) l (Hn n L) (g (li.getD i default)) (i < li.length) := ⟨fun hc ob => Lt.loadO1 (sz := sz) rfl (h.h hc _) hb.h (f1_at ob) rfl⟩
theorem map_set1 {av : AV} {v : α} [fi : INV f av v] {i : Nat} (hi : i < li.length) (h1 : ∀ x, (f x).length = 1) : (li.map f).set i (layAt ((li.map f).getD i []) 0 [av]) = (li.set i v).map f := by
  have e1 : (li.map f).getD i [] = f li[i] := by simp [hi]
  have h2 := h1 li[i]
  have : layAt (f li[i]) 0 [av] = f v := by
    rw [fi.h]; unfold layAt
    simp [List.drop_of_length_le (Nat.le_of_eq h2)]
  rw [e1, this, List.map_set]
instance (priority := high) storeRowM {gg : Bool} [tg : TG P t gg 1] [h : EC true l x (.optr (n + k) ep i 0)] [gb : GB L k (.row bt 1 ep (li.map f))] [h' : EC true l y av] [fg : F1 f g] [fi : INV f av v] [hv : PVc av [av]] [sb : SB L k (some (.row bt 1 ep ((li.set i v).map f))) L'] : HS P (.store t x y) l (Hn n L) (Hn n L') (i < li.length) := ⟨fun ho base ty pos af g' => by
  have hi : (li.map f)[i]? = some ((li.map f).getD i []) := by simp [ho]
  have hL := sb.h
  rw [← map_set1 (f := f) (av := av) ho (fun x => by rw [fg.h]; rfl)] at hL
  have h1 : ((li.map f).getD i []).length = 1 := by
    have : (li.map f).getD i [] = f li[i] := by simp [ho]
    rw [this, fg.h]; rfl
  exact Hv.storeRN (s := ⟨l, Hn n L⟩) (gg := gg) (ps := [av]) rfl (h.h rfl _) gb.h hi (by rw [h'.h rfl]; exact hv.h) rfl (by simp) hL⟩
theorem rep_bools (p : Nat) : (List.replicate p false).map bA = List.replicate p [AV.v (.bool false)] := by simp
theorem rep_ints (p : Nat) : (List.replicate p 0).map iA = List.replicate p [AV.v (.int .i64 0)] := by simp
instance (priority := high) mkBools {kl kc : IntKind} {p q : Int} [tu : TU P t (.slice e)] [ti : TI P e (.bool false) 1 1] [h : EC true l x (.v (.int kl p))] [h' : EC true l y (.v (.int kc q))] [pb : PB L (some (.row e 1 0 ((List.replicate p.toNat false).map bA))) k L'] : HM P (.makeSlice t x y) l (Hn n L) (.own (n + k) 0 0 p.toNat) (Hn n L') (0 ≤ p ∧ p ≤ q ∧ q ≤ 281474976710656) := ⟨fun ho base d ty pos af g => by
  have hL := pb.h
  rw [rep_bools] at hL
  exact HvK.makeN (s := ⟨l, Hn n L⟩) (t := t) (e := e) (m := p.toNat) (cap := q.toNat) (z := .bool false) (sz := 1) (bytes := 1) rfl pb.k rfl (by rw [h.h rfl, Int.toNat_of_nonneg ho.1]) (by rw [h'.h rfl, Int.toNat_of_nonneg (by omega)]) (by omega) (by omega) (by omega) hL⟩
instance (priority := high) mkInts {kl kc : IntKind} {p q : Int} [tu : TU P t (.slice e)] [ti : TI P e (.int .i64 0) 1 8] [h : EC true l x (.v (.int kl p))] [h' : EC true l y (.v (.int kc q))] [pb : PB L (some (.row e 1 0 ((List.replicate p.toNat 0).map iA))) k L'] : HM P (.makeSlice t x y) l (Hn n L) (.own (n + k) 0 0 p.toNat) (Hn n L') (0 ≤ p ∧ p ≤ q ∧ q ≤ 17592186044416) := ⟨fun ho base d ty pos af g => by
  have hL := pb.h
  rw [rep_ints] at hL
  exact HvK.makeN (s := ⟨l, Hn n L⟩) (t := t) (e := e) (m := p.toNat) (cap := q.toNat) (z := .int .i64 0) (sz := 1) (bytes := 8) rfl pb.k rfl (by rw [h.h rfl, Int.toNat_of_nonneg ho.1]) (by rw [h'.h rfl, Int.toNat_of_nonneg (by omega)]) (by omega) (by omega) (by omega) hL⟩
end
theorem A0.tells {P : Program} {f : FuncId} {args args' : List AV} {R : AV → Prop} [t : TELLs args' args] (h : A0 P f args R) : A0 P f args' R :=
  h.args t.h.1 fun E j av av' x h1 h2 hx => t.h.2 E j av' av x h1 h2 hx
@[reducible] def sA (s : ByteArray) : List AV := [.v (.string s)]
instance : F1 sA (fun s => .v (.string s)) := ⟨fun _ => rfl⟩
instance {s : ByteArray} : INV sA (.v (.string s)) s := ⟨rfl⟩
/-- Where the first one is. -/
def idxF {α : Type} (q : α → Bool) (l : List α) : Int := match l.findIdx? q with
  | some i => i
  | none => -1
theorem idxF_ge {α : Type} (q : α → Bool) (l : List α) : decide (idxF q l ≥ 0) = l.any q := by
  unfold idxF
  cases h : l.findIdx? q with
  | none =>
    rw [List.findIdx?_eq_none_iff] at h
    have : l.any q = false := by
      rw [List.any_eq_false]
      intro x hx
      have := h x hx
      simp [this]
    rw [this]; rfl
  | some i =>
    have h1 := List.findIdx?_eq_some_iff_getElem.1 h
    obtain ⟨h2, h3, _⟩ := h1
    have : l.any q = true := List.any_eq_true.2 ⟨_, List.getElem_mem h2, h3⟩
    rw [this]; simp
theorem idxF_at {α : Type} [Inhabited α] {q : α → Bool} {l : List α} {i : Nat} (hi : i < l.length) (h : ∀ j, j < i → q (l.getD j default) = false) (hq : q (l.getD i default) = true) : idxF q l = i := by
  unfold idxF
  have : l.findIdx? q = some i := by
    rw [List.findIdx?_eq_some_iff_getElem]
    refine ⟨hi, by simpa [hi] using hq, fun j hj => ?_⟩
    have := h j hj
    simp only [List.getD_eq_getElem?_getD, List.getElem?_eq_getElem (show j < l.length by omega), Option.getD_some] at this
    simp [this]
  rw [this]
theorem idxF_none {α : Type} [Inhabited α] {q : α → Bool} {l : List α} (h : ∀ j, j < l.length → q (l.getD j default) = false) : idxF q l = -1 := by
  unfold idxF
  have : l.findIdx? q = none := by
    rw [List.findIdx?_eq_none_iff]
    intro x hx
    obtain ⟨j, hj, rfl⟩ := List.getElem_of_mem hx
    have := h j hj
    simpa [hj] using this
  rw [this]
theorem getD_in {α : Type} [Inhabited α] {l : List α} {i : Nat} (h : i < l.length) : l.getD i default ∈ l := by
  have : l.getD i default = l[i] := by simp [h]
  rw [this]; exact List.getElem_mem h

end Go.Proofs.Ytlapfdfbgckfcaa.AL
