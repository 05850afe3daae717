/- An intermediate logic over abstract blocks, further rules; no condition. -/
import Derived.Test.YtlapfdfbgckfcaaAlD
namespace Go.Proofs.Ytlapfdfbgckfcaa.AL
open Go Go.RowKit
set_option linter.unusedVariables false
set_option linter.unusedSimpArgs false
/-! Operations that may wrap, blocks that loops leave behind. -/
section
/-- A value that wraps. -/
class PW (c : Bool) (P : Program) (o : Op) (l : List AV) (H : List (Option AB)) (av : outParam AV) : Prop where
  h : c = true → Lt P o ⟨l, H⟩ av
variable {c : Bool} {P : Program} {l : List AV} {H : List (Option AB)} {x y z : Operand} {k k' : IntKind} {p q : Int} {t t' : TypeId}
instance [h : EC c l x (.v (.int k p))] [h' : EC c l y (.v (.int k q))] : PW c P (.binOp .add t x y t') l H (.v (.int k (k.wrap (p + q)))) := ⟨fun hc => (Pu.addW (h.h hc H) (h'.h hc H)).lt⟩
instance [h : EC c l x (.v (.int k p))] [h' : EC c l y (.v (.int k q))] : PW c P (.binOp .sub t x y t') l H (.v (.int k (k.wrap (p - q)))) := ⟨fun hc => (Pu.subW (h.h hc H) (h'.h hc H)).lt⟩
instance [h : EC c l x (.v (.int k p))] [h' : EC c l y (.v (.int k q))] : PW c P (.binOp .mul t x y t') l H (.v (.int k (k.wrap (p * q)))) := ⟨fun hc => (Pu.mulW (h.h hc H) (h'.h hc H)).lt⟩
instance {d : TypeDesc} [hd : TU P t' (.int k')] [hs : TU P t d] [h : EC c l x (.v (.int k p))] : PW c P (.convert t t' x) l H (.v (.int k' (k'.wrap p))) := ⟨fun hc => convW hc⟩
variable {b : ByteArray} {cc : UInt8}
/-- A byte of a string. -/
instance [tu : TU P t .string] [h : EC c l x (.v (.string b))] [h' : EC c l y (.v (.int k p))] : OC c P (.index t x y) l H (.v (.int .u8 ((b.data.toList.getD p.toNat 0).toNat : Nat))) (0 ≤ p ∧ p < b.size) := ⟨fun hc ⟨h0, h1⟩ => by
  have hlt : p.toNat < b.size := by omega
  have hg : b[p.toNat]? = some (b.data.toList.getD p.toNat 0) := by
    have : b[p.toNat]? = b.data[p.toNat]? := rfl
    have hl2 : p.toNat < b.data.size := hlt
    rw [this, Array.getElem?_eq_getElem hl2]
    simp only [List.getD_eq_getElem?_getD, Array.getElem?_toList, Array.getElem?_eq_getElem hl2, Option.getD_some]
  exact (Pu.index_str tu.h (h.h hc H) (h'.h hc H) h0 hg).lt⟩
end
section
variable {P : Program} {base : Cx} {l l' : List AV} {H H' : List (Option AB)} {Q : Exit → St → Prop} {os : List Oper} {ops : Array Oper} {rest : List Oper} {d : Option Tmp} {op : Op} {t : TypeId} {pos : String} {af : Array Edge} {av : AV} {ob : Prop} {j u : Nat} {b c want : Bool}
theorem AO.pw [hp : PW true P op l H av] [hd : DL l d av l'] (k : AO P base ops rest ⟨l', H⟩ Q) : AO P base ops (⟨d, op, t, pos, af, none⟩ :: rest) ⟨l, H⟩ Q := AO.light (hp.h rfl) (by rw [hd.h]; exact k)
theorem AO.gxpw [ho : DO os j u] [gx : GX l u want c] [hp : PW c P op l H av] [hd : DL l d (cv c av) l'] (k : AO P base os.toArray rest ⟨l', H⟩ Q) : AO P base os.toArray (⟨d, op, t, pos, af, some (j, want)⟩ :: rest) ⟨l, H⟩ Q := by
  haveI : LC c P op l H av := ⟨hp.h⟩
  exact AO.gx k
variable {ds : List Nat} {nf : Nat} {fl : Array Bool}
theorem AY.pw (i : Nat) (hi : ops[i]? = some ⟨d, op, t, pos, af, none⟩) (hc : takeR ops ds fl (fl.setIfInBounds i true) i = true) [hp : PW true P op l H av] [hd : DL l d av l'] (k : AY P base ops ds nf (fl.setIfInBounds i true) ⟨l', H⟩ Q) : AY P base ops ds (nf + 1) fl ⟨l, H⟩ Q := by
  haveI : LC true P op l H av := ⟨hp.h⟩
  exact AY.c i hi hc k
theorem AY.gxpw (i : Nat) (hi : os.toArray[i]? = some ⟨d, op, t, pos, af, some (j, want)⟩) (hc : takeR os.toArray ds fl (fl.setIfInBounds i true) i = true) [ho : DO os j u] [gx : GX l u want c] [hp : PW c P op l H av] [hd : DL l d (cv c av) l'] (k : AY P base os.toArray ds nf (fl.setIfInBounds i true) ⟨l', H⟩ Q) : AY P base os.toArray ds (nf + 1) fl ⟨l, H⟩ Q := by
  haveI : LC c P op l H av := ⟨hp.h⟩
  exact AY.gx i hi hc k
end
/-! Blocks behind others that are forgotten. -/
def zadd (z k : Nat) : Nat := z + k
class LEN (L : List (Option AB)) (z : outParam Nat) : Prop where
  h : L.length = z
instance : LEN [] 0 := ⟨rfl⟩
instance {a : Option AB} {L : List (Option AB)} {n : Nat} [h : LEN L n] : LEN (a :: L) (n + 1) := ⟨by simp [h.h]⟩
instance {j : Nat} {b : Option AB} : LEN (List.replicate j b) j := ⟨by simp⟩
instance {A B : List (Option AB)} {a b : Nat} [h : LEN A a] [h' : LEN B b] : LEN (A ++ B) (zadd a b) := ⟨by simp [h.h, h'.h, zadd]⟩
instance gbBehind {Y M : List (Option AB)} {z k : Nat} {b : AB} [h : LEN Y z] [g : GB M k b] : GB (Y ++ M) (zadd z k) b := ⟨by
  rw [List.getElem?_append_right (by rw [h.h]; unfold zadd; omega), h.h]
  have : zadd z k - z = k := by unfold zadd; omega
  rw [this]; exact g.h⟩
instance (priority := low) gbAhead {Y M : List (Option AB)} {k : Nat} {b : AB} [g : GB Y k b] : GB (Y ++ M) k b := ⟨by
  have := g.h
  rw [List.getElem?_append_left (List.getElem?_eq_some_iff.1 this).1]; exact this⟩
instance sbBehind {Y M M' : List (Option AB)} {z k : Nat} {b : Option AB} [h : LEN Y z] [g : SB M k b M'] : SB (Y ++ M) (zadd z k) b (Y ++ M') := ⟨by
  rw [List.set_append_right _ _ (by rw [h.h]; unfold zadd; omega), h.h]
  have : zadd z k - z = k := by unfold zadd; omega
  rw [this, g.h]⟩
class SBL (L : List (Option AB)) (k : Nat) (b : Option AB) (L' : outParam (List (Option AB))) : Prop where
  h : L.set k b = L'
  lt : k < L.length
instance {a b : Option AB} {l : List (Option AB)} : SBL (a :: l) 0 b (b :: l) := ⟨rfl, by simp⟩
instance {a b : Option AB} {l l' : List (Option AB)} {n : Nat} [h : SBL l n b l'] : SBL (a :: l) (n + 1) b (a :: l') := ⟨by simp [h.h], by have := h.lt; simp; omega⟩
instance sblBehind {Y M M' : List (Option AB)} {z k : Nat} {b : Option AB} [h : LEN Y z] [g : SBL M k b M'] : SBL (Y ++ M) (zadd z k) b (Y ++ M') := ⟨by
  rw [List.set_append_right _ _ (by rw [h.h]; unfold zadd; omega), h.h]
  have : zadd z k - z = k := by unfold zadd; omega
  rw [this, g.h], by have := g.lt; rw [List.length_append, h.h]; unfold zadd; omega⟩
instance (priority := low) sblAhead {Y Y' M : List (Option AB)} {k : Nat} {b : Option AB} [g : SBL Y k b Y'] : SBL (Y ++ M) k b (Y' ++ M) := ⟨by rw [List.set_append_left _ _ g.lt, g.h], by have := g.lt; rw [List.length_append]; omega⟩
instance (priority := low) sbAhead {Y Y' M : List (Option AB)} {k : Nat} {b : Option AB} [g : SBL Y k b Y'] : SB (Y ++ M) k b (Y' ++ M) := ⟨by rw [List.set_append_left _ _ g.lt, g.h]⟩
instance pbBehind {Y M M' : List (Option AB)} {z k : Nat} {b : Option AB} [h : LEN Y z] [g : PB M b k M'] : PB (Y ++ M) b (zadd z k) (Y ++ M') := ⟨by rw [List.append_assoc, g.h], by rw [List.length_append, h.h, g.k]; rfl⟩
/-- The list is this one, and more. -/
class ASC (X Y : List (Option AB)) (T : outParam (List (Option AB))) : Prop where
  h : X = Y ++ T
instance (priority := high) ascSelf {Y T : List (Option AB)} : ASC (Y ++ T) Y T := ⟨rfl⟩
instance ascMore {A B Y T : List (Option AB)} [h : ASC A Y T] : ASC (A ++ B) Y (T ++ B) := ⟨by rw [h.h, List.append_assoc]⟩
theorem Gh.dead {base : Cx} {l : List AV} {n j : Nat} {L T : List (Option AB)} : Gh base ⟨l, Hn n ((L ++ List.replicate j none) ++ T)⟩ ⟨l, Hn n ((L ++ List.replicate (j + T.length) none) ++ [])⟩ := fun σ a w hr => by
  have hl : (Hn n ((L ++ List.replicate (j + T.length) none) ++ [])).length = (Hn n ((L ++ List.replicate j none) ++ T)).length := by simp [Hn, Nat.add_assoc]
  have hf : ∀ (i : Nat) (b : AB), (Hn n ((L ++ List.replicate (j + T.length) none) ++ []))[i]? = some (some b) → (Hn n ((L ++ List.replicate j none) ++ T))[i]? = some (some b) := by
    intro i b h
    unfold Hn at h ⊢
    by_cases hi : i < n
    · rw [List.getElem?_append_left (by simpa using hi)] at h ⊢; exact h
    · rw [List.getElem?_append_right (by simp; omega)] at h ⊢
      simp only [List.length_replicate, List.append_nil] at h ⊢
      by_cases hk : i - n < L.length
      · rw [List.getElem?_append_left hk] at h
        rw [List.append_assoc, List.getElem?_append_left hk]; exact h
      · rw [List.getElem?_append_right (by omega), List.getElem?_replicate] at h
        split at h <;> cases h
  exact ⟨σ, ⟨hr.1.forget hl hf, ⟨hr.2.1.1, fun i av hi => by
    obtain ⟨x, h1, h2⟩ := hr.2.1.2 i av hi
    exact ⟨x, h1, h2.ext (Ext.forget hl hf)⟩⟩, hr.2.2⟩, Ext.forget hl hf⟩
section
variable {P : Program} {base : Cx} {Q : Exit → St → Prop} {l lm : List AV} {α : Type}
theorem AW.backD (m : List KP) [mk : MK l m lm] {l1 : α → List AV} {H1 : α → List (Option AB)} {I : Nat → α → Prop} {n nn : Nat} {X T : List (Option AB)} (L : List (Option AB)) (j : Nat) [as : ASC X (L ++ List.replicate j none) T] (n' : Nat) (x' : α) (hn : n' < n) (hI : I n' x') (hl : lm = l1 x') (hH : Hn nn ((L ++ List.replicate (j + T.length) none) ++ []) = H1 x') :
    ∃ s2, Gh base ⟨l, Hn nn X⟩ s2 ∧ LU l1 H1 I n Q .normal s2 := by
  refine ⟨⟨lm, Hn nn ((L ++ List.replicate (j + T.length) none) ++ [])⟩, ?_, n', x', hn, hI, by rw [hl, hH]⟩
  have := as.h
  subst this
  exact (Gh.weaken mk.len mk.h).trans Gh.dead
theorem AW.backJD (m : List KP) [mk : MK l m lm] {l1 : α → List AV} {H1 : α → List (Option AB)} {J : α → Prop} {nn : Nat} {X T : List (Option AB)} (L : List (Option AB)) (j : Nat) [as : ASC X (L ++ List.replicate j none) T] (x' : α) (hJ : J x') (hl : lm = l1 x') (hH : Hn nn ((L ++ List.replicate (j + T.length) none) ++ []) = H1 x') :
    ∃ s2, Gh base ⟨l, Hn nn X⟩ s2 ∧ JQ P base l1 H1 J Q .normal s2 := by
  refine ⟨⟨lm, Hn nn ((L ++ List.replicate (j + T.length) none) ++ [])⟩, ?_, x', hJ, by rw [hl, hH]⟩
  have := as.h
  subst this
  exact (Gh.weaken mk.len mk.h).trans Gh.dead
end


section
variable {c : Bool} {P : Program} {l : List AV} {H : List (Option AB)} {x y z : Operand} {k k' : IntKind} {p q : Int} {t t' e : TypeId} {g : Bool} {sz : Nat} {α : Type}
instance (priority := 20000) idxBysN [ht : TU P t (.slice e)] [hg : TG P e g 1] {li : List Int} {i : Nat} [h : EC c l x (.rd 1 (bys li))] [h' : EC c l y (.v (.int k ((i : Nat) : Int)))] : OC c P (.indexAddr t x y) l H (.eptr [.v (.int .u8 (li.getD i 0))]) (i < li.length) := ⟨fun hc hlt => by
  refine (Pu.index_rd ht.h hg.s (h.h hc H) (h'.h hc H) (by omega) ?_).lt
  have := bys_get (li := li) (p := (i : Int)) (by omega) (by omega)
  rw [Int.toNat_natCast] at this ⊢; exact this⟩
instance (priority := 20000) idxMapN [ia : Inhabited α] {li : List α} {f : α → List AV} {i : Nat} [ht : TU P t (.slice e)] [hg : TG P e g sz] [h : EC c l x (.rd sz (li.map f))] [h' : EC c l y (.v (.int k ((i : Nat) : Int)))] : OC c P (.indexAddr t x y) l H (.eptr (f (li.getD i default))) (i < li.length) := ⟨fun hc hlt => by
  refine (Pu.index_rd ht.h hg.s (h.h hc H) (h'.h hc H) (by omega) ?_).lt
  rw [Int.toNat_natCast, List.getElem?_map, List.getElem?_eq_getElem hlt]
  simp [hlt]⟩
/-- An element of a list of data. -/
instance (priority := high) idxMap [ia : Inhabited α] {li : List α} {f : α → List AV} [ht : TU P t (.slice e)] [hg : TG P e g sz] [h : EC c l x (.rd sz (li.map f))] [h' : EC c l y (.v (.int k p))] : OC c P (.indexAddr t x y) l H (.eptr (f (li.getD p.toNat default))) (0 ≤ p ∧ p < li.length) := ⟨fun hc ⟨h0, h1⟩ => by
  have hlt : p.toNat < li.length := by omega
  refine (Pu.index_rd ht.h hg.s (h.h hc H) (h'.h hc H) h0 ?_).lt
  rw [List.getElem?_map, List.getElem?_eq_getElem hlt]
  simp [hlt]⟩
instance (priority := high) lenMap {li : List α} {f : α → List AV} [ht : TU P t (.slice e)] [h : EC c l x (.rd sz (li.map f))] : PC c P (.call { callee := .builtin .len, args := #[x], argTypes := #[t] }) l H (.v (.int .i64 li.length)) := ⟨fun hc => by
  have := Pu.len_rd (P := P) (t := t) (e := e) ht.h (h.h hc H)
  rw [List.length_map] at this; exact this⟩
instance (priority := high) lenBys {li : List Int} [ht : TU P t (.slice e)] [h : EC c l x (.rd sz (bys li))] : PC c P (.call { callee := .builtin .len, args := #[x], argTypes := #[t] }) l H (.v (.int .i64 li.length)) := ⟨fun hc => by
  have := Pu.len_rd (P := P) (t := t) (e := e) ht.h (h.h hc H)
  rw [bys_length] at this; exact this⟩
theorem rd_map {li : List α} {f : α → List AV} {a b : Nat} : ((li.map f).take b).drop a = ((li.take b).drop a).map f := by simp [List.map_drop, List.map_take]
end

section
variable {c : Bool} {P : Program} {l : List AV} {x : Operand} {t e : TypeId} {f off sz id n kk ep i sz' : Nat} {g : Bool} {bt : TypeId} {cs : List AV} {L : List (Option AB)} {rows : List (List AV)}
instance (priority := high) fieldB0 [hf : TF P t f off sz g] [h : EC c l x (.box (n + kk) 0)] [hb : GB L kk (.box bt cs)] : PC c P (.fieldAddr t x f) l (Hn n L) (.box (n + kk) off) := ⟨fun hc => by
  have := Pu.fieldB (P := P) (s := ⟨l, Hn n L⟩) (n := n) (k := kk) (L := L) rfl (h.h hc _) hb.h (h := hf)
  rw [Nat.zero_add] at this; exact this⟩
instance (priority := high) fieldO0 [hf : TF P t f off sz g] [h : EC c l x (.optr (n + kk) ep i 0)] [hb : GB L kk (.row e sz' ep rows)] : PC c P (.fieldAddr t x f) l (Hn n L) (.optr (n + kk) ep i off) := ⟨fun hc => by
  have := Pu.fieldO (P := P) (s := ⟨l, Hn n L⟩) (n := n) (k := kk) (L := L) rfl (h.h hc _) hb.h (h := hf)
  rw [Nat.zero_add] at this; exact this⟩
end
instance rowssMap {α : Type} {n : Nat} {li : List α} {f : α → List AV} [h : ∀ x, GA n (f x)] : Rowss n (li.map f) := ⟨fun row hr => by
  obtain ⟨x, _, rfl⟩ := List.mem_map.1 hr
  exact h x⟩
instance {n : Nat} : Rowss n [] := ⟨fun row hr => by cases hr⟩
instance {n : Nat} {row : List AV} {rows : List (List AV)} [h : GA n row] [h' : Rowss n rows] : Rowss n (row :: rows) := ⟨fun r hr => by
  rcases List.mem_cons.1 hr with rfl | hr
  · exact h
  · exact h'.h r hr⟩
instance {n : Nat} : G1 n .any := ⟨.any⟩
/-- No block is spoken of. -/
class NI (av : AV) : Prop where
  h : NoId av
class NIs (avs : List AV) : Prop where
  h : ∀ av ∈ avs, NoId av
class NIr (rows : List (List AV)) : Prop where
  h : ∀ row ∈ rows, ∀ av ∈ row, NoId av
instance : NI .any := ⟨.any⟩
instance {x : Value} : NI (.v x) := ⟨.v x⟩
instance {l : List Int} : NI (.rd 1 (bys l)) := ⟨.bys l⟩
instance {cs : List AV} [h : NIs cs] : NI (.agg cs) := ⟨.agg h.h⟩
instance {cs : List AV} [h : NIs cs] : NI (.tup cs) := ⟨.tup h.h⟩
instance {cs : List AV} [h : NIs cs] : NI (.eptr cs) := ⟨.eptr h.h⟩
instance {sz : Nat} {rows : List (List AV)} [h : NIr rows] : NI (.rd sz rows) := ⟨.rd h.h⟩
instance : NIs [] := ⟨fun _ h => by cases h⟩
instance {av : AV} {avs : List AV} [h : NI av] [h' : NIs avs] : NIs (av :: avs) := ⟨NoId.cons h.h h'.h⟩
instance {α : Type} {li : List α} {f : α → List AV} [h : ∀ x, NIs (f x)] : NIr (li.map f) := ⟨fun row hr => by
  obtain ⟨x, _, rfl⟩ := List.mem_map.1 hr
  exact (h x).h⟩
instance : NIr [] := ⟨fun _ h => by cases h⟩
instance {row : List AV} {rows : List (List AV)} [h : NIs row] [h' : NIr rows] : NIr (row :: rows) := ⟨fun r hr => by
  rcases List.mem_cons.1 hr with rfl | hr
  · exact h.h
  · exact h'.h r hr⟩
@[reducible] def packR : List AV → AV
  | [av] => av
  | avs => .tup avs
theorem noid1 {av : AV} [h : NI av] : NoId (packA [av]) := h.h
theorem noid2 {a b : AV} [h : NIs [a, b]] : NoId (packA [a, b]) := NoId.tup h.h
theorem noid3 {a b c : AV} [h : NIs [a, b, c]] : NoId (packA [a, b, c]) := NoId.tup h.h
theorem noid4 {a b c d : AV} [h : NIs [a, b, c, d]] : NoId (packA [a, b, c, d]) := NoId.tup h.h
theorem noid0 : NoId (packA []) := NoId.tup fun _ h => by cases h

end Go.Proofs.Ytlapfdfbgckfcaa.AL
