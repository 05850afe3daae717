/- An intermediate logic over abstract blocks, further rules; no condition. -/
import Derived.Test.YtlapfdfbgckfcaaAlQ
namespace Go.Proofs.Ytlapfdfbgckfcaa.AL
open Go Go.RowKit
set_option linter.unusedVariables false
set_option linter.unusedSimpArgs false
/-! A row of the call's own that stands in a box's cell, and is not written any more. -/
section
variable {P : Program} {base : Cx} {s : St}
theorem Rel.reBox2 {σ : Nat → Value} {a : Act} {w : World} {id : Nat} {t : TypeId} {cs cs' : List AV} (hr : Rel base σ s a w) (hH : s.H[id]? = some (some (.box t cs))) (hl : cs'.length = cs.length)
    (hc : ∀ (g : Nat) (us : List Value), σ id = .pointer (some ⟨g, 0, none⟩) → w.heap[g]? = some (.cells ⟨us⟩ t (0, 0)) → ∀ (j : Nat) (av' : AV) (x : Value), cs'[j]? = some av' → us[j]? = some x → VR ⟨w, s.H.set id (some (.box t cs')), σ, base.F⟩ av' x) :
    Rel base σ ⟨s.fr, s.H.set id (some (.box t cs'))⟩ a w ∧ Ext ⟨w, s.H, σ, base.F⟩ ⟨w, s.H.set id (some (.box t cs')), σ, base.F⟩ := by
  have hours : ∀ k, Env.ours ⟨w, s.H.set id (some (.box t cs')), σ, base.F⟩ k → Env.ours ⟨w, s.H, σ, base.F⟩ k := by
    rintro k ⟨i, b, h1, h2⟩
    rcases set_some h1 with ⟨rfl, _⟩ | ⟨_, h3⟩
    · exact ⟨i, _, hH, h2⟩
    · exact ⟨i, b, h3, h2⟩
  have he : Ext ⟨w, s.H, σ, base.F⟩ ⟨w, s.H.set id (some (.box t cs')), σ, base.F⟩ := by
    refine ⟨rfl, rfl, rfl, Nat.le_refl _, rfl, fun k _ _ => rfl, fun k h _ => hours k h, by simp, fun i e sz ep rows' h1 _ => ?_, fun i t2 cs2 h1 _ => ?_, fun i es' h1 _ => ?_⟩
    · rcases set_some h1 with ⟨_, h3⟩ | ⟨_, h3⟩
      · cases h3
      · exact ⟨ep, rows', h3, .inr ⟨rfl, rfl, rfl⟩⟩
    · rcases set_some h1 with ⟨rfl, h3⟩ | ⟨_, h3⟩
      · cases h3; exact ⟨cs, hH, rfl, hl⟩
      · exact ⟨cs2, h3, rfl, rfl⟩
    · rcases set_some h1 with ⟨_, h3⟩ | ⟨_, h3⟩
      · cases h3
      · exact ⟨es', h3, rfl⟩
  refine ⟨⟨⟨hr.1.bs, hr.1.far, fun g h => hr.1.clear g (hours g h), fun i b h1 => ?_, fun i i' b b' g h1 h2 h3 h4 => ?_⟩, hr.2.1.ext he, hr.2.2⟩, he⟩
  · rcases set_some h1 with ⟨rfl, rfl⟩ | ⟨_, h3⟩
    · obtain ⟨g, us, q1, q2, q3, q4⟩ := hr.1.live i _ hH
      exact ⟨g, us, q1, q2, q3, q4.1.trans hl.symm, q4.2.1, fun j av' x hj hx => hc g us q1 q3 j av' x hj hx⟩
    · exact (hr.1.live i b h3).keep he rfl fun _ _ => rfl
  · rcases set_some h1 with ⟨rfl, _⟩ | ⟨_, k1⟩ <;> rcases set_some h2 with ⟨rfl, _⟩ | ⟨_, k2⟩
    · rfl
    · exact hr.1.apart i i' _ _ g hH k2 h3 h4
    · exact hr.1.apart i i' _ _ g k1 hH h3 h4
    · exact hr.1.apart i i' _ _ g k1 k2 h3 h4
theorem Gh.freezeC {n m ep len sz : Nat} {L L1 L2 : List (Option AB)} {l : List AV} {bt e : TypeId} {cs cs' : List AV} {rows : List (List AV)} (k j : Nat) [gb : GB L k (.box bt cs)] [gj : GL cs j (.own (n + m) ep 0 len)] [gr : GB L m (.row e sz ep rows)] [sl : SL cs j (.rd sz rows) cs'] [s1 : SB L m none L1] [s2 : SB L1 k (some (.box bt cs')) L2] (hl : rows.length = len) (hm : rows.length ≤ 9223372036854775807) :
    Gh base ⟨l, Hn n L⟩ ⟨l, Hn n L2⟩ := fun σ a w hr => by
  have hH : (Hn n L)[n + k]? = some (some (.box bt cs)) := by rw [Hn_get]; exact gb.h
  have hR : (Hn n L)[n + m]? = some (some (.row e sz ep rows)) := by rw [Hn_get]; exact gr.h
  have hne : n + m ≠ n + k := fun h => by rw [h, hH] at hR; cases hR
  obtain ⟨g, us, q1, q2, q3, q4⟩ := hr.1.live _ _ hH
  have q1 : σ (n + k) = .pointer (some ⟨g, 0, none⟩) := q1
  have q3 : w.heap[g]? = some (.cells ⟨us⟩ bt (0, 0)) := q3
  have hf := Ext.forget (base := base) (w := w) (H := Hn n L) (H' := (Hn n L).set (n + m) none) (σ := σ) (by simp) (fun i b h => (set_none h).1)
  have hr1 : Rel base σ ⟨l, (Hn n L).set (n + m) none⟩ a w := ⟨hr.1.forget (by simp) (fun i b h => (set_none h).1), hr.2.1.ext hf, hr.2.2⟩
  have hH1 : ((Hn n L).set (n + m) none)[n + k]? = some (some (.box bt cs)) := by rw [List.getElem?_set_ne hne]; exact hH
  have hjl : j < cs.length := (List.getElem?_eq_some_iff.1 gj.h).1
  have h := Rel.reBox2 (s := ⟨l, (Hn n L).set (n + m) none⟩) (cs' := cs') hr1 hH1 (by rw [← sl.h]; simp) (fun g' us' p1 p2 i av' x h1 h2 => by
    rw [q1] at p1
    cases p1
    rw [q3] at p2
    cases p2
    rw [← sl.h] at h1
    have hE : Ext ⟨w, (Hn n L).set (n + m) none, σ, base.F⟩ ⟨w, ((Hn n L).set (n + m) none).set (n + k) (some (.box bt cs')), σ, base.F⟩ := by
      have hl' : cs'.length = cs.length := by rw [← sl.h]; simp
      refine ⟨rfl, rfl, rfl, Nat.le_refl _, rfl, fun k _ _ => rfl, fun g ⟨i, b, h1, h2⟩ _ => ?_, by simp, fun i e sz ep rows' h1 _ => ?_, fun i t2 cs2 h1 _ => ?_, fun i es' h1 _ => ?_⟩
      · rcases set_some h1 with ⟨rfl, _⟩ | ⟨_, h3⟩
        · exact ⟨_, _, hH1, h2⟩
        · exact ⟨i, b, h3, h2⟩
      · rcases set_some h1 with ⟨_, h3⟩ | ⟨_, h3⟩
        · cases h3
        · exact ⟨ep, rows', h3, .inr ⟨rfl, rfl, rfl⟩⟩
      · rcases set_some h1 with ⟨rfl, h3⟩ | ⟨_, h3⟩
        · cases h3; exact ⟨cs, hH1, rfl, hl'⟩
        · exact ⟨cs2, h3, rfl, rfl⟩
      · rcases set_some h1 with ⟨_, h3⟩ | ⟨_, h3⟩
        · cases h3
        · exact ⟨es', h3, rfl⟩
    by_cases hji : j = i
    · subst hji
      rw [List.getElem?_set_self hjl] at h1
      obtain rfl := Option.some.inj h1
      have hv := own_rd hr.1 hR (q4.2.2 j _ x gj.h h2) (by unfold maxLen; omega)
      rw [List.drop_zero, ← hl, List.take_of_length_le (Nat.le_refl _)] at hv
      exact hv.ext hE
    · rw [List.getElem?_set_ne hji] at h1
      exact ((q4.2.2 i av' x h1 h2).ext hf).ext hE)
  have e1 : ((Hn n L).set (n + m) none).set (n + k) (some (AB.box bt cs')) = Hn n L2 := by rw [Hn_set, s1.h, Hn_set, s2.h]
  simp only [e1] at h
  exact ⟨σ, h.1, hf.trans h.2⟩
end
/-! A load from a box, at a place that is told. -/
section
variable {P : Program} {base : Cx} {l l' : List AV} {Q : Exit → St → Prop} {os : List Oper} {ops : Array Oper} {rest : List Oper} {d : Option Tmp} {t ty bt : TypeId} {pos : String} {af : Array Edge} {x : Operand} {n kk o sz j u : Nat} {want c : Bool} {L : List (Option AB)} {cs cs' : List AV}
theorem AO.ldB (av : AV) [tg : TG P t false sz] [h : EC true l x (.box (n + kk) o)] [hb : GB L kk (.box bt cs)] (hv : cs[o]? = some av) [hd : DL l d av l'] (k : AO P base ops rest ⟨l', Hn n L⟩ Q) : AO P base ops (⟨d, .load t x, ty, pos, af, none⟩ :: rest) ⟨l, Hn n L⟩ Q :=
  AO.light (Lt.loadB1 (sz := sz) rfl (h.h rfl _) hb.h hv) (by rw [hd.h]; exact k)
theorem AO.gxldB (av : AV) [ho : DO os j u] [gx : GX l u want c] [tg : TG P t false sz] [h : EC c l x (.box (n + kk) o)] [hb : GB L kk (.box bt cs)] (hv : c = true → cs[o]? = some av) [hd : DL l d (cv c av) l'] (k : AO P base os.toArray rest ⟨l', Hn n L⟩ Q) : AO P base os.toArray (⟨d, .load t x, ty, pos, af, some (j, want)⟩ :: rest) ⟨l, Hn n L⟩ Q :=
  AO.gxw (c := c) rfl (hd.h (Hn n L)) (fun hc => Lt.hv (Lt.loadB1 (sz := sz) rfl (h.h hc _) hb.h (hv hc))) k
theorem AO.ldBN (cs' : List AV) [tg : TG P t true sz] [h : EC true l x (.box (n + kk) o)] [hb : GB L kk (.box bt cs)] (ho : o + sz ≤ cs.length) (hc : (cs.drop o).take sz = cs') [hd : DL l d (.agg cs') l'] (k : AO P base ops rest ⟨l', Hn n L⟩ Q) : AO P base ops (⟨d, .load t x, ty, pos, af, none⟩ :: rest) ⟨l, Hn n L⟩ Q :=
  AO.light (Lt.loadBN (sz := sz) rfl (h.h rfl _) hb.h ho hc) (by rw [hd.h]; exact k)
end
/-! A slice cut to its own length, from its beginning. -/
section
variable {P : Program} {s : St}
theorem run_slice3n {t e : TypeId} {A : Option Addr} {n len c sz : Nat} {k k' : IntKind} (hu : P.underlying t = some (.slice e)) (hs : (P.info? e).map (·.size) = some sz) (hc : n ≤ c) (w : World) :
    (Instr.sliceAt t (.slice A len c) none (some (.int k (n : Int))) (some (.int k' (n : Int)))).run P w = .ok (.slice (if n = 0 then A else A.map (·.add (0 * sz))) n n) w := by
  unfold Instr.sliceAt Instr.slice Instr.sliceBounds
  simp only [Sem.run_bind, run_underlying hu, Result.andThen_ok, Sem.run_pure]
  have e1 := fun (w : World) => run_sliceBound (P := P) (x := .int k' (n : Int)) (code := .slice3Acap) rfl (show (0 : Int) ≤ n by omega) (show (n : Int) ≤ (c : Int) by omega) w
  have e2 := fun (w : World) => run_sliceBound (P := P) (x := .int k (n : Int)) (y := n) (code := .slice3B) rfl (show (0 : Int) ≤ n by omega) (Int.le_refl _) w
  simp [run_size hs, e1, e2]
theorem Pu.slice3_rd {t e : TypeId} {x hi mx : Operand} {k k' : IntKind} {sz n : Nat} {rows : List (List AV)} (hu : P.underlying t = some (.slice e)) (hs : (P.info? e).map (·.size) = some sz)
    (hx : ev s x = .rd sz rows) (hh : ev s hi = .v (.int k (n : Int))) (hm : ev s mx = .v (.int k' (n : Int))) (h2 : n ≤ rows.length) :
    Pu P (.slice t x none (some hi) (some mx)) s (.rd sz (rows.take n)) := fun d t' pos af g base σ a w hr => by
  have h3 := ev_ok hr x
  rw [hx] at h3
  have eh := ev_v hr hh
  have em := ev_v hr hm
  generalize hq : a.eval x = q at h3
  cases h3 with
  | rd u hc hmx hz hA hu' =>
    rename_i A c
    have elen : (rows.take n).length = n := by simp; omega
    have get : ∀ (i : Nat) (row : List AV), (rows.take n)[i]? = some row → rows[i]? = some row := by
      intro i row hi
      rw [List.getElem?_take] at hi
      split at hi
      · exact hi
      · cases hi
    refine ⟨.slice A n n, ?_, fun w' => ?_⟩
    · have := VR.rd (E := ⟨w, s.H, σ, base.F⟩) (sz := sz) (rows := rows.take n) (A := A) (c := n) u (by omega) (by omega) (fun row hr' => hz row (List.mem_of_mem_take hr')) (fun h0 => ?_) (fun i row j av hi hj => hu' i row j av (get i row hi) hj)
      · rw [elen] at this; exact this
      · obtain ⟨ad, rfl, hb, hl, hcell⟩ := hA (by omega)
        exact ⟨ad, rfl, hb, hl, fun i row j av hi hj => hcell i row j av (get i row hi) hj⟩
    · have := run_slice3n (P := P) (A := A) (n := n) (len := rows.length) (c := c) (sz := sz) (k := k) (k' := k') hu hs (by omega) w'
      rw [map_add0, ite_self] at this
      simp only [execOp, hq, eh, em, Option.map_none, Option.map_some, Sem.run_bind, this, Result.andThen_ok, Sem.run_pure]
end
section
variable {P : Program} {c : Bool} {l : List AV} {H : List (Option AB)} {x hi mx : Operand} {t e : TypeId} {k k' : IntKind} {p : Int} {li : List Int} {g : Bool}
instance slice3B [ht : TU P t (.slice e)] [hg : TG P e g 1] [h : EC c l x (.rd 1 (bys li))] [h1 : EC c l hi (.v (.int k p))] [h2 : EC c l mx (.v (.int k' p))] : OC c P (.slice t x none (some hi) (some mx)) l H (.rd 1 (bys (li.take p.toNat))) (0 ≤ p ∧ p ≤ li.length) := ⟨fun hc ob => by
  have hp : p = (p.toNat : Int) := by omega
  have h1' := h1.h hc H
  have h2' := h2.h hc H
  rw [hp] at h1' h2'
  have := Pu.slice3_rd (s := ⟨l, H⟩) (n := p.toNat) ht.h (TG.s (g := g)) (h.h hc H) h1' h2' (by rw [bys_length]; omega)
  rw [show (bys li).take p.toNat = bys (li.take p.toNat) by unfold bys; rw [List.map_take]] at this
  exact this.lt⟩
end

end Go.Proofs.Ytlapfdfbgckfcaa.AL
