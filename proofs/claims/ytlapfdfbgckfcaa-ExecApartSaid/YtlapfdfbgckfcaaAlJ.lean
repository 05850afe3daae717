/- An intermediate logic over abstract blocks, further rules; no condition. -/
import Derived.Test.YtlapfdfbgckfcaaAlI
import Derived.ArgAppend
namespace Go.Proofs.Ytlapfdfbgckfcaa.AL
open Go Go.RowKit
set_option linter.unusedVariables false
set_option linter.unusedSimpArgs false
/-! Slices of which the capacity is the length: an append makes a new row, and writes nothing that was there. -/
section
variable {P : Program} {base : Cx}
theorem grown_rd {σ : Nat → Value} {a : Act} {w w' : World} {s : St} (hr : Rel base σ s a w) {e : TypeId} {sz : Nat} {rows : List (List AV)} {xs : List Value} {v' : Value} (hc : RowsR ⟨w, s.H, σ, base.F⟩ sz rows xs) (hm : rows.length ≤ maxLen) (hown : w'.ownsRow w.heap.size e sz v' rows.length xs) (hg : w.grownBy w' none) (h0 : 0 < rows.length) (d : Option Tmp) :
    Rel base σ (s.put d (.rd sz rows)) (a.put d v') w' ∧ Ext ⟨w, s.H, σ, base.F⟩ ⟨w', s.H, σ, base.F⟩ := by
  have keep : ∀ k, k < w.heap.size → w'.heap[k]? = w.heap[k]? := fun k hk => hg.block k hk (by simp)
  have he : Ext ⟨w, s.H, σ, base.F⟩ ⟨w', s.H, σ, base.F⟩ :=
    ⟨hg.os, hg.tape, hg.output, hg.size, rfl, fun k h _ => keep k h, fun k h _ => h, Nat.le_refl _, fun id e sz ep rows' h6 _ => ⟨ep, rows', h6, .inr ⟨rfl, rfl, rfl⟩⟩, fun id t cs' h6 _ => ⟨cs', h6, rfl, rfl⟩, fun id es' h6 _ => ⟨es', h6, rfl⟩⟩
  have hH : Heap base ⟨w', s.H, σ, base.F⟩ :=
    ⟨Nat.le_trans hr.1.bs hg.size, fun g h => Nat.lt_of_lt_of_le (hr.1.far g h) hg.size, hr.1.clear, fun id b h6 => (hr.1.live id b h6).keep he rfl fun g hg' => keep g (blk_lt hr.1 h6 hg').2, hr.1.apart⟩
  have hrel : Rel base σ s a w' := ⟨hH, hr.2.1.ext he, hr.2.2⟩
  rcases hown.2 with ⟨_, h⟩ | ⟨g, cap, cur, rfl, hbg, hgg, hnc, hcm, _, _⟩
  · omega
  have hlt : g < w'.heap.size := (Array.getElem?_eq_some_iff.1 hgg).1
  have hcell := hown.cells (g := g) rfl
  have hxs := hc.2.1
  have hin : ∀ {i j : Nat} {row : List AV}, rows[i]? = some row → j < row.length → i * sz + j < xs.length := by
    intro i j row hi hj
    have h1 := (List.getElem?_eq_some_iff.1 hi).1
    rw [hc.1 row (List.mem_of_getElem? hi)] at hj
    have : (i + 1) * sz ≤ rows.length * sz := Nat.mul_le_mul_right _ h1
    rw [Nat.succ_mul] at this
    omega
  refine ⟨hrel.put d (.rd (fun i j => xs.getD (i * sz + j) undef) hnc hcm hc.1 (fun _ => ⟨_, rfl, ?_, hlt, fun i row j av hi hj => ?_⟩) (fun i row j av hi hj => ?_)), he⟩
  · rintro (⟨id, b, h1, h2⟩ | h1)
    · have := (blk_lt hr.1 h1 h2).2
      have hbg : w.heap.size ≤ g := hbg
      exact absurd this (Nat.not_lt.2 hbg)
    · have := hr.1.far _ h1
      have hbg : w.heap.size ≤ g := hbg
      exact absurd this (Nat.not_lt.2 hbg)
  · have h1 := hin hi (List.getElem?_eq_some_iff.1 hj).1
    have h2 : xs[i * sz + j]? = some (xs.getD (i * sz + j) undef) := by simp [h1]
    exact ⟨hcell _ _ h2, hc.2.2.1 _ (List.mem_of_getElem? h2)⟩
  · obtain ⟨x, h1, h2⟩ := hc.2.2.2 i row j av hi hj
    have : xs.getD (i * sz + j) undef = x := by rw [List.getD_eq_getElem?_getD, h1]; rfl
    rw [this]
    exact h2.ext he

theorem run_slice3 {t e : TypeId} {A : Option Addr} {len c sz : Nat} {k k' : IntKind} (hu : P.underlying t = some (.slice e)) (hs : (P.info? e).map (·.size) = some sz) (hc : len ≤ c) (w : World) :
    (Instr.sliceAt t (.slice A len c) none (some (.int k (len : Int))) (some (.int k' (len : Int)))).run P w = .ok (.slice (if len = 0 then A else A.map (·.add (0 * sz))) len len) w := by
  unfold Instr.sliceAt Instr.slice Instr.sliceBounds
  simp only [Sem.run_bind, run_underlying hu, Result.andThen_ok, Sem.run_pure]
  have e1 := fun (w : World) => run_sliceBound (P := P) (x := .int k' (len : Int)) (code := .slice3Acap) rfl (show (0 : Int) ≤ len by omega) (show (len : Int) ≤ (c : Int) by omega) w
  have e2 := fun (w : World) => run_sliceBound (P := P) (x := .int k (len : Int)) (y := len) (code := .slice3B) rfl (show (0 : Int) ≤ len by omega) (Int.le_refl _) w
  simp [run_size hs, e1, e2]
theorem map_add0 {sz : Nat} (A : Option Addr) : A.map (·.add (0 * sz)) = A := by
  cases A <;> simp [Addr.add]
theorem run_append_none {t e ty : TypeId} {i : TypeInfo} {A B : Option Addr} {n c m : Nat} (ht : P.underlying t = some (.slice e)) (hi : P.info? e = some i) (hm : m = 0) (w : World) :
    (Builtin.append_ #[t, t] ty #[.slice A n n, .slice B m c]).run P w = .ok (.slice A n n) w := by
  subst hm
  cases A <;> cases B <;> simp [Builtin.append_, run_underlying ht, sizeOf, typeInfo, hi, Builtin.lenOf, Builtin.firstCells, storeCells, loadCells, loadCellsFrom]
/-- An append to a slice cut to its own length: a new row, whatever its capacity was. -/
theorem AO.capApp {s : St} {Q : Exit → St → Prop} {ops : Array Oper} {rest : List Oper} {t e ty1 ty2 ty3 : TypeId} {x lo hi y : Operand} {k k' : IntKind} {sz bytes d1 d2 d3 : Nat} {z : Value} {rows rows2 : List (List AV)} {p1 p2 p3 : String} {a1 a2 a3 : Array Edge}
    (ht : P.underlying t = some (.slice e)) (hi3 : (P.info? e).map (fun i => (i.zero, i.size, i.bytes)) = some (some z, sz, bytes)) (hzs : z.cells.size = sz) (hsz : 0 < sz)
    (hx : ev s x = .rd sz rows) (hh : ev s hi = .v (.int k (rows.length : Int))) (hm : ev s lo = .v (.int k' (rows.length : Int)))
    (hd1 : d1 < s.fr.length) (hd2 : d2 < s.fr.length) (hne : d1 ≠ d2) (hy : ev (s.put (some d1) (.rd sz rows)) y = .rd sz rows2) (hb : (rows.length + rows2.length) * bytes ≤ 140737488355328) (h63 : rows.length + rows2.length ≤ maxLen)
    (kk : AO P base ops rest (((s.put (some d1) (.rd sz rows)).put (some d2) (.rd sz rows2)).put (some d3) (.rd sz (rows ++ rows2))) Q) :
    AO P base ops (⟨some d1, .slice t x none (some hi) (some lo), ty1, p1, a1, none⟩ :: ⟨some d2, .move y, ty2, p2, a2, none⟩ :: ⟨some d3, .call { callee := .builtin .append, args := #[.tmp d1, .tmp d2], argTypes := #[t, t] }, ty3, p3, a3, none⟩ :: rest) s Q := by
  intro σ a w hr K hk
  obtain ⟨i, hi0, hz, hs, hby⟩ := info_parts hi3
  have hsz' : (P.info? e).map (·.size) = some sz := by rw [hi0]; simp [hs]
  -- the slice
  have h3 := ev_ok hr x
  rw [hx] at h3
  have eh := ev_v hr hh
  have em := ev_v hr hm
  generalize hq : a.eval x = q at h3
  obtain ⟨A, hAA, hv1, hex1⟩ : ∃ A, (∀ A0 c0, q = .slice A0 rows.length c0 → A = A0) ∧ VR ⟨w, s.H, σ, base.F⟩ (.rd sz rows) (.slice A rows.length rows.length) ∧ ∀ w', (execOp a.eval ⟨some d1, .slice t x none (some hi) (some lo), ty1, p1, a1, none⟩).run P w' = .ok (.value (.slice A rows.length rows.length)) w' := by
    cases h3 with
    | rd u hc hmx hzz hA hu' =>
      rename_i A c
      refine ⟨A, (fun A0 c0 h => by injection h), .rd u (Nat.le_refl _) (by omega) hzz hA hu', fun w' => ?_⟩
      have := run_slice3 (A := A) (len := rows.length) (c := c) (sz := sz) (k := k) (k' := k') ht hsz' hc w'
      rw [map_add0, ite_self] at this
      simp only [execOp, hq, eh, em, Option.map_none, Option.map_some, Sem.run_bind, this, Result.andThen_ok, Sem.run_pure]
  refine wpList_plain rfl fun K' hK' => ?_
  unfold Oper.wp
  rw [hex1 w]
  refine hK' _ _ ?_
  have hr1 := hr.put (some d1) hv1
  -- the move
  have h4 := ev_ok hr1 y
  rw [hy] at h4
  refine wpList_plain rfl fun K' hK' => ?_
  unfold Oper.wp
  have hmv : ∀ w', (execOp (a.put (some d1) (.slice A rows.length rows.length)).eval ⟨some d2, .move y, ty2, p2, a2, none⟩).run P w' = .ok (.value ((a.put (some d1) (.slice A rows.length rows.length)).eval y)) w' := fun w' => by simp [execOp]
  rw [hmv w]
  refine hK' _ _ ?_
  have hr2 := hr1.put (some d2) h4
  generalize hq2 : (a.put (some d1) (.slice A rows.length rows.length)).eval y = y2 at h4 hr2
  have hev1 : ((a.put (some d1) (.slice A rows.length rows.length)).put (some d2) y2).eval (.tmp d1) = .slice A rows.length rows.length := by
    have hlt : d1 < a.tmps.size := by rw [← hr.2.1.1]; exact hd1
    simp [Act.eval, Act.put, Array.getD_eq_getD_getElem?, Array.getElem?_setIfInBounds, hlt, Ne.symm hne]
  have hev2 : ((a.put (some d1) (.slice A rows.length rows.length)).put (some d2) y2).eval (.tmp d2) = y2 := by
    have hlt : d2 < a.tmps.size := by rw [← hr.2.1.1]; exact hd2
    simp [Act.eval, Act.put, Array.getD_eq_getD_getElem?, Array.getElem?_setIfInBounds, hlt]
  have hv1' := hv1
  have hh4 : VR ⟨w, s.H, σ, base.F⟩ (.rd sz rows2) y2 := by simpa [put_H] using h4
  obtain ⟨B, c2, rfl⟩ := hh4.slice
  have hfc : ∀ {A : Option Addr} {n : Nat} {xs : List Value}, xs.length = n * sz → (0 < n → ∃ ad, A = some ad ∧ ∀ (j : Nat) (u : Value), xs[j]? = some u → w.cell? (ad.add j) = some u) → ∀ b, A = some b → ∀ (j : Nat) (u : Value), xs[j]? = some u → w.cell? (b.add j) = some u := by
    intro A n xs hl h b hb j u hj
    have hlt := (List.getElem?_eq_some_iff.1 hj).1
    rcases Nat.eq_zero_or_pos n with h0 | h0
    · subst h0; omega
    · obtain ⟨ad, h1, h2⟩ := h h0
      rw [hb] at h1
      obtain rfl := Option.some.inj h1
      exact h2 j u hj
  obtain ⟨A0, c0, xs, hx0, hxs, hxa⟩ := Src.rd (base := base) hx σ a w hr
  obtain ⟨B0, c1, ys, hy0, hys, hya⟩ := Src.rd (base := base) hy σ _ w hr1
  rw [hq2] at hy0
  rw [hq] at hx0
  subst hx0
  obtain rfl : A = A0 := hAA A0 c0 rfl
  injection hy0 with hy0 _ hy0'
  subst hy0
  have hxc := hfc hxs.2.1 hxa
  have hyc := hfc hys.2.1 hya
  rcases Nat.eq_zero_or_pos rows2.length with h0 | h0
  · have h20 : rows2 = [] := List.length_eq_zero_iff.1 h0
    have h21 : rows ++ rows2 = rows := by rw [h20, List.append_nil]
    rw [h21] at kk
    refine wpList_plain rfl fun K' hK' => ?_
    unfold Oper.wp
    have hrun : (execOp ((a.put (some d1) (.slice A rows.length rows.length)).put (some d2) (.slice B rows2.length c2)).eval ⟨some d3, .call { callee := .builtin .append, args := #[.tmp d1, .tmp d2], argTypes := #[t, t] }, ty3, p3, a3, none⟩).run P w = .ok (.value (.slice A rows.length rows.length)) w := by
      simp only [execOp, resolve, Sem.run_bind, Sem.run_pure, Result.andThen_ok, invoke, builtin, List.map_toArray, List.map_cons, List.map_nil]
      rw [show ((a.put (some d1) (Value.slice A rows.length rows.length)).put (some d2) (Value.slice B rows2.length c2)).eval (Operand.tmp d2) = .slice B rows2.length c2 from hev2, show ((a.put (some d1) (Value.slice A rows.length rows.length)).put (some d2) (Value.slice B rows2.length c2)).eval (Operand.tmp d1) = .slice A rows.length rows.length from hev1, run_append_none ht hi0 h0 w]
      simp only [Result.andThen_ok]
    rw [hrun]
    refine hK' _ _ ?_
    refine kk σ _ w (hr2.put (some d3) (by rw [put_H, put_H]; exact hv1)) K fun e' σ' s' a' w' q1 q2 q3 => hk e' σ' s' a' w' q1 (by rw [put_H, put_H, put_H] at q2; exact q2) q3
  · cases B with
    | none =>
      cases hh4 with
      | rd u hc hmx hzz hA hu' => obtain ⟨ad, h, _⟩ := hA h0; cases h
    | some bd =>
      refine wpList_append_grows w rfl (.tmp d1) (.tmp d2) t rfl e i z sz bytes ht hi0 hz hs hby hzs hsz A rows.length rows.length xs hev1 (fun hA => ?_) hxs.2.1 (fun b hb => hxc b hb) bd rows2.length c2 ys hev2 hys.2.1 (hyc bd rfl) hys.2.2.1 (by omega) h63 hb fun v' w' hown hgr => ?_
      · subst hA
        cases hv1 with
        | rd u hc hmx hzz hA hu' =>
          rcases Nat.eq_zero_or_pos rows.length with h | h
          · exact ⟨h, h⟩
          · obtain ⟨ad, h', _⟩ := hA h; cases h'
      · have hrr : RowsR ⟨w, s.H, σ, base.F⟩ sz (rows ++ rows2) (xs ++ ys) := hxs.append hys
        have hfin := grown_rd (s := ((s.put (some d1) (.rd sz rows)).put (some d2) (.rd sz rows2))) (a := (a.put (some d1) (.slice A rows.length rows.length)).put (some d2) (.slice (some bd) rows2.length c2)) (rows := rows ++ rows2) (xs := xs ++ ys) (v' := v') (w' := w') hr2 (by rw [put_H, put_H]; exact hrr) (by rw [List.length_append]; exact h63) (by rw [List.length_append]; exact hown) hgr (by rw [List.length_append]; omega) (some d3)
        obtain ⟨q1, q2⟩ := hfin
        refine kk σ _ w' q1 K fun e' σ' s' a' w'' q3 q4 q5 => hk e' σ' s' a' w'' q3 ?_ q5
        rw [put_H, put_H] at q2
        rw [put_H, put_H, put_H] at q4
        exact q2.trans q4
theorem AO.capA {l l1 l2 l3 : List AV} {H : List (Option AB)} {Q : Exit → St → Prop} {ops : Array Oper} {rest : List Oper} {t e ty1 ty2 ty3 : TypeId} {x lo hi y : Operand} {k k' : IntKind} {sz bytes d1 d2 d3 : Nat} {n n' : Int} {z : Value} {rows rows2 : List (List AV)} {p1 p2 p3 : String} {a1 a2 a3 : Array Edge}
    [tu : TU P t (.slice e)] [ti : TI P e z sz bytes] [hx : EC true l x (.rd sz rows)] [hh : EC true l hi (.v (.int k n))] [hm : EC true l lo (.v (.int k' n'))] [s1 : SL l d1 (.rd sz rows) l1] [hy : EC true l1 y (.rd sz rows2)] [s2 : SL l1 d2 (.rd sz rows2) l2] [s3 : SL l2 d3 (.rd sz (rows ++ rows2)) l3]
    (hn : n = rows.length) (hn' : n' = rows.length) (hd : (Nat.blt d1 l.length && Nat.blt d2 l.length && !(d1 == d2) && (z.cells.size == sz) && Nat.blt 0 sz) = true) (hb : (rows.length + rows2.length) * bytes ≤ 140737488355328) (h63 : rows.length + rows2.length ≤ maxLen)
    (kk : AO P base ops rest ⟨l3, H⟩ Q) :
    AO P base ops (⟨some d1, .slice t x none (some hi) (some lo), ty1, p1, a1, none⟩ :: ⟨some d2, .move y, ty2, p2, a2, none⟩ :: ⟨some d3, .call { callee := .builtin .append, args := #[.tmp d1, .tmp d2], argTypes := #[t, t] }, ty3, p3, a3, none⟩ :: rest) ⟨l, H⟩ Q := by
  simp only [Bool.and_eq_true, Nat.blt_eq, Bool.not_eq_true', beq_eq_false_iff_ne, beq_iff_eq] at hd
  obtain ⟨⟨⟨⟨q1, q2⟩, q3⟩, q4⟩, q5⟩ := hd
  subst hn; subst hn'
  refine AO.capApp (s := ⟨l, H⟩) tu.h ti.h q4 q5 (hx.h rfl H) (hh.h rfl H) (hm.h rfl H) q1 q2 q3 ?_ hb h63 ?_
  · show ev ⟨l.set d1 _, H⟩ y = _
    rw [s1.h]; exact hy.h rfl H
  · show AO P base ops rest ⟨((l.set d1 _).set d2 _).set d3 _, H⟩ Q
    rw [s1.h, s2.h, s3.h]; exact kk
end

end Go.Proofs.Ytlapfdfbgckfcaa.AL
