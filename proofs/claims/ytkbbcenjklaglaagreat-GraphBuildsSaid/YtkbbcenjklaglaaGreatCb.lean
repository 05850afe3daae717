/- A part of the proof: rules of an own logic over blocks, and what functions of the program compute, each by its own contract; the conditions stand with each. -/
import Derived.Test.YtkbbcenjklaglaaGreatCa
namespace Go.Proofs.YtkbbcenjklaglaaGreat.AL
open Go Go.RowKit
set_option linter.unusedVariables false
set_option linter.unusedSimpArgs false
section
variable {P : Program} {base : Cx} {s : St}
theorem new_row_cap {σ : Nat → Value} {a : Act} {w : World} (hr : Rel base σ s a w) {e : TypeId} {sz : Nat} {rows : List (List AV)} {xs : List Value} {cur : Array Value} {cap : Nat} (hc : RowsR ⟨w, s.H, σ, base.F⟩ sz rows xs) (hm : cap ≤ maxLen) (hnc : rows.length ≤ cap) (hcs : cur.size = cap * sz) (ht : cur.toList.take (rows.length * sz) = xs) (d : Option Tmp) :
 ∃ σ', Rel base σ' ((s.push (.row e sz 0 rows)).put d (.own s.H.length 0 0 rows.length)) (a.put d (.slice (some ⟨w.heap.size, 0, none⟩) rows.length cap)) (w.alloc (.cells cur e)) ∧
  Ext ⟨w, s.H, σ, base.F⟩ ⟨w.alloc (.cells cur e), s.H ++ [some (.row e sz 0 rows)], σ', base.F⟩ := by
 have hv : ∀ g, blkOf (.slice (some ⟨w.heap.size, 0, none⟩) rows.length cap) = some g → w.heap.size ≤ g := fun g hg => by obtain rfl := Option.some.inj hg; exact Nat.le_refl _
 have hk := keep_alloc w (.cells cur e);have he := Ext.push (base := base) (w := w) (H := s.H) (σ := σ) (.row e sz 0 rows) (.slice (some ⟨w.heap.size, 0, none⟩) rows.length cap) (w1 := w.alloc (.cells cur e)) rfl rfl rfl hk hv;have hnew : (w.alloc (.cells cur e)).heap[w.heap.size]? = some (.cells cur e (0, 0)) := heap_alloc_at w _
 have hH := hr.1.push he hk hv (b := .row e sz 0 rows) ⟨xs, ⟨hc.2.1, .inr ⟨w.heap.size, cap, cur, by simp [pushσ], hr.1.bs, hnew, hnc, hm, hcs, ht⟩⟩, hc.ext he⟩;refine ⟨_, ?_, he⟩;have hrel : Rel base (pushσ σ s.H.length (.slice (some ⟨w.heap.size, 0, none⟩) rows.length cap)) (s.push (.row e sz 0 rows)) a (w.alloc (.cells cur e)) := ⟨hH, hr.2.1.ext he, hr.2.2⟩
 refine hrel.put d (.own ⟨by simp [St.push], fun e' sz' ep' rows' h1 => ?_⟩ ⟨_, _, rfl⟩);simp [St.push] at h1;obtain ⟨rfl, rfl, rfl, rfl⟩ := h1;exact ⟨Nat.le_refl _, fun _ => ⟨by omega, some ⟨w.heap.size, 0, none⟩, cap, some ⟨w.heap.size, 0, none⟩, by simp [pushσ], by simp, fun _ => by simp [Addr.add], fun _ => rfl⟩⟩
def rowsOf (len sz : Nat) (cs : List AV) : List (List AV) := (List.range len).map fun i => (cs.drop (i * sz)).take sz
theorem rowsOf_length (len sz : Nat) (cs : List AV) : (rowsOf len sz cs).length = len := by simp [rowsOf]
theorem CellsR.rows {E : Env} {cs : List AV} {us : List Value} (h : CellsR E cs us) {len sz : Nat} (hl : cs.length = len * sz) : RowsR E sz (rowsOf len sz cs) us := by
 have key : ∀ {i : Nat}, i < len → i * sz + sz ≤ len * sz := fun {i} hi => by
  have := Nat.mul_le_mul_right sz (show i + 1 ≤ len by omega);rw [Nat.succ_mul] at this;exact this
 refine ⟨fun row hrow => ?_, by rw [rowsOf_length, h.1, hl], h.2.1, fun i row j av hi hj => ?_⟩
 · obtain ⟨i, hi, rfl⟩ := List.mem_map.1 hrow
   have := key (List.mem_range.1 hi);rw [List.length_take, List.length_drop];omega
 · have hi' : (List.range len)[i]? = some i ∧ row = (cs.drop (i * sz)).take sz ∧ i < len := by
    have h1 := (List.getElem?_eq_some_iff.1 hi).1;rw [rowsOf_length] at h1;unfold rowsOf at hi;rw [List.getElem?_map, List.getElem?_range h1] at hi;exact ⟨List.getElem?_range h1, (Option.some.inj hi).symm, h1⟩
   obtain ⟨_, rfl, hlt⟩ := hi';have hj1 := (List.getElem?_eq_some_iff.1 hj).1;rw [List.length_take, List.length_drop] at hj1;rw [List.getElem?_take, if_pos (by omega), List.getElem?_drop] at hj;have hlu : i * sz + j < us.length := by
    have := (List.getElem?_eq_some_iff.1 hj).1;rw [h.1]; exact this
   exact ⟨us[i * sz + j], List.getElem?_eq_getElem hlu, h.2.2 _ _ _ hj (List.getElem?_eq_getElem hlu)⟩
def zerosA (z : Value) (n : Nat) : List AV := (List.range n).map fun i => .v (z.cells[i % z.cells.size]!)
theorem zerosA_ok (E : Env) (z : Value) (n : Nat) (hz1 : (z.cells.toList.all fun u => u.oneCell') = true) (h0 : 0 < z.cells.size) : CellsR E (zerosA z n) ((Array.range n).map (z.cells[· % z.cells.size]!)).toList := by
 have get : ∀ j, z.cells[j % z.cells.size]! ∈ z.cells.toList := fun j => by
  have := Nat.mod_lt j h0;simp [this]
 refine ⟨by simp [zerosA], fun u hu => ?_, fun j av x hj hx => ?_⟩
 · simp only [Array.toList_map, List.mem_map] at hu
   obtain ⟨j, _, rfl⟩ := hu;exact List.all_eq_true.1 hz1 _ (get j)
 · by_cases hlt : j < n
   · simp [zerosA, hlt] at hj hx
     subst hj; subst hx;exact .v _
   · simp [zerosA, hlt] at hj
theorem info_two {e : TypeId} {z : Value} {sz : Nat} (hi : (P.info? e).map (fun i => (i.zero, i.size)) = some (some z, sz)) : ∃ i, P.info? e = some i ∧ i.zero = some z ∧ i.size = sz := by
 cases h : P.info? e with
 | none => rw [h] at hi; cases hi
 | some i =>
  rw [h] at hi;simp only [Option.map_some, Option.some.injEq, Prod.mk.injEq] at hi;exact ⟨i, rfl, hi.1, hi.2⟩
theorem HvK.buildSlice {d : Option Tmp} {t e ty : TypeId} {len sz : Nat} {parts : Array (Nat × Operand)} {pos : String} {af : Array Edge} {g : Option (Nat × Bool)} {z : Value} {cs : List AV} (hu : P.underlying t = some (.slice e)) (hi : (P.info? e).map (fun i => (i.zero, i.size)) = some (some z, sz))
 (hz1 : (z.cells.toList.all fun u => u.oneCell') = true) (hzs : z.cells.size = sz) (hsz : 0 < sz) (hl : 0 < len) (hs : len * sz ≤ 16777216) (h : fillA (fun i => some (i * sz, sz)) (ev s) (zerosA z (len * sz)) parts.toList = some cs) :
 HvK P base ⟨d, .buildSlice t len parts, ty, pos, af, g⟩ s (fun s' => s' = (s.push (.row e sz 0 (rowsOf len sz cs))).put d (.own s.H.length 0 0 len)) := by
 intro σ a w hr Q K hk;obtain ⟨i, hi0, hz, hs'⟩ := info_two hi;obtain ⟨us, h1, h2⟩ := fill_ok hr parts.toList _ cs _ (zerosA_ok _ z (len * sz) hz1 (by omega)) h;have hcl : cs.length = len * sz := by
  have h3 : ∀ (ps : List (Nat × Operand)) (cs cs' : List AV), fillA (fun i => some (i * sz, sz)) (ev s) cs ps = some cs' → cs'.length = cs.length := by
   intro ps
   induction ps with
   | nil => intro cs cs' h; simp only [fillA, Option.some.injEq] at h; rw [h]
   | cons p ps ih =>
    intro cs cs' h;obtain ⟨i, x⟩ := p;simp only [fillA] at h
    split at h
    · rename_i off size ps' ho hp
      split at h
      · rename_i hc
        rw [ih _ _ h, layAt_length (by omega)]
      · cases h
    · cases h
  rw [h3 _ _ _ h]; simp [zerosA]
 have hmax : len ≤ maxLen := by
  have : len * 1 ≤ len * sz := Nat.mul_le_mul_left _ hsz;unfold maxLen; omega
 obtain ⟨σ', h3, h4⟩ := new_row (e := e) hr (h2.rows hcl) (by rw [rowsOf_length]; exact hmax) d;rw [rowsOf_length] at h3;unfold Oper.wp;have hrun : (execOp a.eval ⟨d, .buildSlice t len parts, ty, pos, af, g⟩).run P w = .ok (.value (.slice (some ⟨w.heap.size, 0, none⟩) len len)) (w.alloc (.cells us e)) := by
  have hpos : 0 < len * sz := Nat.mul_pos hl hsz;have e1 : (parts.map fun x => match x with | (i, x) => (i, a.eval x)).toList = parts.toList.map fun p => (p.1, a.eval p.2) := by simp
  have := run_buildSlice (P := P) w t e len (parts.map fun x => match x with | (i, x) => (i, a.eval x)) us i z hu hi0 hz (by rw [hs']; omega) (by rw [hs']; omega) (by rw [hs', e1]; exact h1);simp only [execOp, Sem.run_bind, this, Result.andThen_ok, Sem.run_pure]
 rw [hrun];exact hk σ' _ _ _ (by obtain ⟨us⟩ := us; exact h3) (by rw [put_H]; obtain ⟨us⟩ := us; exact h4) (keep_alloc _ _) rfl
theorem HvK.buildSlice0 {d : Option Tmp} {t e ty : TypeId} {sz : Nat} {pos : String} {af : Array Edge} {g : Option (Nat × Bool)} (hu : P.underlying t = some (.slice e)) (hs : (P.info? e).map (·.size) = some sz) :
 HvK P base ⟨d, .buildSlice t 0 #[], ty, pos, af, g⟩ s (fun s' => s' = (s.push (.row e sz 0 [])).put d (.own s.H.length 0 0 0)) := by
 intro σ a w hr Q K hk;obtain ⟨σ', h3, h4⟩ := new_row (e := e) (sz := sz) hr (RowsR.nil _ sz) (by simp) d;unfold Oper.wp;have hrun : (execOp a.eval ⟨d, .buildSlice t 0 #[], ty, pos, af, g⟩).run P w = .ok (.value (.slice (some ⟨w.heap.size, 0, none⟩) 0 0)) (w.alloc (.cells ⟨[]⟩ e)) := by
  simp [execOp, Instr.buildSlice, run_underlying hu, run_size hs, Instr.fill, newRow, Array.range_zero']
 rw [hrun];exact hk σ' _ _ _ h3 (by rw [put_H]; exact h4) (keep_alloc _ _) rfl
theorem HvK.makeSlice {d : Option Tmp} {t e ty : TypeId} {l c : Operand} {pos : String} {af : Array Edge} {g : Option (Nat × Bool)} {kl kc : IntKind} {n m sz bytes : Nat} {z : Value} (hu : P.underlying t = some (.slice e))
 (hi : (P.info? e).map (fun i => (i.zero, i.size, i.bytes)) = some (some z, sz, bytes)) (hz1 : (z.cells.toList.all fun u => u.oneCell') = true) (hzs : z.cells.size = sz) (hsz : 0 < sz) (hl : ev s l = .v (.int kl (n : Int))) (hc : ev s c = .v (.int kc (m : Int))) (hnm : n ≤ m) (hb : bytes * m ≤ 281474976710656) (hm : m ≤ maxLen) :
 HvK P base ⟨d, .makeSlice t l c, ty, pos, af, g⟩ s (fun s' => s' = (s.push (.row e sz 0 (List.replicate n (z.cells.toList.map .v)))).put d (.own s.H.length 0 0 n)) := by
 intro σ a w hr Q K hk;obtain ⟨i, hi0, hz, hs, hby⟩ := info_parts hi;have hrun0 := run_make (P := P) w t e i z hu hi0 hz kl kc (n : Int) (m : Int) (by omega) (by omega) (by
  have h : ((i.bytes * m : Nat) : Int) ≤ 281474976710656 := by rw [hby]; omega
  rwa [Int.natCast_mul] at h) (by simp only [maxLen] at hm; omega)
 simp only [Int.toNat_natCast] at hrun0;have hcur : (madeCells z.cells (m * i.size)).size = m * sz := by rw [size_madeCells, hs]
 have hget : ∀ j, j < m * sz → (madeCells z.cells (m * i.size)).toList[j]? = some (z.cells[j % sz]!) := fun j hj => by
  rw [hs]; simp [madeCells, hj, hzs]
 have hnmz : n * sz ≤ m * sz := Nat.mul_le_mul_right _ hnm;have hrows : RowsR ⟨w, s.H, σ, base.F⟩ sz (List.replicate n (z.cells.toList.map .v)) ((madeCells z.cells (m * i.size)).toList.take (n * sz)) := by
  refine ⟨fun row hrow => ?_, ?_, fun x hx => ?_, fun k row j av hk hj => ?_⟩
  · obtain ⟨_, rfl⟩ := List.mem_replicate.1 hrow
    simp [hzs]
  · rw [List.length_take, Array.length_toList, hcur, List.length_replicate]; omega
  · have hx := List.mem_of_mem_take hx
    obtain ⟨j, hj⟩ := List.mem_iff_getElem?.1 hx;have hlt := (List.getElem?_eq_some_iff.1 hj).1;rw [Array.length_toList, hcur] at hlt;rw [hget j hlt] at hj;obtain rfl := Option.some.inj hj;refine List.all_eq_true.1 hz1 _ ?_;have := Nat.mod_lt j hsz;simp [hzs, this]
  · have hkn := (List.getElem?_eq_some_iff.1 hk).1
    simp only [List.length_replicate] at hkn;rw [List.getElem?_replicate, if_pos hkn] at hk;obtain rfl := Option.some.inj hk;have hjs := (List.getElem?_eq_some_iff.1 hj).1;simp only [List.length_map, Array.length_toList, hzs] at hjs;have hlt : k * sz + j < n * sz := by
     have := Nat.mul_le_mul_right sz (show k + 1 ≤ n by omega);rw [Nat.succ_mul] at this;omega
    refine ⟨_, by rw [List.getElem?_take, if_pos hlt]; exact hget _ (by omega), ?_⟩;rw [List.getElem?_map] at hj;have e1 : (k * sz + j) % sz = j := by rw [Nat.mul_comm, Nat.mul_add_mod, Nat.mod_eq_of_lt hjs]
    rw [e1];have : z.cells.toList[j]? = some z.cells[j]! := by simp [hzs, hjs]
    rw [this] at hj;obtain rfl := Option.some.inj hj;exact .v _
 obtain ⟨σ', h3, h4⟩ := new_row_cap (e := e) (cap := m) hr hrows hm (by simpa using hnm) hcur (by simp) d;rw [List.length_replicate] at h3;unfold Oper.wp;have hrun : (execOp a.eval ⟨d, .makeSlice t l c, ty, pos, af, g⟩).run P w = .ok (.value (.slice (some ⟨w.heap.size, 0, none⟩) n m)) (w.alloc (.cells (madeCells z.cells (m * i.size)) e)) := by
  simp only [execOp, Sem.run_bind, ev_v hr hl, ev_v hr hc, hrun0, Result.andThen_ok, Sem.run_pure]
 rw [hrun];exact hk σ' _ _ _ h3 (by rw [put_H]; exact h4) (keep_alloc _ _) rfl
end
def bys (l : List Int) : List (List AV) := l.map fun n => [AV.v (.int .u8 n)]
theorem bys_length (l : List Int) : (bys l).length = l.length := by simp [bys]
theorem bys_append (l l' : List Int) : bys (l ++ l') = bys l ++ bys l' := by simp [bys]
theorem RowsR_bys {E : Env} {l : List Int} {xs : List Value} (h : RowsR E 1 (bys l) xs) : xs = l.map (Value.int .u8) := by
 obtain ⟨_, h1, _, h2⟩ := h;rw [bys_length, Nat.mul_one] at h1;apply List.ext_getElem?;intro j;by_cases hj : j < l.length
 · obtain ⟨x, h3, h4⟩ := h2 j [.v (.int .u8 l[j])] 0 (.v (.int .u8 l[j])) (by simp [bys, hj]) rfl
   rw [Nat.mul_one, Nat.add_zero] at h3;cases h4;rw [h3]; simp [hj]
 · rw [List.getElem?_eq_none (by omega), List.getElem?_eq_none (by simp; omega)]
theorem run_loadCells_bytes {P : Program} {w : World} {ad : Addr} {xs : List Value} (h : ∀ (j : Nat) (u : Value), xs[j]? = some u → w.cell? (ad.add j) = some u) : (loadCells ad xs.length).run P w = .ok ⟨xs⟩ w := by
 have := run_loadCells_list (P := P) w ad xs h;simpa using this
section
variable {P : Program} {base : Cx} {s : St}
theorem cell_lt {w : World} {ad : Addr} {u : Value} (h : w.cell? ad = some u) : ad.block < w.heap.size := by
 unfold World.cell? at h
 cases hb : w.heap[ad.block]? with
 | none => rw [hb] at h; simp at h
 | some o => exact (Array.getElem?_eq_some_iff.1 hb).1
theorem Lt.toString {src dst e : TypeId} {x : Operand} {l : List Int} (hs : P.underlying src = some (.slice e)) (he : P.underlying e = some (.int .u8)) (hd : P.underlying dst = some .string) (hx : ∀ base, Src s base x 1 (bys l)) : Lt P (.convert src dst x) s (.v (.string (strOfNums l))) := fun d t pos af g base σ a w hr => by
 obtain ⟨A, c, xs, h1, h2, h3⟩ := hx base σ a w hr
 obtain rfl := RowsR_bys h2
 refine ⟨_, .v _, fun w' hk => ?_⟩
 rw [bys_length] at h1 h3
 have hrun : (convert src dst (.slice A l.length c)).run P w' = .ok (.string (strOfNums l)) w' := by
  cases A with
  | none =>
   have hl : l = [] := by
    rcases Nat.eq_zero_or_pos l.length with h | h
    · exact List.eq_nil_of_length_eq_zero h
    · obtain ⟨ad, h, _⟩ := h3 h; cases h
   subst hl;simp [convert, run_underlying hs, run_underlying hd, run_underlying he, Conv.bytesToString, strOfNums];rfl
  | some ad =>
   have hload : (loadCells ad l.length).run P w' = .ok (l.map (Value.int .u8)).toArray w' := by
    have := run_loadCells_bytes (P := P) (w := w') (ad := ad) (xs := l.map (Value.int .u8)) (fun j u hu => by
     have hlt := (List.getElem?_eq_some_iff.1 hu).1;simp only [List.length_map] at hlt;obtain ⟨ad', h, hc⟩ := h3 (by omega)
     injection h with h
     subst h;have := hc j u hu;rw [← this];exact hk.cell (by have := cell_lt this; rwa [block_add] at this ⊢))
    simpa [Function.comp_def] using this
   have hb := run_bytesToString w' ad l.length c _ hload;have e1 : ∀ (l : List Int) (b : ByteArray), l.foldl (fun r n => r.push (UInt8.ofNat n.toNat)) b = ⟨b.data ++ (l.map fun n => UInt8.ofNat n.toNat).toArray⟩ := by
    intro l
    induction l with
    | nil => intro b; simp
    | cons n l ih => intro b; rw [List.foldl_cons, ih]; simp [ByteArray.push]
   have e2 : l.foldl (fun r n => r.push (UInt8.ofNat n.toNat)) ByteArray.empty = strOfNums l := by rw [e1]; simp [strOfNums, ByteArray.empty, ByteArray.emptyWithCapacity]; rfl
   rw [e2] at hb;simp [convert, run_underlying hs, run_underlying hd, run_underlying he, hb]
 unfold execOp;simp only [h1, Sem.run_bind, hrun, Result.andThen_ok, Sem.run_pure]
theorem Src.own_at {x : Operand} {id ep off n sz : Nat} {e : TypeId} {rows : List (List AV)} (hx : ev s x = .own id ep off n) (hH : s.H[id]? = some (some (.row e sz ep rows))) : Src s base x sz ((rows.drop off).take n) := fun σ a w hr => by
 have h1 := ev_ok hr x
 rw [hx] at h1
 generalize hq : a.eval x = q at h1
 cases h1 with
 | own ho _ =>
  obtain ⟨_, h2⟩ := ho.2 _ _ _ _ hH
  obtain ⟨h3, A, c, A', h4, rfl, h5, h6⟩ := h2 rfl
  obtain ⟨xs, hown, hrows⟩ := hr.1.live id _ hH
  have hown : w.ownsRow base.b e sz (σ id) rows.length xs := hown
  have hlen : ((rows.drop off).take n).length = n := by rw [List.length_take, List.length_drop]; omega
  refine ⟨A', c - off, (xs.drop (off * sz)).take (n * sz), by rw [hlen], ⟨fun row hrow => hrows.1 row (List.mem_of_mem_drop (List.mem_of_mem_take hrow)), ?_, fun y hy => hrows.2.2.1 y (List.mem_of_mem_drop (List.mem_of_mem_take hy)), fun i row j av hi hj => ?_⟩, fun h0 => ?_⟩
  · have h7 : (off + n) * sz ≤ rows.length * sz := Nat.mul_le_mul_right _ h3
    rw [Nat.add_mul] at h7
    rw [hlen, List.length_take, List.length_drop, hrows.2.1]
    omega
  · rw [List.getElem?_take] at hi
    split at hi
    · rename_i hin
      rw [List.getElem?_drop] at hi
      obtain ⟨y, h7, h8⟩ := hrows.2.2.2 _ _ _ _ hi hj
      refine ⟨y, ?_, h8⟩
      have hj1 := (List.getElem?_eq_some_iff.1 hj).1
      rw [hrows.1 row (List.mem_of_getElem? hi)] at hj1
      have h9 : (i + 1) * sz ≤ n * sz := Nat.mul_le_mul_right _ hin
      rw [Nat.succ_mul] at h9
      rw [List.getElem?_take, if_pos (by omega), List.getElem?_drop, ← h7]
      congr 1
      rw [Nat.add_mul]; omega
    · cases hi
  · rw [hlen] at h0
    obtain ⟨ad, rfl⟩ : ∃ ad, A = some ad := by
     rcases hown.2 with ⟨_, h8⟩ | ⟨g, cap, cur, h7, _⟩
     · omega
     · have : Value.slice A rows.length c = .slice (some ⟨g, 0, none⟩) rows.length cap := h4.symm.trans h7
       injection this with h8
       exact ⟨_, h8⟩
    refine ⟨ad.add (off * sz), h5 (.inl h0), fun j u hu => ?_⟩
    rcases hown.2 with ⟨_, h8⟩ | ⟨g, cap, cur, h7, _⟩
    · omega
    · have h8 : Value.slice (some ad) rows.length c = .slice (some ⟨g, 0, none⟩) rows.length cap := h4.symm.trans h7
      injection h8 with h8 _ h9
      injection h8 with h8
      subst h8
      rw [add_add]
      rw [List.getElem?_take] at hu
      split at hu
      · rw [List.getElem?_drop] at hu
        exact hown.cells (g := g) (by show Value.ownBlock (σ id) = _; rw [show σ id = _ from h7]; rfl) _ _ hu
      · cases hu
end
section
variable {P : Program} {s : St}
theorem wanted_some {ops : Array Oper} {j t : Nat} {want b : Bool} (hd : (ops[j]?).bind (·.dst) = some t) (h : ev s (.tmp t) = .v (.bool b)) : wantedA ops s (some (j, want)) = some (b == want) := by
 simp only [wantedA, hd];have : s.fr[t]? = some (.v (.bool b)) := by
  simp only [ev, List.getD_eq_getElem?_getD] at h
  cases hq : s.fr[t]? with
  | none => rw [hq] at h; simp at h
  | some av => rw [hq] at h; simp at h; rw [h]
 rw [this]
theorem Pu.cmp {op : BinOp} {xt yt : TypeId} {x y : Operand} {k : IntKind} {p q : Int} {b : Bool} (hx : ev s x = .v (.int k p)) (hy : ev s y = .v (.int k q)) (h : (match op with | .eql => some (p == q) | .neq => some (p != q) | .lss => some (decide (p < q)) | .leq => some (decide (p ≤ q)) | .gtr => some (decide (p > q)) | .geq => some (decide (p ≥ q)) | _ => none) = some b) :
 Pu P (.binOp op xt x y yt) s (.v (.bool b)) := Pu.bin hx hy fun w => by
 cases op <;> simp at h <;> subst h <;> simp [eqGuard, binOp, Op.intCmp]
theorem Pu.eql {xt yt : TypeId} {x y : Operand} {k : IntKind} {p q : Int} (hx : ev s x = .v (.int k p)) (hy : ev s y = .v (.int k q)) : Pu P (.binOp .eql xt x y yt) s (.v (.bool (decide (p = q)))) := by
 have := Pu.cmp (P := P) (op := .eql) (xt := xt) (yt := yt) hx hy rfl;have e : (p == q) = decide (p = q) := by by_cases h : p = q <;> simp [h]
 rwa [e] at this
theorem Pu.neq {xt yt : TypeId} {x y : Operand} {k : IntKind} {p q : Int} (hx : ev s x = .v (.int k p)) (hy : ev s y = .v (.int k q)) : Pu P (.binOp .neq xt x y yt) s (.v (.bool (decide (p ≠ q)))) := by
 have := Pu.cmp (P := P) (op := .neq) (xt := xt) (yt := yt) hx hy rfl;have e : (p != q) = decide (p ≠ q) := by by_cases h : p = q <;> simp [h]
 rwa [e] at this
theorem Pu.lss {xt yt : TypeId} {x y : Operand} {k : IntKind} {p q : Int} (hx : ev s x = .v (.int k p)) (hy : ev s y = .v (.int k q)) : Pu P (.binOp .lss xt x y yt) s (.v (.bool (decide (p < q)))) := Pu.cmp hx hy rfl
theorem Pu.leq {xt yt : TypeId} {x y : Operand} {k : IntKind} {p q : Int} (hx : ev s x = .v (.int k p)) (hy : ev s y = .v (.int k q)) : Pu P (.binOp .leq xt x y yt) s (.v (.bool (decide (p ≤ q)))) := Pu.cmp hx hy rfl
theorem Pu.gtr {xt yt : TypeId} {x y : Operand} {k : IntKind} {p q : Int} (hx : ev s x = .v (.int k p)) (hy : ev s y = .v (.int k q)) : Pu P (.binOp .gtr xt x y yt) s (.v (.bool (decide (p > q)))) := Pu.cmp hx hy rfl
theorem Pu.geq {xt yt : TypeId} {x y : Operand} {k : IntKind} {p q : Int} (hx : ev s x = .v (.int k p)) (hy : ev s y = .v (.int k q)) : Pu P (.binOp .geq xt x y yt) s (.v (.bool (decide (p ≥ q)))) := Pu.cmp hx hy rfl
theorem Pu.add {xt yt : TypeId} {x y : Operand} {k : IntKind} {p q : Int} (hx : ev s x = .v (.int k p)) (hy : ev s y = .v (.int k q)) (h : k.wrap (p + q) = p + q) : Pu P (.binOp .add xt x y yt) s (.v (.int k (p + q))) :=
 Pu.bin hx hy fun w => by simp [eqGuard, binOp, Op.intArith, h]
theorem Pu.sub {xt yt : TypeId} {x y : Operand} {k : IntKind} {p q : Int} (hx : ev s x = .v (.int k p)) (hy : ev s y = .v (.int k q)) (h : k.wrap (p - q) = p - q) : Pu P (.binOp .sub xt x y yt) s (.v (.int k (p - q))) :=
 Pu.bin hx hy fun w => by simp [eqGuard, binOp, Op.intArith, h]
theorem Pu.mul {xt yt : TypeId} {x y : Operand} {k : IntKind} {p q : Int} (hx : ev s x = .v (.int k p)) (hy : ev s y = .v (.int k q)) (h : k.wrap (p * q) = p * q) : Pu P (.binOp .mul xt x y yt) s (.v (.int k (p * q))) :=
 Pu.bin hx hy fun w => by simp [eqGuard, binOp, Op.intArith, h]
theorem Pu.subW {xt yt : TypeId} {x y : Operand} {k : IntKind} {p q : Int} (hx : ev s x = .v (.int k p)) (hy : ev s y = .v (.int k q)) : Pu P (.binOp .sub xt x y yt) s (.v (.int k (k.wrap (p - q)))) :=
 Pu.bin hx hy fun w => by simp [eqGuard, binOp, Op.intArith]
theorem Pu.quo {xt yt : TypeId} {x y : Operand} {k : IntKind} {p q : Int} (hx : ev s x = .v (.int k p)) (hy : ev s y = .v (.int k q)) (h0 : 0 ≤ p) (h1 : 0 < q) (h : k.wrap (p / q) = p / q) : Pu P (.binOp .quo xt x y yt) s (.v (.int k (p / q))) :=
 Pu.bin hx hy fun w => by simp [eqGuard, binOp, Op.intDiv, show ¬ q = 0 by omega, Int.tdiv_eq_ediv_of_nonneg h0, h]
theorem Pu.rem {xt yt : TypeId} {x y : Operand} {k : IntKind} {p q : Int} (hx : ev s x = .v (.int k p)) (hy : ev s y = .v (.int k q)) (h0 : 0 ≤ p) (h1 : 0 < q) : Pu P (.binOp .rem xt x y yt) s (.v (.int k (p % q))) :=
 Pu.bin hx hy fun w => by simp [eqGuard, binOp, Op.intDiv, show ¬ q = 0 by omega, Int.tmod_eq_emod_of_nonneg h0]
theorem Pu.shr {xt yt : TypeId} {x y : Operand} {k k' : IntKind} {p q : Int} (hx : ev s x = .v (.int k p)) (hy : ev s y = .v (.int k' q)) (h0 : 0 ≤ q) (h1 : q ≤ k.bits) : Pu P (.binOp .shr xt x y yt) s (.v (.int k (p / 2 ^ q.toNat))) :=
 Pu.bin hx hy fun w => by
  have : ¬ q < 0 := by omega
  have e : min q.toNat k.bits = q.toNat := by omega
  simp [eqGuard, binOp, Op.shift, this, e, Int.fdiv_eq_ediv_of_nonneg _ (Int.le_of_lt (Int.pow_pos (show (0 : Int) < 2 by decide)))]
theorem Pu.and_ {xt yt : TypeId} {x y : Operand} {k : IntKind} {p q : Int} (hx : ev s x = .v (.int k p)) (hy : ev s y = .v (.int k q)) : Pu P (.binOp .and xt x y yt) s (.v (.int k (k.wrap (BitVec.ofInt k.bits p &&& BitVec.ofInt k.bits q).toNat))) :=
 Pu.bin hx hy fun w => by simp [eqGuard, binOp, Op.intBits]
theorem Pu.convI {src dst : TypeId} {x : Operand} {k k' : IntKind} {p : Int} (hd : P.underlying dst = some (.int k')) (hs : (P.underlying src).isSome = true) (hx : ev s x = .v (.int k p)) : Pu P (.convert src dst x) s (.v (.int k' (k'.wrap p))) :=
 Pu.conv hx fun w => by
  obtain ⟨d, hd'⟩ := Option.isSome_iff_exists.1 hs
  simp only [Go.convert, run_underlying hd', run_underlying hd, Sem.run_bind, Result.andThen_ok]
  cases d <;> simp [Conv.intToInt]
theorem Pu.convI' {src dst : TypeId} {x : Operand} {k k' : IntKind} {p : Int} (hd : P.underlying dst = some (.int k')) (hs : (P.underlying src).isSome = true) (hx : ev s x = .v (.int k p)) (h : k'.wrap p = p) : Pu P (.convert src dst x) s (.v (.int k' p)) := by
 have := Pu.convI hd hs hx;rwa [h] at this
theorem Pu.not {xt : TypeId} {x : Operand} {b : Bool} (hx : ev s x = .v (.bool b)) : Pu P (.unOp .not xt x) s (.v (.bool (!b))) :=
 Pu.un hx fun w => by simp [Op.unary]
end
class TU (P : Program) (t : TypeId) (d : outParam TypeDesc) : Prop where
 h : P.underlying t = some d
class TI (P : Program) (t : TypeId) (z : outParam Value) (sz bytes : outParam Nat) : Prop where
 h : (P.info? t).map (fun i => (i.zero, i.size, i.bytes)) = some (some z, sz, bytes)
class TG (P : Program) (t : TypeId) (g : outParam Bool) (sz : outParam Nat) : Prop where
 g : aggB P t = some g
 s : (P.info? t).map (·.size) = some sz
class TF (P : Program) (t f : Nat) (off sz : outParam Nat) (g : outParam Bool) : Prop where
 h : ∃ (fs : Array Field) (fl : Field), P.underlying t = some (.struct fs) ∧ fs[f]? = some fl ∧ fl.offset = off ∧ (P.info? fl.type).map (·.size) = some sz ∧ sz ≠ 0 ∧ aggB P fl.type = some g
theorem TI.z2 {P : Program} {t : TypeId} {z : Value} {sz bytes : Nat} [h : TI P t z sz bytes] : (P.info? t).map (fun i => (i.zero, i.size)) = some (some z, sz) := by
 have := h.h
 cases hi : P.info? t with
 | none => rw [hi] at this; simp at this
 | some i => rw [hi] at this; simp at this ⊢; exact ⟨this.1, this.2.1⟩
theorem TI.zero {P : Program} {t : TypeId} {z : Value} {sz bytes : Nat} [h : TI P t z sz bytes] : (P.info? t).bind (·.zero) = some z := by
 have := h.h
 cases hi : P.info? t with
 | none => rw [hi] at this; simp at this
 | some i => rw [hi] at this; simp at this ⊢; exact this.1
theorem TU.s {P : Program} {t : TypeId} {d : TypeDesc} [h : TU P t d] : (P.underlying t).isSome = true := by rw [h.h]; rfl
def SQ (P : Program) (base : Cx) (d : Code) (Q : Exit → St → Prop) : Exit → St → Prop := fun e s' => match e with | .normal => AW P base d s' Q | e => Q e s'
def BQ (id : Nat) (Q : Exit → St → Prop) : Exit → St → Prop := fun e s' => match e with | .exit id' => if id' = id then Q .normal s' else Q (.exit id') s' | e => Q e s'
def LQ (I : Nat → St → Prop) (n : Nat) (Q : Exit → St → Prop) : Exit → St → Prop := fun e s'' => match e with | .normal => ∃ m, m < n ∧ I m s'' | e => Q e s''
section
variable {P : Program} {base : Cx} {s : St} {Q : Exit → St → Prop} {d : Code}
theorem AW.seq' {c : Code} (h : AW P base c s (SQ P base d Q)) : AW P base (.seq c d) s Q := AW.seq h
theorem AW.block' {id : Nat} {c : Code} (h : AW P base c s (BQ id Q)) : AW P base (.block id c) s Q := AW.block h
theorem AW.loop' {c : Code} (I : Nat → St → Prop) (n₀ : Nat) (h₀ : I n₀ s) (round : ∀ n s', I n s' → AW P base c s' (LQ I n Q)) : AW P base (.loop c) s Q := AW.loop I n₀ h₀ round
theorem SQ.normal (h : AW P base d s Q) : SQ P base d Q .normal s := h
theorem SQ.ret (h : Q .ret s) : SQ P base d Q .ret s := h
theorem SQ.exit {i : Nat} (h : Q (.exit i) s) : SQ P base d Q (.exit i) s := h
theorem BQ.normal {id : Nat} (h : Q .normal s) : BQ id Q .normal s := h
theorem BQ.ret {id : Nat} (h : Q .ret s) : BQ id Q .ret s := h
theorem BQ.exit {id : Nat} (h : Q .normal s) : BQ id Q (.exit id) s := by unfold BQ; simpa using h
theorem BQ.exit' {id i : Nat} (hi : (i == id) = false) (h : Q (.exit i) s) : BQ id Q (.exit i) s := by
 have hi : i ≠ id := by simpa using hi
 unfold BQ; simpa [hi] using h
theorem LQ.normal {I : Nat → St → Prop} {n : Nat} (m : Nat) (hm : m < n) (h : I m s) : LQ I n Q .normal s := ⟨m, hm, h⟩
theorem LQ.exit {I : Nat → St → Prop} {n i : Nat} (h : Q (.exit i) s) : LQ I n Q (.exit i) s := h
end
def Hn (n : Nat) (L : List (Option AB)) : List (Option AB) := List.replicate n none ++ L
theorem Hn_get {n k : Nat} {L : List (Option AB)} : (Hn n L)[n + k]? = L[k]? := by
 unfold Hn; rw [List.getElem?_append_right (by simp)]; simp
theorem Hn_set {n k : Nat} {L : List (Option AB)} {b : Option AB} : (Hn n L).set (n + k) b = Hn n (L.set k b) := by
 unfold Hn; rw [List.set_append_right _ _ (by simp)]; simp
theorem Hn_push {n : Nat} {L : List (Option AB)} {b : Option AB} : Hn n L ++ [b] = Hn n (L ++ [b]) := by unfold Hn; rw [List.append_assoc]
theorem Hn_len {n : Nat} {L : List (Option AB)} : (Hn n L).length = n + L.length := by unfold Hn; simp
section
variable {P : Program} {base : Cx} {s : St}
theorem getN {n k : Nat} {L : List (Option AB)} {b : AB} (hH : s.H = Hn n L) (h : L[k]? = some (some b)) : s.H[n + k]? = some (some b) := by rw [hH, Hn_get]; exact h
def St.wH (s : St) (H : List (Option AB)) : St := ⟨s.fr, H⟩
theorem push_eq {n k : Nat} {L L' : List (Option AB)} {b : AB} (hH : s.H = Hn n L) (hk : L.length = k) (hL : L ++ [some b] = L') : (s.push b) = ⟨s.fr, Hn n L'⟩ ∧ s.H.length = n + k := by
 unfold St.push;rw [hH, Hn_push, hL, Hn_len, hk];exact ⟨rfl, rfl⟩
theorem set_eq {n k : Nat} {L L' : List (Option AB)} {b : AB} (hH : s.H = Hn n L) (hL : L.set k (some b) = L') : (⟨s.fr, s.H.set (n + k) (some b)⟩ : St) = ⟨s.fr, Hn n L'⟩ := by rw [hH, Hn_set, hL]
variable {d : Option Tmp} {t t' e ty : TypeId} {x y : Operand} {pos : String} {af : Array Edge} {g : Option (Nat × Bool)} {n k : Nat} {L L' : List (Option AB)}
theorem HvK.buildN {len sz bytes : Nat} {parts : Array (Nat × Operand)} {z : Value} {cs : List AV} {rows : List (List AV)} [TU P t (.slice e)] [TI P e z sz bytes] (hH : s.H = Hn n L) (hk : L.length = k)
 (hz : (z.cells.toList.all (fun u => u.oneCell') && (z.cells.size == sz) && Nat.blt 0 sz && Nat.blt 0 len && Nat.ble (len * sz) 16777216) = true) (h : fillA (fun i => some (i * sz, sz)) (ev s) (zerosA z (len * sz)) parts.toList = some cs) (hr : rowsOf len sz cs = rows) (hL : L ++ [some (.row e sz 0 rows)] = L') :
 HvK P base ⟨d, .buildSlice t len parts, ty, pos, af, g⟩ s (fun s' => s' = (s.wH (Hn n L')).put d (.own (n + k) 0 0 len)) := by
 simp only [Bool.and_eq_true, beq_iff_eq] at hz;obtain ⟨⟨⟨⟨h1, h2⟩, h3⟩, h4⟩, h5⟩ := hz;have h3 := Nat.blt_eq.mp h3;have h4 := Nat.blt_eq.mp h4;have h5 := Nat.le_of_ble_eq_true h5;subst hr;obtain ⟨h6, h7⟩ := push_eq hH hk hL;have := HvK.buildSlice (P := P) (base := base) (d := d) (t := t) (e := e) (ty := ty) (pos := pos) (af := af) (g := g) TU.h TI.z2 h1 h2 h3 h4 h5 h;rwa [h6, h7] at this
theorem HvK.build0N {sz bytes : Nat} {z : Value} [TU P t (.slice e)] [TI P e z sz bytes] (hH : s.H = Hn n L) (hk : L.length = k) (hL : L ++ [some (.row e sz 0 [])] = L') :
 HvK P base ⟨d, .buildSlice t 0 #[], ty, pos, af, g⟩ s (fun s' => s' = (s.wH (Hn n L')).put d (.own (n + k) 0 0 0)) := by
 obtain ⟨h6, h7⟩ := push_eq hH hk hL;obtain ⟨i, h1, _, h2⟩ := info_two (P := P) (e := e) TI.z2;have := HvK.buildSlice0 (P := P) (base := base) (s := s) (d := d) (t := t) (e := e) (sz := sz) (ty := ty) (pos := pos) (af := af) (g := g) TU.h (by rw [h1]; simp [h2]);rwa [h6, h7] at this
theorem HvK.makeN {kl kc : IntKind} {m cap sz bytes : Nat} {z : Value} [TU P t (.slice e)] [TI P e z sz bytes] (hH : s.H = Hn n L) (hk : L.length = k)
 (hz : (z.cells.toList.all (fun u => u.oneCell') && (z.cells.size == sz) && Nat.blt 0 sz) = true) (hl : ev s x = .v (.int kl (m : Int))) (hc : ev s y = .v (.int kc (cap : Int))) (hmc : m ≤ cap) (hb : bytes * cap ≤ 281474976710656) (hm : cap ≤ 9223372036854775807) (hL : L ++ [some (.row e sz 0 (List.replicate m (z.cells.toList.map .v)))] = L') :
 HvK P base ⟨d, .makeSlice t x y, ty, pos, af, g⟩ s (fun s' => s' = (s.wH (Hn n L')).put d (.own (n + k) 0 0 m)) := by
 simp only [Bool.and_eq_true, beq_iff_eq] at hz;obtain ⟨⟨h1, h2⟩, h3⟩ := hz;have h3 := Nat.blt_eq.mp h3;obtain ⟨h6, h7⟩ := push_eq hH hk hL;have := HvK.makeSlice (P := P) (base := base) (d := d) (ty := ty) (pos := pos) (af := af) (g := g) (t := t) (e := e) TU.h TI.h h1 h2 h3 hl hc hmc hb (by unfold maxLen; omega);rwa [h6, h7] at this
theorem HvK.boxN {cs : List AV} (hH : s.H = Hn n L) (hk : L.length = k) (h : partsOf (ev s x) = some cs) (hL : L ++ [some (.box t cs)] = L') :
 HvK P base ⟨d, .box t x, ty, pos, af, g⟩ s (fun s' => s' = (s.wH (Hn n L')).put d (.box (n + k) 0)) := by
 obtain ⟨h6, h7⟩ := push_eq hH hk hL;have := HvK.box (P := P) (base := base) (d := d) (ty := ty) (t := t) (pos := pos) (af := af) (g := g) h;rwa [h6, h7] at this
theorem HvK.allocN {z : Value} {us : List Value} {sz bytes : Nat} [TI P t z sz bytes] (hH : s.H = Hn n L) (hk : L.length = k) (hu : z.cells = ⟨us⟩) (h1 : (us.all fun u => u.oneCell') = true) (hL : L ++ [some (.box t (us.map .v))] = L') :
 HvK P base ⟨d, .alloc t, ty, pos, af, g⟩ s (fun s' => s' = (s.wH (Hn n L')).put d (.box (n + k) 0)) := by
 obtain ⟨h6, h7⟩ := push_eq hH hk hL;have := HvK.alloc (P := P) (base := base) (s := s) (d := d) (ty := ty) (t := t) (pos := pos) (af := af) (g := g) TI.zero hu h1;rwa [h6, h7] at this
theorem Hv.storeN {off : Nat} {bt : TypeId} {cs ps : List AV} {gg : Bool} {sz : Nat} [TG P t gg sz] (hH : s.H = Hn n L) (hp : ev s x = .box (n + k) off) (hL0 : L[k]? = some (some (.box bt cs))) (hx : partsOf (ev s y) = some ps) (hs : ps.length = sz) (hl : off + ps.length ≤ cs.length) (hL : L.set k (some (.box bt (layAt cs off ps))) = L') :
 Hv P base ⟨none, .store t x y, ty, pos, af, g⟩ s (fun s' => s' = s.wH (Hn n L')) := by
 have := Hv.store_box (P := P) (base := base) (ty := ty) (t := t) (pos := pos) (af := af) (gd := g) hp (getN hH hL0) hx (by rw [hs]; exact TG.s (g := gg)) hl;rwa [set_eq hH hL] at this
theorem Hv.storeRN {ep i off sz sz' : Nat} {rows : List (List AV)} {row ps : List AV} {gg : Bool} [TG P t gg sz'] (hH : s.H = Hn n L) (hp : ev s x = .optr (n + k) ep i off) (hL0 : L[k]? = some (some (.row e sz ep rows))) (hi : rows[i]? = some row) (hx : partsOf (ev s y) = some ps) (hs : ps.length = sz') (hl : off + ps.length ≤ sz)
 (hL : L.set k (some (.row e sz ep (rows.set i (layAt row off ps)))) = L') :
 Hv P base ⟨none, .store t x y, ty, pos, af, g⟩ s (fun s' => s' = s.wH (Hn n L')) := by
 have := Hv.store_row (P := P) (base := base) (ty := ty) (t := t) (pos := pos) (af := af) (gd := g) hp (getN hH hL0) hi hx (by rw [hs]; exact TG.s (g := gg)) hl;rwa [set_eq hH hL] at this
theorem Hv.appendN {ep m sz bytes : Nat} {z : Value} {rows rows2 : List (List AV)} [TU P t (.slice e)] [TI P e z sz bytes] (hH : s.H = Hn n L) (hx : ev s x = .own (n + k) ep 0 m) (hL0 : L[k]? = some (some (.row e sz ep rows))) (hm : rows.length = m)
 (hz : ((z.cells.size == sz) && Nat.blt 0 sz) = true) (hy : Src s base y sz rows2) (hb : (m + rows2.length) * bytes ≤ 140737488355328) (hm' : m + rows2.length ≤ 9223372036854775807) (hL : L.set k (some (.row e sz (ep + 1) (rows ++ rows2))) = L') :
 Hv P base ⟨d, .call { callee := .builtin .append, args := #[x, y], argTypes := #[t, t] }, ty, pos, af, g⟩ s (fun s' => s' = (s.wH (Hn n L')).put d (.own (n + k) (ep + 1) 0 (m + rows2.length))) := by
 simp only [Bool.and_eq_true, beq_iff_eq] at hz;subst hm;have := Hv.append (P := P) (base := base) (d := d) (ty := ty) (pos := pos) (af := af) (gd := g) (t := t) (e := e) (bytes := bytes) TU.h TI.h hz.1 (Nat.blt_eq.mp hz.2) hx (getN hH hL0) hy hb (by unfold maxLen; omega);rwa [set_eq hH hL, List.length_append] at this
theorem Pu.fieldE {f off sz : Nat} {gg : Bool} {cs : List AV} [h : TF P t f off sz gg] (hx : ev s x = .eptr cs) : Pu P (.fieldAddr t x f) s (.eptr (cs.drop off)) := by
 obtain ⟨fs, fl, h1, h2, rfl, h3, h4, h5⟩ := h.h;exact Pu.field_eptr h1 h2 h3 h4 hx
theorem Pu.fieldB {f off off' sz : Nat} {gg : Bool} {bt : TypeId} {cs : List AV} [h : TF P t f off sz gg] (hH : s.H = Hn n L) (hx : ev s x = .box (n + k) off') (hL0 : L[k]? = some (some (.box bt cs))) : Pu P (.fieldAddr t x f) s (.box (n + k) (off' + off)) := by
 obtain ⟨fs, fl, h1, h2, rfl, h3, h4, h5⟩ := h.h;exact Pu.field_box h1 h2 h3 h4 hx (getN hH hL0)
theorem Pu.fieldO {f off off' sz ep i sz' : Nat} {gg : Bool} {rows : List (List AV)} [h : TF P t f off sz gg] (hH : s.H = Hn n L) (hx : ev s x = .optr (n + k) ep i off') (hL0 : L[k]? = some (some (.row e sz' ep rows))) : Pu P (.fieldAddr t x f) s (.optr (n + k) ep i (off' + off)) := by
 obtain ⟨fs, fl, h1, h2, rfl, h3, h4, h5⟩ := h.h;exact Pu.field_optr h1 h2 h3 h4 hx (getN hH hL0)
theorem Lt.loadE1 {sz : Nat} {cs : List AV} {av : AV} [TG P t false sz] (hx : ev s x = .eptr cs) (h : cs[0]? = some av) : Lt P (.load t x) s av :=
 Lt.load1 (TG.g (sz := sz)) (fun base => Finds.eptr hx (List.getElem?_eq_some_iff.1 h).1) h
theorem Lt.loadEN {sz : Nat} {cs cs' : List AV} [TG P t true sz] (hx : ev s x = .eptr cs) (h0 : 0 < cs.length) (h : sz ≤ cs.length) (hc : cs.take sz = cs') : Lt P (.load t x) s (.agg cs') := by
 subst hc;exact Lt.loadN (TG.g (sz := sz)) (TG.s (g := true)) (fun base => Finds.eptr hx h0) h
theorem Lt.loadB1 {sz off : Nat} {bt : TypeId} {cs : List AV} {av : AV} [TG P t false sz] (hH : s.H = Hn n L) (hx : ev s x = .box (n + k) off) (hL0 : L[k]? = some (some (.box bt cs))) (h : cs[off]? = some av) : Lt P (.load t x) s av :=
 Lt.load1 (TG.g (sz := sz)) (fun base => Finds.box hx (getN hH hL0)) (by rw [List.getElem?_drop]; exact h)
theorem Lt.loadBN {sz off : Nat} {bt : TypeId} {cs cs' : List AV} [TG P t true sz] (hH : s.H = Hn n L) (hx : ev s x = .box (n + k) off) (hL0 : L[k]? = some (some (.box bt cs))) (h : off + sz ≤ cs.length) (hc : (cs.drop off).take sz = cs') : Lt P (.load t x) s (.agg cs') := by
 subst hc;exact Lt.loadN (TG.g (sz := sz)) (TG.s (g := true)) (fun base => Finds.box hx (getN hH hL0)) (by rw [List.length_drop]; omega)
theorem Lt.loadO1 {sz off ep i sz' : Nat} {rows : List (List AV)} {row : List AV} {av : AV} [TG P t false sz] (hH : s.H = Hn n L) (hx : ev s x = .optr (n + k) ep i off) (hL0 : L[k]? = some (some (.row e sz' ep rows))) (hr : rows[i]? = some row) (h : row[off]? = some av) : Lt P (.load t x) s av :=
 Lt.load1 (TG.g (sz := sz)) (fun base => Finds.optr hx (getN hH hL0) hr (List.getElem?_eq_some_iff.1 h).1) (by rw [List.getElem?_drop]; exact h)
theorem Lt.loadON {sz off ep i sz' : Nat} {rows : List (List AV)} {row cs' : List AV} [TG P t true sz] (hH : s.H = Hn n L) (hx : ev s x = .optr (n + k) ep i off) (hL0 : L[k]? = some (some (.row e sz' ep rows))) (hr : rows[i]? = some row) (ho : off < row.length) (h : off + sz ≤ row.length) (hc : (row.drop off).take sz = cs') : Lt P (.load t x) s (.agg cs') := by
 subst hc;exact Lt.loadN (TG.g (sz := sz)) (TG.s (g := true)) (fun base => Finds.optr hx (getN hH hL0) hr ho) (by rw [List.length_drop]; omega)
end
section
class GL (l : List AV) (t : Nat) (v : outParam AV) : Prop where
 h : l[t]? = some v
instance {a : AV} {l : List AV} : GL (a :: l) 0 a := ⟨rfl⟩
instance {a v : AV} {l : List AV} {n : Nat} [h : GL l n v] : GL (a :: l) (n + 1) v := ⟨by rw [List.getElem?_cons_succ]; exact h.h⟩
instance (priority := high) {a0 a1 a2 a3 a4 a5 a6 a7 v : AV} {l : List AV} {n : Nat} [h : GL l n v] : GL (a0 :: a1 :: a2 :: a3 :: a4 :: a5 :: a6 :: a7 :: l) (n + 8) v := ⟨by have := h.h; simpa using this⟩
class SL (l : List AV) (t : Nat) (v : AV) (l' : outParam (List AV)) : Prop where
 h : l.set t v = l'
instance {a v : AV} {l : List AV} : SL (a :: l) 0 v (v :: l) := ⟨rfl⟩
instance {a v : AV} {l l' : List AV} {n : Nat} [h : SL l n v l'] : SL (a :: l) (n + 1) v (a :: l') := ⟨by rw [List.set_cons_succ, h.h]⟩
instance (priority := high) {a0 a1 a2 a3 a4 a5 a6 a7 v : AV} {l l' : List AV} {n : Nat} [h : SL l n v l'] : SL (a0 :: a1 :: a2 :: a3 :: a4 :: a5 :: a6 :: a7 :: l) (n + 8) v (a0 :: a1 :: a2 :: a3 :: a4 :: a5 :: a6 :: a7 :: l') := ⟨by have := h.h; simp [List.set_cons_succ, this]⟩
class DL (l : List AV) (d : Option Tmp) (v : AV) (l' : outParam (List AV)) : Prop where
 h : ∀ H, St.put ⟨l, H⟩ d v = ⟨l', H⟩
instance {v : AV} {l l' : List AV} {t : Tmp} [h : SL l t v l'] : DL l (some t) v l' := ⟨fun H => by show (⟨l.set t v, H⟩ : St) = _; rw [h.h]⟩
def cv (c : Bool) (av : AV) : AV := if c = true then av else .v undef
class EC (c : Bool) (l : List AV) (x : Operand) (v : outParam AV) : Prop where
 h : c = true → ∀ H, ev ⟨l, H⟩ x = v
instance {c : Bool} {l : List AV} {v : Value} : EC c l (.const v) (.v v) := ⟨fun _ _ => rfl⟩
instance {c : Bool} {l : List AV} {f : FuncId} : EC c l (.func f) (.v (.func (.func f) #[] #[])) := ⟨fun _ _ => rfl⟩
theorem GL.ev {l : List AV} {t : Nat} {v : AV} [h : GL l t v] (H : List (Option AB)) : Go.Proofs.YtkbbcenjklaglaaGreat.AL.ev ⟨l, H⟩ (.tmp t) = v := by
 show l.getD t .any = v
 rw [List.getD_eq_getElem?_getD, h.h]; rfl
instance (priority := low) {c : Bool} {l : List AV} {t : Tmp} {v : AV} [h : GL l t v] : EC c l (.tmp t) v := ⟨fun _ H => h.ev H⟩
instance {c : Bool} {l : List AV} {t : Tmp} {v : AV} [h : GL l t (cv c v)] : EC c l (.tmp t) v := ⟨fun hc H => by rw [h.ev H, hc]; rfl⟩
class GB (L : List (Option AB)) (k : Nat) (b : outParam AB) : Prop where
 h : L[k]? = some (some b)
instance {a : AB} {l : List (Option AB)} : GB (some a :: l) 0 a := ⟨rfl⟩
instance {a : Option AB} {b : AB} {l : List (Option AB)} {n : Nat} [h : GB l n b] : GB (a :: l) (n + 1) b := ⟨by rw [List.getElem?_cons_succ]; exact h.h⟩
class SB (L : List (Option AB)) (k : Nat) (b : Option AB) (L' : outParam (List (Option AB))) : Prop where
 h : L.set k b = L'
instance {a b : Option AB} {l : List (Option AB)} : SB (a :: l) 0 b (b :: l) := ⟨rfl⟩
instance {a b : Option AB} {l l' : List (Option AB)} {n : Nat} [h : SB l n b l'] : SB (a :: l) (n + 1) b (a :: l') := ⟨by rw [List.set_cons_succ, h.h]⟩
class PB (L : List (Option AB)) (b : Option AB) (k : outParam Nat) (L' : outParam (List (Option AB))) : Prop where
 h : L ++ [b] = L'
 k : L.length = k
instance {b : Option AB} : PB [] b 0 [b] := ⟨rfl, rfl⟩
instance {a b : Option AB} {l l' : List (Option AB)} {n : Nat} [h : PB l b n l'] : PB (a :: l) b (n + 1) (a :: l') := ⟨by rw [List.cons_append, h.h], by rw [List.length_cons, h.k]⟩
class DR (l : List AV) (n : Nat) (l' : outParam (List AV)) : Prop where
 h : l.drop n = l'
 len : n ≤ l.length
instance {l : List AV} : DR l 0 l := ⟨rfl, Nat.zero_le _⟩
instance {a : AV} {l l' : List AV} {n : Nat} [h : DR l n l'] : DR (a :: l) (n + 1) l' := ⟨by rw [List.drop_succ_cons, h.h], by have := h.len; simp; omega⟩
class TK (l : List AV) (n : Nat) (l' : outParam (List AV)) : Prop where
 h : l.take n = l'
 len : n ≤ l.length
instance {l : List AV} : TK l 0 [] := ⟨rfl, Nat.zero_le _⟩
instance {a : AV} {l l' : List AV} {n : Nat} [h : TK l n l'] : TK (a :: l) (n + 1) (a :: l') := ⟨by rw [List.take_succ_cons, h.h], by have := h.len; simp; omega⟩
end
class PC (c : Bool) (P : Program) (o : Op) (l : List AV) (H : List (Option AB)) (av : outParam AV) : Prop where
 h : c = true → Pu P o ⟨l, H⟩ av
class LC (c : Bool) (P : Program) (o : Op) (l : List AV) (H : List (Option AB)) (av : outParam AV) : Prop where
 h : c = true → Lt P o ⟨l, H⟩ av
section
variable {c : Bool} {P : Program} {l : List AV} {H : List (Option AB)} {x y z : Operand} {av : AV}
instance [h : EC c l x av] : PC c P (.move x) l H av := ⟨fun hc => Pu.move (h.h hc H)⟩
instance [h : EC c l x av] : PC c P (.assign x) l H av := ⟨fun hc => Pu.assign (h.h hc H)⟩
variable {k : IntKind} {p q : Int} {t t' t'' : TypeId} {b b' : Bool}
instance [h : EC c l x (.v (.int k p))] [h' : EC c l y (.v (.int k q))] : PC c P (.binOp .eql t x y t') l H (.v (.bool (decide (p = q)))) := ⟨fun hc => Pu.eql (h.h hc H) (h'.h hc H)⟩
instance [h : EC c l x (.v (.int k p))] [h' : EC c l y (.v (.int k q))] : PC c P (.binOp .neq t x y t') l H (.v (.bool (decide (p ≠ q)))) := ⟨fun hc => Pu.neq (h.h hc H) (h'.h hc H)⟩
instance [h : EC c l x (.v (.int k p))] [h' : EC c l y (.v (.int k q))] : PC c P (.binOp .lss t x y t') l H (.v (.bool (decide (p < q)))) := ⟨fun hc => Pu.lss (h.h hc H) (h'.h hc H)⟩
instance [h : EC c l x (.v (.int k p))] [h' : EC c l y (.v (.int k q))] : PC c P (.binOp .leq t x y t') l H (.v (.bool (decide (p ≤ q)))) := ⟨fun hc => Pu.leq (h.h hc H) (h'.h hc H)⟩
instance [h : EC c l x (.v (.int k p))] [h' : EC c l y (.v (.int k q))] : PC c P (.binOp .gtr t x y t') l H (.v (.bool (decide (p > q)))) := ⟨fun hc => Pu.gtr (h.h hc H) (h'.h hc H)⟩
instance [h : EC c l x (.v (.int k p))] [h' : EC c l y (.v (.int k q))] : PC c P (.binOp .geq t x y t') l H (.v (.bool (decide (p ≥ q)))) := ⟨fun hc => Pu.geq (h.h hc H) (h'.h hc H)⟩
instance [h : EC c l x (.v (.bool b))] : PC c P (.unOp .not t x) l H (.v (.bool (!b))) := ⟨fun hc => Pu.not (h.h hc H)⟩
instance and2i [h : EC c l x (.v (.bool b))] [h' : EC c l y (cv b (.v (.bool b')))] : PC c P (.pick x y (.const (.bool false))) l H (.v (.bool (b && b'))) := ⟨fun hc => by
 refine Pu.pick (h.h hc H) ?_
 have := h'.h hc H
 cases b
 · rfl
 · rw [if_pos rfl, this]; rfl⟩
instance or2i [h : EC c l x (.v (.bool b))] [h' : EC c l y (cv (!b) (.v (.bool b')))] : PC c P (.pick x (.const (.bool true)) y) l H (.v (.bool (b || b'))) := ⟨fun hc => by
 refine Pu.pick (h.h hc H) ?_
 have := h'.h hc H
 cases b
 · rw [if_neg (by decide), this]; rfl
 · rfl⟩
variable {sz : Nat} {rows : List (List AV)} {e : TypeId} {id ep off m : Nat} {s : ByteArray}
instance [ht : TU P t (.slice e)] [h : EC c l x (.own id ep off m)] : PC c P (.call { callee := .builtin .len, args := #[x], argTypes := #[t] }) l H (.v (.int .i64 m)) := ⟨fun hc => Pu.len_own ht.h (h.h hc H)⟩
instance [ht : TU P t .string] [h : EC c l x (.v (.string s))] : PC c P (.call { callee := .builtin .len, args := #[x], argTypes := #[t] }) l H (.v (.int .i64 s.size)) := ⟨fun hc => Pu.len_str ht.h (h.h hc H)⟩
variable {vs cs cs' : List AV} {i f : Nat} {g : Bool} {n : Nat} {L : List (Option AB)} {bt : TypeId} {off' sz' kk : Nat}
instance [h : EC c l x (.tup vs)] [h' : GL vs i av] : PC c P (.extract x i) l H av := ⟨fun hc => Pu.extract (h.h hc H) h'.h⟩
instance [hf : TF P t f off sz g] [h : EC c l x (.eptr cs)] [hd : DR cs off cs'] : PC c P (.fieldAddr t x f) l H (.eptr cs') := ⟨fun hc => by have := Pu.fieldE (h := hf) (h.h hc H); rwa [hd.h] at this⟩
instance [hf : TF P t f off sz g] [h : EC c l x (.box (n + kk) off')] [hb : GB L kk (.box bt cs)] : PC c P (.fieldAddr t x f) l (Hn n L) (.box (n + kk) (off' + off)) := ⟨fun hc => Pu.fieldB rfl (h.h hc _) hb.h⟩
instance [h : EC c l x (.box id off)] : PC c P (.nilCheck x) l H (.box id off) := ⟨fun hc => Pu.nilCheck (h.h hc H) fun _ _ _ _ hr => ptr_box (h.h hc H) hr⟩
instance (priority := low) {o : Op} [h : PC c P o l H av] : LC c P o l H av := ⟨fun hc => (h.h hc).lt⟩
instance [tg : TG P t false sz] [h : EC c l x (.eptr (av :: cs))] : LC c P (.load t x) l H av := ⟨fun hc => Lt.loadE1 (sz := sz) (h.h hc H) rfl⟩
instance [tg : TG P t true sz] [h : EC c l x (.eptr (av :: cs))] [tk : TK (av :: cs) sz cs'] : LC c P (.load t x) l H (.agg cs') := ⟨fun hc => Lt.loadEN (sz := sz) (h.h hc H) (by simp) tk.len tk.h⟩
instance [tg : TG P t false sz] [h : EC c l x (.box (n + kk) off)] [hb : GB L kk (.box bt cs)] [hg : GL cs off av] : LC c P (.load t x) l (Hn n L) av := ⟨fun hc => Lt.loadB1 (sz := sz) rfl (h.h hc _) hb.h hg.h⟩
instance [tg : TG P t true sz] [h : EC c l x (.box (n + kk) off)] [hb : GB L kk (.box bt cs)] [hd : DR cs off vs] [tk : TK vs sz cs'] : LC c P (.load t x) l (Hn n L) (.agg cs') := ⟨fun hc => Lt.loadBN (sz := sz) rfl (h.h hc _) hb.h (by have h1 := tk.len; have h2 := hd.h; rw [← h2, List.length_drop] at h1; have h3 := hd.len; omega) (by rw [hd.h]; exact tk.h)⟩
end
def NoId (av : AV) : Prop := ∀ n, Gen n av
theorem VR.move0 {E E' : Env} (hw : E'.w = E.w) (hm : ∀ g, E'.mine g → E.mine g) {av : AV} {x : Value} (h : VR E av x) (hg : NoId av) : VR E' av x := by
 induction h with
 | any x => exact .any x
 | v x => exact .v x
 | rd u hc hmx hz hA hu ih =>
  refine .rd u hc hmx hz (fun h0 => ?_) (fun i row j av hi hj => ih i row j av hi hj fun n => by cases hg n with | rd h => exact h i row j av hi hj);obtain ⟨ad, rfl, h1, h2, h3⟩ := hA h0;exact ⟨ad, rfl, fun h => h1 (hm _ h), by rw [hw]; exact h2, fun i row j av hi hj => by rw [hw]; exact h3 i row j av hi hj⟩
 | @own id _ _ _ _ h hs => cases hg (id + 1) with | own h => omega
 | eptr u hb hlt hA hu ih =>
  exact .eptr u (fun h => hb (hm _ h)) (by rw [hw]; exact hlt) (fun j av hj => by rw [hw]; exact hA j av hj) (fun j av hj => ih j av hj fun n => by cases hg n with | eptr h => exact h j av hj)
 | @optr id _ _ _ _ h hs => cases hg (id + 1) with | optr h => omega
 | @box id _ _ h hs => cases hg (id + 1) with | box h => omega
 | agg hl' h1 hu ih => exact .agg hl' h1 (fun j av x hj hx => ih j av x hj hx fun n => by cases hg n with | agg h => exact h j av hj)
 | tup hl' hu ih => exact .tup hl' (fun j av x hj hx => ih j av x hj hx fun n => by cases hg n with | tup h => exact h j av hj)
 | fn hl' hu ih => exact .fn hl' (fun j av x hj hx => ih j av x hj hx fun n => by cases hg n with | fn h => exact h j av hj)
 | @omap id _ h hs => cases hg (id + 1) with | omap h => omega
 | @bsl id _ _ _ h hs => cases hg (id + 1) with | bsl h => omega
theorem NoId.v (x : Value) : NoId (.v x) := fun _ => .v x
theorem NoId.rd {sz : Nat} {rows : List (List AV)} (h : ∀ row ∈ rows, ∀ av ∈ row, NoId av) : NoId (.rd sz rows) := fun n => .rd fun _ row _ av hi hj => h row (List.mem_of_getElem? hi) av (List.mem_of_getElem? hj) n
theorem NoId.agg {cs : List AV} (h : ∀ av ∈ cs, NoId av) : NoId (.agg cs) := fun n => .agg fun _ av hj => h av (List.mem_of_getElem? hj) n
theorem NoId.tup {cs : List AV} (h : ∀ av ∈ cs, NoId av) : NoId (.tup cs) := fun n => .tup fun _ av hj => h av (List.mem_of_getElem? hj) n
theorem NoId.bys (l : List Int) : NoId (.rd 1 (bys l)) := .rd fun row hr av ha => by
 obtain ⟨x, _, rfl⟩ := List.mem_map.1 hr
 obtain rfl := List.mem_singleton.1 ha
 exact .v _
theorem NoId.cons {av : AV} {avs : List AV} (h : NoId av) (h' : ∀ av ∈ avs, NoId av) : ∀ x ∈ av :: avs, NoId x := fun x hx => by
 rcases List.mem_cons.1 hx with rfl | hx
 · exact h
 · exact h' x hx
def A0 (P : Program) (f : FuncId) (args : List AV) (R : AV → Prop) : Prop := ∀ n, AC P f (List.replicate n none) args fun r _ => NoId r ∧ R r
theorem A0.mono {P : Program} {f : FuncId} {args : List AV} {R R' : AV → Prop} (h : A0 P f args R) (hr : ∀ r, R r → R' r) : A0 P f args R' := fun n => (h n).mono fun r _ ⟨h1, h2⟩ => ⟨h1, hr r h2⟩
section
variable {P : Program} {base : Cx} {s : St}
theorem HvK.call0 {d : Option Tmp} {f : FuncId} {fn : Func} {as : List Operand} {ts : Array TypeId} {ty : TypeId} {pos : String} {af : Array Edge} {gd : Option (Nat × Bool)} {args : List AV} {R : AV → Prop} (hf : P.funcs[f]? = some fn) (hname : (fn.name == "runtime.NumGoroutine") = false) (hb : fn.body.isSome = true)
 (ha : as.map (ev s) = args) (hg : ∀ av ∈ args, Gen s.H.length av) (h : A0 P f args R) :
 HvK P base ⟨d, .call { callee := .value (.func f), args := as.toArray, argTypes := ts }, ty, pos, af, gd⟩ s (fun s' => ∃ r, R r ∧ s' = s.put d r) := by
 intro σ a w hr Q K hk;unfold Oper.wp;rw [run_call hf hname hb];subst ha
 let n := s.H.length
 let F' : Nat → Prop := Env.mine ⟨w, s.H, σ, base.F⟩
 have hbs : base.b ≤ w.heap.size := hr.1.bs;have hF' : ∀ g, F' g → g < w.heap.size := by
  rintro g (⟨id, b, h1, h2⟩ | h1)
  · exact (blk_lt hr.1 h1 h2).2
  · exact hr.1.far g h1
 have hheap : Heap ⟨w.heap.size, F'⟩ ⟨w, List.replicate n none, σ, F'⟩ := by
  refine ⟨Nat.le_refl _, hF', fun g h => (ours_none g h).elim, fun id b h => (rep_none h).elim, fun id id' b b' g h1 h2 h3 h4 => (rep_none h1).elim⟩
 have hnone : ∀ id, n ≤ id → s.H[id]? = none := fun id h => List.getElem?_eq_none h
 have hrep : ∀ id, n ≤ id → (List.replicate n (none : Option AB))[id]? = none := fun id h => List.getElem?_eq_none (by simpa using h)
 refine (h n ⟨w.heap.size, F'⟩ σ w (as.map a.eval) hheap (by simp) (fun j av x h1 h2 => ?_)).mono ?_
 · refine VR.move (E := ⟨w, s.H, σ, base.F⟩) (E' := ⟨w, List.replicate n none, σ, F'⟩) (n := n) rfl (fun g hm => ?_) (by show s.H.length ≤ (List.replicate n (none : Option AB)).length; simp [n]) (fun id hid => ?_) (fun _ _ => rfl) (args_ok hr as j av x h1 h2) (hg av (List.mem_of_getElem? h1))
   · rcases hm with hm | hm
     · exact (ours_none g hm).elim
     · exact hm
   · show (List.replicate n (none : Option AB))[id]? = s.H[id]?
     rw [hnone id hid, hrep id hid]
 rintro e w' ⟨x, r, H', σ', h1, h2, h3, h4, h5, h6⟩
 subst h1;have hkeep : ∀ k, k < w.heap.size → w'.heap[k]? = w.heap[k]? := fun k hk => h3.keep k hk (ours_none k)
 have hsize : w.heap.size ≤ w'.heap.size := h3.size;have hext : Ext ⟨w, s.H, σ, base.F⟩ ⟨w', s.H, σ, base.F⟩ :=
  ⟨h3.os, h3.tape, h3.output, hsize, rfl, fun k hk _ => hkeep k hk, fun k hk _ => hk, Nat.le_refl _, fun id e sz ep rows' h6 _ => ⟨ep, rows', h6, .inr ⟨rfl, rfl, rfl⟩⟩, fun id t cs' h6 _ => ⟨cs', h6, rfl, rfl⟩, fun id es' h6 _ => ⟨es', h6, rfl⟩⟩
 have hmine : ∀ g, Env.mine ⟨w', s.H, σ, base.F⟩ g → Env.mine ⟨w', H', σ', F'⟩ g := fun g hg => .inr hg
 have hheap2 : Heap base ⟨w', s.H, σ, base.F⟩ :=
  ⟨Nat.le_trans hbs hsize, fun g hf => Nat.lt_of_lt_of_le (hr.1.far g hf) hsize, hr.1.clear, fun id b h6 => (hr.1.live id b h6).keep hext rfl fun g hg => hkeep g (blk_lt hr.1 h6 hg).2, hr.1.apart⟩
 have hrel : Rel base σ s a w' := ⟨hheap2, hr.2.1.ext hext, hr.2.2⟩;exact hk σ _ _ w' (hrel.put d (VR.move0 (E := ⟨w', H', σ', F'⟩) (E' := ⟨w', s.H, σ, base.F⟩) rfl hmine h4 h5)) (by rw [put_H]; exact hext) ⟨hsize, hkeep⟩ ⟨r, h6, rfl⟩
theorem ResR.tmp' {u : Tmp} {rs : List ResultVar} {av : AV} {avs : List AV} (h1 : ev s (.tmp u) = av) (h : ResR P s rs avs) : ResR P s (.tmp u :: rs) (av :: avs) := by
 subst h1; exact .tmp h
theorem Gh.refl : Gh base s s := fun σ a w hr => ⟨σ, hr, Ext.refl _⟩
theorem fr_of {t : Tmp} {av : AV} (h : ev s (.tmp t) = av) (hav : av ≠ .any) : s.fr[t]? = some av := by
 simp only [ev, List.getD_eq_getElem?_getD] at h
 cases hq : s.fr[t]? with
 | none => rw [hq] at h; simp at h; exact absurd h.symm hav
 | some x => rw [hq] at h; simp at h; rw [h]
theorem Gh.freezeN (t : Tmp) {n k ep off m sz : Nat} {L L' : List (Option AB)} {e : TypeId} {rows rows' : List (List AV)} (hH : s.H = Hn n L) (h : ev s (.tmp t) = .own (n + k) ep off m) (hL0 : L[k]? = some (some (.row e sz ep rows))) (hm : rows.length ≤ 9223372036854775807) (hr : (rows.drop off).take m = rows') (hL : L.set k none = L') :
 Gh base s ((s.wH (Hn n L')).put (some t) (.rd sz rows')) := by
 subst hr; subst hL;have := Gh.freeze (base := base) t (fr_of h (by simp)) (getN hH hL0) (by unfold maxLen; omega);have e1 : s.H.set (n + k) none = Hn n (L.set k none) := by rw [hH, Hn_set]
 rw [e1] at this;unfold St.wH;exact this
theorem Gh.nilrd (t : Tmp) (sz : Nat) (h : ev s (.tmp t) = .v (.slice none 0 0)) : Gh base s (s.put (some t) (.rd sz [])) := fun σ a w hr => by
 refine ⟨σ, ?_, by rw [put_H]; exact Ext.refl _⟩
 have hv := ev_v hr h
 have hlt : t < a.tmps.size := by
  have := (List.getElem?_eq_some_iff.1 (fr_of h (by simp))).1;rw [hr.2.1.1] at this; exact this
 have hp : Rel base σ (s.put (some t) (.rd sz [])) (a.put (some t) (.slice none 0 0)) w := hr.put (some t) (.rd (fun _ _ => undef) (by simp) (by simp) (by simp) (by simp) (by simp));have hsame : a.put (some t) (.slice none 0 0) = a := by
  have h1 : a.tmps[t] = .slice none 0 0 := by
   have : a.eval (.tmp t) = _ := hv;simpa [Act.eval, hlt] using this
  unfold Act.put;have : a.tmps.setIfInBounds t (.slice none 0 0) = a.tmps := by
   apply Array.ext_getElem?;intro i;rw [Array.getElem?_setIfInBounds];by_cases hi : t = i
   · subst hi; simp [hlt, h1]
   · simp [hi]
  simp [this]
 rw [hsame] at hp;exact hp
end
section
class OC (c : Bool) (P : Program) (o : Op) (l : List AV) (H : List (Option AB)) (av : outParam AV) (ob : outParam Prop) : Prop where
 h : c = true → ob → Lt P o ⟨l, H⟩ av
class DO (ops : List Oper) (j : Nat) (u : outParam Nat) : Prop where
 h : (ops[j]?).bind (·.dst) = some u
instance {u : Nat} {o : Op} {t : TypeId} {p : String} {a : Array Edge} {g : Option (Nat × Bool)} {l : List Oper} : DO (⟨some u, o, t, p, a, g⟩ :: l) 0 u := ⟨rfl⟩
instance {a : Oper} {l : List Oper} {n u : Nat} [h : DO l n u] : DO (a :: l) (n + 1) u := ⟨by rw [List.getElem?_cons_succ]; exact h.h⟩
class IR (k : IntKind) (lo hi : outParam Int) : Prop where
 h : ∀ x : Int, lo ≤ x ∧ x ≤ hi → k.wrap x = x
instance : IR .i64 (-9223372036854775808) 9223372036854775807 := ⟨IntWalk.i64_in⟩
instance : IR .u64 0 18446744073709551615 := ⟨IntWalk.u64_in⟩
instance : IR .u8 0 255 := ⟨IntWalk.u8_in⟩
variable {c : Bool} {P : Program} {l : List AV} {H : List (Option AB)} {x y z : Operand} {av : AV} {k k' : IntKind} {p q lo hi : Int} {t t' t'' e bt : TypeId} {b b' : Bool}
instance [ir : IR k lo hi] [h : EC c l x (.v (.int k p))] [h' : EC c l y (.v (.int k q))] : OC c P (.binOp .add t x y t') l H (.v (.int k (p + q))) (lo ≤ p + q ∧ p + q ≤ hi) := ⟨fun hc ob => (Pu.add (h.h hc H) (h'.h hc H) (ir.h _ ob)).lt⟩
instance [ir : IR k lo hi] [h : EC c l x (.v (.int k p))] [h' : EC c l y (.v (.int k q))] : OC c P (.binOp .sub t x y t') l H (.v (.int k (p - q))) (lo ≤ p - q ∧ p - q ≤ hi) := ⟨fun hc ob => (Pu.sub (h.h hc H) (h'.h hc H) (ir.h _ ob)).lt⟩
instance [ir : IR k lo hi] [h : EC c l x (.v (.int k p))] [h' : EC c l y (.v (.int k q))] : OC c P (.binOp .mul t x y t') l H (.v (.int k (p * q))) (lo ≤ p * q ∧ p * q ≤ hi) := ⟨fun hc ob => (Pu.mul (h.h hc H) (h'.h hc H) (ir.h _ ob)).lt⟩
instance [ir : IR k lo hi] [h : EC c l x (.v (.int k p))] [h' : EC c l y (.v (.int k q))] : OC c P (.binOp .quo t x y t') l H (.v (.int k (p / q))) (0 ≤ p ∧ 0 < q ∧ p / q ≤ hi ∧ lo ≤ 0) := ⟨fun hc ob => (Pu.quo (h.h hc H) (h'.h hc H) ob.1 ob.2.1 (ir.h _ ⟨Int.le_trans ob.2.2.2 (Int.ediv_nonneg ob.1 (Int.le_of_lt ob.2.1)), ob.2.2.1⟩)).lt⟩
instance [h : EC c l x (.v (.int k p))] [h' : EC c l y (.v (.int k q))] : OC c P (.binOp .rem t x y t') l H (.v (.int k (p % q))) (0 ≤ p ∧ 0 < q) := ⟨fun hc ob => (Pu.rem (h.h hc H) (h'.h hc H) ob.1 ob.2).lt⟩
instance [h : EC c l x (.v (.int .u64 p))] [h' : EC c l y (.v (.int k' q))] : OC c P (.binOp .shr t x y t') l H (.v (.int .u64 (p / 2 ^ q.toNat))) (0 ≤ q ∧ q ≤ 64) := ⟨fun hc ob => (Pu.shr (h.h hc H) (h'.h hc H) ob.1 ob.2).lt⟩
instance [h : EC c l x (.v (.int k p))] [h' : EC c l y (.v (.int k q))] : PC c P (.binOp .and t x y t') l H (.v (.int k (k.wrap (BitVec.ofInt k.bits p &&& BitVec.ofInt k.bits q).toNat))) := ⟨fun hc => Pu.and_ (h.h hc H) (h'.h hc H)⟩
instance {d : TypeDesc} [hd : TU P t' (.int k')] [hs : TU P t d] [ir : IR k' lo hi] [h : EC c l x (.v (.int k p))] : OC c P (.convert t t' x) l H (.v (.int k' p)) (lo ≤ p ∧ p ≤ hi) := ⟨fun hc ob => (Pu.convI' hd.h (TU.s (d := d)) (h.h hc H) (ir.h _ ob)).lt⟩
theorem convW {d : TypeDesc} [hd : TU P t' (.int k')] [hs : TU P t d] [h : EC c l x (.v (.int k p))] : c = true → Lt P (.convert t t' x) ⟨l, H⟩ (.v (.int k' (k'.wrap p))) := fun hc => (Pu.convI hd.h (TU.s (d := d)) (h.h hc H)).lt
variable {li : List Int} {rows : List (List AV)} {sz bytes n kk ep off m off' sz' i f : Nat} {L : List (Option AB)} {g : Bool} {s : ByteArray}
theorem bys_get {li : List Int} {p : Int} (h0 : 0 ≤ p) (h1 : p < li.length) : (bys li)[p.toNat]? = some [AV.v (.int .u8 (li.getD p.toNat 0))] := by
 have : p.toNat < li.length := by omega
 simp [bys, this]
instance [ht : TU P t (.slice e)] [hg : TG P e g 1] [h : EC c l x (.rd 1 (bys li))] [h' : EC c l y (.v (.int k p))] : OC c P (.indexAddr t x y) l H (.eptr [.v (.int .u8 (li.getD p.toNat 0))]) (0 ≤ p ∧ p < li.length) := ⟨fun hc ob => (Pu.index_rd ht.h (TG.s (g := g)) (h.h hc H) (h'.h hc H) ob.1 (bys_get ob.1 ob.2)).lt⟩
instance [ht : TU P t (.slice e)] [hg : TG P e g sz] [h : EC c l x (.own (n + kk) ep off m)] [hb : GB L kk (.row bt sz ep rows)] [h' : EC c l y (.v (.int k p))] : OC c P (.indexAddr t x y) l (Hn n L) (.optr (n + kk) ep (off + p.toNat) 0) (0 ≤ p ∧ p < m) := ⟨fun hc ob => (Pu.index_own ht.h (TG.s (g := g)) (h.h hc _) (getN rfl hb.h) (h'.h hc _) ob.1 ob.2).lt⟩
class BC (c : Bool) (l : List AV) (x : Option Operand) (i : outParam (Option Int)) : Prop where
 h : c = true → ∀ H, bnd ⟨l, H⟩ x i
instance [h : EC c l x (.v (.int k p))] : BC c l (some x) (some p) := ⟨fun hc H => ⟨k, h.h hc H⟩⟩
variable {lo' hi' : Option Operand} {i0 i1 : Option Int}
theorem bys_cut (li : List Int) (a b : Nat) : ((bys li).take b).drop a = bys ((li.take b).drop a) := by simp [bys, List.map_take, List.map_drop]
instance [ht : TU P t (.slice e)] [hg : TG P e g 1] [h : EC c l x (.rd 1 (bys li))] [h0 : BC c l lo' i0] [h1 : BC c l hi' i1] : OC c P (.slice t x lo' hi' none) l H (.rd 1 (bys ((li.take (i1.getD li.length).toNat).drop (i0.getD 0).toNat))) (0 ≤ i0.getD 0 ∧ i0.getD 0 ≤ i1.getD li.length ∧ i1.getD li.length ≤ li.length) := ⟨fun hc ob => by
 have := Pu.slice_rd (P := P) (s := ⟨l, H⟩) (l := (i0.getD 0).toNat) (h := (i1.getD li.length).toNat) ht.h (TG.s (g := g)) (h.h hc H) (h0.h hc H) (h1.h hc H) (by omega) (by rw [bys_length]; omega) (by omega) (by rw [bys_length]; omega)
 rw [bys_cut] at this
 exact this.lt⟩
class RC (c : Bool) (l : List AV) (H : List (Option AB)) (x : Operand) (sz : outParam Nat) (rows : outParam (List (List AV))) : Prop where
 h : c = true → ∀ base, Src ⟨l, H⟩ base x sz rows
instance [h : EC c l x (.rd sz rows)] : RC c l H x sz rows := ⟨fun hc _ => Src.rd (h.h hc H)⟩
instance [h : EC c l x (.own (n + kk) ep off m)] [hb : GB L kk (.row bt sz ep rows)] : RC c l (Hn n L) x sz ((rows.drop off).take m) := ⟨fun hc _ => Src.own_at (h.h hc _) (getN rfl hb.h)⟩
class BY (rows : List (List AV)) (li : outParam (List Int)) : Prop where
 h : rows = bys li
instance : BY (bys li) li := ⟨rfl⟩
instance : BY [] [] := ⟨rfl⟩
instance [h : BY rows li] : BY ([.v (.int .u8 p)] :: rows) (p :: li) := ⟨by rw [h.h]; rfl⟩
instance [hs : TU P t (.slice e)] [he : TU P e (.int .u8)] [hd : TU P t' .string] [h : RC c l H x 1 rows] [hb : BY rows li] : LC c P (.convert t t' x) l H (.v (.string (strOfNums li))) := ⟨fun hc => Lt.toString hs.h he.h hd.h (fun base => by have := h.h hc base; rwa [hb.h] at this)⟩
end
section
variable {P : Program} {base : Cx} {l l' : List AV} {H : List (Option AB)} {Q : Exit → St → Prop} {ops : List Oper} {rest : List Oper} {d : Option Tmp} {op : Op} {t : TypeId} {pos : String} {af : Array Edge} {av : AV} {ob : Prop}
theorem AO.c {ops : Array Oper} [hp : LC true P op l H av] [hd : DL l d av l'] (k : AO P base ops rest ⟨l', H⟩ Q) : AO P base ops (⟨d, op, t, pos, af, none⟩ :: rest) ⟨l, H⟩ Q :=
 AO.light (hp.h rfl) (by rw [hd.h]; exact k)
theorem AO.o {ops : Array Oper} [hp : OC true P op l H av ob] [hd : DL l d av l'] (hob : ob) (k : AO P base ops rest ⟨l', H⟩ Q) : AO P base ops (⟨d, op, t, pos, af, none⟩ :: rest) ⟨l, H⟩ Q :=
 AO.light (hp.h rfl hob) (by rw [hd.h]; exact k)
theorem AO.m {j u : Nat} {b : Bool} [ho : DO ops j u] [hg : GL l u (.v (.bool b))] [hp : LC b P op l H av] [hd : DL l d (cv b av) l'] (k : AO P base ops.toArray rest ⟨l', H⟩ Q) : AO P base ops.toArray (⟨d, op, t, pos, af, some (j, true)⟩ :: rest) ⟨l, H⟩ Q := by
 have hw := wanted_some (s := ⟨l, H⟩) (ops := ops.toArray) (j := j) (want := true) (by simpa using ho.h) (hg.ev H);have hk := hd.h H;cases b
 · refine AO.skipG (by rw [hw]; rfl) ?_
   have e : St.put ⟨l, H⟩ d (.v undef) = ⟨l', H⟩ := hk;rw [e]; exact k
 · refine AO.lightG (by rw [hw]; rfl) (hp.h rfl) ?_
   have : cv true av = av := rfl;rw [this] at hk;rw [hk]; exact k
theorem AO.n {j u : Nat} {b : Bool} [ho : DO ops j u] [hg : GL l u (.v (.bool b))] [hp : LC (!b) P op l H av] [hd : DL l d (cv (!b) av) l'] (k : AO P base ops.toArray rest ⟨l', H⟩ Q) : AO P base ops.toArray (⟨d, op, t, pos, af, some (j, false)⟩ :: rest) ⟨l, H⟩ Q := by
 have hw := wanted_some (s := ⟨l, H⟩) (ops := ops.toArray) (j := j) (want := false) (by simpa using ho.h) (hg.ev H);have hk := hd.h H;cases b
 · refine AO.lightG (by rw [hw]; rfl) (hp.h rfl) ?_
   have : cv true av = av := rfl;rw [show (!false) = true from rfl, this] at hk;rw [hk]; exact k
 · refine AO.skipG (by rw [hw]; rfl) ?_
   have e : St.put ⟨l, H⟩ d (.v undef) = ⟨l', H⟩ := hk;rw [e]; exact k
end
section
class PVc (av : AV) (cs : outParam (List AV)) : Prop where
 h : partsOf av = some cs
instance {cs : List AV} : PVc (.agg cs) cs := ⟨rfl⟩
instance {sz : Nat} {rows : List (List AV)} : PVc (.rd sz rows) [.rd sz rows] := ⟨rfl⟩
instance {id ep off n : Nat} : PVc (.own id ep off n) [.own id ep off n] := ⟨rfl⟩
instance {id off : Nat} : PVc (.box id off) [.box id off] := ⟨rfl⟩
instance {k : IntKind} {p : Int} : PVc (.v (.int k p)) [.v (.int k p)] := ⟨rfl⟩
instance {b : Bool} : PVc (.v (.bool b)) [.v (.bool b)] := ⟨rfl⟩
instance {b : ByteArray} : PVc (.v (.string b)) [.v (.string b)] := ⟨rfl⟩
instance {A : Option Addr} {n c : Nat} : PVc (.v (.slice A n c)) [.v (.slice A n c)] := ⟨rfl⟩
class LA (cs : List AV) (off : Nat) (ps : List AV) (cs' : outParam (List AV)) : Prop where
 h : layAt cs off ps = cs'
 len : off + ps.length ≤ cs.length
instance {cs : List AV} : LA cs 0 [] cs := ⟨by simp [layAt], by simp⟩
instance {a p : AV} {cs ps cs' : List AV} [h : LA cs 0 ps cs'] : LA (a :: cs) 0 (p :: ps) (p :: cs') := ⟨by have := h.h; simp [layAt] at this ⊢; exact this, by have := h.len; simp at this ⊢; omega⟩
instance {a : AV} {cs ps cs' : List AV} {n : Nat} [h : LA cs n ps cs'] : LA (a :: cs) (n + 1) ps (a :: cs') := ⟨by
 have := h.h
 unfold layAt at this ⊢
 rw [← this, List.take_succ_cons, show n + 1 + ps.length = (n + ps.length) + 1 by omega, List.drop_succ_cons]
 rfl, by have := h.len; simp at this ⊢; omega⟩
class LN (ps : List AV) (n : Nat) : Prop where
 h : ps.length = n
instance : LN [] 0 := ⟨rfl⟩
instance {a : AV} {ps : List AV} {n : Nat} [h : LN ps n] : LN (a :: ps) (n + 1) := ⟨by simp [h.h]⟩
class GP (l : List (Nat × Nat)) (t : Nat) (a b : outParam Nat) : Prop where
 h : l[t]? = some (a, b)
instance {a b : Nat} {l : List (Nat × Nat)} : GP ((a, b) :: l) 0 a b := ⟨rfl⟩
instance {x : Nat × Nat} {a b : Nat} {l : List (Nat × Nat)} {n : Nat} [h : GP l n a b] : GP (x :: l) (n + 1) a b := ⟨by rw [List.getElem?_cons_succ]; exact h.h⟩
class TB (P : Program) (t : TypeId) (zv : outParam (List AV)) (pl : outParam (List (Nat × Nat))) : Prop where
 h : ∃ (fs : Array Field) (zs : List Value), P.underlying t = some (.struct fs) ∧ (P.info? t).bind (·.zero) = some (.agg ⟨zs⟩) ∧ (zs.all fun u => u.oneCell') = true ∧ zs.map .v = zv ∧
  ∀ w, (fs.mapM fun f => (do pure (f.offset, ← sizeOf f.type) : Sem (Nat × Nat))).run P w = .ok pl.toArray w
class SF (pl : List (Nat × Nat)) (c : Bool) (l : List AV) (cs : List AV) (ps : List (Nat × Operand)) (cs' : outParam (List AV)) : Prop where
 h : c = true → ∀ H, fillA (pl[·]?) (ev ⟨l, H⟩) cs ps = some cs'
variable {c : Bool} {P : Program} {l : List AV} {H : List (Option AB)} {x y z : Operand} {av : AV} {pl : List (Nat × Nat)} {cs cs' cs2 ps : List AV} {rest : List (Nat × Operand)} {i off sz : Nat} {t e : TypeId}
instance : SF pl c l cs [] cs := ⟨fun _ _ => rfl⟩
instance [hp : GP pl i off sz] [h : EC c l x av] [hv : PVc av ps] [hn : LN ps sz] [la : LA cs off ps cs2] [hr : SF pl c l cs2 rest cs'] : SF pl c l cs ((i, x) :: rest) cs' := ⟨fun hc H => by
 unfold fillA
 rw [h.h hc H, hv.h, hp.h]
 simp only
 rw [if_pos ⟨hn.h, la.len⟩, la.h]
 exact hr.h hc H⟩
instance {zv : List AV} [tb : TB P t zv pl] [sf : SF pl c l zv rest cs'] : PC c P (.build t rest.toArray) l H (.agg cs') := ⟨fun hc => by
 obtain ⟨fs, zs, h1, h2, h3, rfl, h4⟩ := tb.h
 exact Pu.build h1 h2 h3 h4 (sf.h hc H)⟩
class PR (c : Bool) (l : List AV) (sz : Nat) (ps : List (Nat × Operand)) (i : Nat) (rows : outParam (List (List AV))) : Prop where
 h : c = true → ∀ H cs, cs.length = (i + ps.length) * sz → fillA (fun i => some (i * sz, sz)) (ev ⟨l, H⟩) cs ps = some (cs.take (i * sz) ++ rows.flatten)
 r : ∀ row ∈ rows, row.length = sz
 n : rows.length = ps.length
instance : PR c l sz [] i [] := ⟨fun _ H cs h => by
 have : cs.take (i * sz) = cs := List.take_of_length_le (by simp at h; omega)
 simp [fillA, this], by simp, rfl⟩
instance {rows : List (List AV)} [h : EC c l x av] [hv : PVc av ps] [hn : LN ps sz] [hr : PR c l sz rest (i + 1) rows] : PR c l sz ((i, x) :: rest) i (ps :: rows) := ⟨fun hc H cs hl => by
 have h1 : i * sz + sz ≤ cs.length := by
  rw [hl, ← Nat.succ_mul]
  exact Nat.mul_le_mul_right _ (by simp only [List.length_cons]; omega)
 unfold fillA
 rw [h.h hc H, hv.h]
 simp only
 rw [if_pos ⟨hn.h, by rw [hn.h]; omega⟩, hr.h hc H _ (by rw [layAt_length (by rw [hn.h]; omega), hl]; simp only [List.length_cons]; congr 1; omega)]
 congr 1
 have e : (layAt cs (i * sz) ps).take ((i + 1) * sz) = cs.take (i * sz) ++ ps := by
  unfold layAt
  rw [Nat.succ_mul]
  have h2 : (cs.take (i * sz) ++ ps).length = i * sz + sz := by rw [List.length_append, List.length_take, hn.h]; omega
  rw [← h2, List.take_left]
 rw [e, List.flatten_cons, List.append_assoc], fun row hr' => by
  rcases List.mem_cons.1 hr' with rfl | h'
  · exact hn.h
  · exact hr.r row h', by simp [hr.n]⟩
theorem rowsOf_flatten {sz : Nat} : ∀ {rows : List (List AV)}, (∀ row ∈ rows, row.length = sz) → rowsOf rows.length sz rows.flatten = rows := by
 intro rows h;have hf : ∀ (rows : List (List AV)) (i : Nat), (∀ row ∈ rows, row.length = sz) → i < rows.length → (rows.flatten.drop (i * sz)).take sz = rows.getD i [] := by
  intro rows
  induction rows with
  | nil => intro i _ hi; simp at hi
  | cons r rows ih =>
   intro i h hi;have hr : r.length = sz := h r (by simp)
   cases i with
   | zero => simp [← hr]
   | succ i =>
    have e : (r ++ rows.flatten).drop ((i + 1) * sz) = rows.flatten.drop (i * sz) := by
     rw [List.drop_append, hr];have : r.drop ((i + 1) * sz) = [] := List.drop_of_length_le (by rw [hr, Nat.succ_mul]; omega);rw [this, List.nil_append, Nat.succ_mul, Nat.add_sub_cancel]
    rw [List.flatten_cons, e, ih i (fun row hr => h row (by simp [hr])) (by simpa using hi)];simp
 apply List.ext_getElem?;intro i;by_cases hi : i < rows.length
 · have := hf rows i h hi
   simp [rowsOf, hi, this]
 · simp [rowsOf, hi]
class HM (P : Program) (o : Op) (l : List AV) (H : List (Option AB)) (av : outParam AV) (H' : outParam (List (Option AB))) (ob : outParam Prop) : Prop where
 h : ob → ∀ (base : Cx) (d : Option Tmp) (ty : TypeId) (pos : String) (af : Array Edge) (g : Option (Nat × Bool)), HvK P base ⟨d, o, ty, pos, af, g⟩ ⟨l, H⟩ (fun s' => s' = St.put ⟨l, H'⟩ d av)
class HW (P : Program) (o : Op) (l : List AV) (H : List (Option AB)) (av : outParam AV) (H' : outParam (List (Option AB))) (ob : outParam Prop) : Prop where
 h : ob → ∀ (base : Cx) (d : Option Tmp) (ty : TypeId) (pos : String) (af : Array Edge) (g : Option (Nat × Bool)), Hv P base ⟨d, o, ty, pos, af, g⟩ ⟨l, H⟩ (fun s' => s' = St.put ⟨l, H'⟩ d av)
class HS (P : Program) (o : Op) (l : List AV) (H : List (Option AB)) (H' : outParam (List (Option AB))) (ob : outParam Prop) : Prop where
 h : ob → ∀ (base : Cx) (ty : TypeId) (pos : String) (af : Array Edge) (g : Option (Nat × Bool)), Hv P base ⟨none, o, ty, pos, af, g⟩ ⟨l, H⟩ (fun s' => s' = ⟨l, H'⟩)
instance {o : Op} {H' : List (Option AB)} {ob : Prop} [h : HM P o l H av H' ob] : HW P o l H av H' ob := ⟨fun ho base d ty pos af g => (h.h ho base d ty pos af g).hv⟩
variable {n k bytes len m : Nat} {L L' : List (Option AB)} {rows : List (List AV)} {zz : Value} {bt t' : TypeId}
instance [tu : TU P t (.slice e)] [ti : TI P e zz sz bytes] [pr : PR true l sz rest 0 rows] [pb : PB L (some (.row e sz 0 rows)) k L'] : HM P (.buildSlice t len rest.toArray) l (Hn n L) (.own (n + k) 0 0 len) (Hn n L') ((zz.cells.toList.all (fun u => u.oneCell') && (zz.cells.size == sz) && Nat.blt 0 sz && Nat.blt 0 len && Nat.ble (len * sz) 16777216 && (rest.length == len)) = true) := ⟨fun ho base d ty pos af g => by
 simp only [Bool.and_eq_true] at ho
 obtain ⟨ho, hl⟩ := ho
 have hl : rest.length = len := by simpa using hl
 have hf := pr.h rfl (Hn n L) (zerosA zz (len * sz)) (by simp [zerosA, hl])
 rw [Nat.zero_mul, List.take_zero, List.nil_append] at hf
 refine HvK.buildN (s := ⟨l, Hn n L⟩) (rows := rows) (cs := rows.flatten) (t := t) (e := e) (bytes := bytes) rfl pb.k (by simp only [Bool.and_eq_true]; exact ho) hf ?_ pb.h
 have := rowsOf_flatten pr.r
 rw [pr.n, hl] at this
 exact this⟩
instance [tu : TU P t (.slice e)] [ti : TI P e zz sz bytes] [pb : PB L (some (.row e sz 0 [])) k L'] : HM P (.buildSlice t 0 #[]) l (Hn n L) (.own (n + k) 0 0 0) (Hn n L') True := ⟨fun ho base d ty pos af g => HvK.build0N (s := ⟨l, Hn n L⟩) (t := t) (e := e) (z := zz) (bytes := bytes) rfl pb.k pb.h⟩
instance [h : EC true l x av] [hv : PVc av cs] [pb : PB L (some (.box t cs)) k L'] : HM P (.box t x) l (Hn n L) (.box (n + k) 0) (Hn n L') True := ⟨fun ho base d ty pos af g => HvK.boxN (s := ⟨l, Hn n L⟩) rfl pb.k (by rw [h.h rfl]; exact hv.h) pb.h⟩
class MV (us : List Value) (cs : outParam (List AV)) : Prop where
 h : us.map .v = cs
instance : MV [] [] := ⟨rfl⟩
instance {u : Value} {us : List Value} {cs : List AV} [h : MV us cs] : MV (u :: us) (.v u :: cs) := ⟨by simp [h.h]⟩
instance {us : List Value} [ti : TI P t (.agg us.toArray) sz bytes] [hz : MV us cs] [pb : PB L (some (.box t cs)) k L'] : HM P (.alloc t) l (Hn n L) (.box (n + k) 0) (Hn n L') ((us.all fun u => u.oneCell') = true) := ⟨fun ho base d ty pos af g => by
 have := hz.h
 subst this
 exact HvK.allocN (s := ⟨l, Hn n L⟩) (z := .agg us.toArray) (us := us) rfl pb.k rfl ho pb.h⟩
instance {gg : Bool} [tg : TG P t gg sz] [h : EC true l x (.box (n + k) off)] [gb : GB L k (.box bt cs)] [h' : EC true l y av] [hv : PVc av ps] [hn : LN ps sz] [la : LA cs off ps cs'] [sb : SB L k (some (.box bt cs')) L'] : HS P (.store t x y) l (Hn n L) (Hn n L') True := ⟨fun ho base ty pos af g => by
 have := la.h
 subst this
 exact Hv.storeN (s := ⟨l, Hn n L⟩) (gg := gg) rfl (h.h rfl _) gb.h (by rw [h'.h rfl]; exact hv.h) hn.h la.len sb.h⟩
instance {gg : Bool} {ep sz' : Nat} [tg : TG P t gg sz'] [h : EC true l x (.optr (n + k) ep i off)] [gb : GB L k (.row bt sz ep rows)] [h' : EC true l y av] [hv : PVc av ps] [hn : LN ps sz'] [sb : SB L k (some (.row bt sz ep (rows.set i (layAt (rows.getD i []) off ps)))) L'] : HS P (.store t x y) l (Hn n L) (Hn n L') (i < rows.length ∧ off + sz' ≤ sz) := ⟨fun ho base ty pos af g => by
 have hi : rows[i]? = some (rows.getD i []) := by simp [ho.1]
 exact Hv.storeRN (s := ⟨l, Hn n L⟩) (gg := gg) rfl (h.h rfl _) gb.h hi (by rw [h'.h rfl]; exact hv.h) hn.h (by rw [hn.h]; exact ho.2) sb.h⟩
instance {ep : Nat} {rows2 : List (List AV)} [tu : TU P t (.slice e)] [ti : TI P e zz sz bytes] [h : EC true l x (.own (n + k) ep 0 m)] [gb : GB L k (.row e sz ep rows)] [hy : RC true l (Hn n L) y sz rows2] [sb : SB L k (some (.row e sz (ep + 1) (rows ++ rows2))) L'] :
 HW P (.call { callee := .builtin .append, args := #[x, y], argTypes := #[t, t] }) l (Hn n L) (.own (n + k) (ep + 1) 0 (m + rows2.length)) (Hn n L') (((zz.cells.size == sz) && Nat.blt 0 sz) = true ∧ rows.length = m ∧ (m + rows2.length) * bytes ≤ 140737488355328 ∧ m + rows2.length ≤ 9223372036854775807) := ⟨fun ho base d ty pos af g =>
 Hv.appendN (s := ⟨l, Hn n L⟩) (bytes := bytes) (z := zz) rfl (h.h rfl _) gb.h ho.2.1 ho.1 (hy.h rfl base) ho.2.2.1 ho.2.2.2 sb.h⟩
end
section
variable {P : Program} {base : Cx} {l l' : List AV} {H H' : List (Option AB)} {Q : Exit → St → Prop} {rest : List Oper} {ops : Array Oper} {d : Option Tmp} {op : Op} {t : TypeId} {pos : String} {af : Array Edge} {av : AV} {ob : Prop}
theorem AO.w [hp : HW P op l H av H' ob] [hd : DL l d av l'] (hob : ob) (k : AO P base ops rest ⟨l', H'⟩ Q) : AO P base ops (⟨d, op, t, pos, af, none⟩ :: rest) ⟨l, H⟩ Q :=
 AO.heavy rfl (hp.h hob base d t pos af none) fun s1 h1 => by subst h1; rw [hd.h]; exact k
theorem AO.st [hp : HS P op l H H' ob] (hob : ob) (k : AO P base ops rest ⟨l, H'⟩ Q) : AO P base ops (⟨none, op, t, pos, af, none⟩ :: rest) ⟨l, H⟩ Q :=
 AO.heavy rfl (hp.h hob base t pos af none) fun s1 h1 => by subst h1; exact k
theorem AO.call {f : FuncId} {fn : Func} {as : List Operand} {ts : Array TypeId} {args : List AV} {R : AV → Prop} (hf : P.funcs[f]? = some fn) (hname : (fn.name == "runtime.NumGoroutine") = false) (hb : fn.body.isSome = true)
 (ha : as.map (ev ⟨l, H⟩) = args) (hg : ∀ av ∈ args, Gen H.length av) (h : A0 P f args R) (k : ∀ r, R r → AO P base ops rest (St.put ⟨l, H⟩ d r) Q) : AO P base ops (⟨d, .call { callee := .value (.func f), args := as.toArray, argTypes := ts }, t, pos, af, none⟩ :: rest) ⟨l, H⟩ Q :=
 AO.heavy rfl (HvK.call0 hf hname hb ha hg h).hv fun s1 ⟨r, h1, h2⟩ => by subst h2; exact k r h1
end
class FR (args : List AV) (n : Nat) (l : outParam (List AV)) : Prop where
 len : l.length = n
 le : args.length ≤ n
 h : ∀ (i : Nat) (av : AV), l[i]? = some av → av = .any ∨ args[i]? = some av
instance : FR [] 0 [] := ⟨rfl, Nat.le_refl _, fun i av h => by simp at h⟩
instance {n : Nat} {l : List AV} [h : FR [] n l] : FR [] (n + 1) (.any :: l) := ⟨by simp [h.len], by simp, fun i av hi => by
  cases i with
  | zero => simp at hi; exact .inl hi.symm
  | succ i => rw [List.getElem?_cons_succ] at hi; rcases h.h i av hi with h | h
              · exact .inl h
              · simp at h⟩
instance (priority := high) fr8 {n : Nat} {l : List AV} [h : FR [] n l] : FR [] (n + 8) (.any :: .any :: .any :: .any :: .any :: .any :: .any :: .any :: l) :=
 have h1 : FR [] (n + 1) (.any :: l) := inferInstance
 have h2 : FR [] (n + 1 + 1) (.any :: .any :: l) := inferInstance
 have h3 : FR [] (n + 1 + 1 + 1) (.any :: .any :: .any :: l) := inferInstance
 have h4 : FR [] (n + 1 + 1 + 1 + 1) (.any :: .any :: .any :: .any :: l) := inferInstance
 have h5 : FR [] (n + 1 + 1 + 1 + 1 + 1) (.any :: .any :: .any :: .any :: .any :: l) := inferInstance
 have h6 : FR [] (n + 1 + 1 + 1 + 1 + 1 + 1) (.any :: .any :: .any :: .any :: .any :: .any :: l) := inferInstance
 have h7 : FR [] (n + 1 + 1 + 1 + 1 + 1 + 1 + 1) (.any :: .any :: .any :: .any :: .any :: .any :: .any :: l) := inferInstance
 (inferInstance : FR [] (n + 1 + 1 + 1 + 1 + 1 + 1 + 1 + 1) (.any :: .any :: .any :: .any :: .any :: .any :: .any :: .any :: l))
instance {a : AV} {args : List AV} {n : Nat} {l : List AV} [h : FR args n l] : FR (a :: args) (n + 1) (a :: l) := ⟨by simp [h.len], by have := h.le; simp; omega, fun i av hi => by
 cases i with
 | zero => exact .inr hi
 | succ i => rw [List.getElem?_cons_succ] at hi ⊢; exact h.h i av hi⟩
theorem A0.of_body' {P : Program} {f : FuncId} {fn : Func} {c : Code} {rs : List ResultVar} {args : List AV} {R : AV → Prop} {l : List AV} (n : Nat) [fr : FR args n l] (hf : P.funcs[f]? = some fn) (hb : fn.body = some c) (hrs : fn.results = rs.toArray) (hn : fn.ntmps = n)
 (h : ∀ (base : Cx) (n0 : Nat), AW P base c ⟨l, Hn n0 []⟩ (fun e s' => (e = .normal ∨ e = .ret) ∧ ∃ s2, Gh base s' s2 ∧ ∃ avs, ResR P s2 rs avs ∧ NoId (packA avs) ∧ R (packA avs))) : A0 P f args R := by
 intro n0;refine AC.of_body hf hb hrs n hn fun base => ?_
 have h1 := h base n0;have e : Hn n0 [] = List.replicate n0 none := by unfold Hn; simp
 rw [e] at h1;refine AW.ghost ?_ (AW.mono_ghost h1 (fun e s1 ⟨he, s2, hg, avs, h1, h2, h3⟩ => ⟨s2, hg, he, avs, h1, h2, h3⟩));refine Gh.weaken (by have := fr.le; rw [fr.len]; simp [frame0]; omega) fun i av hi => ?_
 rcases fr.h i av hi with h | h
 · exact .inl h
 · refine .inr ?_
   have hlt := (List.getElem?_eq_some_iff.1 h).1;show (frame0 args n)[i]? = some av
   rw [frame0, List.getElem?_append_left hlt];exact h
theorem AW.iteB {P : Program} {base : Cx} {s : St} {Q : Exit → St → Prop} {c : Operand} {x y : Code} {b : Bool} (hc : ev s c = .v (.bool b)) (h : b = true → AW P base x s Q) (h' : b = false → AW P base y s Q) : AW P base (.cond c x y) s Q := by
 refine AW.cond hc ?_;cases b
 · simpa using h' rfl
 · simpa using h rfl
section
variable {P : Program} {l : List AV} {H : List (Option AB)} {x y z : Operand} {av : AV} {rest : List (Nat × Operand)} {i off sz : Nat} {t e bt t' : TypeId} {n k len m ep m' : Nat} {L L' : List (Option AB)} {li li2 : List Int} {rows2 : List (List AV)}
theorem bys_replicate (n : Nat) : bys (List.replicate n 0) = List.replicate n [AV.v (.int .u8 0)] := by simp [bys]
instance (priority := high) mkBytes {kl kc : IntKind} {p q : Int} [tu : TU P t (.slice e)] [ti : TI P e (.int .u8 0) 1 1] [h : EC true l x (.v (.int kl p))] [h' : EC true l y (.v (.int kc q))] [pb : PB L (some (.row e 1 0 (bys (List.replicate p.toNat 0)))) k L'] : HM P (.makeSlice t x y) l (Hn n L) (.own (n + k) 0 0 p.toNat) (Hn n L') (0 ≤ p ∧ p ≤ q ∧ q ≤ 281474976710656) := ⟨fun ho base d ty pos af g => by
 have hL := pb.h
 rw [bys_replicate] at hL
 exact HvK.makeN (s := ⟨l, Hn n L⟩) (t := t) (e := e) (m := p.toNat) (cap := q.toNat) (z := .int .u8 0) (sz := 1) (bytes := 1) rfl pb.k rfl (by rw [h.h rfl, Int.toNat_of_nonneg ho.1]) (by rw [h'.h rfl, Int.toNat_of_nonneg (by omega)]) (by omega) (by omega) (by omega) hL⟩
instance (priority := high) bdBytes {rows : List (List AV)} [tu : TU P t (.slice e)] [ti : TI P e (.int .u8 0) 1 1] [pr : PR true l 1 rest 0 rows] [by_ : BY rows li] [pb : PB L (some (.row e 1 0 (bys li))) k L'] : HM P (.buildSlice t len rest.toArray) l (Hn n L) (.own (n + k) 0 0 len) (Hn n L') ((Nat.blt 0 len && Nat.ble len 16777216 && (rest.length == len)) = true) := ⟨fun ho base d ty pos af g => by
 have hL := pb.h
 rw [← by_.h] at hL
 have pb' : PB L (some (.row e 1 0 rows)) k L' := ⟨hL, pb.k⟩
 refine HM.h (ob := (((Value.int .u8 0).cells.toList.all (fun u => u.oneCell') && ((Value.int .u8 0).cells.size == 1) && Nat.blt 0 1 && Nat.blt 0 len && Nat.ble (len * 1) 16777216 && (rest.length == len)) = true)) (self := inferInstance) ?_ base d ty pos af g
 simp only [Bool.and_eq_true] at ho ⊢
 exact ⟨⟨⟨⟨⟨rfl, rfl⟩, rfl⟩, ho.1.1⟩, by rw [Nat.mul_one]; exact ho.1.2⟩, ho.2⟩⟩
theorem bys_set (li : List Int) (i : Nat) (p : Int) (hi : i < li.length) : (bys li).set i (layAt ((bys li).getD i []) 0 [AV.v (.int .u8 p)]) = bys (li.set i p) := by
 have : (bys li).getD i [] = [AV.v (.int .u8 li[i])] := by simp [bys, hi]
 rw [this];simp [bys, layAt, List.map_set]
instance (priority := high) stBytes {gg : Bool} {p : Int} [tg : TG P t gg 1] [h : EC true l x (.optr (n + k) ep i 0)] [gb : GB L k (.row bt 1 ep (bys li))] [h' : EC true l y (.v (.int .u8 p))] [sb : SB L k (some (.row bt 1 ep (bys (li.set i p)))) L'] : HS P (.store t x y) l (Hn n L) (Hn n L') (i < li.length) := ⟨fun ho base ty pos af g => by
 have hi : (bys li)[i]? = some ((bys li).getD i []) := by simp [bys, ho]
 have hL := sb.h
 rw [← bys_set li i p ho] at hL
 exact Hv.storeRN (s := ⟨l, Hn n L⟩) (gg := gg) (ps := [.v (.int .u8 p)]) rfl (h.h rfl _) gb.h hi (by rw [h'.h rfl]; rfl) rfl (by simp) hL⟩
instance (priority := high) apBytes [tu : TU P t (.slice e)] [ti : TI P e (.int .u8 0) 1 1] [h : EC true l x (.own (n + k) ep 0 m)] [gb : GB L k (.row e 1 ep (bys li))] [hy : RC true l (Hn n L) y 1 rows2] [by_ : BY rows2 li2] [sb : SB L k (some (.row e 1 (ep + 1) (bys (li ++ li2)))) L'] :
 HW P (.call { callee := .builtin .append, args := #[x, y], argTypes := #[t, t] }) l (Hn n L) (.own (n + k) (ep + 1) 0 (m + li2.length)) (Hn n L') (li.length = m ∧ m + li2.length ≤ 140737488355328) := ⟨fun ho base d ty pos af g => by
 have hL := sb.h
 rw [bys_append, ← by_.h] at hL
 have hl2 : rows2.length = li2.length := by rw [by_.h, bys_length]
 have := Hv.appendN (P := P) (base := base) (d := d) (ty := ty) (pos := pos) (af := af) (g := g) (t := t) (e := e) (s := ⟨l, Hn n L⟩) (bytes := 1) (z := .int .u8 0) rfl (h.h rfl _) gb.h (by rw [bys_length]; exact ho.1) rfl (hy.h rfl base) (by rw [hl2]; omega) (by rw [hl2]; omega) hL
 rw [hl2] at this
 exact this⟩
class WK (l l' : List AV) : Prop where
 len : l'.length = l.length
 h : ∀ (i : Nat) (av : AV), l'[i]? = some av → av = .any ∨ l[i]? = some av
instance : WK [] [] := ⟨rfl, fun i av h => by simp at h⟩
instance (priority := low) {a : AV} {l l' : List AV} [h : WK l l'] : WK (a :: l) (a :: l') := ⟨by simp [h.len], fun i av hi => by
 cases i with
 | zero => exact .inr hi
 | succ i => rw [List.getElem?_cons_succ] at hi ⊢; exact h.h i av hi⟩
instance {a : AV} {l l' : List AV} [h : WK l l'] : WK (a :: l) (.any :: l') := ⟨by simp [h.len], fun i av hi => by
 cases i with
 | zero => simp at hi; exact .inl hi.symm
 | succ i => rw [List.getElem?_cons_succ] at hi ⊢; exact h.h i av hi⟩
theorem AW.wk {base : Cx} {c : Code} {Q : Exit → St → Prop} {l : List AV} (l' : List AV) [h : WK l l'] (k : AW P base c ⟨l', H⟩ Q) : AW P base c ⟨l, H⟩ Q := AW.ghost (Gh.weaken h.len h.h) k
theorem AW.back {base : Cx} {l : List AV} {I : Nat → St → Prop} {n : Nat} {Q : Exit → St → Prop} (l' : List AV) [h : WK l l'] (m : Nat) (hm : m < n) (hI : I m ⟨l', H⟩) : ∃ s2, Gh base ⟨l, H⟩ s2 ∧ LQ I n Q .normal s2 := ⟨⟨l', H⟩, Gh.weaken h.len h.h, LQ.normal m hm hI⟩
theorem AW.loopG {base : Cx} {s : St} {Q : Exit → St → Prop} {c : Code} (I : Nat → St → Prop) (n₀ : Nat) (h₀ : I n₀ s) (round : ∀ n s', I n s' → AW P base c s' (fun e s1 => ∃ s2, Gh base s1 s2 ∧ LQ I n Q e s2)) : AW P base (.loop c) s Q :=
 AW.loop' I n₀ h₀ fun n s' hI => AW.mono_ghost (round n s' hI) fun e s1 h => h
theorem AW.out {base : Cx} {s : St} {Q : Exit → St → Prop} {e : Exit} (h : Q e s) : ∃ s2, Gh base s s2 ∧ Q e s2 := ⟨s, Gh.refl, h⟩
theorem Gh.freezeB {base : Cx} {l l' : List AV} (t : Tmp) {li : List Int} [g : GL l t (.own (n + k) ep 0 m)] [gb : GB L k (.row e 1 ep (bys li))] [sb : SB L k none L'] [sl : SL l t (.rd 1 (bys li)) l'] (hl : li.length = m) (hm : li.length ≤ 9223372036854775807) :
 Gh base ⟨l, Hn n L⟩ ⟨l', Hn n L'⟩ := by
 have := Gh.freezeN (base := base) (s := ⟨l, Hn n L⟩) (rows' := bys li) t rfl (g.ev _) gb.h (by rw [bys_length]; exact hm) (by rw [List.drop_zero, List.take_of_length_le (by rw [bys_length]; omega)]) sb.h;have e1 : ((St.wH ⟨l, Hn n L⟩ (Hn n L')).put (some t) (.rd 1 (bys li))) = ⟨l', Hn n L'⟩ := by
  show (⟨l.set t _, Hn n L'⟩ : St) = _
  rw [sl.h]
 rwa [e1] at this
theorem Gh.nilB {base : Cx} {l l' : List AV} (t : Tmp) [g : GL l t (.v (.slice none 0 0))] [sl : SL l t (.rd 1 (bys [])) l'] : Gh base ⟨l, H⟩ ⟨l', H⟩ := by
 have := Gh.nilrd (base := base) (s := ⟨l, H⟩) t 1 (g.ev _);have e1 : St.put ⟨l, H⟩ (some t) (.rd 1 []) = ⟨l', H⟩ := by
  show (⟨l.set t _, H⟩ : St) = _
  have := sl.h;rw [show bys [] = [] from rfl] at this;rw [this]
 rwa [e1] at this
class RR (P : Program) (l : List AV) (H : List (Option AB)) (rs : List ResultVar) (avs : outParam (List AV)) : Prop where
 h : ResR P ⟨l, H⟩ rs avs
instance : RR P l H [] [] := ⟨.nil⟩
instance {u : Tmp} {rs : List ResultVar} {avs : List AV} [g : GL l u av] [h : RR P l H rs avs] : RR P l H (.tmp u :: rs) (av :: avs) := ⟨.tmp' (g.ev H) h.h⟩
theorem fin {base : Cx} {l l' : List AV} {H' : List (Option AB)} {rs : List ResultVar} {avs : List AV} {R : AV → Prop} {e : Exit} (he : e = .normal ∨ e = .ret) (hg : Gh base ⟨l, H⟩ ⟨l', H'⟩) [rr : RR P l' H' rs avs] (hn : NoId (packA avs)) (hR : R (packA avs)) :
 (e = .normal ∨ e = .ret) ∧ ∃ s2, Gh base ⟨l, H⟩ s2 ∧ ∃ avs, ResR P s2 rs avs ∧ NoId (packA avs) ∧ R (packA avs) := ⟨he, _, hg, _, rr.h, hn, hR⟩
end
section
variable {P : Program} {base : Cx} {l l' : List AV} {H : List (Option AB)} {Q : Exit → St → Prop} {rest : List Oper} {ops : Array Oper} {d : Option Tmp} {t t' ty : TypeId} {pos : String} {af : Array Edge} {x y : Operand} {k k' : IntKind} {p q : Int} {dd : TypeDesc}
theorem AO.v [hd : TU P t' (.int k')] [hs : TU P t dd] [h : EC true l x (.v (.int k p))] [hl : DL l d (.v (.int k' (k'.wrap p))) l'] (kk : AO P base ops rest ⟨l', H⟩ Q) : AO P base ops (⟨d, .convert t t' x, ty, pos, af, none⟩ :: rest) ⟨l, H⟩ Q :=
 AO.light (convW (c := true) rfl) (by rw [hl.h]; exact kk)
theorem AO.eq {av av' : AV} {l' : List AV} (t : Tmp) [g : GL l t av] [sl : SL l t av' l'] (he : av = av') (kk : AO P base ops rest ⟨l', H⟩ Q) : AO P base ops rest ⟨l, H⟩ Q := by
 subst he;have : l.set t av = l := by
  apply List.ext_getElem?;intro i;by_cases hi : t = i
  · subst hi
    have := g.h;rw [List.getElem?_set_self (List.getElem?_eq_some_iff.1 this).1, this]
  · rw [List.getElem?_set_ne hi]
 have h2 := sl.h;rw [this] at h2;rw [h2]; exact kk
end
def Fin (P : Program) (base : Cx) (rs : List ResultVar) (R : AV → Prop) : Exit → St → Prop := fun e s' => (e = .normal ∨ e = .ret) ∧ ∃ s2, Gh base s' s2 ∧ ∃ avs, ResR P s2 rs avs ∧ NoId (packA avs) ∧ R (packA avs)
theorem A0.body {P : Program} {f : FuncId} {fn : Func} {c : Code} {rs : List ResultVar} {args : List AV} {R : AV → Prop} {l : List AV} (n : Nat) [fr : FR args n l] (hf : P.funcs[f]? = some fn) (hb : fn.body = some c) (hrs : fn.results = rs.toArray) (hn : fn.ntmps = n)
 (h : ∀ (base : Cx) (n0 : Nat), AW P base c ⟨l, Hn n0 []⟩ (Fin P base rs R)) : A0 P f args R := A0.of_body' n hf hb hrs hn h
theorem Fin.ret {P : Program} {base : Cx} {l l' : List AV} {H H' : List (Option AB)} {rs : List ResultVar} {avs : List AV} {R : AV → Prop} (hg : Gh base ⟨l, H⟩ ⟨l', H'⟩) [rr : RR P l' H' rs avs] (hn : NoId (packA avs)) (hR : R (packA avs)) : Fin P base rs R .ret ⟨l, H⟩ := ⟨.inr rfl, _, hg, _, rr.h, hn, hR⟩
section
variable {P : Program} {base : Cx} {l l' : List AV} {H H' : List (Option AB)} {Q : Exit → St → Prop} {ops : Array Oper} {ds : List Nat} {n : Nat} {fl : Array Bool} {d : Option Tmp} {op : Op} {t : TypeId} {pos : String} {af : Array Edge} {av : AV} {ob : Prop}
theorem AY.c (i : Nat) (hi : ops[i]? = some ⟨d, op, t, pos, af, none⟩) (hc : takeR ops ds fl (fl.setIfInBounds i true) i = true) [hp : LC true P op l H av] [hd : DL l d av l'] (k : AY P base ops ds n (fl.setIfInBounds i true) ⟨l', H⟩ Q) : AY P base ops ds (n + 1) fl ⟨l, H⟩ Q :=
 AY.light hi hc rfl (hp.h rfl) (by rw [hd.h]; exact k)
class ARG (l : List AV) (as : List Operand) (args : outParam (List AV)) : Prop where
 h : ∀ H, as.map (ev ⟨l, H⟩) = args
instance : ARG l [] [] := ⟨fun _ => rfl⟩
instance {x : Operand} {as : List Operand} {args : List AV} [h : EC true l x av] [h' : ARG l as args] : ARG l (x :: as) (av :: args) := ⟨fun H => by rw [List.map_cons, h.h rfl H, h'.h H]⟩
class GA (n : Nat) (args : List AV) : Prop where
 h : ∀ av ∈ args, Gen n av
class G1 (n : Nat) (av : AV) : Prop where
 h : Gen n av
instance {n : Nat} : GA n [] := ⟨fun _ h => by cases h⟩
instance {n : Nat} {args : List AV} [h : G1 n av] [h' : GA n args] : GA n (av :: args) := ⟨fun x hx => by
 rcases List.mem_cons.1 hx with rfl | hx
 · exact h.h
 · exact h'.h x hx⟩
instance {n : Nat} {x : Value} : G1 n (.v x) := ⟨.v x⟩
instance {n : Nat} {li : List Int} : G1 n (.rd 1 (bys li)) := ⟨NoId.bys li n⟩
instance {n : Nat} {cs : List AV} [h : GA n cs] : G1 n (.agg cs) := ⟨.agg fun _ av hj => h.h av (List.mem_of_getElem? hj)⟩
instance {n : Nat} {cs : List AV} [h : GA n cs] : G1 n (.eptr cs) := ⟨.eptr fun _ av hj => h.h av (List.mem_of_getElem? hj)⟩
class Rowss (n : Nat) (rows : List (List AV)) : Prop where
 h : ∀ row ∈ rows, GA n row
instance {n sz : Nat} {rows : List (List AV)} [h : Rowss n rows] : G1 n (.rd sz rows) := ⟨.rd fun _ row _ av hi hj => (h.h row (List.mem_of_getElem? hi)).h av (List.mem_of_getElem? hj)⟩
theorem AO.call1 {ops : Array Oper} {rest : List Oper} {f : FuncId} {fn : Func} {as : List Operand} {ts : Array TypeId} {args : List AV} (hf : P.funcs[f]? = some fn) (hname : (fn.name == "runtime.NumGoroutine") = false) (hb : fn.body.isSome = true)
 [ha : ARG l as args] [hg : GA H.length args] (h : A0 P f args (fun r => r = av)) [hd : DL l d av l'] (k : AO P base ops rest ⟨l', H⟩ Q) : AO P base ops (⟨d, .call { callee := .value (.func f), args := as.toArray, argTypes := ts }, t, pos, af, none⟩ :: rest) ⟨l, H⟩ Q :=
 AO.call hf hname hb (ha.h H) hg.h h fun r hr => by subst hr; rw [hd.h]; exact k
end
theorem A0.calls {P : Program} {f : FuncId} {args : List AV} {x : Value} (h : A0 P f args (fun r => r = .v x)) (w : World) (vs : List Value) (hl : vs.length = args.length) (σ : Nat → Value)
 (hv : ∀ (j : Nat) (av : AV) (y : Value), args[j]? = some av → vs[j]? = some y → VR ⟨w, [], σ, fun _ => False⟩ av y) : Calls P f ⟨vs⟩ w fun e w' => e = .returned x ∧ Below w.heap.size w w' := by
 have hH : Heap ⟨w.heap.size, fun _ => False⟩ ⟨w, List.replicate 0 none, σ, fun _ => False⟩ := ⟨Nat.le_refl _, fun _ h => h.elim, fun g h => (ours_none g h).elim, fun id b h => (rep_none h).elim, fun id id' b b' g h1 h2 h3 h4 => (rep_none h1).elim⟩;refine (h 0 ⟨w.heap.size, fun _ => False⟩ σ w vs hH hl (fun j av y h1 h2 => hv j av y h1 h2)).mono ?_
 rintro e w' ⟨y, r, H', σ', rfl, h2, h3, h4, h5, rfl⟩
 cases h4;exact ⟨rfl, ⟨h3.os, h3.tape, h3.output, h3.size, fun k hk => h3.keep k hk (ours_none k)⟩⟩
section
variable {c : Bool} {P : Program} {l : List AV} {H : List (Option AB)} {x y z : Operand} {av : AV} {t t' e : TypeId}
theorem Pu.eqlS {s : St} {xt yt : TypeId} {a b : ByteArray} (hx : ev s x = .v (.string a)) (hy : ev s y = .v (.string b)) : Pu P (.binOp .eql xt x y yt) s (.v (.bool (decide (a.toList = b.toList)))) :=
 Pu.bin hx hy fun w => by
  have : (a.toList == b.toList) = decide (a.toList = b.toList) := by by_cases h : a.toList = b.toList <;> simp [h]
  simp [eqGuard, binOp, Op.stringOp, this]
theorem Pu.neqS {s : St} {xt yt : TypeId} {a b : ByteArray} (hx : ev s x = .v (.string a)) (hy : ev s y = .v (.string b)) : Pu P (.binOp .neq xt x y yt) s (.v (.bool (decide (a.toList ≠ b.toList)))) :=
 Pu.bin hx hy fun w => by
  have : (a.toList == b.toList) = decide (a.toList = b.toList) := by by_cases h : a.toList = b.toList <;> simp [h]
  simp [eqGuard, binOp, Op.stringOp, this]
instance {a b : ByteArray} [h : EC c l x (.v (.string a))] [h' : EC c l y (.v (.string b))] : PC c P (.binOp .eql t x y t') l H (.v (.bool (decide (a.toList = b.toList)))) := ⟨fun hc => Pu.eqlS (h.h hc H) (h'.h hc H)⟩
instance {a b : ByteArray} [h : EC c l x (.v (.string a))] [h' : EC c l y (.v (.string b))] : PC c P (.binOp .neq t x y t') l H (.v (.bool (decide (a.toList ≠ b.toList)))) := ⟨fun hc => Pu.neqS (h.h hc H) (h'.h hc H)⟩
theorem run_equalB {t : TypeId} {a b : Bool} (hu : P.underlying t = some .bool) (w : World) : (Op.equal t (.bool a) (.bool b)).run P w = .ok (a == b) w := by
 show (Op.equalIn (9999 + 1) t (.bool a) (.bool b)).run P w = _
 unfold Op.equalIn;simp [run_underlying hu]
theorem Pu.eqlB {s : St} {xt yt : TypeId} {a b : Bool} (hu : P.underlying xt = some .bool) (hx : ev s x = .v (.bool a)) (hy : ev s y = .v (.bool b)) : Pu P (.binOp .eql xt x y yt) s (.v (.bool (a == b))) :=
 Pu.bin hx hy fun w => by
  simp [eqGuard, binOp, run_equalB hu]
theorem Pu.neqB {s : St} {xt yt : TypeId} {a b : Bool} (hu : P.underlying xt = some .bool) (hx : ev s x = .v (.bool a)) (hy : ev s y = .v (.bool b)) : Pu P (.binOp .neq xt x y yt) s (.v (.bool (!(a == b)))) :=
 Pu.bin hx hy fun w => by
  simp [eqGuard, binOp, run_equalB hu]
instance {a b : Bool} [tu : TU P t .bool] [h : EC c l x (.v (.bool a))] [h' : EC c l y (.v (.bool b))] : PC c P (.binOp .eql t x y t') l H (.v (.bool (a == b))) := ⟨fun hc => Pu.eqlB tu.h (h.h hc H) (h'.h hc H)⟩
instance {a b : Bool} [tu : TU P t .bool] [h : EC c l x (.v (.bool a))] [h' : EC c l y (.v (.bool b))] : PC c P (.binOp .neq t x y t') l H (.v (.bool (!(a == b)))) := ⟨fun hc => Pu.neqB tu.h (h.h hc H) (h'.h hc H)⟩
end
section
class HR (P : Program) (o : Op) (l : List AV) (H : List (Option AB)) (av : outParam AV) (ob : outParam Prop) : Prop where
 h : ob → ∀ (base : Cx) (d : Option Tmp) (ty : TypeId) (pos : String) (af : Array Edge) (g : Option (Nat × Bool)), HvK P base ⟨d, o, ty, pos, af, g⟩ ⟨l, H⟩ (fun s' => s' = St.put ⟨l, H⟩ d av)
variable {P : Program} {base : Cx} {l l' : List AV} {H : List (Option AB)} {Q : Exit → St → Prop} {rest : List Oper} {ops : Array Oper} {d : Option Tmp} {op : Op} {t e : TypeId} {pos : String} {af : Array Edge} {av : AV} {ob : Prop} {parts : List (Nat × Operand)} {len sz bytes : Nat} {zz : Value} {rows : List (List AV)} {li : List Int}
theorem new_rd {σ : Nat → Value} {a : Act} {w : World} {s : St} (hr : Rel base σ s a w) {e : TypeId} {sz : Nat} {rows : List (List AV)} {xs : List Value} (hc : RowsR ⟨w, s.H, σ, base.F⟩ sz rows xs) (hm : rows.length ≤ maxLen) (d : Option Tmp) :
 Rel base σ (s.put d (.rd sz rows)) (a.put d (.slice (some ⟨w.heap.size, 0, none⟩) rows.length rows.length)) (w.alloc (.cells ⟨xs⟩ e)) ∧
  Ext ⟨w, s.H, σ, base.F⟩ ⟨w.alloc (.cells ⟨xs⟩ e), s.H, σ, base.F⟩ := by
 have hk := keep_alloc w (.cells ⟨xs⟩ e);have he : Ext ⟨w, s.H, σ, base.F⟩ ⟨w.alloc (.cells ⟨xs⟩ e), s.H, σ, base.F⟩ :=
  ⟨rfl, rfl, rfl, hk.size, rfl, fun k h _ => hk.keep k h, fun k h _ => h, Nat.le_refl _, fun id e sz ep rows' h6 _ => ⟨ep, rows', h6, .inr ⟨rfl, rfl, rfl⟩⟩, fun id t cs' h6 _ => ⟨cs', h6, rfl, rfl⟩, fun id es' h6 _ => ⟨es', h6, rfl⟩⟩
 have hH : Heap base ⟨w.alloc (.cells ⟨xs⟩ e), s.H, σ, base.F⟩ :=
  ⟨Nat.le_trans hr.1.bs hk.size, fun g h => Nat.lt_of_lt_of_le (hr.1.far g h) hk.size, hr.1.clear, fun id b h6 => (hr.1.live id b h6).keep he rfl fun g hg => hk.keep g (blk_lt hr.1 h6 hg).2, hr.1.apart⟩
 have hrel : Rel base σ s a (w.alloc (.cells ⟨xs⟩ e)) := ⟨hH, hr.2.1.ext he, hr.2.2⟩;have hnew : (w.alloc (.cells ⟨xs⟩ e)).heap[w.heap.size]? = some (.cells ⟨xs⟩ e (0, 0)) := heap_alloc_at w _;have hlt : w.heap.size < (w.alloc (.cells ⟨xs⟩ e)).heap.size := (Array.getElem?_eq_some_iff.1 hnew).1
 have hcell : ∀ (j : Nat) (u : Value), xs[j]? = some u → (w.alloc (.cells ⟨xs⟩ e)).cell? ((⟨w.heap.size, 0, none⟩ : Addr).add j) = some u := by
  intro j u hu;rw [add_plain, Nat.zero_add];unfold World.cell?;simp only [hnew];simpa using hu
 have hxs := hc.2.1;have hin : ∀ {i j : Nat} {row : List AV}, rows[i]? = some row → j < row.length → i * sz + j < xs.length := by
  intro i j row hi hj;have h1 := (List.getElem?_eq_some_iff.1 hi).1;rw [hc.1 row (List.mem_of_getElem? hi)] at hj;have : (i + 1) * sz ≤ rows.length * sz := Nat.mul_le_mul_right _ h1;rw [Nat.succ_mul] at this;omega
 refine ⟨hrel.put d (.rd (fun i j => xs.getD (i * sz + j) undef) (Nat.le_refl _) hm hc.1 (fun h0 => ⟨_, rfl, ?_, hlt, fun i row j av hi hj => ?_⟩) (fun i row j av hi hj => ?_)), he⟩
 · rintro (⟨id, b, h1, h2⟩ | h1)
   · have := (blk_lt hr.1 h1 h2).2
     exact absurd this (Nat.lt_irrefl _)
   · exact absurd (hr.1.far _ h1) (Nat.lt_irrefl _)
 · have h1 := hin hi (List.getElem?_eq_some_iff.1 hj).1
   have h2 : xs[i * sz + j]? = some (xs.getD (i * sz + j) undef) := by simp [h1]
   exact ⟨hcell _ _ h2, hc.2.2.1 _ (List.mem_of_getElem? h2)⟩
 · obtain ⟨x, h1, h2⟩ := hc.2.2.2 i row j av hi hj
   have : xs.getD (i * sz + j) undef = x := by rw [List.getD_eq_getElem?_getD, h1]; rfl
   rw [this];exact h2.ext he
instance mkRd [tu : TU P t (.slice e)] [ti : TI P e zz sz bytes] [pr : PR true l sz parts 0 rows] : HR P (.buildSlice t len parts.toArray) l H (.rd sz rows) ((zz.cells.toList.all (fun u => u.oneCell') && (zz.cells.size == sz) && Nat.blt 0 sz && Nat.blt 0 len && Nat.ble (len * sz) 16777216 && (parts.length == len)) = true) := ⟨fun ho base d ty pos af g => by
 simp only [Bool.and_eq_true, beq_iff_eq] at ho
 obtain ⟨⟨⟨⟨⟨h1, h2⟩, h3⟩, h4⟩, h5⟩, hl⟩ := ho
 have h3 := Nat.blt_eq.mp h3
 have h4 := Nat.blt_eq.mp h4
 have h5 := Nat.le_of_ble_eq_true h5
 intro σ a w hr Q K hk
 obtain ⟨i, hi0, hz, hs'⟩ := info_two (P := P) (e := e) TI.z2
 have hf := pr.h rfl H (zerosA zz (len * sz)) (by simp [zerosA, hl])
 rw [Nat.zero_mul, List.take_zero, List.nil_append] at hf
 obtain ⟨us, h6, h7⟩ := fill_ok hr parts _ rows.flatten _ (zerosA_ok _ zz (len * sz) h1 (by omega)) hf
 have hrl : rows.length = len := by rw [pr.n, hl]
 have hcl : rows.flatten.length = len * sz := by
  have : ∀ (rows : List (List AV)), (∀ row ∈ rows, row.length = sz) → rows.flatten.length = rows.length * sz := by
   intro rows
   induction rows with
   | nil => intro _; simp
   | cons r rows ih => intro h; rw [List.flatten_cons, List.length_append, ih (fun row hr => h row (by simp [hr])), h r (by simp), List.length_cons, Nat.succ_mul, Nat.add_comm]
  rw [this rows pr.r, hrl]
 have hrows := h7.rows hcl;have hrf := rowsOf_flatten pr.r;rw [hrl] at hrf;rw [hrf] at hrows;have hmax : len ≤ maxLen := by
  have : len * 1 ≤ len * sz := Nat.mul_le_mul_left _ h3;unfold maxLen; omega
 obtain ⟨h8, h9⟩ := new_rd (e := e) hr hrows (by rw [hrl]; exact hmax) d;rw [hrl] at h8;unfold Oper.wp;have hrun : (execOp a.eval ⟨d, .buildSlice t len parts.toArray, ty, pos, af, g⟩).run P w = .ok (.value (.slice (some ⟨w.heap.size, 0, none⟩) len len)) (w.alloc (.cells us e)) := by
  have hpos : 0 < len * sz := Nat.mul_pos h4 h3;have e1 : (parts.toArray.map fun x => match x with | (i, x) => (i, a.eval x)).toList = parts.map fun p => (p.1, a.eval p.2) := by simp
  have := run_buildSlice (P := P) w t e len (parts.toArray.map fun x => match x with | (i, x) => (i, a.eval x)) us i zz tu.h hi0 hz (by rw [hs']; omega) (by rw [hs']; omega) (by rw [hs', e1]; exact h6);simp only [execOp, Sem.run_bind, this, Result.andThen_ok, Sem.run_pure]
 rw [hrun];exact hk σ _ _ _ (by obtain ⟨us⟩ := us; exact h8) (by rw [put_H]; obtain ⟨us⟩ := us; exact h9) (keep_alloc _ _) rfl⟩
instance (priority := high) mkRdB [tu : TU P t (.slice e)] [ti : TI P e (.int .u8 0) 1 1] [pr : PR true l 1 parts 0 rows] [by_ : BY rows li] : HR P (.buildSlice t len parts.toArray) l H (.rd 1 (bys li)) ((Nat.blt 0 len && Nat.ble len 16777216 && (parts.length == len)) = true) := ⟨fun ho base d ty pos af g => by
 have hb := by_.h
 rw [← hb]
 refine HR.h (ob := (((Value.int .u8 0).cells.toList.all (fun u => u.oneCell') && ((Value.int .u8 0).cells.size == 1) && Nat.blt 0 1 && Nat.blt 0 len && Nat.ble (len * 1) 16777216 && (parts.length == len)) = true)) (self := mkRd) ?_ base d ty pos af g
 simp only [Bool.and_eq_true] at ho ⊢
 exact ⟨⟨⟨⟨⟨rfl, rfl⟩, rfl⟩, ho.1.1⟩, by rw [Nat.mul_one]; exact ho.1.2⟩, ho.2⟩⟩
theorem AO.r [hp : HR P op l H av ob] [hd : DL l d av l'] (hob : ob) (k : AO P base ops rest ⟨l', H⟩ Q) : AO P base ops (⟨d, op, t, pos, af, none⟩ :: rest) ⟨l, H⟩ Q :=
 AO.heavy rfl (hp.h hob base d t pos af none).hv fun s1 h1 => by subst h1; rw [hd.h]; exact k
variable {ds : List Nat} {n : Nat} {fl : Array Bool}
theorem AY.eq {av av' : AV} {l' : List AV} (t : Tmp) [g : GL l t av] [sl : SL l t av' l'] (he : av = av') (kk : AY P base ops ds n fl ⟨l', H⟩ Q) : AY P base ops ds n fl ⟨l, H⟩ Q := by
 subst he;have : l.set t av = l := by
  apply List.ext_getElem?;intro i;by_cases hi : t = i
  · subst hi
    have := g.h;rw [List.getElem?_set_self (List.getElem?_eq_some_iff.1 this).1, this]
  · rw [List.getElem?_set_ne hi]
 have h2 := sl.h;rw [this] at h2;rw [h2]; exact kk
theorem Gh.adoptB {n k : Nat} {L L' : List (Option AB)} (t : Tmp) (e : TypeId) [g : GL l t (.v (.slice none 0 0))] [pb : PB L (some (.row e 1 0 (bys []))) k L'] [sl : SL l t (.own (n + k) 0 0 0) l'] : Gh base ⟨l, Hn n L⟩ ⟨l', Hn n L'⟩ := by
 have := Gh.adopt (base := base) (s := ⟨l, Hn n L⟩) t e 1 g.h;have e1 : (Hn n L).length = n + k := by rw [Hn_len, pb.k]
 rw [e1, sl.h, show [] = bys [] from rfl, Hn_push, pb.h] at this;exact this
end
section
open Go.Proofs.YtkbbcenjklaglaaGreatW.PrintLast
variable {P : Program} {base : Cx} {l l' : List AV} {H H' : List (Option AB)} {s : St} {Q : Exit → St → Prop} {ops : Array Oper} {ds : List Nat} {n : Nat} {fl : Array Bool} {d : Option Tmp} {op : Op} {t : TypeId} {pos : String} {af : Array Edge} {av : AV} {ob : Prop}
def AYi (P : Program) (base : Cx) (ops : Array Oper) (ds : List Nat) (n : Nat) (fl : Array Bool) (s : St) (Q : Exit → St → Prop) (i : Nat) : Prop :=
 ∀ (σ : Nat → Value) (a : Act) (w : World), Rel base σ s a w → ∀ K : Exit → Act → World → Prop, (∀ c a w, ¬ K (.panic c) a w) →
  (∀ e σ' s' a' w', Rel base σ' s' a' w' → Ext ⟨w, s.H, σ, base.F⟩ ⟨w', s'.H, σ', base.F⟩ → Q e s' → e = .normal → K e a' w') → wpOp P ops K i (fun a' w' => (i ∉ ds → KeepW w w') ∧ wpAnyR P ops K ds n (fl.setIfInBounds i true) a' w') a w
theorem AY.three (i j m : Nat) (hr : (Region.ready .any ops fl == [i, j, m]) = true) (h : AYi P base ops ds n fl s Q i) (h' : AYi P base ops ds n fl s Q j) (h'' : AYi P base ops ds n fl s Q m) : AY P base ops ds (n + 1) fl s Q := by
 intro σ a w hrel K hK hk;have hr : Region.ready .any ops fl = [i, j, m] := by simpa using hr
 refine ⟨fun h0 => (by rw [hr] at h0; cases h0), fun x hx => ?_⟩;rw [hr] at hx;rcases List.mem_cons.1 hx with rfl | hx
 · exact h σ a w hrel K hK hk
 · rcases List.mem_cons.1 hx with rfl | hx
   · exact h' σ a w hrel K hK hk
   · obtain rfl := List.mem_singleton.1 hx
     exact h'' σ a w hrel K hK hk
theorem AYi.heavy {i : Nat} {o : Oper} {R : St → Prop} (hi : ops[i]? = some o) (hw : wantedA ops s o.guard = some true) (h : HvK P base o s R)
 (k : ∀ s', R s' → AY P base ops ds n (fl.setIfInBounds i true) s' Q) : AYi P base ops ds n fl s Q i := by
 intro σ a w hr K hK hk;unfold wpOp;simp only [hi];rw [wanted_ok hr hw, if_pos rfl];exact .inl (h σ a w hr K _ fun σ' s' a' w' h2 h3 h4 h5 => ⟨fun _ => h4, k s' h5 σ' a' w' h2 K hK fun e σ'' s'' a'' w'' h6 h7 h8 h9 => hk e σ'' s'' a'' w'' h6 (h3.trans h7) h8 h9⟩)
end
theorem vr_nil {E : Env} : ∀ (j : Nat) (av : AV) (y : Value), ([] : List AV)[j]? = some av → ([] : List Value)[j]? = some y → VR E av y := fun j av y h => by simp at h
theorem vr_cons {E : Env} {av : AV} {y : Value} {avs : List AV} {ys : List Value} (h : VR E av y) (hs : ∀ (j : Nat) (av : AV) (y : Value), avs[j]? = some av → ys[j]? = some y → VR E av y) : ∀ (j : Nat) (av' : AV) (y' : Value), (av :: avs)[j]? = some av' → (y :: ys)[j]? = some y' → VR E av' y' := fun j av' y' h1 h2 => by
 cases j with
 | zero => simp at h1 h2; subst h1; subst h2; exact h
 | succ j => rw [List.getElem?_cons_succ] at h1 h2; exact hs j av' y' h1 h2
theorem pickT_ {b : Bool} (hb : b = true) {a c r : AV} (h : a = r) : (if b then a else c) = r := by subst hb; exact h
theorem pickF_ {b : Bool} (hb : b = false) {a c r : AV} (h : c = r) : (if b then a else c) = r := by subst hb; exact h
section
variable {P : Program} {base : Cx} {l l' : List AV} {H : List (Option AB)} {Q : Exit → St → Prop} {rest : List Oper} {ops : List Oper} {d : Option Tmp} {op : Op} {t : TypeId} {pos : String} {af : Array Edge} {av : AV} {ob : Prop} {x y z : Operand} {b bg want : Bool} {j u : Nat} {g : Option (Nat × Bool)} {ds : List Nat} {n : Nat} {fl : Array Bool}
theorem AO.s [ho : DO ops j u] [hg : GL l u (.v (.bool b))] (hb : b = !want) [hd : DL l d (.v undef) l'] (k : AO P base ops.toArray rest ⟨l', H⟩ Q) : AO P base ops.toArray (⟨d, op, t, pos, af, some (j, want)⟩ :: rest) ⟨l, H⟩ Q :=
 AO.skipG (by rw [wanted_some (s := ⟨l, H⟩) (by simpa using ho.h) (hg.ev H), hb]; simp) (by rw [hd.h]; exact k)
theorem wanted_undef {s : St} {σ : Nat → Value} {a : Act} {w : World} (hr : Rel base σ s a w) {o : Oper} {os : Array Oper} (hg : o.guard = some (j, want)) (hd : (os[j]?).bind (·.dst) = some u) (h : s.fr[u]? = some (.v undef)) : Region.wanted o (yielded os a.tmps) = false := by
 unfold Region.wanted;rw [hg];obtain ⟨x, h1, h2⟩ := hr.2.1.2 u _ h;cases h2;have : yielded os a.tmps j = none := by unfold yielded; rw [hd]; simp [h1, undef]
 show (yielded os a.tmps j == some want) = false
 rw [this]; rfl
theorem AO.un [ho : DO ops j u] [hg : GL l u (.v undef)] [hd : DL l d (.v undef) l'] (k : AO P base ops.toArray rest ⟨l', H⟩ Q) : AO P base ops.toArray (⟨d, op, t, pos, af, some (j, want)⟩ :: rest) ⟨l, H⟩ Q := by
 intro σ a w hr K hk;have hwt := wanted_undef (o := ⟨d, op, t, pos, af, some (j, want)⟩) (os := ops.toArray) hr rfl (by simpa using ho.h) hg.h;unfold wpList;rw [hwt, if_neg (by decide)];have hk2 : AO P base ops.toArray rest (St.put ⟨l, H⟩ d (.v undef)) Q := by rw [hd.h]; exact k
 exact hk2 σ _ w (hr.put d (.v _)) K fun e σ' s' a' w' h3 h4 h5 => hk e σ' s' a' w' h3 (by rw [put_H] at h4; exact h4) h5
theorem AO.pt {os : Array Oper} [h : EC true l x (.v (.bool b))] (hb : b = true) [h1 : EC true l y av] [hd : DL l d av l'] (k : AO P base os rest ⟨l', H⟩ Q) : AO P base os (⟨d, .pick x y z, t, pos, af, none⟩ :: rest) ⟨l, H⟩ Q :=
 AO.light (Pu.pick (h.h rfl H) (pickT_ hb (h1.h rfl H))).lt (by rw [hd.h]; exact k)
end
section
instance (priority := 20000) {a0 a1 a2 a3 a4 a5 a6 a7 a8 a9 a10 a11 a12 a13 a14 a15 a16 a17 a18 a19 a20 a21 a22 a23 a24 a25 a26 a27 a28 a29 a30 a31 v : AV} {l : List AV} {n : Nat} [h : GL l n v] : GL (a0 :: a1 :: a2 :: a3 :: a4 :: a5 :: a6 :: a7 :: a8 :: a9 :: a10 :: a11 :: a12 :: a13 :: a14 :: a15 :: a16 :: a17 :: a18 :: a19 :: a20 :: a21 :: a22 :: a23 :: a24 :: a25 :: a26 :: a27 :: a28 :: a29 :: a30 :: a31 :: l) (n + 32) v := ⟨by have := h.h; simpa using this⟩
instance (priority := 20000) {a0 a1 a2 a3 a4 a5 a6 a7 a8 a9 a10 a11 a12 a13 a14 a15 a16 a17 a18 a19 a20 a21 a22 a23 a24 a25 a26 a27 a28 a29 a30 a31 v : AV} {l l' : List AV} {n : Nat} [h : SL l n v l'] : SL (a0 :: a1 :: a2 :: a3 :: a4 :: a5 :: a6 :: a7 :: a8 :: a9 :: a10 :: a11 :: a12 :: a13 :: a14 :: a15 :: a16 :: a17 :: a18 :: a19 :: a20 :: a21 :: a22 :: a23 :: a24 :: a25 :: a26 :: a27 :: a28 :: a29 :: a30 :: a31 :: l) (n + 32) v (a0 :: a1 :: a2 :: a3 :: a4 :: a5 :: a6 :: a7 :: a8 :: a9 :: a10 :: a11 :: a12 :: a13 :: a14 :: a15 :: a16 :: a17 :: a18 :: a19 :: a20 :: a21 :: a22 :: a23 :: a24 :: a25 :: a26 :: a27 :: a28 :: a29 :: a30 :: a31 :: l') := ⟨by have := h.h; simp [List.set_cons_succ, this]⟩
end
inductive KP where
 | k
 | f
 | K
 | F
class MK (l : List AV) (m : List KP) (l' : outParam (List AV)) : Prop where
 len : l'.length = l.length
 h : ∀ (i : Nat) (av : AV), l'[i]? = some av → av = .any ∨ l[i]? = some av
theorem mk_cons {a b : AV} {l l' : List AV} (h : l'.length = l.length ∧ ∀ (i : Nat) (av : AV), l'[i]? = some av → av = .any ∨ l[i]? = some av) (hb : b = .any ∨ b = a) :
 (b :: l').length = (a :: l).length ∧ ∀ (i : Nat) (av : AV), (b :: l')[i]? = some av → av = .any ∨ (a :: l)[i]? = some av := by
 refine ⟨by simp [h.1], fun i av hi => ?_⟩
 cases i with
 | zero => simp at hi ⊢; subst hi; rcases hb with hb | hb <;> simp [hb]
 | succ i => simp at hi ⊢; exact h.2 i av hi
instance mkNil {l : List AV} : MK l [] l := ⟨rfl, fun _ _ h => .inr h⟩
instance (priority := low) mkK {a : AV} {l l' : List AV} {m : List KP} [h : MK l m l'] : MK (a :: l) (.k :: m) (a :: l') := by
 have := mk_cons (a := a) (b := a) ⟨h.len, h.h⟩ (.inr rfl);exact ⟨this.1, this.2⟩
instance (priority := low) mkF {a : AV} {l l' : List AV} {m : List KP} [h : MK l m l'] : MK (a :: l) (.f :: m) (.any :: l') := by
 have := mk_cons (a := a) (b := .any) ⟨h.len, h.h⟩ (.inl rfl);exact ⟨this.1, this.2⟩
instance mkF8 {a0 a1 a2 a3 a4 a5 a6 a7 : AV} {l l' : List AV} {m : List KP} [h : MK l m l'] : MK (a0 :: a1 :: a2 :: a3 :: a4 :: a5 :: a6 :: a7 :: l) (.F :: m) (.any :: .any :: .any :: .any :: .any :: .any :: .any :: .any :: l') := by
 have := mk_cons (a := a0) (mk_cons (a := a1) (mk_cons (a := a2) (mk_cons (a := a3) (mk_cons (a := a4) (mk_cons (a := a5) (mk_cons (a := a6) (mk_cons (a := a7) ⟨h.len, h.h⟩ (.inl rfl)) (.inl rfl)) (.inl rfl)) (.inl rfl)) (.inl rfl)) (.inl rfl)) (.inl rfl)) (.inl rfl);exact ⟨this.1, this.2⟩
class UPD (l : List AV) (us : List (Nat × AV)) (l' : outParam (List AV)) : Prop where
 h : us.foldl (fun l p => l.set p.1 p.2) l = l'
instance updNil {l : List AV} : UPD l [] l := ⟨rfl⟩
instance updCons {l l1 l2 : List AV} {t : Nat} {v : AV} {us : List (Nat × AV)} [s : SL l t v l1] [h : UPD l1 us l2] : UPD l ((t, v) :: us) l2 := ⟨by
 have := h.h
 simp only [List.foldl_cons, s.h]
 exact this⟩
section
variable {P : Program} {base : Cx} {Q : Exit → St → Prop} {c d : Code} {l lm : List AV} {H : List (Option AB)} {α : Type}
def LU (l1 : α → List AV) (H1 : α → List (Option AB)) (I : Nat → α → Prop) (n : Nat) (Q : Exit → St → Prop) : Exit → St → Prop := fun e s => match e with | .normal => ∃ m x, m < n ∧ I m x ∧ s = ⟨l1 x, H1 x⟩ | e => Q e s
theorem LU.ret {s : St} {l1 : α → List AV} {H1 : α → List (Option AB)} {I : Nat → α → Prop} {n : Nat} (h : Q .ret s) : LU l1 H1 I n Q .ret s := h
theorem LU.exit {s : St} {l1 : α → List AV} {H1 : α → List (Option AB)} {I : Nat → α → Prop} {n i : Nat} (h : Q (.exit i) s) : LU l1 H1 I n Q (.exit i) s := h
theorem AW.loopU (m : List KP) [mk : MK l m lm] (us : α → List (Nat × AV)) {l1 : α → List AV} [up : ∀ x, UPD lm (us x) (l1 x)] (H1 : α → List (Option AB)) (I : Nat → α → Prop) (n₀ : Nat) (x₀ : α) (h₀ : I n₀ x₀)
 (hl : lm = l1 x₀) (hH : H = H1 x₀) (round : ∀ n x, I n x → AW P base c ⟨l1 x, H1 x⟩ (fun e s1 => ∃ s2, Gh base s1 s2 ∧ LU l1 H1 I n Q e s2)) : AW P base (.loop c) ⟨l, H⟩ Q := by
 refine AW.ghost (s' := ⟨lm, H⟩) (Gh.weaken mk.len mk.h) ?_;refine AW.loopG (fun n s' => ∃ x, I n x ∧ s' = ⟨l1 x, H1 x⟩) n₀ ⟨x₀, h₀, by rw [hl, hH]⟩ ?_;rintro n s' ⟨x, hx, rfl⟩
 refine AW.mono (round n x hx) fun e s1 ⟨s2, h1, h2⟩ => ⟨s2, h1, ?_⟩
 cases e with
 | normal => obtain ⟨m', x', h3, h4, h5⟩ := h2; exact ⟨m', h3, x', h4, h5⟩
 | exit id => exact h2
 | goto l => exact h2
 | ret => exact h2
 | panic c => exact h2
 | outgrown => exact h2
theorem AW.backU (m : List KP) [mk : MK l m lm] {l1 : α → List AV} {H1 : α → List (Option AB)} {I : Nat → α → Prop} {n : Nat} (n' : Nat) (x' : α) (hn : n' < n) (hI : I n' x') (hl : lm = l1 x') (hH : H = H1 x') :
 ∃ s2, Gh base ⟨l, H⟩ s2 ∧ LU l1 H1 I n Q .normal s2 := ⟨⟨lm, H⟩, Gh.weaken mk.len mk.h, n', x', hn, hI, by rw [hl, hH]⟩
def JQ (P : Program) (base : Cx) (l1 : α → List AV) (H1 : α → List (Option AB)) (J : α → Prop) (Q : Exit → St → Prop) : Exit → St → Prop := fun e s => match e with | .normal => ∃ x, J x ∧ s = ⟨l1 x, H1 x⟩ | e => Q e s
theorem AW.joinU (l1 : α → List AV) (H1 : α → List (Option AB)) (J : α → Prop) (h : AW P base c ⟨l, H⟩ (fun e s1 => ∃ s2, Gh base s1 s2 ∧ JQ P base l1 H1 J Q e s2)) (k : ∀ x, J x → AW P base d ⟨l1 x, H1 x⟩ Q) : AW P base (.seq c d) ⟨l, H⟩ Q := by
 refine AW.seq' (AW.mono_ghost h fun e s1 ⟨s2, h1, h2⟩ => ⟨s2, h1, ?_⟩)
 cases e with
 | normal => obtain ⟨x, hx, rfl⟩ := h2; exact k x hx
 | exit id => exact h2
 | goto l => exact h2
 | ret => exact h2
 | panic c => exact h2
 | outgrown => exact h2
theorem AW.joinM (m : List KP) [mk : MK l m lm] (us : α → List (Nat × AV)) {l1 : α → List AV} [up : ∀ x, UPD lm (us x) (l1 x)] (H1 : α → List (Option AB)) (J : α → Prop) (h : AW P base c ⟨l, H⟩ (fun e s1 => ∃ s2, Gh base s1 s2 ∧ JQ P base l1 H1 J Q e s2)) (k : ∀ x, J x → AW P base d ⟨l1 x, H1 x⟩ Q) : AW P base (.seq c d) ⟨l, H⟩ Q :=
 AW.joinU l1 H1 J h k
theorem AW.backJ (m : List KP) [mk : MK l m lm] {l1 : α → List AV} {H1 : α → List (Option AB)} {J : α → Prop} (x' : α) (hJ : J x') (hl : lm = l1 x') (hH : H = H1 x') :
 ∃ s2, Gh base ⟨l, H⟩ s2 ∧ JQ P base l1 H1 J Q .normal s2 := ⟨⟨lm, H⟩, Gh.weaken mk.len mk.h, x', hJ, by rw [hl, hH]⟩
end
section
variable {P : Program} {base : Cx} {Q : Exit → St → Prop} {c d : Code} {l lm : List AV} {H : List (Option AB)} {α β γ δ : Type}
theorem AW.loopU2 (m : List KP) [mk : MK l m lm] (us : α → β → List (Nat × AV)) {l1 : α → β → List AV} [up : ∀ x y, UPD lm (us x y) (l1 x y)] (H1 : α → β → List (Option AB)) (I : Nat → α → β → Prop) (n₀ : Nat) (x₀ : α) (y₀ : β) (h₀ : I n₀ x₀ y₀)
 (hl : lm = l1 x₀ y₀) (hH : H = H1 x₀ y₀) (round : ∀ n x y, I n x y → AW P base c ⟨l1 x y, H1 x y⟩ (fun e s1 => ∃ s2, Gh base s1 s2 ∧ LU (fun p : α × β => l1 p.1 p.2) (fun p => H1 p.1 p.2) (fun n p => I n p.1 p.2) n Q e s2)) : AW P base (.loop c) ⟨l, H⟩ Q :=
 AW.loopU m (fun p : α × β => us p.1 p.2) (l1 := fun p : α × β => l1 p.1 p.2) (up := fun p => up p.1 p.2) (fun p => H1 p.1 p.2) (fun n p => I n p.1 p.2) n₀ (x₀, y₀) h₀ hl hH fun n p hp => round n p.1 p.2 hp
theorem AW.loopU3 (m : List KP) [mk : MK l m lm] (us : α → β → γ → List (Nat × AV)) {l1 : α → β → γ → List AV} [up : ∀ x y z, UPD lm (us x y z) (l1 x y z)] (H1 : α → β → γ → List (Option AB)) (I : Nat → α → β → γ → Prop) (n₀ : Nat) (x₀ : α) (y₀ : β) (z₀ : γ) (h₀ : I n₀ x₀ y₀ z₀)
 (hl : lm = l1 x₀ y₀ z₀) (hH : H = H1 x₀ y₀ z₀) (round : ∀ n x y z, I n x y z → AW P base c ⟨l1 x y z, H1 x y z⟩ (fun e s1 => ∃ s2, Gh base s1 s2 ∧ LU (fun p : α × β × γ => l1 p.1 p.2.1 p.2.2) (fun p => H1 p.1 p.2.1 p.2.2) (fun n p => I n p.1 p.2.1 p.2.2) n Q e s2)) : AW P base (.loop c) ⟨l, H⟩ Q :=
 AW.loopU m (fun p : α × β × γ => us p.1 p.2.1 p.2.2) (l1 := fun p : α × β × γ => l1 p.1 p.2.1 p.2.2) (up := fun p => up p.1 p.2.1 p.2.2) (fun p => H1 p.1 p.2.1 p.2.2) (fun n p => I n p.1 p.2.1 p.2.2) n₀ (x₀, y₀, z₀) h₀ hl hH fun n p hp => round n p.1 p.2.1 p.2.2 hp
theorem AW.loopU4 (m : List KP) [mk : MK l m lm] (us : α → β → γ → δ → List (Nat × AV)) {l1 : α → β → γ → δ → List AV} [up : ∀ x y z u, UPD lm (us x y z u) (l1 x y z u)] (H1 : α → β → γ → δ → List (Option AB)) (I : Nat → α → β → γ → δ → Prop) (n₀ : Nat) (x₀ : α) (y₀ : β) (z₀ : γ) (u₀ : δ) (h₀ : I n₀ x₀ y₀ z₀ u₀)
 (hl : lm = l1 x₀ y₀ z₀ u₀) (hH : H = H1 x₀ y₀ z₀ u₀) (round : ∀ n x y z u, I n x y z u → AW P base c ⟨l1 x y z u, H1 x y z u⟩ (fun e s1 => ∃ s2, Gh base s1 s2 ∧ LU (fun p : α × β × γ × δ => l1 p.1 p.2.1 p.2.2.1 p.2.2.2) (fun p => H1 p.1 p.2.1 p.2.2.1 p.2.2.2) (fun n p => I n p.1 p.2.1 p.2.2.1 p.2.2.2) n Q e s2)) : AW P base (.loop c) ⟨l, H⟩ Q :=
 AW.loopU m (fun p : α × β × γ × δ => us p.1 p.2.1 p.2.2.1 p.2.2.2) (l1 := fun p : α × β × γ × δ => l1 p.1 p.2.1 p.2.2.1 p.2.2.2) (up := fun p => up p.1 p.2.1 p.2.2.1 p.2.2.2) (fun p => H1 p.1 p.2.1 p.2.2.1 p.2.2.2) (fun n p => I n p.1 p.2.1 p.2.2.1 p.2.2.2) n₀ (x₀, y₀, z₀, u₀) h₀ hl hH fun n p hp => round n p.1 p.2.1 p.2.2.1 p.2.2.2 hp
end
section
variable {P : Program} {base : Cx} {l l' : List AV} {H : List (Option AB)} {Q : Exit → St → Prop} {os : List Oper} {rest : List Oper} {d : Option Tmp} {op : Op} {t : TypeId} {pos : String} {af : Array Edge} {av : AV} {ob : Prop} {j u : Nat} {b c want : Bool}
class ARGc (c : Bool) (l : List AV) (as : List Operand) (args : outParam (List AV)) : Prop where
 h : c = true → ∀ H, as.map (ev ⟨l, H⟩) = args
instance {c : Bool} : ARGc c l [] [] := ⟨fun _ _ => rfl⟩
instance {c : Bool} {x : Operand} {as : List Operand} {args : List AV} [h : EC c l x av] [h' : ARGc c l as args] : ARGc c l (x :: as) (av :: args) := ⟨fun hc H => by rw [List.map_cons, h.h hc H, h'.h hc H]⟩
class GX (l : List AV) (u : Nat) (want : Bool) (c : outParam Bool) : Prop where
 h : ∃ av, l[u]? = some av ∧ (c = true → av = .v (.bool want)) ∧ (c = false → av = .v (.bool (!want)) ∨ av = .v undef)
instance gxT [g : GL l u (.v (.bool b))] : GX l u true b := ⟨_, g.h, fun h => by rw [h], fun h => .inl (by rw [h]; rfl)⟩
instance gxF [g : GL l u (.v (.bool b))] : GX l u false (!b) := ⟨_, g.h, fun h => by cases b <;> simp_all, fun h => .inl (by cases b <;> simp_all)⟩
instance gxTT [g : GL l u (cv c (.v (.bool b)))] : GX l u true (c && b) := ⟨_, g.h, fun h => by cases b <;> cases c <;> simp_all [cv], fun h => by cases c <;> simp_all [cv]⟩
instance gxFF [g : GL l u (cv c (.v (.bool b)))] : GX l u false (c && !b) := ⟨_, g.h, fun h => by cases b <;> cases c <;> simp_all [cv], fun h => by cases b <;> cases c <;> simp_all [cv]⟩
theorem gx_cases (h : GX l u want c) : (c = true ∧ GL l u (.v (.bool want))) ∨ (c = false ∧ (GL l u (.v (.bool (!want))) ∨ GL l u (.v undef))) := by
 obtain ⟨av, h1, h2, h3⟩ := h.h
 cases c with
 | true => have := h2 rfl; subst this; exact .inl ⟨rfl, ⟨h1⟩⟩
 | false =>
  rcases h3 rfl with rfl | rfl
  · exact .inr ⟨rfl, .inl ⟨h1⟩⟩
  · exact .inr ⟨rfl, .inr ⟨h1⟩⟩
theorem AO.gxw {o : Oper} (hg : o.guard = some (j, want)) [ho : DO os j u] [gx : GX l u want c] (hd : St.put ⟨l, H⟩ o.dst (cv c av) = ⟨l', H⟩) (h : c = true → Hv P base o ⟨l, H⟩ (fun s1 => s1 = St.put ⟨l, H⟩ o.dst av)) (k : AO P base os.toArray rest ⟨l', H⟩ Q) : AO P base os.toArray (o :: rest) ⟨l, H⟩ Q := by
 obtain ⟨d, op, t, pos, af, g⟩ := o;dsimp only at hg hd;subst hg;rcases gx_cases gx with ⟨rfl, g⟩ | ⟨rfl, g | g⟩
 · refine AO.heavyG (by rw [wanted_some (s := ⟨l, H⟩) (by simpa using ho.h) (g.ev H)]; simp) (h rfl) fun s1 h1 => ?_
   subst h1;have e : St.put ⟨l, H⟩ d av = ⟨l', H⟩ := hd;rw [e]; exact k
 · haveI : DL l d (.v undef) l' := ⟨fun H' => by
    have e : St.put ⟨l, H⟩ d (.v undef) = ⟨l', H⟩ := hd
    cases d with
    | none => simp [St.put] at e ⊢; exact e
    | some d => simp [St.put] at e ⊢; exact e⟩
   exact AO.s rfl k
 · haveI : DL l d (.v undef) l' := ⟨fun H' => by
    have e : St.put ⟨l, H⟩ d (.v undef) = ⟨l', H⟩ := hd
    cases d with
    | none => simp [St.put] at e ⊢; exact e
    | some d => simp [St.put] at e ⊢; exact e⟩
   exact AO.un k
theorem Lt.hv {o : Oper} (h : Lt P o.op ⟨l, H⟩ av) : Hv P base o ⟨l, H⟩ (fun s1 => s1 = St.put ⟨l, H⟩ o.dst av) := by
 intro σ a w hr Q K hk;obtain ⟨x, h1, h2⟩ := h o.dst o.type o.pos o.after o.guard base σ a w hr;unfold Oper.wp;rw [h2 w (KeepW.refl w)];exact hk σ _ _ w (hr.put o.dst h1) (by rw [put_H]; exact Ext.refl _) rfl
theorem AO.gx [ho : DO os j u] [gx : GX l u want c] [hp : LC c P op l H av] [hd : DL l d (cv c av) l'] (k : AO P base os.toArray rest ⟨l', H⟩ Q) : AO P base os.toArray (⟨d, op, t, pos, af, some (j, want)⟩ :: rest) ⟨l, H⟩ Q :=
 AO.gxw rfl (hd.h H) (fun hc => Lt.hv (hp.h hc)) k
theorem AO.gxo [ho : DO os j u] [gx : GX l u want c] [hp : OC c P op l H av ob] [hd : DL l d (cv c av) l'] (hob : c = true → ob) (k : AO P base os.toArray rest ⟨l', H⟩ Q) : AO P base os.toArray (⟨d, op, t, pos, af, some (j, want)⟩ :: rest) ⟨l, H⟩ Q :=
 AO.gxw rfl (hd.h H) (fun hc => Lt.hv (hp.h hc (hob hc))) k
theorem AO.gxcall1 {f : FuncId} {fn : Func} {as : List Operand} {ts : Array TypeId} {args : List AV} [ho : DO os j u] [gx : GX l u want c] (hf : P.funcs[f]? = some fn) (hname : (fn.name == "runtime.NumGoroutine") = false) (hb : fn.body.isSome = true)
 [ha : ARGc c l as args] [hga : GA H.length args] (h : c = true → A0 P f args (fun r => r = av)) [hd : DL l d (cv c av) l'] (k : AO P base os.toArray rest ⟨l', H⟩ Q) : AO P base os.toArray (⟨d, .call { callee := .value (.func f), args := as.toArray, argTypes := ts }, t, pos, af, some (j, want)⟩ :: rest) ⟨l, H⟩ Q := by
 refine AO.gxw (c := c) rfl (hd.h H) (fun hc => ?_) k;intro σ a w hr Q' K hk;exact HvK.call0 hf hname hb (ha.h hc H) hga.h (h hc) σ a w hr Q' K fun σ' s' a' w' h1 h2 h3 ⟨r, h4, h5⟩ => by subst h4; exact hk σ' s' a' w' h1 h2 h5
variable {ds : List Nat} {nf : Nat} {fl : Array Bool}
end
section
variable {l : List AV} {x y : Operand} {v : AV} {c b b' : Bool} {P : Program} {H : List (Option AB)}
instance (priority := low) ecAnd [h : EC c l x v] : EC (c && b) l x v := ⟨fun hc H => h.h (by cases c <;> simp_all) H⟩
instance (priority := high) ecAndG {t : Tmp} {v : AV} [g : GL l t (cv (c && b) v)] : EC (c && b) l (.tmp t) v := ⟨fun hc H => by rw [g.ev H, hc]; rfl⟩
instance and2n [h : EC c l x (.v (.bool b))] [h' : EC c l y (cv (c && b) (.v (.bool b')))] : PC c P (.pick x y (.const (.bool false))) l H (.v (.bool (b && b'))) := ⟨fun hc => by
 refine Pu.pick (h.h hc H) ?_
 have e := h'.h hc H
 cases b
 · rfl
 · rw [hc] at e; exact e⟩
instance or2n [h : EC c l x (.v (.bool b))] [h' : EC c l y (cv (c && !b) (.v (.bool b')))] : PC c P (.pick x (.const (.bool true)) y) l H (.v (.bool (b || b'))) := ⟨fun hc => by
 refine Pu.pick (h.h hc H) ?_
 have e := h'.h hc H
 cases b
 · rw [hc] at e; exact e
 · rfl⟩
end
section
variable {P : Program} {base : Cx} {l l' : List AV} {H H' : List (Option AB)} {Q : Exit → St → Prop} {os : List Oper} {ops : Array Oper} {rest : List Oper} {d : Option Tmp} {op : Op} {t : TypeId} {pos : String} {af : Array Edge} {av : AV} {ob : Prop} {j u : Nat} {b c want : Bool}
theorem AO.oo [hp : OC true P op l H av ob] [hd : DL l d av l'] (k : AO P base ops rest ⟨l', H⟩ Q) (hob : ob := by first | omega | ((repeat' apply And.intro) <;> first | rfl | omega | (simp; done) | (simp [bys_length]; omega))) : AO P base ops (⟨d, op, t, pos, af, none⟩ :: rest) ⟨l, H⟩ Q := AO.o hob k
theorem AO.ww [hp : HW P op l H av H' ob] [hd : DL l d av l'] (k : AO P base ops rest ⟨l', H'⟩ Q) (hob : ob := by first | omega | ((repeat' apply And.intro) <;> first | rfl | omega | (simp; done) | (simp [bys_length]; omega))) : AO P base ops (⟨d, op, t, pos, af, none⟩ :: rest) ⟨l, H⟩ Q := AO.w hob k
theorem AO.rr [hp : HR P op l H av ob] [hd : DL l d av l'] (k : AO P base ops rest ⟨l', H⟩ Q) (hob : ob := by first | omega | ((repeat' apply And.intro) <;> first | rfl | omega | (simp; done) | (simp [bys_length]; omega))) : AO P base ops (⟨d, op, t, pos, af, none⟩ :: rest) ⟨l, H⟩ Q := AO.r hob k
theorem AO.sst [hp : HS P op l H H' ob] (k : AO P base ops rest ⟨l, H'⟩ Q) (hob : ob := by first | omega | ((repeat' apply And.intro) <;> first | rfl | omega | (simp; done) | (simp [bys_length]; omega))) : AO P base ops (⟨none, op, t, pos, af, none⟩ :: rest) ⟨l, H⟩ Q := AO.st hob k
theorem AO.gxoo [ho : DO os j u] [gx : GX l u want c] [hp : OC c P op l H av ob] [hd : DL l d (cv c av) l'] (k : AO P base os.toArray rest ⟨l', H⟩ Q) (hob : c = true → ob := by intro hgd; (try simp only [Bool.and_eq_true, Bool.or_eq_true, Bool.not_eq_true', Bool.and_eq_false_iff, Bool.or_eq_false_iff, decide_eq_true_eq, decide_eq_false_iff_not, bys_length] at hgd); first | omega | ((repeat' apply And.intro) <;> first | rfl | omega | (simp; done) | (simp [bys_length]; omega))) : AO P base os.toArray (⟨d, op, t, pos, af, some (j, want)⟩ :: rest) ⟨l, H⟩ Q := AO.gxo hob k
variable {ds : List Nat} {nf : Nat} {fl : Array Bool}
end
end Go.Proofs.YtkbbcenjklaglaaGreat.AL
