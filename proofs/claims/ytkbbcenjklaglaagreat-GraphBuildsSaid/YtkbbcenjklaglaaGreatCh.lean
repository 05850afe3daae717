/- A part of the proof: rules of an own logic over blocks, and what functions of the program compute, each by its own contract; the conditions stand with each. -/
import Derived.Test.YtkbbcenjklaglaaGreatCd
import Derived.Test.YtkbbcenjklaglaaGreatCe
import Derived.Test.YtkbbcenjklaglaaGreatCf
import Derived.Test.YtkbbcenjklaglaaGreatCg
import Derived.Laws.IdiomCopy
import Derived.Lib.AppendZerosOnto
import Derived.Lib.Overlaps
import Derived.Shelf.Spec.SlicesInsert
import Derived.Shelf.Spec.SlicesInsertGrow
namespace Go.Proofs.YtkbbcenjklaglaaGreat.AL
open Go Go.RowKit Go.Proofs.YtkbbcenjklaglaaGreat.Base
set_option linter.unusedVariables false
set_option linter.unusedSimpArgs false
set_option maxRecDepth 4000
set_option synthInstance.maxSize 1000
set_option synthInstance.maxHeartbeats 200000
open Go.Lib Go.Shelf Go.Proofs
theorem run_copy_sz {P : Program} (w : World) (dT sT ty elem : TypeId) (b o dLen dCap : Nat) (a : Addr) (sLen sCap sz : Nat) (cs : List Value)
 (hu : P.underlying dT = some (.slice elem)) (hs : (P.info? elem).map (·.size) = some sz) (hn : cs.length = Nat.min sLen dLen * sz)
 (hsrc : ∀ j v, cs[j]? = some v → w.cell? (a.add j) = some v) (hc : ∀ j, j < cs.length → (w.cell? ⟨b, o + j, none⟩).isSome = true) (hf : ∀ j, j < cs.length → w.frozen? ⟨b, o + j, none⟩ = false) (h1 : ∀ v ∈ cs, v.oneCell' = true) :
 (Builtin.copy_ #[dT, sT] ty #[.slice (some ⟨b, o, none⟩) dLen dCap, .slice (some a) sLen sCap]).run P w = .ok (goInt (Nat.min sLen dLen)) (w.setCells b o cs) := by
 have hl := run_loadCells_list (P := P) w a cs hsrc;have hst := run_storeCells_cells (P := P) b o cs 0 w (by simpa using hc) (by simpa using hf) h1
 cases hq : P.info? elem with
 | none => simp [hq] at hs
 | some i =>
  have hi : i.size = sz := by simpa [hq] using hs
  simp [Builtin.copy_, run_underlying hu, Builtin.lenOf, Builtin.firstCells, sizeOf, typeInfo, hq, hi, ← hn, hl, hst]
theorem isSome_setCells' (b : Nat) (vs : List Value) (o : Nat) (w : World) (h : ∀ j, j < vs.length → (w.cell? ⟨b, o + j, none⟩).isSome = true) (k : Nat) (hk : (w.cell? ⟨b, k, none⟩).isSome = true) : ((w.setCells b o vs).cell? ⟨b, k, none⟩).isSome = true := by
 by_cases hin : o ≤ k ∧ k < o + vs.length
 · have := World.cell?_setCells_in b vs o w h (k - o) (by omega)
   rw [show o + (k - o) = k by omega] at this;rw [this]; rfl
 · rw [World.cell?_setCells_out b vs o w ⟨b, k, none⟩ (fun _ _ => by show k < o ∨ o + vs.length ≤ k; omega)]
   exact hk
set_option maxHeartbeats 1000000 in
set_option maxRecDepth 100000 in
theorem ins_shift (b n c i vb vc : Nat) (cs vs : List Value) (w : World) (hi : i < n) (hroom : n + 1 ≤ c) (hc63 : c ≤ 9223372036854775807) (hvb : vb ≠ b)
 (hcl : cs.length = n * 3) (hvl : vs.length = 3)
 (hcs : ∀ j v, cs[j]? = some v → w.cell? ⟨b, j, none⟩ = some v) (hsp : ∀ j, j < (n + 1) * 3 → (w.cell? ⟨b, j, none⟩).isSome = true) (hfz : ∀ j, j < (n + 1) * 3 → w.frozen? ⟨b, j, none⟩ = false)
 (hvs : ∀ j v, vs[j]? = some v → w.cell? ⟨vb, j, none⟩ = some v) (h1c : ∀ v ∈ cs, v.oneCell' = true) (h1v : ∀ v ∈ vs, v.oneCell' = true)
 (tA tB : TypeId) (kA kB : Nat) (hsa : w.shape? vb = some (tA, kA)) (hsb : w.shape? b = some (tB, kB)) (hkB : kB ≠ 0) (hfa : w.frozen? ⟨vb, 0, none⟩ = false) (hfe : w.frozen? ⟨vb, kA, none⟩ = false) :
 Calls Tryz.prog 47 #[.slice (some ⟨b, 0, none⟩) n c, .int .i64 i, .slice (some ⟨vb, 0, none⟩) 1 vc] w fun e w' =>
  e = .returned (.slice (some ⟨b, 0, none⟩) (n + 1) c) ∧ w' = (w.drew.setCells b ((i + 1) * 3) (cs.drop (i * 3))).setCells b (i * 3) vs := by
 have hz2 : ¬ ((i : Int) = (n : Int)) := by omega
 have hw1 : IntKind.i64.wrap ((i : Int) + 1) = (i : Int) + 1 := by rw [IntKind.wrap_i64]; omega
 have hb1 : (0 : Int) ≤ (i : Int) + 1 := by omega
 have hin : i ≤ n := by omega
 have htn : ((i : Int) + 1).toNat = i + 1 := by omega
 have hb2 : ¬ (c = i + 1) := by omega
 have hb3 : (i : Int) ≤ (n : Int) + 1 := by omega
 have hb4 : ¬ (c = i) := by omega
 have hsz : (Tryz.prog.info? 100).map (·.size) = some 3 := by kernel_rfl
 have hu : Tryz.prog.underlying 61 = some (.slice 100) := TU.h;have hz : ∀ w, (Go.sizeOf 100).run Tryz.prog w = .ok 3 w := fun w => by
  obtain ⟨i0, hi0, hi1⟩ : ∃ i0, Tryz.prog.info? 100 = some i0 ∧ i0.size = 3 := by
   cases hq : Tryz.prog.info? 100 with
   | none => rw [hq] at hsz; cases hsz
   | some i0 => rw [hq] at hsz; exact ⟨i0, rfl, by simpa using hsz⟩
  simp [sizeOf, typeInfo, hi0, hi1]
 have hov : ∀ lb cb, (callFunc 65 #[.slice (some ⟨vb, 0, none⟩) 1 vc, .slice (some ⟨b, (i + 1) * 3, none⟩) lb cb]).run Tryz.prog w = .ok (.value (.bool false)) w := fun lb cb => by
  rw [run_callFunc_extern Tryz.func65 (by kernel_rfl) (by kernel_rfl) (by kernel_rfl) (e := Extern.SlicesOverlaps.overlaps #[61, 61] #[4]) (by kernel_rfl),
   Lib.run_overlaps_apart w 61 4 100 hu 3 hz ⟨vb, 0, none⟩ ⟨b, (i + 1) * 3, none⟩ 1 vc lb cb hvb tA tB kA kB hsa hsb hkB hfa hfe]
  rfl
 have hdl : (cs.drop (i * 3)).length = (n - i) * 3 := by rw [List.length_drop, hcl]; omega
 have hcp1 : ∀ ty dc sc, (Builtin.copy_ #[61, 61] ty #[.slice (some ⟨b, (i + 1) * 3, none⟩) (n - i) dc, .slice (some ⟨b, i * 3, none⟩) (n + 1 - i) sc]).run Tryz.prog w.drew = .ok (goInt (Nat.min (n + 1 - i) (n - i))) (w.drew.setCells b ((i + 1) * 3) (cs.drop (i * 3))) := fun ty dc sc =>
  run_copy_sz w.drew _ _ ty 100 b ((i + 1) * 3) (n - i) dc ⟨b, i * 3, none⟩ (n + 1 - i) sc 3 (cs.drop (i * 3)) hu hsz (by rw [hdl]; simp only [Nat.min_def]; split <;> omega)
   (fun j v hj => by rw [Addr.add_lit]; exact hcs (i * 3 + j) v (by rwa [List.getElem?_drop] at hj))
   (fun j hj => hsp _ (by omega)) (fun j hj => hfz _ (by omega)) (fun v hv => h1c v (List.mem_of_mem_drop hv))
 obtain ⟨W1, hW1⟩ : ∃ W1, W1 = w.drew.setCells b ((i + 1) * 3) (cs.drop (i * 3)) := ⟨_, rfl⟩;have hsp1 : ∀ k, k < (n + 1) * 3 → (W1.cell? ⟨b, k, none⟩).isSome = true := fun k hk => by
  rw [hW1];exact isSome_setCells' b (cs.drop (i * 3)) ((i + 1) * 3) w.drew (fun j hj => hsp _ (by rw [hdl] at hj; omega)) _ (hsp k hk)
 have hcp2 : ∀ (W : World), (∀ x, W.cell? x = W1.cell? x) → (∀ x, W.frozen? x = W1.frozen? x) → ∀ ty dc, (Builtin.copy_ #[61, 61] ty #[.slice (some ⟨b, i * 3, none⟩) (n + 1 - i) dc, .slice (some ⟨vb, 0, none⟩) 1 vc]).run Tryz.prog W = .ok (goInt (Nat.min 1 (n + 1 - i))) (W.setCells b (i * 3) vs) := fun W hWc hWf ty dc =>
  run_copy_sz W _ _ ty 100 b (i * 3) (n + 1 - i) dc ⟨vb, 0, none⟩ 1 vc 3 vs hu hsz (by rw [hvl]; simp only [Nat.min_def]; split <;> omega)
   (fun j v hj => by
    rw [Addr.add_lit, hWc, hW1, World.cell?_setCells_out b _ _ _ _ (fun h _ => absurd h hvb), Nat.zero_add];exact hvs j v hj)
   (fun j hj => by rw [hWc]; exact hsp1 _ (by omega)) (fun j hj => by rw [hWf, hW1, World.frozen?_setCells]; exact hfz _ (by omega)) h1v
 rw [← hW1] at hcp1;have mixed : Tryz.prog.follows .mixedOrders = true := rfl
 go_enter Tryz.func47, Tryz.ntmps47
 go_wp2_with (simp only [hov])
 go_region_law_o (refine step_copy_runI rfl _ _ 61 61 rfl _ _ (by simp [Act.eval, Act.put]) (by simp [Act.eval, Act.put]) (hcp1 _ _ _) ?_)
 go_wp2_with (at_builtin; refine wpList_copy_runI _ rfl _ _ 61 61 rfl _ _ rfl rfl (hcp2 _ (fun _ => rfl) (fun _ => rfl) _ _) ?_)
 go_ret
 first | exact ⟨rfl, rfl⟩ | exact ⟨rfl, by rw [hW1]⟩
set_option maxHeartbeats 1000000 in
set_option maxRecDepth 100000 in
theorem ins_end (base : Nat) (v : Value) (n vb vc : Nat) (xs vs : List Value) (w : World) (hown : w.ownsRow base 100 3 v n xs) (hvl : vs.length = 3) (hvs : ∀ j v, vs[j]? = some v → w.cell? ⟨vb, j, none⟩ = some v) (h1v : ∀ v ∈ vs, v.oneCell' = true) (hn : n ≤ 1000000) (hbase : base ≤ w.heap.size) :
 Calls Tryz.prog 47 #[v, .int .i64 n, .slice (some ⟨vb, 0, none⟩) 1 vc] w fun e w' => ∃ v', e = .returned v' ∧ w'.ownsRow base 100 3 v' (n + 1) (xs ++ vs) ∧ w.grownBy w' v.ownBlock ∧ (v'.ownBlock = v.ownBlock ∨ v'.ownBlock = some w.heap.size) := by
 obtain ⟨i0, hi0, hz0, hs0, hby⟩ := info_parts (TI.h (P := Tryz.prog) (t := 100))
 obtain ⟨v', w', hrun, h2, h3, h4⟩ := run_append_src (P := Tryz.prog) (t := 61) (ty := 61) (e := 100) TU.h hi0 hz0 hs0 hby (by rfl) (by decide) hown (A := some ⟨vb, 0, none⟩) (m := 1) (c := vc) (news := vs) (by rw [hvl]) (fun _ => ⟨_, rfl, fun j u hj => by rw [Addr.add_lit, Nat.zero_add]; exact hvs j u hj⟩) h1v (by unfold maxLen; omega) (by omega) hbase
 have mixed : Tryz.prog.follows .mixedOrders = true := rfl;rcases hown.2 with ⟨rfl, rfl⟩ | ⟨g, cap, cur, rfl, _, _, hnc, hcm, _⟩
 · go_enter Tryz.func47, Tryz.ntmps47
   go_wp2_with (at_builtin; refine Lib.wpList_append_run _ rfl _ _ _ _ rfl _ _ rfl rfl _ _ hrun ?_)
   go_ret
   exact ⟨v', rfl, h2, h3, h4⟩
 · unfold maxLen at hcm
   go_enter Tryz.func47, Tryz.ntmps47
   go_wp2_with (at_builtin; refine Lib.wpList_append_run _ rfl _ _ _ _ rfl _ _ rfl rfl _ _ hrun ?_)
   all_goals (go_ret; exact ⟨v', rfl, h2, h3, h4⟩)
set_option maxHeartbeats 1000000 in
set_option maxRecDepth 100000 in
theorem ins_grow (b n c i vb vc : Nat) (cs vs : List Value) (w : World) (hi : i < n) (hnc : n ≤ c) (hroom : c < n + 1) (hbig : n ≤ 1000000)
 (hcl : cs.length = n * 3) (hvl : vs.length = 3)
 (hcs : ∀ j v, cs[j]? = some v → w.cell? ⟨b, j, none⟩ = some v)
 (hvs : ∀ j v, vs[j]? = some v → w.cell? ⟨vb, j, none⟩ = some v) (h1c : ∀ v ∈ cs, v.oneCell' = true) (h1v : ∀ v ∈ vs, v.oneCell' = true) :
 Calls Tryz.prog 47 #[.slice (some ⟨b, 0, none⟩) n c, .int .i64 i, .slice (some ⟨vb, 0, none⟩) 1 vc] w fun e w' =>
  ∃ z : Value, z.cells.size = 3 ∧ e = .returned (.slice (some ⟨w.heap.size, 0, none⟩) (n + 1) (grownCap w (n + 1) c 100)) ∧
  w' = (((w.alloc (.cells ((cs.take (i * 3)).toArray ++ Builtin.zeroCells z.cells (n + 1 - i) ++ Builtin.zeroCells z.cells (grownCap w (n + 1) c 100 - (n + 1))) 100)).drew.setCells w.heap.size (i * 3) vs).drew).setCells w.heap.size ((i + 1) * 3) (cs.drop (i * 3)) := by
 obtain ⟨i0, hi0, hz0, hzs, hzb⟩ := info_parts (TI.h (P := Tryz.prog) (t := 100));have hsz : (Tryz.prog.info? 100).map (·.size) = some 3 := by rw [hi0]; simp [hzs]
 have hu : Tryz.prog.underlying 61 = some (.slice 100) := TU.h;have hu3 : Tryz.prog.underlying 3 = some (.int .i64) := TU.h;obtain ⟨z, hzz⟩ : ∃ z, i0.zero = some z := ⟨_, hz0⟩;have hzc : z.cells.size = 3 := by rw [hz0] at hzz; obtain rfl := Option.some.inj hzz; rfl
 suffices key : Calls Tryz.prog 47 #[.slice (some ⟨b, 0, none⟩) n c, .int .i64 i, .slice (some ⟨vb, 0, none⟩) 1 vc] w fun e w' => e = .returned (.slice (some ⟨w.heap.size, 0, none⟩) (n + 1) (grownCap w (n + 1) c 100)) ∧
  w' = (((w.alloc (.cells ((cs.take (i * 3)).toArray ++ Builtin.zeroCells z.cells (n + 1 - i) ++ Builtin.zeroCells z.cells (grownCap w (n + 1) c 100 - (n + 1))) 100)).drew.setCells w.heap.size (i * 3) vs).drew).setCells w.heap.size ((i + 1) * 3) (cs.drop (i * 3)) from
  key.mono fun e w' h => ⟨z, hzc, h⟩
 have hz2 : ¬ ((i : Int) = (n : Int)) := by omega
 have hz3 : (c : Int) < (n : Int) + 1 := by omega
 have hbw : b < w.heap.size := block_lt_of_cell (hcs 0 _ (List.getElem?_eq_getElem (by omega)));have hvw : vb < w.heap.size := block_lt_of_cell (hvs 0 _ (List.getElem?_eq_getElem (by omega)));have hkk : (n : Int) + 1 - (i : Int) = ((n + 1 - i : Nat) : Int) := by omega
 have hik : i + (n + 1 - i) = n + 1 := by omega
 have hold : (Builtin.firstCells i0.size i (.slice (some ⟨b, 0, none⟩) i c)).run Tryz.prog w.drew = .ok (cs.take (i * 3)).toArray w.drew := by
  rw [hzs];exact run_firstCells_some w.drew 3 i ⟨b, 0, none⟩ i c (cs.take (i * 3)) (by rw [List.length_take]; omega) (fun j v hj => by
   rw [Addr.add_lit];rw [List.getElem?_take] at hj
   split at hj
   · rw [Nat.zero_add]; exact hcs j v hj
   · cases hj)
 have hrz : ∀ ty, (Builtin.append_ #[61, 3] ty #[.slice (some ⟨b, 0, none⟩) i c, .int .i64 ((n : Int) + 1 - (i : Int))]).run Tryz.prog w =
  .ok (.slice (some ⟨w.heap.size, 0, none⟩) (n + 1) (grownCap w (n + 1) c 100)) (w.drew.alloc (.cells ((cs.take (i * 3)).toArray ++ Builtin.zeroCells z.cells (n + 1 - i) ++ Builtin.zeroCells z.cells (grownCap w (n + 1) c 100 - (n + 1))) 100)) := fun ty => by
  have h := Lib.run_append_grow_zeros w 61 3 ty 100 i0 z .i64 .i64 hu hu3 hi0 hzz (some ⟨b, 0, none⟩) i c (cs.take (i * 3)) hold (n + 1 - i) (by omega) (by omega) (by omega) (by omega) (by rw [hzb]; omega) (by rw [hzb, hik]; exact growslice_fits hroom (by omega));rw [hik] at h;rw [hkk];exact h
 obtain ⟨G, hG⟩ : ∃ G, G = grownCap w (n + 1) c 100 := ⟨_, rfl⟩;obtain ⟨ROW, hROW⟩ : ∃ ROW : Array Value, ROW = (cs.take (i * 3)).toArray ++ Builtin.zeroCells z.cells (n + 1 - i) ++ Builtin.zeroCells z.cells (G - (n + 1)) := ⟨_, rfl⟩;rw [← hG] at hrz ⊢;rw [← hROW] at hrz ⊢;have hRl : (n + 1) * 3 ≤ ROW.size := by
  have hzn : ∀ k, (Builtin.zeroCells z.cells k).size = k * 3 := fun k => by rw [size_zeroCells, hzc]
  rw [hROW, Array.size_append, Array.size_append, hzn, hzn];simp;omega
 obtain ⟨W1, hW1⟩ : ∃ W1, W1 = w.drew.alloc (.cells ROW 100) := ⟨_, rfl⟩;rw [← hW1] at hrz;have hN : ∀ j, j < (n + 1) * 3 → (W1.cell? ⟨w.heap.size, j, none⟩).isSome = true := fun j hj => by
  rw [hW1, World.cell?_alloc_at (w := w.drew) ROW _ w.heap.size j rfl, Array.getElem?_eq_getElem (by omega)]; rfl
 have hNf : ∀ j, W1.frozen? ⟨w.heap.size, j, none⟩ = false := fun j => by rw [hW1]; exact World.frozen?_alloc_at (w := w.drew) ROW _ w.heap.size j rfl
 have hOb : ∀ j v, w.cell? ⟨b, j, none⟩ = some v → W1.cell? ⟨b, j, none⟩ = some v := fun j v h => by rw [hW1, World.cell?_alloc_past (w := w.drew) _ b j hbw]; exact h
 have hOv : ∀ j v, w.cell? ⟨vb, j, none⟩ = some v → W1.cell? ⟨vb, j, none⟩ = some v := fun j v h => by rw [hW1, World.cell?_alloc_past (w := w.drew) _ vb j hvw]; exact h
 have hcpA : ∀ (W : World), (∀ x, W.cell? x = W1.cell? x) → (∀ x, W.frozen? x = W1.frozen? x) → ∀ ty dc, (Builtin.copy_ #[61, 61] ty #[.slice (some ⟨w.heap.size, i * 3, none⟩) (n + 1 - i) dc, .slice (some ⟨vb, 0, none⟩) 1 vc]).run Tryz.prog W = .ok (goInt (Nat.min 1 (n + 1 - i))) (W.setCells w.heap.size (i * 3) vs) := fun W hWc hWf ty dc =>
  run_copy_sz W _ _ ty 100 w.heap.size (i * 3) (n + 1 - i) dc ⟨vb, 0, none⟩ 1 vc 3 vs hu hsz (by rw [hvl]; simp only [Nat.min_def]; split <;> omega)
   (fun j v hj => by rw [Addr.add_lit, hWc, Nat.zero_add]; exact hOv _ v (hvs j v hj))
   (fun j hj => by rw [hWc]; exact hN _ (by omega)) (fun j hj => by rw [hWf]; exact hNf _) h1v
 have hGn : n + 1 ≤ G := by rw [hG]; exact grownCap_ge w _ _ _
 have hG63 : G ≤ 9223372036854775807 := by
  have := grownCap_le_maxLen w (n + 1) c 100 (by unfold maxLen; omega);rw [← hG] at this;unfold maxLen at this;omega
 have hGi : ¬ (G = i) := by omega
 have hGim : ¬ (G = i + 1) := by omega
 have hci : ¬ (c = i) := by omega
 have hbN : b ≠ w.heap.size := by omega
 have hdl : (cs.drop (i * 3)).length = (n - i) * 3 := by rw [List.length_drop, hcl]; omega
 have hcpB : ∀ (W : World), (∀ x, W.cell? x = (W1.setCells w.heap.size (i * 3) vs).cell? x) → (∀ x, W.frozen? x = (W1.setCells w.heap.size (i * 3) vs).frozen? x) → ∀ ty dc sc, (Builtin.copy_ #[61, 61] ty #[.slice (some ⟨w.heap.size, (i + 1) * 3, none⟩) (n - i) dc, .slice (some ⟨b, i * 3, none⟩) (n - i) sc]).run Tryz.prog W = .ok (goInt (Nat.min (n - i) (n - i))) (W.setCells w.heap.size ((i + 1) * 3) (cs.drop (i * 3))) := fun W hWc hWf ty dc sc =>
  run_copy_sz W _ _ ty 100 w.heap.size ((i + 1) * 3) (n - i) dc ⟨b, i * 3, none⟩ (n - i) sc 3 (cs.drop (i * 3)) hu hsz (by rw [hdl]; simp only [Nat.min_def]; split <;> omega)
   (fun j v hj => by
    rw [Addr.add_lit, hWc, World.cell?_setCells_out _ _ _ _ _ (fun h _ => absurd h hbN)];exact hOb _ v (hcs (i * 3 + j) v (by rwa [List.getElem?_drop] at hj)))
   (fun j hj => by rw [hWc]; exact isSome_setCells' w.heap.size vs (i * 3) W1 (fun t ht => hN _ (by omega)) _ (hN _ (by omega)))
   (fun j hj => by rw [hWf, World.frozen?_setCells]; exact hNf _) (fun v hv => h1c v (List.mem_of_mem_drop hv))
 subst hW1;have hE1 : ∀ x, ((w.alloc (.cells ROW 100)).drew).cell? x = (w.drew.alloc (.cells ROW 100)).cell? x := fun x => rfl
 have hE2 : ∀ x, ((w.alloc (.cells ROW 100)).drew).frozen? x = (w.drew.alloc (.cells ROW 100)).frozen? x := fun x => rfl
 have hF1 : ∀ x, (((w.alloc (.cells ROW 100)).drew.setCells w.heap.size (i * 3) vs).drew).cell? x = ((w.drew.alloc (.cells ROW 100)).setCells w.heap.size (i * 3) vs).cell? x := fun x => rfl
 have hF2 : ∀ x, (((w.alloc (.cells ROW 100)).drew.setCells w.heap.size (i * 3) vs).drew).frozen? x = ((w.drew.alloc (.cells ROW 100)).setCells w.heap.size (i * 3) vs).frozen? x := fun x => rfl
 have hw1 : IntKind.i64.wrap ((i : Int) + 1) = (i : Int) + 1 := by rw [IntKind.wrap_i64]; omega
 have hb1 : (0 : Int) ≤ (i : Int) + 1 := by omega
 have hin : i ≤ n := by omega
 have htn : ((i : Int) + 1).toNat = i + 1 := by omega
 have hb3 : (i : Int) ≤ (n : Int) := by omega
 have mixed : Tryz.prog.follows .mixedOrders = true := rfl
 clear hkk hik hold hROW hG hRl
 go_enter Tryz.func47, Tryz.ntmps47
 go_wp2_with (first
  | (at_builtin; refine Lib.wpList_append_run _ rfl _ _ _ _ rfl _ _ rfl rfl _ _ (hrz _) ?_)
  | (at_builtin; refine wpList_copy_runI _ rfl _ _ 61 61 rfl _ _ rfl rfl (hcpA _ hE1 hE2 _ _) ?_)
  | (at_builtin; refine wpList_copy_runI _ rfl _ _ 61 61 rfl _ _ rfl rfl (hcpB _ (fun _ => rfl) (fun _ => rfl) _ _ _) ?_))
 go_region_law_o (refine step_copy_runI rfl _ _ 61 61 rfl (.slice (some ⟨w.heap.size, (i + 1) * 3, none⟩) (n - i) (G - (i + 1))) (.slice (some ⟨b, i * 3, none⟩) (n - i) (c - i)) (by simp [Act.eval, Act.put]) (by simp [Act.eval, Act.put]) (hcpB _ hF1 hF2 3 (G - (i + 1)) (c - i)) ?_)
 go_wp2
 go_ret
 exact ⟨rfl, rfl⟩
theorem setCells_row (b : Nat) (t : TypeId) : ∀ (vs : List Value) (o : Nat) (w : World) (cur : Array Value), w.heap[b]? = some (.cells cur t (0, 0)) → o + vs.length ≤ cur.size → (w.setCells b o vs).heap[b]? = some (.cells ⟨layAt cur.toList o vs⟩ t (0, 0)) := by
 intro vs
 induction vs with
 | nil =>
  intro o w cur h _;rw [World.setCells, h];unfold layAt;simp
 | cons v r ih =>
  intro o w cur h hl;rw [List.length_cons] at hl;rw [World.setCells, ih (o + 1) _ (cur.setIfInBounds o v) (heap_setCell_same w b o cur t v h) (by rw [Array.size_setIfInBounds]; omega)]
  congr 3
  apply List.ext_getElem?;intro j;rw [layAt_get (by simp; omega), layAt_get (by simp; omega)];rw [Array.toList_setIfInBounds];by_cases hj : j = o
  · subst hj
    rw [if_neg (by omega), if_pos ⟨by omega, by simp⟩, List.getElem?_set_self (by simp; omega)]; simp
  · by_cases h2 : o + 1 ≤ j ∧ j < o + 1 + r.length
    · rw [if_pos h2, if_pos ⟨by omega, by simp; omega⟩, show j - o = (j - (o + 1)) + 1 by omega, List.getElem?_cons_succ]
    · rw [if_neg h2, if_neg (by simp; omega), List.getElem?_set_ne (by omega)]
theorem setCells_other (b : Nat) : ∀ (vs : List Value) (o : Nat) (w : World) (k : Nat), k ≠ b → (w.setCells b o vs).heap[k]? = w.heap[k]? := by
 intro vs
 induction vs with
 | nil => intro o w k h; rfl
 | cons v r ih => intro o w k h; rw [World.setCells, ih _ _ _ h, heap_setCell_other _ _ _ _ h]
theorem setCells_rest (b : Nat) : ∀ (vs : List Value) (o : Nat) (w : World), (w.setCells b o vs).os = w.os ∧ (w.setCells b o vs).tape = w.tape ∧ (w.setCells b o vs).output = w.output ∧ (w.setCells b o vs).heap.size = w.heap.size := by
 intro vs
 induction vs with
 | nil => intro o w; exact ⟨rfl, rfl, rfl, rfl⟩
 | cons v r ih =>
  intro o w;obtain ⟨h1, h2, h3, h4⟩ := ih (o + 1) (w.setCell ⟨b, o, none⟩ v);rw [World.setCells];exact ⟨h1, h2, h3, by rw [h4]; simp⟩
theorem lay_ins {xs vs : List Value} {cur : List Value} {a m k : Nat} (hx : cur.take m = xs) (hm : m ≤ cur.length) (ha : a ≤ m) (hk : vs.length = k) (hl : m + k ≤ cur.length) :
 (layAt (layAt cur (a + k) (xs.drop a)) a vs).take (m + k) = xs.take a ++ vs ++ xs.drop a := by
 have hxl : xs.length = m := by rw [← hx, List.length_take]; omega
 have hg : ∀ j, j < m → cur[j]? = xs[j]? := fun j hj => by rw [← hx, List.getElem?_take, if_pos hj]
 apply List.ext_getElem?;intro j;rw [List.getElem?_take];by_cases hj : j < m + k
 · rw [if_pos hj, layAt_get (by rw [layAt_length (by rw [List.length_drop]; omega)]; omega), layAt_get (by rw [List.length_drop]; omega), List.length_drop]
   by_cases h1 : j < a
   · rw [if_neg (by omega), if_neg (by omega), List.append_assoc, List.getElem?_append_left (by rw [List.length_take]; omega), List.getElem?_take, if_pos h1, hg j (by omega)]
   · by_cases h2 : j < a + k
     · rw [if_pos (by omega), List.append_assoc, List.getElem?_append_right (by rw [List.length_take]; omega), List.length_take, Nat.min_eq_left (by omega), List.getElem?_append_left (by omega)]
     · rw [if_neg (by omega), if_pos (by omega), List.getElem?_append_right (by rw [List.length_append, List.length_take]; omega), List.length_append, List.length_take, Nat.min_eq_left (by omega), hk]
 · rw [if_neg hj, List.getElem?_eq_none]
   simp only [List.length_append, List.length_take, List.length_drop];omega
theorem ins_run (base : Nat) (v : Value) (n i vb vc : Nat) (xs vs : List Value) (w : World) (vcur : Array Value) (tv : TypeId) (hown : w.ownsRow base 100 3 v n xs) (hi : i ≤ n) (hn : n ≤ 1000000) (hbase : base ≤ w.heap.size)
 (hv : w.heap[vb]? = some (.cells vcur tv (0, 0))) (hvl : vs.length = 3) (hvs : vcur.toList.take 3 = vs) (h1x : ∀ x ∈ xs, x.oneCell' = true) (h1v : ∀ x ∈ vs, x.oneCell' = true) (hne : v.ownBlock ≠ some vb) :
 Calls Tryz.prog 47 #[v, .int .i64 i, .slice (some ⟨vb, 0, none⟩) 1 vc] w fun e w' => ∃ v', e = .returned v' ∧ w'.ownsRow base 100 3 v' (n + 1) (xs.take (i * 3) ++ vs ++ xs.drop (i * 3)) ∧ w.grownBy w' v.ownBlock ∧ (v'.ownBlock = v.ownBlock ∨ v'.ownBlock = some w.heap.size) := by
 have hvc : ∀ j v, vs[j]? = some v → w.cell? ⟨vb, j, none⟩ = some v := fun j u hj => by
  rw [← hvs, List.getElem?_take] at hj
  split at hj
  · unfold World.cell?; simp only [hv]; simpa using hj
  · cases hj
 have hxl := hown.1;by_cases he : i = n
 · subst he
   have := ins_end base v i vb vc xs vs w hown hvl hvc h1v hn hbase;rw [List.take_of_length_le (by omega), List.drop_of_length_le (by omega), List.append_nil];exact this
 · rcases hown.2 with ⟨rfl, rfl⟩ | ⟨g, cap, cur, rfl, hg1, hg2, hnc, hcm, hcs, htk⟩
   · omega
   · unfold maxLen at hcm
     have hcl : cur.toList.length = cap * 3 := by simpa using hcs
     have hxc : ∀ j v, xs[j]? = some v → w.cell? ⟨g, j, none⟩ = some v := fun j u hj => by
      rw [← htk, List.getElem?_take] at hj
      split at hj
      · unfold World.cell?; simp only [hg2]; simpa using hj
      · cases hj
     have hgs : g < w.heap.size := (Array.getElem?_eq_some_iff.1 hg2).1;have hvbs : vb < w.heap.size := (Array.getElem?_eq_some_iff.1 hv).1;have hgv : vb ≠ g := fun e => hne (by rw [e]; rfl)
     by_cases hroom : n + 1 ≤ cap
     · have hsp : ∀ j, j < (n + 1) * 3 → (w.cell? ⟨g, j, none⟩).isSome = true := fun j hj => by
        unfold World.cell?; simp only [hg2];rw [if_neg (by simp), Array.getElem?_eq_getElem (by omega)]; rfl
       refine (ins_shift g n cap i vb vc xs vs w (by omega) hroom (by omega) hgv hxl hvl hxc hsp (fun j _ => frozen_of_row w g j cur 100 hg2) hvc h1x h1v tv 100 vcur.size cur.size (by simp [World.shape?, hv]) (by simp [World.shape?, hg2]) (by omega) (frozen_of_row w vb 0 vcur tv hv) (frozen_of_row w vb _ vcur tv hv)).mono ?_;rintro e w' ⟨rfl, rfl⟩
       have hd : (xs.drop (i * 3)).length = (n - i) * 3 := by rw [List.length_drop, hxl]; omega
       have s1 := setCells_row g 100 (xs.drop (i * 3)) ((i + 1) * 3) w.drew cur hg2 (by rw [hd]; omega);have s2 := setCells_row g 100 vs (i * 3) _ _ s1 (by rw [hvl]; show _ ≤ (layAt cur.toList _ _).length; rw [layAt_length (by rw [hd, hcl]; omega), hcl]; omega);have r1 := setCells_rest g (xs.drop (i * 3)) ((i + 1) * 3) w.drew
       have r2 := setCells_rest g vs (i * 3) (w.drew.setCells g ((i + 1) * 3) (xs.drop (i * 3)));have hli := lay_ins (a := i * 3) (m := n * 3) (k := 3) htk (by omega) (by omega) hvl (by omega)
       refine ⟨_, rfl, ⟨?_, .inr ⟨g, cap, _, rfl, hg1, s2, hroom, by unfold maxLen; omega, ?_, ?_⟩⟩, ⟨by rw [r2.1, r1.1]; rfl, by rw [r2.2.1, r1.2.1]; rfl, by rw [r2.2.2.1, r1.2.2.1]; rfl, by rw [r2.2.2.2, r1.2.2.2]; exact Nat.le_refl _, fun k hk hkr => ?_⟩, .inl rfl⟩
       · simp only [List.length_append, List.length_take, List.length_drop]; omega
       · show (layAt (layAt cur.toList _ _) _ _).length = _
         rw [layAt_length (by rw [layAt_length (by rw [hd, hcl]; omega), hcl]; omega), layAt_length (by rw [hd, hcl]; omega), hcl]
       · rw [show (i + 1) * 3 = i * 3 + 3 by omega, show (n + 1) * 3 = n * 3 + 3 by omega]
         exact hli
       · have hkg : k ≠ g := fun e => hkr (by rw [e]; rfl)
         rw [setCells_other _ _ _ _ _ hkg, setCells_other _ _ _ _ _ hkg]; rfl
     · refine (ins_grow g n cap i vb vc xs vs w (by omega) hnc (by omega) hn hxl hvl hxc hvc h1x h1v).mono ?_
       rintro e w' ⟨z, hz3, rfl, rfl⟩
       have hzn : ∀ k, (Builtin.zeroCells z.cells k).size = k * 3 := fun k => by rw [size_zeroCells, hz3]
       have hGn : n + 1 ≤ grownCap w (n + 1) cap 100 := grownCap_ge w _ _ _;have hG63 := grownCap_le_maxLen w (n + 1) cap 100 (by unfold maxLen; omega);generalize grownCap w (n + 1) cap 100 = G at hGn hG63;have hrow : ((xs.take (i * 3)).toArray ++ Builtin.zeroCells z.cells (n + 1 - i) ++ Builtin.zeroCells z.cells (G - (n + 1))).size = G * 3 := by
        rw [Array.size_append, Array.size_append, hzn, hzn];simp [List.length_take, hxl];omega
       have htake : ((xs.take (i * 3)).toArray ++ Builtin.zeroCells z.cells (n + 1 - i) ++ Builtin.zeroCells z.cells (G - (n + 1))).toList.take (i * 3) = xs.take (i * 3) := by
        simp only [Array.toList_append, List.append_assoc];rw [List.take_append_of_le_length (by simp [List.length_take, hxl]; omega), List.take_of_length_le (by simp [List.length_take]; omega)]
       generalize (xs.take (i * 3)).toArray ++ Builtin.zeroCells z.cells (n + 1 - i) ++ Builtin.zeroCells z.cells (G - (n + 1)) = ROW at hrow htake;have hd : (xs.drop (i * 3)).length = (n - i) * 3 := by rw [List.length_drop, hxl]; omega
       have h0 : (w.alloc (.cells ROW 100)).drew.heap[w.heap.size]? = some (.cells ROW 100 (0, 0)) := heap_alloc_new w _;have hrl : ROW.toList.length = G * 3 := by simpa using hrow
       have s1 := setCells_row w.heap.size 100 vs (i * 3) (w.alloc (.cells ROW 100)).drew ROW h0 (by rw [hvl, hrow]; omega);have s2 := setCells_row w.heap.size 100 (xs.drop (i * 3)) ((i + 1) * 3) ((w.alloc (.cells ROW 100)).drew.setCells w.heap.size (i * 3) vs).drew _ s1 (by show _ ≤ (layAt ROW.toList _ _).length; rw [layAt_length (by rw [hvl, hrl]; omega), hd, hrl]; omega)
       have r1 := setCells_rest w.heap.size vs (i * 3) (w.alloc (.cells ROW 100)).drew;have r2 := setCells_rest w.heap.size (xs.drop (i * 3)) ((i + 1) * 3) ((w.alloc (.cells ROW 100)).drew.setCells w.heap.size (i * 3) vs).drew
       refine ⟨_, rfl, ⟨?_, .inr ⟨w.heap.size, G, _, rfl, hbase, s2, hGn, hG63, ?_, ?_⟩⟩, ⟨by rw [r2.1]; exact r1.1, by rw [r2.2.1]; exact r1.2.1, by rw [r2.2.2.1]; exact r1.2.2.1, by rw [r2.2.2.2]; show _ ≤ (World.setCells _ _ _ _).heap.size; rw [r1.2.2.2]; show w.heap.size ≤ (w.heap.push _).size; rw [Array.size_push]; omega, fun k hk hkr => ?_⟩, .inr rfl⟩
       · simp only [List.length_append, List.length_take, List.length_drop]; omega
       · show (layAt (layAt ROW.toList _ _) _ _).length = _
         rw [layAt_length (by rw [layAt_length (by rw [hvl, hrl]; omega), hd, hrl]; omega), layAt_length (by rw [hvl, hrl]; omega), hrl]
       · apply List.ext_getElem?
         intro j;rw [List.getElem?_take];show (if j < (n + 1) * 3 then (layAt (layAt ROW.toList _ _) _ _)[j]? else none) = _
         by_cases hj : j < (n + 1) * 3
         · rw [if_pos hj, layAt_get (by rw [layAt_length (by rw [hvl, hrl]; omega), hd, hrl]; omega), layAt_get (by rw [hvl, hrl]; omega), hd, hvl]
           by_cases h1 : j < i * 3
           · rw [if_neg (by omega), if_neg (by omega), List.append_assoc, List.getElem?_append_left (by rw [List.length_take]; omega), ← htake, List.getElem?_take, if_pos h1]
           · by_cases h2 : j < (i + 1) * 3
             · rw [if_neg (by omega), if_pos (by omega), List.append_assoc, List.getElem?_append_right (by rw [List.length_take]; omega), List.length_take, Nat.min_eq_left (by omega), List.getElem?_append_left (by omega)]
             · rw [if_pos (by omega), List.getElem?_append_right (by rw [List.length_append, List.length_take]; omega), List.length_append, List.length_take, Nat.min_eq_left (by omega), hvl]
               congr 1; omega
         · rw [if_neg hj, List.getElem?_eq_none]
           simp only [List.length_append, List.length_take, List.length_drop];omega
       · have hkg : k ≠ w.heap.size := by omega
         rw [setCells_other _ _ _ _ _ hkg];show (World.setCells _ _ _ _).heap[k]? = _
         rw [setCells_other _ _ _ _ _ hkg];exact heap_alloc_old w _ (by omega)
theorem ins_AC (H : List (Option AB)) (id idv ep epv i : Nat) (rows : List (List AV)) (rowv : List AV) (hH : H[id]? = some (some (.row 100 3 ep rows))) (hV : H[idv]? = some (some (.row 100 3 epv [rowv]))) (hne : id ≠ idv) (hi : i ≤ rows.length) (hn : rows.length ≤ 1000000) :
 AC Tryz.prog 47 H [.own id ep 0 rows.length, .v (.int .i64 i), .own idv epv 0 1] (fun r H' => r = .own id (ep + 1) 0 (rows.length + 1) ∧ H' = H.set id (some (.row 100 3 (ep + 1) (rows.take i ++ [rowv] ++ rows.drop i)))) := by
 intro base σ w vs hh hl hv;obtain ⟨v0, v1, v2, rfl⟩ : ∃ v0 v1 v2, vs = [v0, v1, v2] := by
  match vs, hl with
  | [a, b, c], _ => exact ⟨a, b, c, rfl⟩
 have h0 := hv 0 _ v0 rfl rfl;have h1 := hv 1 _ v1 rfl rfl;have h2 := hv 2 _ v2 rfl rfl;cases h1;obtain ⟨xs, hown, hrows⟩ := hh.live id _ hH;obtain ⟨vs, hownv, hrowv⟩ := hh.live idv _ hV;have hown : w.ownsRow base.b 100 3 (σ id) rows.length xs := hown;have hownv : w.ownsRow base.b 100 3 (σ idv) 1 vs := hownv;have e0 : v0 = σ id := by
  cases h0 with
  | own h _ =>
   obtain ⟨_, A, c, A', h5, rfl, _, h6⟩ := (h.2 _ _ _ _ hH).2 rfl;obtain rfl := h6 rfl;exact h5.symm
 have e2 : v2 = σ idv := by
  cases h2 with
  | own h _ =>
   obtain ⟨_, A, c, A', h5, rfl, _, h6⟩ := (h.2 _ _ _ _ hV).2 rfl;obtain rfl := h6 rfl;exact h5.symm
 subst e0; subst e2;rcases hownv.2 with ⟨_, h⟩ | ⟨vb, vc, vcur, hσv, hvb, hvh, hvc, hvm, hvs, hvt⟩
 · cases h
 · have hvl : vs.length = 3 := hownv.1
   have hnb : (σ id).ownBlock ≠ some vb := fun e => by
    have hblk : blkOf (σ id) = some vb := by
     rcases hown.2 with ⟨h6, _⟩ | ⟨g, cap, cur, h6, _⟩
     · rw [h6] at e; cases e
     · rw [h6] at e ⊢; exact e
    exact hne (hh.apart id idv _ _ vb hH hV hblk (by show blkOf (σ idv) = _; rw [hσv]; rfl))
   rw [hσv];refine (ins_run base.b (σ id) rows.length i vb vc xs vs w vcur 100 hown hi hn hh.bs hvh hvl hvt hrows.2.2.1 hrowv.2.2.1 hnb).mono ?_;rintro e w' ⟨v', rfl, q1, q2, q3⟩
   have hlen : (rows.take i ++ [rowv] ++ rows.drop i).length = rows.length + 1 := by
    simp only [List.length_append, List.length_take, List.length_drop, List.length_singleton]; omega
   have hr3 : RowsR ⟨w, H, σ, base.F⟩ 3 (rows.take i ++ [rowv] ++ rows.drop i) (xs.take (i * 3) ++ vs ++ xs.drop (i * 3)) := ((hrows.takeI hi).append hrowv).append (hrows.dropI hi);have hrel : Rel base σ ⟨[.any], H⟩ ⟨#[undef], []⟩ w := ⟨hh, ⟨rfl, fun i av h => by
    cases i with
    | zero => obtain rfl := Option.some.inj h; exact ⟨_, rfl, .any _⟩
    | succ i => simp at h⟩, rfl⟩
   obtain ⟨σ', r1, r2⟩ := regrown (s := ⟨[.any], H⟩) hrel hH hr3 (by rw [hlen]; exact q1) q2 q3 (some 0);obtain ⟨x, r3, r4⟩ := r1.2.1.2 0 (.own id (ep + 1) 0 (rows.take i ++ [rowv] ++ rows.drop i).length) rfl;obtain rfl : v' = x := Option.some.inj r3;rw [hlen] at r4;exact ⟨v', _, _, σ', rfl, r1.1, r2, r4, rfl, rfl⟩
end Go.Proofs.YtkbbcenjklaglaaGreat.AL
namespace Go.Proofs.YtkbbcenjklaglaaGreat.AL
open Go Go.RowKit Go.Proofs.YtkbbcenjklaglaaGreat.Base
set_option linter.unusedVariables false
set_option linter.unusedSimpArgs false
set_option maxRecDepth 4000
set_option synthInstance.maxSize 1000
set_option synthInstance.maxHeartbeats 200000
instance tuErr2 : TU Tryz.prog 30 (.interface #[("Error", 201)]) := ⟨by kernel_rfl⟩
instance tcCode2 : TCMP Tryz.prog 53 := ⟨by kernel_rfl⟩
structure DefD where
 name : ByteArray
 obj : Int
 sym : Int
 deriving Inhabited
structure TabD where
 dropped : List (List Bool)
 defs : List DefD
 deriving Inhabited
structure PlcD where
 obj : Int
 sec : Int
 at_ : Int
 deriving Inhabited
@[reducible] def defA (d : DefD) : List AV := [.v (.string d.name), .v (.int .i64 d.obj), .v (.int .i64 d.sym)]
@[reducible] def drA (l : List Bool) : List AV := [.rd 1 (l.map bA)]
@[reducible] def tabA (t : TabD) : List AV := [.rd 1 (t.dropped.map drA), .rd 3 (t.defs.map defA)]
@[reducible] def plcA (p : PlcD) : List AV := [.v (.int .i64 p.obj), .v (.int .i64 p.sec), .v (.int .i64 p.at_)]
def cmpS (a b : ByteArray) : Int := if sLt a b = true then -1 else if sLt b a = true then 1 else 0
def zDef : DefD := ⟨noS, 0, 0⟩
def lowF (l : List DefD) (nm : ByteArray) : Nat := l.countP fun d => sLt d.name nm
def findB (l : List DefD) (nm : ByteArray) : Bool := decide (lowF l nm < l.length) && decide (cmpS (l.getD (lowF l nm) default).name nm = 0)
def findD (l : List DefD) (nm : ByteArray) : DefD := if findB l nm = true then l.getD (lowF l nm) default else zDef
def Srt (l : List DefD) : Prop := ∀ i j, i < j → j < l.length → sLt (l.getD i default).name (l.getD j default).name = true
theorem low_eq {l : List DefD} {nm : ByteArray} {i : Nat} (hi : i ≤ l.length) (h1 : ∀ k, k < i → sLt (l.getD k default).name nm = true) (h2 : ∀ k, i ≤ k → k < l.length → sLt (l.getD k default).name nm = false) : lowF l nm = i := by
 unfold lowF
 conv => lhs; rw [← List.take_append_drop i l]
 rw [List.countP_append];have e1 : (l.take i).countP (fun d => sLt d.name nm) = i := by
  have : (l.take i).countP (fun d => sLt d.name nm) = (l.take i).length := by
   rw [List.countP_eq_length];intro d hd;obtain ⟨k, hk, rfl⟩ := List.getElem_of_mem hd;rw [List.length_take] at hk;have := h1 k (by omega);rw [List.getD_eq_getElem?_getD, List.getElem?_eq_getElem (by omega)] at this;simpa using this
  rw [this, List.length_take]; omega
 have e2 : (l.drop i).countP (fun d => sLt d.name nm) = 0 := by
  rw [List.countP_eq_zero];intro d hd;obtain ⟨k, hk, rfl⟩ := List.getElem_of_mem hd;rw [List.length_drop] at hk;have := h2 (i + k) (by omega) (by omega);rw [List.getD_eq_getElem?_getD, List.getElem?_eq_getElem (by omega)] at this;simpa using this
 rw [e1, e2]; rfl
theorem cmp_lt {a b : ByteArray} : cmpS a b < 0 ↔ sLt a b = true := by
 unfold cmpS
 cases h : sLt a b <;> cases h' : sLt b a <;> simp
def defB (s : SymD) (dr : List Bool) : Bool := decide (s.bind ≠ 0) && (decide (s.sec < 0) || (decide (s.sec > 0) && !dr.getD (s.sec - 1).toNat default))
def placeF (l : List ObjD) (t : TabD) (o s : Int) : PlcD × Int :=
 if ((l.getD o.toNat default).syms.getD s.toNat default).sec ≤ 0 then (⟨0, 0, ((l.getD o.toNat default).syms.getD s.toNat default).val⟩, 0)
 else if (t.dropped.getD o.toNat default).getD (((l.getD o.toNat default).syms.getD s.toNat default).sec - 1).toNat default = true then (⟨0, 0, 0⟩, 4)
 else (⟨o, ((l.getD o.toNat default).syms.getD s.toNat default).sec, ((l.getD o.toNat default).syms.getD s.toNat default).val⟩, 0)
structure TabW (l : List ObjD) (t : TabD) : Prop where
 many : l.length ≤ 1000000 ∧ t.defs.length ≤ 1000000
 len : t.dropped.length = l.length
 row : ∀ i, i < l.length → (t.dropped.getD i default).length = (l.getD i default).secs.length
 sec : ∀ i k, i < l.length → k < (l.getD i default).syms.length → ((l.getD i default).syms.getD k default).sec ≤ (l.getD i default).secs.length ∧ -1 ≤ ((l.getD i default).syms.getD k default).sec
 szs : ∀ i, i < l.length → (l.getD i default).syms.length ≤ 1000000 ∧ (l.getD i default).secs.length ≤ 1000000
 defs : ∀ k, k < t.defs.length → 0 ≤ (t.defs.getD k default).obj ∧ (t.defs.getD k default).obj < l.length ∧ 0 ≤ (t.defs.getD k default).sym ∧ (t.defs.getD k default).sym < (l.getD (t.defs.getD k default).obj.toNat default).syms.length
 srt : Srt t.defs
def whereF (l : List ObjD) (t : TabD) (o s : Int) : PlcD × Int :=
 if o < 0 ∨ o ≥ l.length ∨ s < 0 ∨ s ≥ (l.getD o.toNat default).syms.length then (⟨0, 0, 0⟩, 1)
 else if ((l.getD o.toNat default).syms.getD s.toNat default).bind = 0 then placeF l t o s
 else if findB t.defs ((l.getD o.toNat default).syms.getD s.toNat default).name = true then placeF l t (findD t.defs ((l.getD o.toNat default).syms.getD s.toNat default).name).obj (findD t.defs ((l.getD o.toNat default).syms.getD s.toNat default).name).sym
 else if ((l.getD o.toNat default).syms.getD s.toNat default).bind = 2 then (⟨0, 0, 0⟩, 0) else (⟨0, 0, 0⟩, 4)
theorem cmp_isNaN (a : ByteArray) : A0 Tryz.prog 92 [.v (.string a)] (fun ret => ret = .v (.bool false)) := by
 refine A0.body 6 Tryz.func92 rfl rfl Tryz.ntmps92 fun base n0 => ?_
 refine go ?_;refine AW.ret ?_;refine Fin.ret (Gh.refl) noid1 ?_;simp [packA]
theorem cmp_Compare (a b : ByteArray) : A0 Tryz.prog 64 [.v (.string a), .v (.string b)] (fun ret => ret = .v (.int .i64 (cmpS a b))) := by
 refine A0.body 20 Tryz.func64 rfl rfl Tryz.ntmps64 fun base n0 => ?_
 refine go ?_;refine AO.call1 Tryz.func92 rfl rfl (cmp_isNaN _) ?_;refine go ?_;refine AO.call1 Tryz.func92 rfl rfl (cmp_isNaN _) ?_;refine go ?_;refine AW.iteB (GL.ev _) (fun h0 => ?_) (fun h0 => ?_)
 ·
  cases h0
 ·
  refine go ?_;refine AW.iteB (GL.ev _) (fun h2 => ?_) (fun h2 => ?_)
  ·
   cases h2
  ·
   refine go ?_;refine AW.iteB (GL.ev _) (fun h3 => ?_) (fun h3 => ?_)
   ·
    refine go ?_;refine AW.ret <|SQ.ret ?_;refine Fin.ret (Gh.refl) noid1 ?_;show AV.v _ = AV.v _
    congr 2
    unfold cmpS;simp [*]
   ·
    refine go ?_;refine AW.iteB (GL.ev _) (fun h4 => ?_) (fun h4 => ?_)
    ·
     refine go ?_;refine AW.ret <|SQ.ret ?_;refine Fin.ret (Gh.refl) noid1 ?_;show AV.v _ = AV.v _
     congr 2
     unfold cmpS;simp [*]
    ·
     refine go ?_;refine AW.ret ?_;refine Fin.ret (Gh.refl) noid1 ?_;show AV.v _ = AV.v _
     congr 2
     unfold cmpS;simp [*]
theorem names_byName (d : DefD) (nm : ByteArray) : A0 Tryz.prog 46 [.agg (defA d), .v (.string nm)] (fun ret => ret = .v (.int .i64 (cmpS d.name nm))) := by
 refine A0.body 9 Tryz.func46 rfl rfl Tryz.ntmps46 fun base n0 => ?_
 refine go ?_;refine AO.call1 Tryz.func64 rfl rfl (cmp_Compare _ _) ?_;refine go ?_;refine AW.ret ?_;refine Fin.ret (Gh.refl) noid1 ?_
 first | rfl | (simp [packA]; done)
set_option maxHeartbeats 1000000 in
theorem names_search (l : List DefD) (nm : ByteArray) (hl : l.length ≤ 1000000) (hs : Srt l) : A0 Tryz.prog 45 [.rd 3 (l.map defA), .v (.string nm), .fn 46 []] (fun ret => ret = .tup [.v (.int .i64 ((lowF l nm : Int))), .v (.bool (findB l nm))]) := by
 refine A0.body 49 Tryz.func45 rfl rfl Tryz.ntmps45 fun base n0 => ?_
 refine go ?_
 refine AW.loopU2 [.k, .k, .k, .f, .f, .f, .f, .f, .k, .k, .k, .F, .F, .F, .F, .f, .f, .f, .f, .f, .f] (fun (i j : Nat) => [(9, .v (.int .i64 (i))), (10, .v (.int .i64 (j)))]) (fun i j => Hn n0 []) (fun m i j => (i ≤ j ∧ j ≤ l.length ∧ m = j - i) ∧ (∀ k, k < i → sLt (l.getD k default).name nm = true) ∧ ∀ k, j ≤ k → k < l.length → sLt (l.getD k default).name nm = false) (l.length) (0) (l.length) ⟨by omega, fun k h => by omega, fun k h1 h2 => by omega⟩ cr cr ?_
 rintro m0 i j ⟨hx1, hx2, hx3⟩
 refine go ?_;refine AW.iteB (GL.ev _) (fun h0 => ?_) (fun h0 => ?_)
 ·
  rw [decide_eq_true_eq] at h0;have hij : i < j := by omega
  refine gs ?_;iterate 2 refine AO.c ?_
  iterate 2 refine AO.oo ?_
  refine AO.eq 21 (av' := .v (.int .u64 (((i + j : Nat)) : Int))) (by rw [Int.natCast_add]) ?_;refine AO.oo ?_;refine AO.eq 22 (av' := .v (.int .u64 ((((i + j) / 2 : Nat)) : Int))) (by congr 2) ?_;refine AO.oo ?_;refine AO.eq 23 (av' := .v (.int .i64 ((((i + j) / 2 : Nat)) : Int))) rfl ?_;refine go ?_
  refine AO.callF (args' := [.agg (defA (l.getD ((i + j) / 2) default)), .v (.string nm)]) (fun _ _ h => by cases h) Tryz.func46 rfl rfl (names_byName _ _) rfl ?_;refine go ?_;refine AW.iteB (GL.ev _) (fun h1 => ?_) (fun h1 => ?_)
  ·
   rw [decide_eq_true_eq] at h1;have h1b := cmp_lt.1 h1;have ha : ∀ k, k < (i + j) / 2 + 1 → sLt (l.getD k default).name nm = true := fun k hk => by
    by_cases e : k = (i + j) / 2
    · rw [e]; exact h1b
    · exact sLt_trans (hs k ((i + j) / 2) (by omega) (by omega)) h1b
   refine go ?_;refine BQ.normal ?_;exact AW.backU [.k, .k, .k, .f, .f, .f, .f, .f, .k, .k, .k, .F, .F, .F, .F, .f, .f, .f, .f, .f, .f] (j - ((i + j) / 2 + 1)) ((i + j) / 2 + 1, j) (by omega) (by (try dsimp only); exact ⟨by omega, ha, hx3⟩) cr cr
  ·
   rw [decide_eq_false_iff_not, cmp_lt] at h1;have h1b : sLt (l.getD ((i + j) / 2) default).name nm = false := by simpa using h1
   have hb : ∀ k, (i + j) / 2 ≤ k → k < l.length → sLt (l.getD k default).name nm = false := fun k hk hkl => by
    by_cases e : k = (i + j) / 2
    · rw [e]; exact h1b
    · cases hq : sLt (l.getD k default).name nm with
      | false => rfl
      | true => have := sLt_trans (hs ((i + j) / 2) k (by omega) hkl) hq; rw [h1b] at this; cases this
   refine go ?_;refine BQ.normal ?_;exact AW.backU [.k, .k, .k, .f, .f, .f, .f, .f, .k, .k, .k, .F, .F, .F, .F, .f, .f, .f, .f, .f, .f] ((i + j) / 2 - i) (i, (i + j) / 2) (by omega) (by (try dsimp only); exact ⟨by omega, hx2, hb⟩) cr cr
 ·
  rw [decide_eq_false_iff_not] at h0;have hij : i = j := by omega
  subst hij;have hlow := low_eq (by omega) hx2 hx3;refine AW.exit <|SQ.exit <|AW.out <|LU.exit <|BQ.exit ?_;refine gs ?_;iterate 5 refine AO.c ?_
  iterate 3 refine AO.gx ?_
  refine AO.gxo (fun h => by rw [decide_eq_true_eq] at h; omega) ?_;refine go ?_;refine AO.gxcallF (args' := [.agg (defA (l.getD i default)), .v (.string nm)]) (fun _ _ h => by cases h) Tryz.func46 rfl rfl (fun _ => names_byName _ _) rfl ?_;refine go ?_;refine AW.ret ?_;refine Fin.ret (Gh.refl) noid2 ?_;unfold findB; rw [hlow]; simp [packA]
theorem names_Find (t : TabD) (nm : ByteArray) (hl : t.defs.length ≤ 1000000) (hs : Srt t.defs) : A0 Tryz.prog 29 [.agg (tabA t), .v (.string nm)] (fun ret => ret = .tup [.agg (defA (findD t.defs nm)), .v (.bool (findB t.defs nm))]) := by
 have hsr : A0 Tryz.prog 45 [.rd 3 (t.defs.map defA), .v (.string nm), .v (.func (.func 46) #[] #[])] (fun r => r = .tup [.v (.int .i64 (lowF t.defs nm : Int)), .v (.bool (findB t.defs nm))]) := A0.fn0 (pre := [.rd 3 (t.defs.map defA), .v (.string nm)]) (names_search t.defs nm hl hs);refine A0.body 23 Tryz.func29 rfl rfl Tryz.ntmps29 fun base n0 => ?_
 refine n2 ?_;iterate 2 refine AO.ww ?_
 refine AO.c ?_;refine n3 ?_;iterate 3 refine AO.c ?_
 refine AO.call1 Tryz.func45 rfl rfl (hsr) ?_;iterate 5 refine AO.c ?_
 refine n4 ?_;iterate 2 refine AO.c ?_
 refine n1 ?_;refine AW.iteB (GL.ev _) (fun h0 => ?_) (fun h0 => ?_)
 ·
  rw [Bool.not_eq_true'] at h0;have e : findD t.defs nm = zDef := by unfold findD; rw [h0]; rfl
  refine n2 ?_;refine AO.c ?_;refine AO.sst ?_;refine AO.c ?_;refine na <|SQ.ret ?_;refine Fin.ret (Gh.refl) noid2 ?_;rw [e, h0]; rfl
 ·
  rw [Bool.not_eq_false'] at h0;have e : findD t.defs nm = t.defs.getD (lowF t.defs nm) default := by unfold findD; rw [if_pos h0]
  have hlt : lowF t.defs nm < t.defs.length := by unfold findB at h0; simp only [Bool.and_eq_true, decide_eq_true_eq] at h0; exact h0.1
  refine n6 ?_;iterate 3 refine AO.c ?_
  refine AO.o (by omega) ?_;refine AO.c ?_;refine AO.sst ?_;refine AO.c ?_;refine na ?_;refine Fin.ret (Gh.refl) noid2 ?_;rw [e, h0]; rfl
theorem names_defines (s : SymD) (dr : List Bool) (h : s.sec ≤ dr.length ∧ -1 ≤ s.sec ∧ dr.length ≤ 1000000) : A0 Tryz.prog 27 [.agg (symA s), .rd 1 (dr.map bA)] (fun ret => ret = .v (.bool (defB s dr))) := by
 refine A0.body 27 Tryz.func27 rfl rfl Tryz.ntmps27 fun base n0 => ?_
 refine gs ?_;refine AO.ww ?_;refine AO.c ?_;refine gs ?_;iterate 4 refine AO.c ?_
 iterate 11 refine AO.gx ?_
 refine AO.gxo (fun _ => by omega) ?_;refine AO.gxo (fun h => by simp at h; omega) ?_;refine go ?_;refine AW.ret ?_;refine Fin.ret (Gh.refl) noid1 ?_;unfold defB; simp [packA]
set_option maxHeartbeats 1000000 in
theorem names_place (l : List ObjD) (t : TabD) (o s : Int) (hw : TabW l t) (ho : 0 ≤ o ∧ o < l.length) (hs : 0 ≤ s ∧ s < (l.getD o.toNat default).syms.length) : A0 Tryz.prog 49 [.rd 5 (l.map objA), .agg (tabA t), .v (.int .i64 (o)), .v (.int .i64 (s))] (fun ret => ret = .tup [.agg (plcA (placeF l t o s).1), .v (ifV 53 (placeF l t o s).2)]) := by
 have hsc := hw.sec o.toNat s.toNat (by omega) (by omega);have hrow := hw.row o.toNat (by omega);have hlen := hw.len;have hsz := hw.szs o.toNat (by omega);refine A0.body 43 Tryz.func49 rfl rfl Tryz.ntmps49 fun base n0 => ?_
 refine n2 ?_;iterate 2 refine AO.ww ?_
 refine AO.c ?_;refine n3 ?_;iterate 2 refine AO.c ?_
 refine AO.o (by omega) ?_;iterate 3 refine AO.c ?_
 refine AO.o (by omega) ?_;refine AO.c ?_;refine AO.ww ?_;refine AO.sst ?_;refine n4 ?_;iterate 3 refine AO.c ?_
 refine n1 ?_;refine AW.iteB (GL.ev _) (fun h0 => ?_) (fun h0 => ?_)
 ·
  rw [decide_eq_true_eq] at h0;have e : placeF l t o s = (⟨0, 0, ((l.getD o.toNat default).syms.getD s.toNat default).val⟩, 0) := by unfold placeF; rw [if_pos h0]
  refine n2 ?_;iterate 3 refine AO.c ?_
  refine AO.sst ?_;refine AO.c ?_;refine na <|SQ.ret ?_;refine Fin.ret (Gh.refl) noid2 ?_;rw [e]; rfl
 ·
  rw [decide_eq_false_iff_not] at h0;refine n5 <|AW.seq' <|AW.seq' ?_;refine AW.drawsZ [] (.one 0 false (.one 1 false (.one 2 false (.one 3 false (.one 4 false (.one 5 false (.one 6 false (.one 7 false (.one 8 false (.one 9 false .nil)))))))))) (by kernel_rfl) rfl (by kernel_rfl) ?_;iterate 3 refine AZ.c rfl ?_
  refine AZ.o rfl (by omega) ?_;iterate 3 refine AZ.c rfl ?_
  refine AZ.o rfl (by omega) ?_;refine AZ.o rfl (by omega) ?_;refine AZ.c rfl ?_;refine AZ.done ?_;refine SQ.normal ?_;refine AW.iteB (GL.ev _) (fun h1 => ?_) (fun h1 => ?_)
  ·
   have e : placeF l t o s = (⟨0, 0, 0⟩, 4) := by unfold placeF; rw [if_neg h0, if_pos h1]
   refine n2 ?_;iterate 2 refine AO.c ?_
   refine AO.sst ?_;refine AO.c ?_;refine na <|SQ.ret ?_;refine Fin.ret (Gh.refl) noid2 ?_;rw [e]; rfl
  ·
   have e : placeF l t o s = (⟨o, ((l.getD o.toNat default).syms.getD s.toNat default).sec, ((l.getD o.toNat default).syms.getD s.toNat default).val⟩, 0) := by unfold placeF; rw [if_neg h0, if_neg (by rw [h1]; decide)]
   refine n6 ?_;iterate 6 refine AO.c ?_
   refine AO.sst ?_;refine AO.c ?_;refine na ?_;refine Fin.ret (Gh.refl) noid2 ?_;rw [e]; rfl
@[reducible] def z1 (l : List ObjD) (o : Int) (s : Int) := ((l.getD o.toNat default).syms.getD s.toNat default)
set_option maxHeartbeats 1000000 in
theorem names_Where (l : List ObjD) (t : TabD) (o s : Int) (hw : TabW l t) : A0 Tryz.prog 31 [.rd 5 (l.map objA), .agg (tabA t), .v (.int .i64 (o)), .v (.int .i64 (s))] (fun ret => ret = .tup [.agg (plcA (whereF l t o s).1), .v (ifV 53 (whereF l t o s).2)]) := by
 have hmy := hw.many;refine A0.body 78 Tryz.func31 rfl rfl Tryz.ntmps31 fun base n0 => ?_
 refine n2 ?_;iterate 2 refine AO.ww ?_
 refine AO.c ?_;refine n4 ?_;iterate 3 refine AO.c ?_
 iterate 4 refine AO.gx ?_
 iterate 2 refine AO.c ?_
 iterate 2 refine AO.gx ?_
 iterate 2 refine AO.c ?_
 iterate 3 refine AO.gx ?_
 refine AO.gxo (fun h => by simp at h; omega) ?_;iterate 4 refine AO.gx ?_
 refine AO.c ?_;refine n1 ?_;refine AW.iteB (GL.ev _) (fun h0 => ?_) (fun h0 => ?_)
 ·
  have hno : o < 0 ∨ o ≥ l.length ∨ s < 0 ∨ s ≥ (l.getD o.toNat default).syms.length := by simp only [Bool.or_eq_true, decide_eq_true_eq] at h0; omega
  have e : whereF l t o s = (⟨0, 0, 0⟩, 1) := by unfold whereF; rw [if_pos hno]
  refine n2 ?_;iterate 2 refine AO.c ?_
  refine AO.sst ?_;refine AO.c ?_;refine na <|SQ.ret ?_;refine Fin.ret (Gh.refl) noid2 ?_;rw [e]; rfl
 ·
  have hyes : ¬ (o < 0 ∨ o ≥ l.length ∨ s < 0 ∨ s ≥ (l.getD o.toNat default).syms.length) := by simp only [Bool.or_eq_false_iff, decide_eq_false_iff_not] at h0; omega
  refine n6 ?_;iterate 2 refine AO.c ?_
  refine AO.o (by omega) ?_;iterate 3 refine AO.c ?_
  refine AO.o (by omega) ?_;refine AO.c ?_;refine AO.ww ?_;refine AO.sst ?_;refine n4 ?_;iterate 3 refine AO.c ?_
  refine n1 ?_;refine AW.iteB (GL.ev _) (fun h1 => ?_) (fun h1 => ?_)
  ·
   rw [decide_eq_true_eq] at h1;have e : whereF l t o s = placeF l t o s := by unfold whereF; rw [if_neg hyes, if_pos h1]
   refine n2 ?_;iterate 4 refine AO.c ?_
   refine AO.call1 Tryz.func49 rfl rfl (names_place l t o s hw (by omega) (by omega)) ?_;iterate 2 refine AO.c ?_
   refine AO.sst ?_;refine AO.c ?_;refine na <|SQ.ret ?_;refine Fin.ret (Gh.refl) noid2 ?_;rw [e]; rfl
  ·
   rw [decide_eq_false_iff_not] at h1;refine n5 <|n8 ?_;iterate 3 refine AO.c ?_
   refine AO.call1 Tryz.func29 rfl rfl (names_Find t _ hmy.2 hw.srt) ?_;iterate 3 refine AO.c ?_
   refine AO.ww ?_;refine AO.sst ?_;refine AO.c ?_;refine n3 ?_;refine AO.c ?_;refine n1 ?_;refine AW.iteB (GL.ev _) (fun h2 => ?_) (fun h2 => ?_)
   ·
    have e : whereF l t o s = placeF l t (findD t.defs (z1 l o s).name).obj (findD t.defs (z1 l o s).name).sym := by unfold whereF; rw [if_neg hyes, if_neg h1, if_pos h2]
    have hfe : findD t.defs (z1 l o s).name = t.defs.getD (lowF t.defs (z1 l o s).name) default := by unfold findD; rw [if_pos h2]
    have hlt : lowF t.defs (z1 l o s).name < t.defs.length := by unfold findB at h2; simp only [Bool.and_eq_true, decide_eq_true_eq] at h2; exact h2.1
    have hdd := hw.defs _ hlt;rw [← hfe] at hdd;have hfd : (0 ≤ (findD t.defs (z1 l o s).name).obj ∧ (findD t.defs (z1 l o s).name).obj < l.length) ∧ 0 ≤ (findD t.defs (z1 l o s).name).sym ∧ (findD t.defs (z1 l o s).name).sym < (l.getD (findD t.defs (z1 l o s).name).obj.toNat default).syms.length := ⟨⟨hdd.1, hdd.2.1⟩, hdd.2.2.1, hdd.2.2.2⟩;refine n2 ?_;iterate 6 refine AO.c ?_
    refine AO.call1 Tryz.func49 rfl rfl (names_place l t _ _ hw hfd.1 hfd.2) ?_;iterate 2 refine AO.c ?_
    refine AO.sst ?_;refine AO.c ?_;refine na <|SQ.ret ?_;refine Fin.ret (Gh.refl) noid2 ?_;rw [e]; rfl
   ·
    skip;refine n5 <|n8 ?_;iterate 3 refine AO.c ?_
    refine n1 ?_;refine AW.iteB (GL.ev _) (fun h3 => ?_) (fun h3 => ?_)
    ·
     rw [decide_eq_true_eq] at h3;have e : whereF l t o s = (⟨0, 0, 0⟩, 0) := by unfold whereF; rw [if_neg hyes, if_neg h1, if_neg (by rw [h2]; decide), if_pos h3]
     refine n2 ?_;refine AO.c ?_;refine AO.sst ?_;refine AO.c ?_;refine na <|SQ.ret ?_;refine Fin.ret (Gh.refl) noid2 ?_;rw [e]; rfl
    ·
     rw [decide_eq_false_iff_not] at h3;have e : whereF l t o s = (⟨0, 0, 0⟩, 4) := by unfold whereF; rw [if_neg hyes, if_neg h1, if_neg (by rw [h2]; decide), if_neg h3]
     refine n6 ?_;iterate 2 refine AO.c ?_
     refine AO.sst ?_;refine AO.c ?_;refine na ?_;refine Fin.ret (Gh.refl) noid2 ?_;rw [e]; rfl
theorem Hn_repJ {n a b : Nat} {L : List (Option AB)} (h : a = b) : Hn n ((L ++ List.replicate a none) ++ []) = Hn n ((L ++ List.replicate b none) ++ []) := by rw [h]
def gNmL (o : ObjD) : List ByteArray := o.groups.map fun g => (o.syms.getD g.sym.toNat default).name
def gNk (l : List ObjD) (i k : Nat) : ByteArray := ((l.getD i default).syms.getD ((l.getD i default).groups.getD k default).sym.toNat default).name
def gBef (l : List ObjD) (i k : Nat) : List ByteArray := (l.take i).flatMap gNmL ++ (gNmL (l.getD i default)).take k
def seenS (M : List (ByteArray × Int)) (s : ByteArray) : List (ByteArray × Int) := aput M s ((aget M s).getD 0 + 1)
def seenM (L : List ByteArray) : List (ByteArray × Int) := L.foldl seenS []
def cntB (L : List ByteArray) (s : ByteArray) : Nat := L.countP fun x => decide (x = s)
def ahB (l : List ObjD) (i k : Nat) : Bool := decide (0 < cntB (gBef l i k) (gNk l i k))
def memSet (b : Bool) (r : List Bool) (m : List Int) : List Bool := m.foldl (fun r n => r.set (n - 1).toNat b) r
def dropK (l : List ObjD) (i : Nat) : Nat → List Bool
 | 0 => List.replicate (l.getD i default).secs.length false
 | k + 1 => memSet (ahB l i k) (dropK l i k) ((l.getD i default).groups.getD k default).mem
def dropR (l : List ObjD) (i : Nat) : List Bool := dropK l i (l.getD i default).groups.length
def dropF (l : List ObjD) (n : Nat) : List (List Bool) := (List.range n).map (dropR l)
structure GrpW (l : List ObjD) : Prop where
 many : l.length ≤ 1000000
 grps : ∀ i, i < l.length → (l.getD i default).groups.length ≤ 900000 ∧ (l.getD i default).syms.length ≤ 1000000 ∧ (l.getD i default).secs.length ≤ 1000000
 sym : ∀ i k, i < l.length → k < (l.getD i default).groups.length → 0 ≤ ((l.getD i default).groups.getD k default).sym ∧ ((l.getD i default).groups.getD k default).sym < (l.getD i default).syms.length
 mem : ∀ i k, i < l.length → k < (l.getD i default).groups.length → ((l.getD i default).groups.getD k default).mem.length ≤ 1000000 ∧ ∀ q, q < ((l.getD i default).groups.getD k default).mem.length → 1 ≤ ((l.getD i default).groups.getD k default).mem.getD q default ∧ ((l.getD i default).groups.getD k default).mem.getD q default ≤ (l.getD i default).secs.length
theorem seen_get : ∀ (L : List ByteArray) (M : List (ByteArray × Int)) (s : ByteArray), (aget (L.foldl seenS M) s).getD 0 = (aget M s).getD 0 + (cntB L s : Int) := by
 intro L
 induction L with
 | nil => intro M s; simp [cntB]
 | cons a L ih =>
  intro M s;rw [List.foldl_cons, ih, seenS, aget_aput, cntB, cntB, List.countP_cons];by_cases h : a = s
  · subst h; simp; omega
  · simp [h]
theorem seenM_get (L : List ByteArray) (s : ByteArray) : (aget (seenM L) s).getD 0 = (cntB L s : Int) := by
 have := seen_get L [] s;rw [show (aget ([] : List (ByteArray × Int)) s).getD 0 = 0 from rfl] at this;unfold seenM; omega
theorem memSet_len (b : Bool) : ∀ (m : List Int) (r : List Bool), (memSet b r m).length = r.length := by
 intro m
 induction m with
 | nil => intro r; rfl
 | cons x m ih => intro r; show (memSet b (r.set _ b) m).length = _; rw [ih, List.length_set]
theorem dropK_len (l : List ObjD) (i : Nat) : ∀ k, (dropK l i k).length = (l.getD i default).secs.length := by
 intro k
 induction k with
 | zero => simp [dropK]
 | succ k ih => rw [dropK, memSet_len, ih]
theorem memSet_snoc (b : Bool) (r : List Bool) {m : List Int} {q : Nat} (h : q < m.length) : memSet b r (m.take (q + 1)) = (memSet b r (m.take q)).set (m.getD q default - 1).toNat b := by
 unfold memSet;rw [List.take_succ_eq_append_getElem h, List.foldl_append, List.getD_eq_getElem?_getD, List.getElem?_eq_getElem h]; rfl
theorem gN_len (o : ObjD) : (gNmL o).length = o.groups.length := by unfold gNmL; simp
theorem gN_get {l : List ObjD} {i k : Nat} (h : k < (l.getD i default).groups.length) : (gNmL (l.getD i default)).take (k + 1) = (gNmL (l.getD i default)).take k ++ [gNk l i k] := by
 unfold gNmL gNk;rw [List.take_succ_eq_append_getElem (by rw [List.length_map]; exact h), List.getElem_map, List.getD_eq_getElem?_getD (l := (l.getD i default).groups), List.getElem?_eq_getElem h]; rfl
theorem gBef_succ {l : List ObjD} {i k : Nat} (h : k < (l.getD i default).groups.length) : gBef l i (k + 1) = gBef l i k ++ [gNk l i k] := by
 unfold gBef; rw [gN_get h, List.append_assoc]
theorem gBef_next {l : List ObjD} {i : Nat} (h : i < l.length) : gBef l (i + 1) 0 = gBef l i (l.getD i default).groups.length := by
 unfold gBef;rw [List.take_of_length_le (l := gNmL (l.getD i default)) (by rw [gN_len]; exact Nat.le_refl _), List.take_succ_eq_append_getElem h, List.flatMap_append];simp [List.getD_eq_getElem?_getD, List.getElem?_eq_getElem h]
theorem seenM_snoc (L : List ByteArray) (s : ByteArray) : seenM (L ++ [s]) = aput (seenM L) s ((aget (seenM L) s).getD 0 + 1) := by
 unfold seenM; rw [List.foldl_append]; rfl
theorem gBef_len {l : List ObjD} (hw : GrpW l) : ∀ i, i ≤ l.length → ((l.take i).flatMap gNmL).length ≤ 900000 * i := by
 intro i
 induction i with
 | zero => intro _; simp
 | succ i ih =>
  intro hi;rw [List.take_succ_eq_append_getElem (by omega), List.flatMap_append, List.length_append];have h1 := ih (by omega);have h2 := (hw.grps i (by omega)).1;rw [List.getD_eq_getElem?_getD, List.getElem?_eq_getElem (by omega)] at h2;have h3 : (List.flatMap gNmL [l[i]]).length = l[i].groups.length := by simp [gN_len]
  rw [h3];simp at h2;omega
theorem gBef_bd {l : List ObjD} (hw : GrpW l) {i k : Nat} (hi : i < l.length) : (gBef l i k).length ≤ 1000000000000 := by
 have h1 := gBef_len hw i (by omega);have h2 := hw.many;have h3 := (hw.grps i hi).1;unfold gBef;rw [List.length_append, List.length_take, gN_len];omega
theorem dropF_len (l : List ObjD) (n : Nat) : (dropF l n).length = n := by unfold dropF; simp
theorem dropF_succ (l : List ObjD) (n : Nat) : dropF l (n + 1) = dropF l n ++ [dropR l n] := by unfold dropF; rw [List.range_succ, List.map_append]; rfl
set_option maxHeartbeats 4000000 in
theorem names_drop (l : List ObjD) (hw : GrpW l) : A0 Tryz.prog 26 [.rd 5 (l.map objA)] (fun ret => ret = .rd 1 ((dropF l l.length).map drA)) := by
 have hmy := hw.many;refine A0.body 65 Tryz.func26 rfl rfl Tryz.ntmps26 fun base n0 => ?_
 refine n2 ?_;refine AO.c ?_;refine n3 ?_;refine AO.c ?_;refine n3 ?_;refine AO.ww ?_;refine AO.c ?_;refine n1 <|AW.seq' <|AW.seq' ?_;refine AW.ghost (Gh.mapM 0 kS vI) ?_;refine AW.ghost (Gh.adoptM 3 98 1) ?_;refine AW.region ?_;iterate 3 refine AO.c ?_
 refine nb ?_
 refine AW.loopU3 [.f, .f, .f, .k, .k, .F, .f, .k, .k, .k, .F, .F, .F, .F, .F, .F] (fun (i j ep : Nat) => [(3, .own (n0 + 1) ep 0 (dropF l i).length), (16, .v (.int .i64 (i)))]) (fun i j ep => Hn n0 (([some (.map ((seenM (gBef l i 0)).map (mE kS vI))), some (.row 98 1 (ep) ((dropF l i).map drA))] ++ List.replicate j none) ++ [])) (fun m i j ep => i ≤ l.length ∧ m = l.length - i) (l.length) (0) (0) (0) ⟨by omega, by omega⟩ (by first | rfl | (simp [dropF]; done)) (by simp [dropF, gBef, seenM]) ?_
 rintro m0 i j ep ⟨hx1, hx2⟩
 refine n2 ?_;refine AO.c ?_;refine n1 <|AW.seq' ?_;refine AW.iteB (GL.ev _) (fun h0 => ?_) (fun h0 => ?_)
 ·
  rw [decide_eq_true_eq] at h0;have hi : i < l.length := by omega
  have hgr := hw.grps i hi;have hdf := dropF_len l i;refine nc ?_;refine AO.oo ?_;refine AO.c ?_;refine AO.ww ?_;refine AO.sst ?_;refine n3 ?_;iterate 3 refine AO.c ?_
  refine AO.ww ?_;refine AO.c ?_;refine n4 ?_;iterate 4 refine AO.c ?_
  refine nb ?_
  refine AW.loopU2 [.f, .f, .f, .k, .k, .f, .k, .k, .f, .f, .f, .f, .f, .f, .k, .k, .k, .F, .k, .k, .k, .F, .F, .F, .F, .f, .f, .f, .f, .f] (fun (k j2 : Nat) => [(27, .v (.int .i64 (k)))]) (fun k j2 => Hn n0 ((([some (.map ((seenM (gBef l i k)).map (mE kS vI))), some (.row 98 1 (ep) ((dropF l i).map drA))] ++ List.replicate j none ++ [some (.box 52 (objA (l.getD i default))), some (.row 4 1 0 ((dropK l i k).map bA))]) ++ List.replicate j2 none) ++ [])) (fun m k j2 => k ≤ (l.getD i default).groups.length ∧ m = (l.getD i default).groups.length - k) ((l.getD i default).groups.length) (0) (0) ⟨by omega, by omega⟩ (by first | rfl | (simp; done)) (by simp [dropK]) ?_
  rintro m1 k j2 ⟨hy1, hy2⟩
  refine n2 ?_;refine AO.c ?_;refine n1 <|AW.seq' ?_;refine AW.iteB (GL.ev _) (fun h1 => ?_) (fun h1 => ?_)
  ·
   rw [decide_eq_true_eq] at h1;have hk : k < (l.getD i default).groups.length := by omega
   have hsy := hw.sym i k hi hk;have hmm := hw.mem i k hi hk;have hdk := dropK_len l i k;have hgb := gBef_bd hw (k := k) hi;have hct := seenM_get (gBef l i k) (gNk l i k);have hcl : cntB (gBef l i k) (gNk l i k) ≤ (gBef l i k).length := List.countP_le_length;have hb : decide ((aget (seenM (gBef l i k)) (gNk l i k)).getD 0 > 0) = ahB l i k := by rw [hct]; unfold ahB; rw [Bool.eq_iff_iff]; simp
   refine nc ?_;refine AO.oo ?_;refine AO.c ?_;refine AO.ww ?_;refine AO.sst ?_;refine n3 ?_;iterate 4 refine AO.c ?_
   refine AO.o (by omega) ?_;iterate 3 refine AO.c ?_
   refine n4 ?_;iterate 4 refine AO.c ?_
   refine nb ?_
   refine AW.loopU [.f, .f, .f, .k, .k, .f, .k, .k, .f, .f, .k, .f, .f, .f, .k, .k, .k, .F, .k, .k, .k, .F, .f, .f, .f, .k, .k, .k, .F, .F, .f, .f, .f, .f, .f, .f, .f] (fun (q : Nat) => [(41, .v (.int .i64 (q)))]) (fun q => Hn n0 ((([some (.map ((seenM (gBef l i k)).map (mE kS vI))), some (.row 98 1 (ep) ((dropF l i).map drA))] ++ List.replicate j none ++ [some (.box 52 (objA (l.getD i default))), some (.row 4 1 0 ((memSet (ahB l i k) (dropK l i k) (((l.getD i default).groups.getD k default).mem.take q)).map bA))]) ++ List.replicate j2 none) ++ [some (.box 93 (grpA ((l.getD i default).groups.getD k default)))])) (fun m q => q ≤ ((l.getD i default).groups.getD k default).mem.length ∧ m = ((l.getD i default).groups.getD k default).mem.length - q) (((l.getD i default).groups.getD k default).mem.length) (0) ⟨by omega, by omega⟩ (by first | rfl | (simp; done)) (by simp [memSet]) ?_
   rintro m2 q ⟨hz1, hz2⟩
   refine n2 ?_;refine AO.c ?_;refine n1 <|AW.seq' ?_;refine AW.iteB (GL.ev _) (fun h2 => ?_) (fun h2 => ?_)
   ·
    rw [decide_eq_true_eq] at h2;have hq : q < ((l.getD i default).groups.getD k default).mem.length := by omega
    have hn := hmm.2 q hq;have hml := memSet_len (ahB l i k) (((l.getD i default).groups.getD k default).mem.take q) (dropK l i k);refine nc ?_;refine AO.oo ?_;iterate 2 refine AO.c ?_
    refine n1 <|AW.region ?_;iterate 2 refine AO.c ?_
    refine AO.oo ?_;iterate 4 refine AO.c ?_
    refine AO.eq 51 (av' := .v (.bool (ahB l i k))) (by rw [← hb]; rfl) ?_;refine AO.o (by omega) ?_;refine AO.sst ?_;refine n7 ?_;refine AO.oo ?_;refine AO.c ?_;refine AO.nil ?_
    exact AW.backU [.f, .f, .f, .k, .k, .f, .k, .k, .f, .f, .k, .f, .f, .f, .k, .k, .k, .F, .k, .k, .k, .F, .f, .f, .f, .k, .k, .k, .F, .F, .f, .f, .f, .f, .f, .f, .f] (m2 - 1) (q + 1) (by omega) (by (try dsimp only); exact ⟨by omega, by omega⟩) (by first | rfl | (simp; done)) (by (try dsimp only); rw [memSet_snoc _ _ hq, Nat.zero_add])
   ·
    rw [decide_eq_false_iff_not] at h2;have hq : q = ((l.getD i default).groups.getD k default).mem.length := by omega
    subst hq;rw [List.take_length];refine AW.exit <|SQ.exit <|AW.out <|LU.exit <|BQ.exit <|SQ.normal <|AW.region ?_;iterate 3 refine AO.c ?_
    refine AO.o (by have := hct; unfold gNk at this hcl; omega) ?_;refine AO.sst ?_;refine n7 ?_;refine AO.oo ?_;refine AO.c ?_;refine AO.nil ?_
    exact AW.backE [.f, .f, .f, .k, .k, .f, .k, .k, .f, .f, .f, .f, .f, .f, .k, .k, .k, .F, .k, .k, .k, .F, .F, .F, .F, .f, .f, .f, .f, .f] (j2) (m1 - 1) (k + 1, j2 + 1) (by omega) (by (try dsimp only); exact ⟨by omega, by omega⟩) (by first | rfl | (simp; done)) (by first | ((try dsimp only); rw [gBef_succ hk, seenM_snoc]; done) | ((try dsimp only); rw [gBef_succ hk, seenM_snoc]; rfl))
  ·
   rw [decide_eq_false_iff_not] at h1;have hk : k = (l.getD i default).groups.length := by omega
   subst hk;refine AW.exit <|SQ.exit <|AW.out <|LU.exit <|BQ.exit <|SQ.normal ?_;have hdl := dropK_len l i (l.getD i default).groups.length;refine AW.ghost (Gh.freezeM 7 bA (dropR l i) (by rfl) (by show (dropK l i _).length = _; omega) (by show (dropK l i _).length ≤ _; omega)) ?_;refine AW.region ?_;iterate 2 refine AO.c ?_
   refine AO.rr ?_;refine AO.ww ?_;refine AO.c ?_;refine n7 ?_;refine AO.oo ?_;refine AO.c ?_;refine AO.nil ?_
   exact AW.backE [.f, .f, .f, .k, .k, .F, .f, .k, .k, .k, .F, .F, .F, .F, .F, .F] (j) (m0 - 1) (i + 1, j + (2 + j2), ep + 1) (by omega) (by (try dsimp only); exact ⟨by omega, by omega⟩) (by (try dsimp only); rw [dropF_succ]; simp) ((Hn_repJ (b := j + (2 + j2)) (by first | (simp; done) | (simp; omega))).trans (by (try dsimp only); rw [gBef_next hi, dropF_succ, List.map_append]; rfl))
 ·
  rw [decide_eq_false_iff_not] at h0;have hi : i = l.length := by omega
  subst hi;refine AW.exit <|SQ.exit <|AW.out <|LU.exit <|BQ.exit <|SQ.normal <|AW.seq' ?_;refine AW.ghost (Gh.freezeM 3 drA (dropF l l.length) rfl (by rw [dropF_len]) (by rw [dropF_len]; omega)) ?_;refine AW.region ?_;iterate 2 refine AO.c ?_
  refine na ?_;refine Fin.ret (Gh.refl) noid1 ?_
  first | rfl | (simp [packA]; done)
def bindD (l : List ObjD) (d : DefD) : Int := ((l.getD d.obj.toNat default).syms.getD d.sym.toNat default).bind
def DefIn (l : List ObjD) (d : DefD) : Prop := 0 ≤ d.obj ∧ d.obj < l.length ∧ 0 ≤ d.sym ∧ d.sym < (l.getD d.obj.toNat default).syms.length
def insD (L : List DefD) (i : Nat) (d : DefD) : List DefD := L.take i ++ [d] ++ L.drop i
def addF (l : List ObjD) (L : List DefD) (d : DefD) : List DefD :=
 if findB L d.name = true then (if bindD l (L.getD (lowF L d.name) default) = 2 ∧ bindD l d = 1 then L.set (lowF L d.name) d else L) else insD L (lowF L d.name) d
def addB (l : List ObjD) (L : List DefD) (d : DefD) : Bool := findB L d.name && decide (bindD l (L.getD (lowF L d.name) default) = 1) && decide (bindD l d = 1)
def addE (L : List DefD) (d : DefD) (ep : Nat) : Nat := if findB L d.name = true then ep else ep + 1
theorem low_le (L : List DefD) (nm : ByteArray) : lowF L nm ≤ L.length := List.countP_le_length
theorem ins_map (L : List DefD) (i : Nat) (d : DefD) : (L.map defA).take i ++ [defA d] ++ (L.map defA).drop i = (insD L i d).map defA := by
 unfold insD; simp
theorem def_at {L : List DefD} {i : Nat} (h : i < L.length) : (L.map defA)[i]? = some (defA (L.getD i default)) := by
 rw [List.getElem?_map, List.getElem?_eq_getElem h, List.getD_eq_getElem?_getD, List.getElem?_eq_getElem h]; rfl
theorem set_def {L : List DefD} {i : Nat} {d : DefD} (h : i < L.length) : (L.map defA).set i (layAt ((L.map defA).getD i []) 0 (defA d)) = (L.set i d).map defA := by
 have e : (L.map defA).getD i [] = defA (L.getD i default) := by rw [List.getD_eq_getElem?_getD, def_at h]; rfl
 rw [e, List.map_set];rfl
theorem ins_H {n k kv ep epv i m : Nat} {H L2 : List (Option AB)} {rows : List (List AV)} {row : List AV} [gb : GB H k (.row 100 3 ep rows)] [gv : GB H kv (.row 100 3 epv [row])] (hne : k ≠ kv) (hm : rows.length = m) (hi : i ≤ m) (hn : m ≤ 1000000) [sb : SB H k (some (.row 100 3 (ep + 1) (rows.take i ++ [row] ++ rows.drop i))) L2] : AC Tryz.prog 47 (Hn n H) [.own (n + k) ep 0 m, .v (.int .i64 i), .own (n + kv) epv 0 1] (fun r H' => r = .own (n + k) (ep + 1) 0 (m + 1) ∧ H' = Hn n L2) := by
 subst hm;have h := ins_AC (Hn n H) (n + k) (n + kv) ep epv i rows row (by rw [Hn_get]; exact gb.h) (by rw [Hn_get]; exact gv.h) (by omega) hi hn;rw [Hn_set, sb.h] at h;exact h
theorem insD_len {L : List DefD} {i : Nat} (h : i ≤ L.length) (d : DefD) : (insD L i d).length = L.length + 1 := by
 unfold insD; simp; omega
set_option maxHeartbeats 4000000 in
theorem names_add (n : Nat) (z0 : Option AB) (drs : List (List AV)) (l : List ObjD) (L : List DefD) (ep : Nat) (d : DefD) (X : List (Option AB)) {lx : Nat} [le : LEN X lx] (hs : Srt L) (hn : L.length ≤ 999999) (hl : l.length ≤ 1000000) (hL : ∀ k, k < L.length → DefIn l (L.getD k default)) (hd : DefIn l d) : AC Tryz.prog 28 (Hn n ([z0, some (.box 63 [.rd 1 drs, .own (n + 2) (ep) 0 (L).length]), some (.row 100 3 (ep) ((L).map defA))] ++ X)) [.box (n + 1) 0, .rd 5 (l.map objA), .agg (defA d)] (fun r H' => r = .v (.bool (addB l L d)) ∧ H' = Hn n (([z0, some (.box 63 [.rd 1 drs, .own (n + 2) (addE L d ep) 0 (addF l L d).length]), some (.row 100 3 (addE L d ep) ((addF l L d).map defA))] ++ X) ++ [none, none])) := by
 have hsr : A0 Tryz.prog 45 [.rd 3 (L.map defA), .v (.string d.name), .v (.func (.func 46) #[] #[])] (fun r => r = .tup [.v (.int .i64 (lowF L d.name : Int)), .v (.bool (findB L d.name))]) := A0.fn0 (pre := [.rd 3 (L.map defA), .v (.string d.name)]) (names_search L d.name (by omega) hs);have hlo := low_le L d.name;unfold DefIn at hd;refine AC.body 83 Tryz.func28 rfl rfl Tryz.ntmps28 fun base => ?_
 refine n2 ?_;refine AO.ww ?_;refine AO.c ?_;refine n1 <|AW.seq' ?_;refine AW.drawsZ [] (.one 0 false (.one 1 false (.one 2 false (.one 3 false (.one 4 false (.one 5 false (.one 6 true (.one 7 false (.one 8 false (.one 9 false (.one 10 false (.one 11 false .nil)))))))))))) (by kernel_rfl) rfl (by kernel_rfl) ?_;iterate 6 refine AZ.c rfl ?_
 refine AZ.callO 2 [.rd 3 (L.map defA), .v (.string d.name), .v (.func (.func 46) #[] #[])] rfl Tryz.func45 rfl rfl (by exact ⟨showOwn (by simp) rfl, .inl rfl, .inl rfl, trivial⟩) (by rw [List.length_map]; omega) hsr ?_;iterate 5 refine AZ.c rfl ?_
 refine AZ.done ?_;refine SQ.normal <|n8 ?_;iterate 2 refine AO.c ?_
 refine n1 ?_;refine AW.iteB (GL.ev _) (fun h0 => ?_) (fun h0 => ?_)
 ·
  rw [Bool.not_eq_true'] at h0;have e1 : addF l L d = insD L (lowF L d.name) d := by unfold addF; rw [if_neg (by rw [h0]; decide)]
  have e2 : addB l L d = false := by unfold addB; rw [h0]; rfl
  have e3 : addE L d ep = ep + 1 := by unfold addE; rw [if_neg (by rw [h0]; decide)]
  have e4 := insD_len hlo d;refine AW.seq' ?_;refine AW.drawsZ [8, 11] (.one 1 false (.one 2 false (.one 3 false (.one 4 false (.one 5 false (.one 6 false (.pur 0 (.one 7 true (.one 8 true (.one 9 false (.one 10 false (.one 11 true .nil)))))))))))) (by kernel_rfl) rfl (by kernel_rfl) ?_;iterate 6 refine AZ.c rfl ?_
  refine AZ.p rfl ?_;refine AZ.mkk rfl ?_;refine AZ.callL rfl rfl Tryz.func47 rfl rfl (ins_H (k := 2) (kv := zadd (0 + 1 + 1 + 1) (zadd lx (0 + 1))) (ep := ep) (epv := 0) (rows := L.map defA) (row := defA d) (i := (lowF L d.name)) (by simp only [zadd]; omega) (by rw [List.length_map]) hlo (by omega)) ?_;iterate 2 refine AZ.c rfl ?_
  refine AZ.sst rfl rfl ?_;refine AZ.done ?_;refine SQ.normal <|n2 ?_;refine AO.c ?_;refine na <|SQ.ret ?_;exact FinC.ret Gh.dropX ⟨by rw [e2]; rfl, by rw [e1, e3, e4, ← ins_map]; rfl⟩ (.inr rfl)
 ·
  rw [Bool.not_eq_false'] at h0;have hlt : lowF L d.name < L.length := by unfold findB at h0; simp only [Bool.and_eq_true, decide_eq_true_eq] at h0; exact h0.1
  have hh := hL _ hlt;unfold DefIn at hh;have e3 : addE L d ep = ep := by unfold addE; rw [if_pos h0]
  refine n6 ?_;iterate 5 refine AO.c ?_
  refine AO.oo ?_;refine AO.ldRN (defA (L.getD (lowF L d.name) default)) (defA (L.getD (lowF L d.name) default)) (by first | (rw [Nat.zero_add]; exact def_at hlt) | (rw [show 0 + (((lowF L d.name) : Int)).toNat = (lowF L d.name) by omega]; exact def_at hlt)) (by exact (by decide : 0 < 3)) (by exact (by decide : 0 + 3 ≤ 3)) rfl ?_;refine AO.ww ?_;refine AO.sst ?_;refine n1 <|AW.seq' ?_
  refine AW.drawsZ [] (.one 0 false (.one 1 false (.one 2 false (.one 3 false (.one 4 false (.one 5 false (.one 6 false (.one 7 false (.one 8 false (.one 9 false (.one 10 false (.one 11 false (.one 12 false (.one 13 false (.one 14 false (.one 15 false (.one 16 false (.one 17 false (.one 18 false (.one 19 false (.one 20 false (.one 21 false (.one 22 false (.one 23 false .nil)))))))))))))))))))))))) (by kernel_rfl) rfl (by kernel_rfl) ?_
  iterate 3 refine AZ.c rfl ?_
  refine AZ.oo rfl ?_;iterate 4 refine AZ.c rfl ?_
  refine AZ.oo rfl ?_;iterate 5 refine AZ.c rfl ?_
  refine AZ.oo rfl ?_;iterate 4 refine AZ.c rfl ?_
  refine AZ.oo rfl ?_;iterate 4 refine AZ.c rfl ?_
  refine AZ.done ?_;refine SQ.normal <|n8 ?_;iterate 3 refine AO.c ?_
  iterate 2 refine AO.gx ?_
  refine AO.c ?_;refine n1 ?_;refine AW.iteB (GL.ev _) (fun h1 => ?_) (fun h1 => ?_)
  ·
   simp only [Bool.and_eq_true, decide_eq_true_eq] at h1;have e1 : addF l L d = L.set (lowF L d.name) d := by unfold addF; rw [if_pos h0, if_pos (show bindD l _ = 2 ∧ bindD l d = 1 from h1)]
   refine AW.drawsZ [7] (.one 0 false (.one 1 false (.one 2 false (.one 3 false (.one 4 false (.one 5 false (.one 6 false (.one 7 true .nil)))))))) (by kernel_rfl) rfl (by kernel_rfl) ?_;iterate 6 refine AZ.c rfl ?_
   refine AZ.o rfl (by omega) ?_;refine AZ.stR ((L.set (lowF L d.name) d).map defA) rfl rfl (by rw [List.length_map]; omega) ?_ ?_
   · first | (rw [Nat.zero_add]; exact set_def hlt) | (rw [show 0 + (((lowF L d.name) : Int)).toNat = (lowF L d.name) by omega]; exact set_def hlt)
   refine AZ.done ?_;refine SQ.normal <|n2 ?_;iterate 3 refine AO.c ?_
   iterate 2 refine AO.gx ?_
   iterate 2 refine AO.c ?_
   refine na ?_;exact FinC.ret Gh.dropX ⟨by unfold addB; rw [h0]; rfl, by rw [e1, e3, List.length_set]; rfl⟩ (.inr rfl)
  ·
   simp only [Bool.and_eq_false_iff, decide_eq_false_iff_not] at h1;have e1 : addF l L d = L := by
    unfold addF;rw [if_pos h0, if_neg];rintro ⟨c1, c2⟩
    rcases h1 with h1 | h1
    · exact h1 c1
    · exact h1 c2
   refine n6 ?_;iterate 3 refine AO.c ?_
   iterate 2 refine AO.gx ?_
   iterate 2 refine AO.c ?_
   refine na ?_;exact FinC.ret Gh.dropX ⟨by unfold addB; rw [h0]; rfl, by rw [e1, e3]; rfl⟩ (.inr rfl)
def stepD (l : List ObjD) (i k : Nat) (L : List DefD) : List DefD :=
 if defB ((l.getD i default).syms.getD k default) (dropR l i) = true then addF l L ⟨((l.getD i default).syms.getD k default).name, (i : Int), (k : Int)⟩ else L
def dKf (l : List ObjD) (i : Nat) (L : List DefD) : Nat → List DefD
 | 0 => L
 | k + 1 => stepD l i k (dKf l i L k)
def dI (l : List ObjD) : Nat → List DefD
 | 0 => []
 | i + 1 => dKf l i (dI l i) (l.getD i default).syms.length
def dupAt (l : List ObjD) (i k : Nat) : Bool := defB ((l.getD i default).syms.getD k default) (dropR l i) && addB l (dKf l i (dI l i) k) ⟨((l.getD i default).syms.getD k default).name, (i : Int), (k : Int)⟩
def undAt (l : List ObjD) (i k : Nat) : Bool := decide (((l.getD i default).syms.getD k default).bind = 1) && !defB ((l.getD i default).syms.getD k default) (dropR l i) && !findB (dI l l.length) ((l.getD i default).syms.getD k default).name
def AllMay (l : List ObjD) : Prop := l.length ≤ 8 ∧ ∀ o ∈ l, mayP o = true
def dupE (l : List ObjD) : Prop := ∃ i k, i < l.length ∧ k < (l.getD i default).syms.length ∧ dupAt l i k = true
def undE (l : List ObjD) : Prop := ∃ i k, i < l.length ∧ k < (l.getD i default).syms.length ∧ undAt l i k = true
structure LOk (l : List ObjD) : Prop where
 len : l.length ≤ 1000000
 ok : ∀ o ∈ l, o.ok ∧ o.groups.length ≤ 900000 ∧ o.sig.length ≤ 1000000
 gs : ∀ o ∈ l, GSmall o.groups
structure ResW (l : List ObjD) : Prop where
 g : GrpW l
 len : l.length ≤ 8
 sy : ∀ i, i < l.length → (l.getD i default).syms.length ≤ 128 ∧ (l.getD i default).secs.length ≤ 32
 sym : ∀ i k, i < l.length → k < (l.getD i default).syms.length → (0 ≤ ((l.getD i default).syms.getD k default).bind ∧ ((l.getD i default).syms.getD k default).bind ≤ 2) ∧ ((l.getD i default).syms.getD k default).sec ≤ (l.getD i default).secs.length ∧ -1 ≤ ((l.getD i default).syms.getD k default).sec
theorem bif_ff {c y : Bool} (h : (bif c then false else y) = true) : c = false ∧ y = true := by cases c; exact ⟨rfl, h⟩; cases h
theorem symbol_facts {o : ObjD} {k : Nat} (h : symbolB o (k : Int) = true) : (0 ≤ (o.syms.getD k default).bind ∧ (o.syms.getD k default).bind ≤ 2) ∧ (o.syms.getD k default).sec ≤ o.secs.length ∧ -1 ≤ (o.syms.getD k default).sec := by
 unfold symbolB at h;rw [Int.toNat_natCast] at h
 cases hc : decide ((k : Int) = 0)
 · rw [hc] at h
   obtain ⟨h1, h2⟩ := bif_ff h;obtain ⟨h3, _⟩ := bif_ff h2;simp only [Bool.or_eq_false_iff, decide_eq_false_iff_not] at h1 h3;omega
 · rw [hc] at h
   simp only [cond_true, Bool.and_eq_true, decide_eq_true_eq] at h;omega
theorem shape_parts {o : ObjD} (h : shapeB o = true) : (o.secs.length ≤ 32 ∧ 1 ≤ o.syms.length ∧ o.syms.length ≤ 128) ∧ (∀ g ∈ o.groups, grpB o g = true) ∧ (∀ k, k < o.secs.length → sectionB o ((k : Int) + 1) = true) ∧ ∀ k, k < o.syms.length → symbolB o (k : Int) = true := by
 unfold shapeB at h;simp only [Bool.and_eq_true, Bool.not_eq_true', Bool.or_eq_false_iff, decide_eq_false_iff_not, List.all_eq_true, List.mem_range] at h;obtain ⟨⟨⟨⟨h1, h2⟩, h3⟩, h4⟩, _⟩ := h;exact ⟨by omega, h2, h3, h4⟩
theorem inc_lenN : ∀ (l : List Int) (a N : Int), inc a l → (∀ x ∈ l, x ≤ N) → a ≤ N → (l.length : Int) ≤ N - a := by
 intro l
 induction l with
 | nil => intro a N _ _ h; simp; omega
 | cons x l ih =>
  intro a N h hN _;have h1 : a < x := h.1;have h2 := hN x (by simp);have h3 := ih x N h.2 (fun y hy => hN y (by simp [hy])) h2;rw [List.length_cons]; omega
theorem grp_mem {g : GrpD} {N : Nat} {Y : Int} (h : GrpOk N Y g) (hN : N ≤ 32) : g.mem.length ≤ 1000000 ∧ ∀ q, q < g.mem.length → 1 ≤ g.mem.getD q default ∧ g.mem.getD q default ≤ N := by
 obtain ⟨_, _, _, h1, h2⟩ := h;have h3 := inc_lenN g.mem 0 N h1 h2 (by omega);refine ⟨by omega, fun q hq => ?_⟩;have hm : g.mem.getD q default ∈ g.mem := getD_in hq;have h4 := inc_gt g.mem 0 h1 _ hm;have h5 := h2 _ hm;omega
theorem may_res {l : List ObjD} (hk : LOk l) (hm : AllMay l) : ResW l := by
 have hin : ∀ i, i < l.length → l.getD i default ∈ l := fun i hi => getD_in hi
 have hsh : ∀ i, i < l.length → shapeB (l.getD i default) = true := fun i hi => by
  have := hm.2 _ (hin i hi);unfold mayP at this;simp only [Bool.and_eq_true] at this;exact this.1
 have hgrp : ∀ i k, i < l.length → k < (l.getD i default).groups.length → grpB (l.getD i default) ((l.getD i default).groups.getD k default) = true := fun i k hi hk2 => (shape_parts (hsh i hi)).2.1 _ (getD_in hk2)
 refine ⟨⟨hk.len, fun i hi => ?_, fun i k hi hk2 => ?_, fun i k hi hk2 => ?_⟩, hm.1, fun i hi => ?_, fun i k hi hk2 => symbol_facts ((shape_parts (hsh i hi)).2.2.2 k hk2)⟩
 · have h1 := (shape_parts (hsh i hi)).1
   exact ⟨(hk.ok _ (hin i hi)).2.1, by omega, by omega⟩
 · have h1 := hgrp i k hi hk2
   unfold grpB at h1;simp only [Bool.and_eq_true, decide_eq_true_eq] at h1;omega
 · have h1 := hgrp i k hi hk2
   have h2 := (grpB_iff.1 h1);have h3 := (shape_parts (hsh i hi)).1;exact grp_mem h2 h3.1
 · have h1 := (shape_parts (hsh i hi)).1
   omega
theorem dropF_get {l : List ObjD} {n i : Nat} (h : i < n) : (dropF l n).getD i default = dropR l i := by
 unfold dropF; simp [List.getD_eq_getElem?_getD, h]
theorem dropR_len (l : List ObjD) (i : Nat) : (dropR l i).length = (l.getD i default).secs.length := dropK_len l i _
theorem insD_mem {L : List DefD} {i : Nat} {d x : DefD} : x ∈ insD L i d ↔ x = d ∨ x ∈ L := by
 unfold insD;rw [List.mem_append, List.mem_append, List.mem_singleton]
 constructor
 · rintro ((h | h) | h)
   · exact .inr (List.mem_of_mem_take h)
   · exact .inl h
   · exact .inr (List.mem_of_mem_drop h)
 · rintro (h | h)
   · exact .inl (.inr h)
   · rw [← List.take_append_drop i L, List.mem_append] at h
     rcases h with h | h
     · exact .inl (.inl h)
     · exact .inr h
theorem addF_mem {l : List ObjD} {L : List DefD} {d x : DefD} (h : x ∈ addF l L d) : x = d ∨ x ∈ L := by
 unfold addF at h
 split at h
 · split at h
   · rcases List.mem_or_eq_of_mem_set h with h | h
     · exact .inr h
     · exact .inl h
   · exact .inr h
 · exact insD_mem.1 h
theorem addF_len {l : List ObjD} {L : List DefD} {d : DefD} : (addF l L d).length ≤ L.length + 1 := by
 unfold addF
 split
 · split
   · rw [List.length_set]; omega
   · omega
 · rw [insD_len (low_le L d.name)]; exact Nat.le_refl _
theorem dKf_len (l : List ObjD) (i : Nat) (L : List DefD) : ∀ k, (dKf l i L k).length ≤ L.length + k := by
 intro k
 induction k with
 | zero => exact Nat.le_refl _
 | succ k ih =>
  rw [dKf, stepD]
  split
  · have := addF_len (l := l) (L := dKf l i L k) (d := ⟨((l.getD i default).syms.getD k default).name, (i : Int), (k : Int)⟩)
    omega
  · omega
theorem dI_len {l : List ObjD} (hw : ResW l) : ∀ i, i ≤ l.length → (dI l i).length ≤ 128 * i := by
 intro i
 induction i with
 | zero => intro _; exact Nat.le_refl _
 | succ i ih =>
  intro hi;have h1 := dKf_len l i (dI l i) (l.getD i default).syms.length;have h2 := (hw.sy i (by omega)).1;have h3 := ih (by omega);rw [dI]; omega
theorem dKf_in {l : List ObjD} {i : Nat} (hi : i < l.length) {L : List DefD} (hL : ∀ d ∈ L, DefIn l d) : ∀ k, k ≤ (l.getD i default).syms.length → ∀ d ∈ dKf l i L k, DefIn l d := by
 intro k
 induction k with
 | zero => intro _ d hd; exact hL d hd
 | succ k ih =>
  intro hk d hd;rw [dKf, stepD] at hd
  split at hd
  · rcases addF_mem hd with rfl | hd
    · refine ⟨by show (0 : Int) ≤ i; omega, by show (i : Int) < l.length; omega, by show (0 : Int) ≤ k; omega, ?_⟩
      show (k : Int) < ((l.getD ((i : Int)).toNat default).syms.length : Int)
      rw [Int.toNat_natCast]; omega
    · exact ih (by omega) d hd
  · exact ih (by omega) d hd
theorem dI_in {l : List ObjD} : ∀ i, i ≤ l.length → ∀ d ∈ dI l i, DefIn l d := by
 intro i
 induction i with
 | zero => intro _ d hd; cases hd
 | succ i ih => intro hi; exact dKf_in (by omega) (ih (by omega)) _ (Nat.le_refl _)
def RL (a b : DefD) : Prop := sLt a.name b.name = true
theorem srt_pw {L : List DefD} : Srt L ↔ L.Pairwise RL := by
 rw [List.pairwise_iff_getElem]
 constructor
 · intro h i j hi hj hij
   have := h i j hij hj;rw [List.getD_eq_getElem?_getD, List.getD_eq_getElem?_getD, List.getElem?_eq_getElem hi, List.getElem?_eq_getElem hj] at this;exact this
 · intro h i j hij hj
   have := h i j (by omega) hj hij;rw [List.getD_eq_getElem?_getD, List.getD_eq_getElem?_getD, List.getElem?_eq_getElem (show i < L.length by omega), List.getElem?_eq_getElem hj];exact this
theorem low_spec {L : List DefD} (hs : Srt L) (nm : ByteArray) : (∀ k, k < lowF L nm → sLt (L.getD k default).name nm = true) ∧ ∀ k, lowF L nm ≤ k → k < L.length → sLt (L.getD k default).name nm = false := by
 have key : ∀ n, n ≤ L.length → ∃ i, i ≤ n ∧ (∀ k, k < i → sLt (L.getD k default).name nm = true) ∧ ∀ k, i ≤ k → k < n → sLt (L.getD k default).name nm = false := by
  intro n
  induction n with
  | zero => intro _; exact ⟨0, Nat.le_refl _, fun k h => by omega, fun k h1 h2 => by omega⟩
  | succ n ih =>
   intro hn;obtain ⟨i, h1, h2, h3⟩ := ih (by omega)
   cases hp : sLt (L.getD n default).name nm with
   | true =>
    refine ⟨n + 1, Nat.le_refl _, fun k hk => ?_, fun k h4 h5 => by omega⟩;by_cases e : k = n
    · rw [e]; exact hp
    · exact sLt_trans (hs k n (by omega) (by omega)) hp
   | false =>
    refine ⟨i, by omega, h2, fun k h4 h5 => ?_⟩;by_cases e : k = n
    · rw [e]; exact hp
    · exact h3 k h4 (by omega)
 obtain ⟨i, h1, h2, h3⟩ := key L.length (Nat.le_refl _);rw [low_eq h1 h2 h3];exact ⟨h2, h3⟩
theorem cmp_zero {a b : ByteArray} (h : cmpS a b = 0) : a = b := by
 unfold cmpS at h
 cases h1 : sLt a b with
 | true => rw [h1] at h; simp at h
 | false =>
  cases h2 : sLt b a with
  | true => rw [h1, h2] at h; simp at h
  | false => exact ba_eq.1 (sLt_tri h1 h2)
theorem find_yes {L : List DefD} {nm : ByteArray} (h : findB L nm = true) : lowF L nm < L.length ∧ (L.getD (lowF L nm) default).name = nm := by
 unfold findB at h;simp only [Bool.and_eq_true, decide_eq_true_eq] at h;exact ⟨h.1, cmp_zero h.2⟩
theorem find_no {L : List DefD} {nm : ByteArray} (hs : Srt L) (h : findB L nm = false) : ∀ k, lowF L nm ≤ k → k < L.length → sLt nm (L.getD k default).name = true := by
 intro k hk hkl;have h1 := (low_spec hs nm).2;have h0 : sLt nm (L.getD (lowF L nm) default).name = true := by
  cases hc : sLt nm (L.getD (lowF L nm) default).name with
  | true => rfl
  | false =>
   exfalso
   have h2 := h1 (lowF L nm) (Nat.le_refl _) (by omega);have : findB L nm = true := by
    unfold findB;rw [decide_eq_true (show lowF L nm < L.length by omega)];unfold cmpS;rw [h2, hc]; rfl
   rw [this] at h; cases h
 by_cases e : k = lowF L nm
 · rw [e]; exact h0
 · exact sLt_trans h0 (hs (lowF L nm) k (by omega) hkl)
theorem srt_ins {L : List DefD} {d : DefD} (hs : Srt L) (h : findB L d.name = false) : Srt (insD L (lowF L d.name) d) := by
 have hp := srt_pw.1 hs;have hlo := low_le L d.name;have h1 := (low_spec hs d.name).1;have h2 := find_no hs h;rw [srt_pw];unfold insD;have ht : ∀ a ∈ L.take (lowF L d.name), RL a d := fun a ha => by
  obtain ⟨k, hk, rfl⟩ := List.getElem_of_mem ha;rw [List.length_take] at hk;have := h1 k (by omega);rw [List.getD_eq_getElem?_getD, List.getElem?_eq_getElem (show k < L.length by omega)] at this;rw [List.getElem_take];exact this
 have hd : ∀ b ∈ L.drop (lowF L d.name), RL d b := fun b hb => by
  obtain ⟨k, hk, rfl⟩ := List.getElem_of_mem hb;rw [List.length_drop] at hk;have := h2 (lowF L d.name + k) (by omega) (by omega);rw [List.getD_eq_getElem?_getD, List.getElem?_eq_getElem (show lowF L d.name + k < L.length by omega)] at this;rw [List.getElem_drop];exact this
 have hp2 := hp;rw [← List.take_append_drop (lowF L d.name) L, List.pairwise_append] at hp2;rw [List.pairwise_append, List.pairwise_append];refine ⟨⟨hp2.1, List.pairwise_singleton _ _, fun a ha b hb => ?_⟩, hp2.2.1, fun a ha b hb => ?_⟩
 · obtain rfl := List.mem_singleton.1 hb
   exact ht a ha
 · rcases List.mem_append.1 ha with ha | ha
   · exact hp2.2.2 a ha b hb
   · obtain rfl := List.mem_singleton.1 ha
     exact hd b hb
theorem srt_set {L : List DefD} {d : DefD} (hs : Srt L) (h : findB L d.name = true) : Srt (L.set (lowF L d.name) d) := by
 obtain ⟨hl, hn⟩ := find_yes h;have key : ∀ k, k < L.length → ((L.set (lowF L d.name) d).getD k default).name = (L.getD k default).name := fun k hk => by
  by_cases e : lowF L d.name = k
  · rw [← e, List.getD_eq_getElem?_getD, List.getElem?_set_self hl]
    exact hn.symm
  · rw [List.getD_eq_getElem?_getD, List.getElem?_set_ne e, ← List.getD_eq_getElem?_getD]
 intro i j hij hj;rw [List.length_set] at hj;rw [key i (by omega), key j hj];exact hs i j hij hj
theorem addF_srt {l : List ObjD} {L : List DefD} {d : DefD} (hs : Srt L) : Srt (addF l L d) := by
 unfold addF
 split
 · rename_i h
   split
   · exact srt_set hs h
   · exact hs
 · rename_i h
   exact srt_ins hs (by simpa using h)
theorem dKf_srt {l : List ObjD} {i : Nat} {L : List DefD} (hs : Srt L) : ∀ k, Srt (dKf l i L k) := by
 intro k
 induction k with
 | zero => exact hs
 | succ k ih =>
  rw [dKf, stepD]
  split
  · exact addF_srt ih
  · exact ih
theorem dI_srt (l : List ObjD) : ∀ i, Srt (dI l i) := by
 intro i
 induction i with
 | zero => intro i j _ h; exact absurd h (by simp [dI])
 | succ i ih => exact dKf_srt ih _
theorem objs_IndexFunc (l : List ObjD) (f : FuncId) (cs : List AV) (q : ObjD → Bool) (fn : Func) (hl : l.length ≤ 9223372036854775807) (hgc : ∀ n, ∀ av ∈ cs, Gen n av) (hf : Tryz.prog.funcs[f]? = some fn) (hname : (fn.name == "runtime.NumGoroutine") = false) (hb : fn.body.isSome = true) (h : ∀ x ∈ l, A0 Tryz.prog f (.agg (objA x) :: cs) (fun r => r = .v (.bool (q x)))) : A0 Tryz.prog 44 [.rd 5 (l.map objA), .fn f cs] (fun ret => ret = .v (.int .i64 (idxF q l))) := by
 refine A0.body 19 Tryz.func44 rfl rfl Tryz.ntmps44 fun base n0 => ?_
 refine go ?_;refine AW.loopU [.k, .k, .f, .f, .f, .f, .f, .k, .k, .F, .f, .f] (fun (i : Nat) => [(8, .v (.int .i64 (i)))]) (fun i => Hn n0 []) (fun m i => i ≤ l.length ∧ m = l.length - i ∧ ∀ j, j < i → q (l.getD j default) = false) (l.length) (0) ⟨by omega, rfl, fun j h => by omega⟩ cr cr ?_;rintro m0 i ⟨hx1, hx2, hx3⟩
 refine go ?_;refine AW.iteB (GL.ev _) (fun h0 => ?_) (fun h0 => ?_)
 ·
  rw [decide_eq_true_eq] at h0;have hi : i < l.length := by omega
  refine go ?_;refine AO.callF (args' := .agg (objA (l.getD i default)) :: cs) hgc hf hname hb (h _ (getD_in hi)) rfl ?_;refine go ?_;refine AW.iteB (GL.ev _) (fun h1 => ?_) (fun h1 => ?_)
  ·
   refine go ?_;refine AW.ret <|BQ.ret <|SQ.ret <|AW.out <|LU.ret <|BQ.ret <|SQ.ret ?_;refine Fin.ret (Gh.refl) noid1 ?_;rw [idxF_at hi hx3 h1]; rfl
  ·
   refine AW.skip <|BQ.normal ?_;refine go ?_;exact AW.backU [.k, .k, .f, .f, .f, .f, .f, .k, .k, .F, .f, .f] (m0 - 1) (i + 1) (by omega) (by (try dsimp only); exact ⟨by omega, by omega, fun j hj => (Nat.lt_or_eq_of_le (Nat.le_of_lt_succ hj)).elim (hx3 j) (fun h => by rw [h]; exact h1)⟩) cr cr
 ·
  rw [decide_eq_false_iff_not] at h0;refine AW.exit <|SQ.exit <|AW.out <|LU.exit <|BQ.exit ?_;refine go ?_;refine AW.ret ?_;refine Fin.ret (Gh.refl) noid1 ?_;rw [idxF_none (fun j hj => hx3 j (by omega))]; rfl
theorem objs_ContainsFunc (l : List ObjD) (f : FuncId) (cs : List AV) (q : ObjD → Bool) (fn : Func) (hl : l.length ≤ 9223372036854775807) (hgc : ∀ n, ∀ av ∈ cs, Gen n av) (hf : Tryz.prog.funcs[f]? = some fn) (hname : (fn.name == "runtime.NumGoroutine") = false) (hb : fn.body.isSome = true) (h : ∀ x ∈ l, A0 Tryz.prog f (.agg (objA x) :: cs) (fun r => r = .v (.bool (q x)))) : A0 Tryz.prog 25 [.rd 5 (l.map objA), .fn f cs] (fun ret => ret = .v (.bool (l.any q))) := by
 haveI hga : ∀ n, GA n cs := fun n => ⟨hgc n⟩
 have hidx := objs_IndexFunc l f cs q fn hl hgc hf hname hb h;refine A0.body 9 Tryz.func25 rfl rfl Tryz.ntmps25 fun base n0 => ?_
 refine go ?_;refine AO.call1 Tryz.func44 rfl rfl (hidx) ?_;refine go ?_;refine AW.ret ?_;refine Fin.ret (Gh.refl) noid1 ?_;rw [← idxF_ge]; rfl
theorem names_odd (o : ObjD) (ho : o.ok) (hg : o.groups.length ≤ 900000) (hsg : o.sig.length ≤ 1000000) : A0 Tryz.prog 23 [.agg (objA o)] (fun ret => ret = .v (.bool (!mayP o))) := by
 refine A0.body 6 Tryz.func23 rfl rfl Tryz.ntmps23 fun base n0 => ?_
 refine go ?_;refine AO.call1 Tryz.func24 rfl rfl (obj_May o ho hg hsg) ?_;refine go ?_;refine AW.ret ?_;refine Fin.ret (Gh.refl) noid1 ?_
 first | rfl | (simp [packA]; done)
set_option maxHeartbeats 8000000 in
theorem names_Resolve (l : List ObjD) (hk : LOk l) : A0 Tryz.prog 12 [.rd 5 (l.map objA)] (fun ret => (¬ AllMay l ∧ ret = .tup [.agg (tabA ⟨[], []⟩), .v (ifV 53 1)]) ∨ (AllMay l ∧ dupE l ∧ ret = .tup [.agg (tabA ⟨[], []⟩), .v (ifV 53 3)]) ∨ (AllMay l ∧ ¬ dupE l ∧ undE l ∧ ret = .tup [.agg (tabA ⟨[], []⟩), .v (ifV 53 4)]) ∨ (AllMay l ∧ ¬ dupE l ∧ ¬ undE l ∧ ret = .tup [.agg (tabA ⟨dropF l l.length, dI l l.length⟩), .v (ifV 53 0)])) := by
 have hcf : A0 Tryz.prog 25 [.rd 5 (l.map objA), .v (.func (.func 23) #[] #[])] (fun r => r = .v (.bool (l.any fun o => !mayP o))) := A0.fn0 (pre := [.rd 5 (l.map objA)]) (objs_ContainsFunc l 23 [] (fun o => !mayP o) _ (Nat.le_trans hk.len (by decide)) (fun _ _ h => by cases h) Tryz.func23 rfl rfl fun o ho => names_odd o (hk.ok o ho).1 (hk.ok o ho).2.1 (hk.ok o ho).2.2);have hlen := hk.len
 refine A0.body 107 Tryz.func12 rfl rfl Tryz.ntmps12 fun base n0 => ?_
 refine n2 ?_;refine AO.ww ?_;refine AO.c ?_;refine n3 ?_;refine AO.c ?_;refine n4 ?_;iterate 4 refine AO.c ?_
 iterate 2 refine AO.gx ?_
 refine AO.gxcall1 Tryz.func25 rfl rfl (fun hgd => hcf) ?_;refine AO.c ?_;refine n1 ?_;refine AW.iteB (GL.ev _) (fun h0 => ?_) (fun h0 => ?_)
 ·
  have hno : ¬ AllMay l := fun h => by
   simp only [Bool.or_eq_true, decide_eq_true_eq, List.any_eq_true] at h0;rcases h0 with h0 | ⟨o, ho, h0⟩
   · have := h.1; omega
   · rw [h.2 o ho] at h0; cases h0
  refine n2 ?_;iterate 2 refine AO.c ?_
  refine AO.sst ?_;refine AO.c ?_;refine na <|SQ.ret ?_;refine Fin.ret (Gh.tellC 0 [.rd 1 (([] : List (List Bool)).map drA), .rd 3 (([] : List DefD).map defA)]) noid2 ?_;exact .inl ⟨hno, rfl⟩
 ·
  have hmay : AllMay l := by
   simp only [Bool.or_eq_false_iff, decide_eq_false_iff_not, List.any_eq_false] at h0;exact ⟨by omega, fun o ho => by have := h0.2 o ho; simpa using this⟩
  have hw := may_res hk hmay;have hl8 := hw.len;have hfl0 := dI_len hw l.length (Nat.le_refl _);have hfl : (dI l l.length).length ≤ 1000000 := by omega
  refine n6 ?_;refine AO.c ?_;refine AO.call1 Tryz.func26 rfl rfl (names_drop l hw.g) ?_;refine AO.c ?_;refine AO.ww ?_;refine AO.sst ?_;refine n1 <|AW.seq' <|AW.seq' ?_;refine AW.ghost (Gh.adoptC 1 1 100 3 rfl) ?_;refine AW.region ?_;iterate 3 refine AO.c ?_
  refine nb ?_
  refine AW.loopU3 [.k, .f, .k, .f, .f, .k, .F, .F, .f, .f, .f, .f, .f, .f, .f, .k, .k, .k, .F, .F, .F, .F, .F, .F, .F, .F, .F, .f, .f, .f] (fun (i j ep : Nat) => [(31, .v (.int .i64 (i)))]) (fun i j ep => Hn n0 (([some (.box 63 [.v (.slice none 0 0), .v (.slice none 0 0)]), some (.box 63 [.rd 1 ((dropF l l.length).map drA), .own (n0 + 2) (ep) 0 (dI l i).length]), some (.row 100 3 (ep) ((dI l i).map defA))] ++ List.replicate j none) ++ [])) (fun m i j ep => (i ≤ l.length ∧ m = l.length - i) ∧ ∀ a k, a < i → k < (l.getD a default).syms.length → dupAt l a k = false) (l.length) (0) (0) (0) ⟨by omega, fun a k h => by omega⟩ (by first | rfl | (simp; done)) (by simp [dI]) ?_
  rintro m0 i j ep ⟨hx1, hx2⟩
  refine n2 ?_;refine AO.c ?_;refine n1 <|AW.seq' ?_;refine AW.iteB (GL.ev _) (fun h1 => ?_) (fun h1 => ?_)
  ·
   rw [decide_eq_true_eq] at h1;have hi : i < l.length := by omega
   have hrl := dropR_len l i;have hsy := hw.sy i hi;have hil := dI_len hw i (by omega);refine nc ?_;refine AO.c ?_;refine AO.oo ?_;refine AO.c ?_;refine AO.ww ?_;refine AO.c ?_;refine AO.sst ?_;refine n3 ?_;iterate 4 refine AO.c ?_
   refine nb ?_
   refine AW.loopU3 [.k, .f, .k, .f, .f, .k, .k, .F, .F, .f, .f, .f, .f, .f, .f, .k, .k, .k, .f, .f, .f, .f, .f, .k, .k, .k, .F, .F, .F, .F, .F, .F, .F, .F, .f, .f, .f] (fun (k j2 e2 : Nat) => [(39, .v (.int .i64 (k)))]) (fun k j2 e2 => Hn n0 ((([some (.box 63 [.v (.slice none 0 0), .v (.slice none 0 0)]), some (.box 63 [.rd 1 ((dropF l l.length).map drA), .own (n0 + 2) (e2) 0 ((dKf l i (dI l i) k)).length]), some (.row 100 3 (e2) (((dKf l i (dI l i) k)).map defA))] ++ List.replicate j none ++ [some (.box 52 (objA (l.getD i default)))]) ++ List.replicate j2 none) ++ [])) (fun m k j2 e2 => (k ≤ (l.getD i default).syms.length ∧ m = (l.getD i default).syms.length - k) ∧ ∀ q, q < k → dupAt l i q = false) ((l.getD i default).syms.length) (0) (0) (ep) ⟨by omega, fun q h => by omega⟩ (by first | rfl | (simp; done)) (by simp [dKf]) ?_
   rintro m1 k j2 e2 ⟨hy1, hy2⟩
   refine n2 ?_;refine AO.c ?_;refine n1 <|AW.seq' ?_;refine AW.iteB (GL.ev _) (fun h2 => ?_) (fun h2 => ?_)
   ·
    rw [decide_eq_true_eq] at h2;have hk2 : k < (l.getD i default).syms.length := by omega
    have hdl := dKf_len l i (dI l i) k;refine nc ?_;refine AO.c ?_;refine AO.oo ?_;refine AO.c ?_;refine AO.ww ?_;refine AO.c ?_;refine AO.sst ?_;refine n1 <|AW.seq' ?_
    cases hdb : defB ((l.getD i default).syms.getD k default) (dropR l i)
    ·
     have hst : dKf l i (dI l i) (k + 1) = (dKf l i (dI l i) k) := by rw [dKf, stepD, hdb]; rfl
     have hnd : dupAt l i k = false := by unfold dupAt; rw [hdb]; rfl
     refine AW.drawsZ [] (.one 0 false (.one 1 false (.one 2 false (.one 3 false (.one 4 false (.one 5 false (.one 6 true (.one 7 false (.one 8 false (.one 9 false (.one 10 false (.one 11 false (.one 12 false (.one 13 false (.one 14 true (.one 15 false .nil)))))))))))))))) (by kernel_rfl) rfl (by kernel_rfl) ?_;iterate 4 refine AZ.c rfl ?_
     refine AZ.o rfl (by rw [dropF_len]; omega) ?_;refine AZ.c rfl ?_;refine AZ.eq 49 (av' := .rd 1 ((dropR l i).map bA)) (by rw [dropF_get hi]) ?_;refine AZ.call1 rfl Tryz.func27 rfl rfl (names_defines ((l.getD i default).syms.getD k default) (dropR l i) ⟨by rw [hrl]; exact (hw.sym i k hi hk2).2.1, (hw.sym i k hi hk2).2.2, by rw [hrl]; omega⟩) ?_;refine AZ.c rfl ?_
     refine AZ.eq 51 (av' := .v (.bool false)) (by rw [hdb]) ?_;refine AZ.sk rfl rfl ?_;refine AZ.sk rfl rfl ?_;refine AZ.sk rfl rfl ?_;refine AZ.sk rfl rfl ?_;refine AZ.sk rfl rfl ?_;refine AZ.sk rfl rfl ?_;refine AZ.sk rfl rfl ?_;refine AZ.pf rfl rfl ?_;refine AZ.done ?_;refine SQ.normal ?_;refine AW.iteB (GL.ev _) (fun h3 => ?_) (fun h3 => ?_)
     ·
      cases h3
     ·
      skip;refine n9 ?_;refine AO.oo ?_;refine AO.c ?_;refine AO.nil ?_;have hal : ∀ q, q < k + 1 → dupAt l i q = false := fun q hq => by
       by_cases e : q = k
       · rw [e]; exact hnd
       · exact hy2 q (by omega)
      exact AW.backE [.k, .f, .k, .f, .f, .k, .k, .F, .F, .f, .f, .f, .f, .f, .f, .k, .k, .k, .f, .f, .f, .f, .f, .k, .k, .k, .F, .F, .F, .F, .F, .F, .F, .F, .f, .f, .f] (j2) (m1 - 1) (k + 1, j2 + 1, e2) (by omega) (by (try dsimp only); exact ⟨by omega, hal⟩) (by first | rfl | (simp; done)) (by first | ((try dsimp only); rw [hst]; done) | ((try dsimp only); rw [hst]; rfl))
    ·
     have hst : dKf l i (dI l i) (k + 1) = addF l (dKf l i (dI l i) k) (⟨((l.getD i default).syms.getD k default).name, (i : Int), (k : Int)⟩ : DefD) := by rw [dKf, stepD, hdb]; rfl
     have hdin : DefIn l (⟨((l.getD i default).syms.getD k default).name, (i : Int), (k : Int)⟩ : DefD) := ⟨by show (0 : Int) ≤ i; omega, by show (i : Int) < l.length; omega, by show (0 : Int) ≤ k; omega, by show (k : Int) < ((l.getD ((i : Int)).toNat default).syms.length : Int); rw [Int.toNat_natCast]; omega⟩
     have hda : dupAt l i k = addB l (dKf l i (dI l i) k) (⟨((l.getD i default).syms.getD k default).name, (i : Int), (k : Int)⟩ : DefD) := by unfold dupAt; rw [hdb]; rfl
     refine AW.drawsZ [14] (.one 0 false (.one 1 false (.one 2 false (.one 3 false (.one 4 false (.one 5 false (.one 6 true (.one 7 false (.one 8 false (.one 9 false (.one 10 false (.one 11 false (.one 12 false (.one 13 false (.one 14 true (.one 15 false .nil)))))))))))))))) (by kernel_rfl) rfl (by kernel_rfl) ?_;iterate 4 refine AZ.c rfl ?_
     refine AZ.o rfl (by rw [dropF_len]; omega) ?_;refine AZ.c rfl ?_;refine AZ.eq 49 (av' := .rd 1 ((dropR l i).map bA)) (by rw [dropF_get hi]) ?_;refine AZ.call1 rfl Tryz.func27 rfl rfl (names_defines ((l.getD i default).syms.getD k default) (dropR l i) ⟨by rw [hrl]; exact (hw.sym i k hi hk2).2.1, (hw.sym i k hi hk2).2.2, by rw [hrl]; omega⟩) ?_;refine AZ.c rfl ?_
     refine AZ.eq 51 (av' := .v (.bool true)) (by rw [hdb]) ?_;refine AZ.gkc rfl rfl ?_;refine AZ.gkc rfl rfl ?_;refine AZ.gkc rfl rfl ?_;refine AZ.gkc rfl rfl ?_;refine AZ.gkc rfl rfl ?_;refine AZ.gkc rfl rfl ?_
     refine AZ.gkL (av := .v (.bool (addB l (dKf l i (dI l i) k) (⟨((l.getD i default).syms.getD k default).name, (i : Int), (k : Int)⟩ : DefD)))) (H2 := Hn n0 (((([some (.box 63 [.v (.slice none 0 0), .v (.slice none 0 0)]), some (.box 63 [.rd 1 ((dropF l l.length).map drA), .own (n0 + 2) (addE (dKf l i (dI l i) k) (⟨((l.getD i default).syms.getD k default).name, (i : Int), (k : Int)⟩ : DefD) e2) 0 (addF l (dKf l i (dI l i) k) (⟨((l.getD i default).syms.getD k default).name, (i : Int), (k : Int)⟩ : DefD)).length]), some (.row 100 3 (addE (dKf l i (dI l i) k) (⟨((l.getD i default).syms.getD k default).name, (i : Int), (k : Int)⟩ : DefD) e2) ((addF l (dKf l i (dI l i) k) (⟨((l.getD i default).syms.getD k default).name, (i : Int), (k : Int)⟩ : DefD)).map defA))] ++ List.replicate j none ++ [some (.box 52 (objA (l.getD i default)))]) ++ List.replicate j2 none) ++ [some (.box 47 (symA ((l.getD i default).syms.getD k default)))]) ++ [none, none])) rfl rfl Tryz.func28 rfl rfl rfl (AC.cong (names_add n0 (some (.box 63 [.v (.slice none 0 0), .v (.slice none 0 0)])) ((dropF l l.length).map drA) l (dKf l i (dI l i) k) e2 (⟨((l.getD i default).syms.getD k default).name, (i : Int), (k : Int)⟩ : DefD) (List.replicate j none ++ [some (.box 52 (objA (l.getD i default)))] ++ List.replicate j2 none ++ [some (.box 47 (symA ((l.getD i default).syms.getD k default)))]) (dKf_srt (dI_srt l i) k) (by omega) hlen (fun q hq => dKf_in hi (dI_in i (by omega)) k (by omega) _ (getD_in hq)) hdin) (by simp) (fun r H' h => ⟨h.1, h.2.trans (by simp)⟩)) ?_
     refine AZ.pt rfl rfl ?_;refine AZ.done ?_;refine SQ.normal ?_;refine AW.iteB (GL.ev _) (fun h3 => ?_) (fun h3 => ?_)
     ·
      have hdup : dupE l := ⟨i, k, hi, hk2, by rw [hda]; exact h3⟩;refine n2 ?_;iterate 2 refine AO.c ?_
      refine AO.sst ?_;refine AO.c ?_;refine na <|BQ.ret <|SQ.ret <|AW.out <|LU.ret <|BQ.ret <|BQ.ret <|SQ.ret <|AW.out <|LU.ret <|BQ.ret <|SQ.ret ?_;refine Fin.ret (Gh.tellC 0 [.rd 1 (([] : List (List Bool)).map drA), .rd 3 (([] : List DefD).map defA)]) noid2 ?_;exact .inr (.inl ⟨hmay, hdup, rfl⟩)
     ·
      have hnd : dupAt l i k = false := by rw [hda]; exact h3
      refine n9 ?_;refine AO.oo ?_;refine AO.c ?_;refine AO.nil ?_;have hal : ∀ q, q < k + 1 → dupAt l i q = false := fun q hq => by
       by_cases e : q = k
       · rw [e]; exact hnd
       · exact hy2 q (by omega)
      exact AW.backE [.k, .f, .k, .f, .f, .k, .k, .F, .F, .f, .f, .f, .f, .f, .f, .k, .k, .k, .f, .f, .f, .f, .f, .k, .k, .k, .F, .F, .F, .F, .F, .F, .F, .F, .f, .f, .f] (j2) (m1 - 1) (k + 1, j2 + 3, addE (dKf l i (dI l i) k) (⟨((l.getD i default).syms.getD k default).name, (i : Int), (k : Int)⟩ : DefD) e2) (by omega) (by (try dsimp only); exact ⟨by omega, hal⟩) (by first | rfl | (simp; done)) (by first | ((try dsimp only); rw [hst]; done) | ((try dsimp only); rw [hst]; rfl))
   ·
    rw [decide_eq_false_iff_not] at h2;have hk2 : k = (l.getD i default).syms.length := by omega
    subst hk2;have hnx : ∀ a k, a < i + 1 → k < (l.getD a default).syms.length → dupAt l a k = false := fun a k g1 g2 => by
     by_cases e : a = i
     · subst e; exact hy2 k g2
     · exact hx2 a k (by omega) g2
    refine AW.exit <|SQ.exit <|AW.out <|LU.exit <|BQ.exit <|BQ.normal <|SQ.normal <|AW.region ?_;refine AO.oo ?_;refine AO.c ?_;refine AO.nil ?_
    exact AW.backE [.k, .f, .k, .f, .f, .k, .F, .F, .f, .f, .f, .f, .f, .f, .f, .k, .k, .k, .F, .F, .F, .F, .F, .F, .F, .F, .F, .f, .f, .f] (j) (m0 - 1) (i + 1, j + (1 + j2), e2) (by omega) (by (try dsimp only); exact ⟨by omega, hnx⟩) (by first | rfl | (simp; done)) ((Hn_repJ (b := j + (1 + j2)) (by first | (simp; done) | (simp; omega))).trans (by (try dsimp only) <;> rfl))
  ·
   rw [decide_eq_false_iff_not] at h1;have hi : i = l.length := by omega
   subst hi;have hndup : ¬ dupE l := fun ⟨a, k, h1, h2, h3⟩ => by rw [hx2 a k h1 h2] at h3; cases h3
   refine AW.exit <|SQ.exit <|AW.out <|LU.exit <|BQ.exit <|SQ.normal <|AW.seq' <|AW.seq' ?_;refine AW.ghost (Gh.freezeC 1 1 (by rw [List.length_map]) (by rw [List.length_map]; omega)) ?_;refine AW.region ?_;iterate 3 refine AO.c ?_
   refine nb ?_
   refine AW.loopU2 [.f, .f, .k, .f, .f, .k, .F, .F, .F, .F, .F, .F, .F, .f, .f, .k, .k, .k, .F, .F, .F, .F, .F] (fun (i j3 : Nat) => [(66, .v (.int .i64 (i)))]) (fun i j3 => Hn n0 (([some (.box 63 [.v (.slice none 0 0), .v (.slice none 0 0)]), some (.box 63 (tabA ⟨dropF l l.length, dI l l.length⟩)), none] ++ List.replicate j3 none) ++ [])) (fun m i j3 => (i ≤ l.length ∧ m = l.length - i) ∧ ∀ a k, a < i → k < (l.getD a default).syms.length → undAt l a k = false) (l.length) (0) (j) ⟨by omega, fun a k h => by omega⟩ (by first | rfl | (simp; done)) (by first | rfl | (simp; done)) ?_
   rintro m2 i j3 ⟨hz1, hz2⟩
   refine n2 ?_;refine AO.c ?_;refine n1 <|AW.seq' ?_;refine AW.iteB (GL.ev _) (fun h4 => ?_) (fun h4 => ?_)
   ·
    rw [decide_eq_true_eq] at h4;have hi : i < l.length := by omega
    have hrl := dropR_len l i;have hsy := hw.sy i hi;refine nc ?_;refine AO.c ?_;refine AO.oo ?_;refine AO.c ?_;refine AO.ww ?_;refine AO.c ?_;refine AO.sst ?_;refine n3 ?_;iterate 4 refine AO.c ?_
    refine nb ?_
    refine AW.loopU2 [.f, .f, .k, .f, .f, .k, .f, .f, .f, .f, .k, .F, .F, .F, .F, .F, .F, .f, .f, .f, .f, .f, .k, .k, .k, .f, .f, .f, .f, .f, .k, .k, .k, .F, .F, .F, .F] (fun (k j4 : Nat) => [(74, .v (.int .i64 (k)))]) (fun k j4 => Hn n0 ((([some (.box 63 [.v (.slice none 0 0), .v (.slice none 0 0)]), some (.box 63 (tabA ⟨dropF l l.length, dI l l.length⟩)), none] ++ List.replicate j3 none ++ [some (.box 52 (objA (l.getD i default)))]) ++ List.replicate j4 none) ++ [])) (fun m k j4 => (k ≤ (l.getD i default).syms.length ∧ m = (l.getD i default).syms.length - k) ∧ ∀ q, q < k → undAt l i q = false) ((l.getD i default).syms.length) (0) (0) ⟨by omega, fun q h => by omega⟩ (by first | rfl | (simp; done)) (by first | rfl | (simp; done)) ?_
    rintro m3 k j4 ⟨hw1, hw2⟩
    refine n2 ?_;refine AO.c ?_;refine n1 <|AW.seq' ?_;refine AW.iteB (GL.ev _) (fun h5 => ?_) (fun h5 => ?_)
    ·
     rw [decide_eq_true_eq] at h5;have hk2 : k < (l.getD i default).syms.length := by omega
     refine nc ?_;refine AO.oo ?_;refine AO.c ?_;refine AO.ww ?_;refine AO.sst ?_;refine n3 ?_;iterate 3 refine AO.c ?_
     refine AO.call1 Tryz.func29 rfl rfl (names_Find ⟨dropF l l.length, dI l l.length⟩ ((l.getD i default).syms.getD k default).name hfl (dI_srt l _)) ?_;iterate 3 refine AO.c ?_
     refine AO.ww ?_;refine AO.sst ?_;refine AO.c ?_;refine n1 <|AW.seq' ?_;refine AW.drawsZ [] (.one 0 false (.one 1 false (.one 2 false (.one 3 false (.one 4 false (.one 5 false (.one 6 false (.one 7 false (.one 8 false (.one 9 false (.one 10 true (.one 11 false (.one 12 false (.one 13 false (.one 14 false (.one 15 false (.one 16 false .nil))))))))))))))))) (by kernel_rfl) rfl (by kernel_rfl) ?_
     iterate 4 refine AZ.c rfl ?_
     iterate 4 refine AZ.gx rfl ?_
     refine AZ.gxo rfl (by rw [dropF_len]; omega) ?_;refine AZ.gx rfl ?_;refine AZ.eq 94 (av' := cv (decide (((l.getD i default).syms.getD k default).bind = 1)) (.rd 1 ((dropR l i).map bA))) (by rw [dropF_get hi]) ?_
     refine AZ.gxcall1 rfl Tryz.func27 rfl rfl (fun hgd => names_defines ((l.getD i default).syms.getD k default) (dropR l i) ⟨by rw [hrl]; exact (hw.sym i k hi hk2).2.1, (hw.sym i k hi hk2).2.2, by rw [hrl]; omega⟩) ?_;refine AZ.gx rfl ?_;iterate 2 refine AZ.c rfl ?_
     iterate 2 refine AZ.gx rfl ?_
     refine AZ.c rfl ?_;refine AZ.done ?_;refine SQ.normal ?_;refine AW.iteB (GL.ev _) (fun h6 => ?_) (fun h6 => ?_)
     ·
      have hund : undE l := ⟨i, k, hi, hk2, h6⟩;refine n2 ?_;iterate 2 refine AO.c ?_
      refine AO.sst ?_;refine AO.c ?_;refine na <|BQ.ret <|SQ.ret <|AW.out <|LU.ret <|BQ.ret <|BQ.ret <|SQ.ret <|AW.out <|LU.ret <|BQ.ret <|SQ.ret ?_;refine Fin.ret (Gh.tellC 0 [.rd 1 (([] : List (List Bool)).map drA), .rd 3 (([] : List DefD).map defA)]) noid2 ?_;exact .inr (.inr (.inl ⟨hmay, hndup, hund, rfl⟩))
     ·
      have hun : undAt l i k = false := h6;refine n9 ?_;refine AO.oo ?_;refine AO.c ?_;refine AO.nil ?_;have hal : ∀ q, q < k + 1 → undAt l i q = false := fun q hq => by
       by_cases e : q = k
       · rw [e]; exact hun
       · exact hw2 q (by omega)
      exact AW.backE [.f, .f, .k, .f, .f, .k, .f, .f, .f, .f, .k, .F, .F, .F, .F, .F, .F, .f, .f, .f, .f, .f, .k, .k, .k, .f, .f, .f, .f, .f, .k, .k, .k, .F, .F, .F, .F] (j4) (m3 - 1) (k + 1, j4 + 2) (by omega) (by (try dsimp only); exact ⟨by omega, hal⟩) (by first | rfl | (simp; done)) (by first | rfl | (simp; done))
    ·
     rw [decide_eq_false_iff_not] at h5;have hk2 : k = (l.getD i default).syms.length := by omega
     subst hk2;have hnx : ∀ a k, a < i + 1 → k < (l.getD a default).syms.length → undAt l a k = false := fun a k g1 g2 => by
      by_cases e : a = i
      · subst e; exact hw2 k g2
      · exact hz2 a k (by omega) g2
     refine AW.exit <|SQ.exit <|AW.out <|LU.exit <|BQ.exit <|BQ.normal <|SQ.normal <|AW.region ?_;refine AO.oo ?_;refine AO.c ?_;refine AO.nil ?_
     exact AW.backE [.f, .f, .k, .f, .f, .k, .F, .F, .F, .F, .F, .F, .F, .f, .f, .k, .k, .k, .F, .F, .F, .F, .F] (j3) (m2 - 1) (i + 1, j3 + (1 + j4)) (by omega) (by (try dsimp only); exact ⟨by omega, hnx⟩) (by first | rfl | (simp; done)) ((Hn_repJ (b := j3 + (1 + j4)) (by first | (simp; done) | (simp; omega))).trans (by (try dsimp only) <;> rfl))
   ·
    rw [decide_eq_false_iff_not] at h4;have hi : i = l.length := by omega
    subst hi;have hnund : ¬ undE l := fun ⟨a, k, h1, h2, h3⟩ => by rw [hz2 a k h1 h2] at h3; cases h3
    refine AW.exit <|SQ.exit <|AW.out <|LU.exit <|BQ.exit <|SQ.normal <|n2 ?_;refine AO.c ?_;refine AO.sst ?_;refine AO.c ?_;refine na ?_;refine Fin.ret (Gh.refl) noid2 ?_;exact .inr (.inr (.inr ⟨hmay, hndup, hnund, rfl⟩))
theorem ahB_iff {l : List ObjD} {i k : Nat} : ahB l i k = true ↔ gNk l i k ∈ gBef l i k := by
 unfold ahB cntB;rw [decide_eq_true_eq, List.countP_pos_iff];simp
theorem gBef_mem {l : List ObjD} {a q i k : Nat} (hi : i < l.length) (hq : q < (l.getD a default).groups.length) (h : a < i ∨ (a = i ∧ q < k)) : gNk l a q ∈ gBef l i k := by
 unfold gBef;have hg : gNk l a q ∈ gNmL (l.getD a default) := by
  unfold gNmL gNk;rw [List.mem_map];exact ⟨_, getD_in hq, rfl⟩
 rcases h with h | ⟨rfl, h⟩
 · refine List.mem_append_left _ (List.mem_flatMap.2 ⟨l.getD a default, ?_, hg⟩)
   rw [List.mem_take_iff_getElem];refine ⟨a, by omega, ?_⟩;rw [List.getD_eq_getElem?_getD, List.getElem?_eq_getElem (by omega)]; rfl
 · refine List.mem_append_right _ ?_
   have h1 := gN_get (l := l) (i := a) hq;have h2 : gNk l a q ∈ (gNmL (l.getD a default)).take (q + 1) := by rw [h1]; simp
   rw [List.mem_take_iff_getElem] at h2 ⊢;obtain ⟨j, hj, h2⟩ := h2;exact ⟨j, by omega, h2⟩
def dRk (l : List ObjD) (i : Nat) : Nat → List Bool
 | 0 => List.replicate (l.getD i default).secs.length false
 | k + 1 => if ahB l i k = true then memSet true (dRk l i k) ((l.getD i default).groups.getD k default).mem else dRk l i k
def dRf (l : List ObjD) (i : Nat) : List Bool := dRk l i (l.getD i default).groups.length
theorem dRk_len (l : List ObjD) (i : Nat) : ∀ k, (dRk l i k).length = (l.getD i default).secs.length := by
 intro k
 induction k with
 | zero => simp [dRk]
 | succ k ih => rw [dRk]; split; rw [memSet_len, ih]; exact ih
theorem dRk_yes {l : List ObjD} {i k : Nat} (h : ahB l i k = true) : dRk l i (k + 1) = memSet true (dRk l i k) ((l.getD i default).groups.getD k default).mem := by rw [dRk, if_pos h]
theorem dRk_no {l : List ObjD} {i k : Nat} (h : ahB l i k = false) : dRk l i (k + 1) = dRk l i k := by rw [dRk, if_neg (by rw [h]; decide)]
set_option maxHeartbeats 4000000 in
theorem ref_ahead (l : List ObjD) (hw : GrpW l) (i k : Nat) (hi : i < l.length) (hk : k < (l.getD i default).groups.length) : A0 Tryz.prog 53 [.rd 5 (l.map objA), .v (.int .i64 ((i : Int))), .v (.int .i64 ((k : Int)))] (fun ret => ret = .v (.bool (ahB l i k))) := by
 have hmy := hw.many;have hgi := hw.grps i hi;have hsi := hw.sym i k hi hk;refine A0.body 69 Tryz.func53 rfl rfl Tryz.ntmps53 fun base n0 => ?_
 refine go ?_;refine AW.drawsZ [] (.one 0 false (.one 1 false (.one 2 false (.one 3 false (.one 4 false (.one 5 false (.one 6 false (.one 7 false (.one 8 false (.one 9 false (.one 10 false (.one 11 false (.one 12 false (.one 13 false (.one 14 false (.one 15 false (.one 16 false (.one 17 false .nil)))))))))))))))))) (by kernel_rfl) rfl (by kernel_rfl) ?_;refine gz ?_;refine AZ.done ?_;refine go ?_
 refine AW.loopU [.k, .k, .k, .f, .f, .f, .f, .k, .k, .F, .F, .F, .F, .F, .F, .F, .f, .f, .f, .f] (fun (a : Nat) => [(8, .v (.int .i64 ((a : Int))))]) (fun a => Hn n0 []) (fun m a => (a ≤ i + 1 ∧ m = i + 1 - a) ∧ ((a ≤ i ∧ gNk l i k ∉ gBef l a 0) ∨ (a = i + 1 ∧ gNk l i k ∉ gBef l i k))) (i + 1) (0) ⟨by omega, .inl ⟨by omega, by simp [gBef]⟩⟩ cr cr ?_;rintro m0 a ⟨hx1, hx2⟩
 refine go ?_;refine AW.iteB (GL.ev _) (fun h0 => ?_) (fun h0 => ?_)
 ·
  rw [decide_eq_true_eq] at h0;have hai : a ≤ i := by omega
  have hga : gNk l i k ∉ gBef l a 0 := by
   rcases hx2 with ⟨_, c⟩ | ⟨c, _⟩
   · exact c
   · omega
  have hgr := hw.grps a (by omega);refine go ?_
  refine AW.loopU [.k, .k, .k, .f, .f, .f, .f, .k, .k, .k, .F, .F, .F, .F, .F, .F, .F, .f, .f, .f] (fun (q : Nat) => [(9, .v (.int .i64 ((q : Int))))]) (fun q => Hn n0 []) (fun m q => (q ≤ (l.getD a default).groups.length ∧ m = (l.getD a default).groups.length - q) ∧ gNk l i k ∉ gBef l a q ∧ (a = i → q ≤ k)) ((l.getD a default).groups.length) (0) ⟨by omega, hga, fun _ => by omega⟩ cr cr ?_
  rintro m1 q ⟨hy1, hy2, hy3⟩
  refine go ?_;refine AW.iteB (GL.ev _) (fun h1 => ?_) (fun h1 => ?_)
  ·
   rw [decide_eq_true_eq] at h1;have hq : q < (l.getD a default).groups.length := by omega
   have hsy := hw.sym a q (by omega) hq;refine go ?_;refine AW.iteB (GL.ev _) (fun h2 => ?_) (fun h2 => ?_)
   ·
    simp only [Bool.and_eq_true, decide_eq_true_eq] at h2;have e : a = i := by omega
    have hbr : gNk l i k ∉ gBef l i k := by
     have e2 : q = k := by have := hy3 e; omega
     rw [e, e2] at hy2;exact hy2
    refine AW.exit <|SQ.exit <|BQ.exit' rfl <|SQ.exit <|AW.out <|LU.exit <|BQ.exit <|BQ.normal ?_;refine go ?_;exact AW.backU [.k, .k, .k, .f, .f, .f, .f, .k, .k, .F, .F, .F, .F, .F, .F, .F, .f, .f, .f, .f] (m0 - 1) (a + 1) (by omega) (by (try dsimp only); exact ⟨by omega, .inr ⟨by omega, hbr⟩⟩) cr cr
   ·
    simp only [Bool.and_eq_false_iff, decide_eq_false_iff_not] at h2;have hbef : a < i ∨ (a = i ∧ q < k) := by omega
    refine go ?_;refine AW.drawsZ [] (.one 0 false (.one 1 false (.one 2 false (.one 3 false (.one 4 false (.one 5 false (.one 6 false (.one 7 false (.one 8 false (.one 9 false (.one 10 false (.one 11 false (.one 12 false (.one 13 false (.one 14 false (.one 15 false (.one 16 false (.one 17 false (.one 18 false .nil))))))))))))))))))) (by kernel_rfl) rfl (by kernel_rfl) ?_;refine gz ?_
    refine AZ.done ?_;refine SQ.normal ?_;refine AW.iteB (GL.ev _) (fun h3 => ?_) (fun h3 => ?_)
    ·
     rw [decide_eq_true_eq, ba_eq] at h3;have hah : ahB l i k = true := ahB_iff.2 (by
      have := gBef_mem (k := k) hi hq hbef;rw [show gNk l a q = gNk l i k from h3] at this;exact this)
     refine go ?_;refine AW.ret <|BQ.ret <|SQ.ret <|AW.out <|LU.ret <|BQ.ret <|BQ.ret <|SQ.ret <|AW.out <|LU.ret <|BQ.ret <|SQ.ret ?_;refine Fin.ret (Gh.refl) noid1 ?_;rw [hah]; rfl
    ·
     rw [decide_eq_false_iff_not, ba_eq] at h3;have hal : gNk l i k ∉ gBef l a (q + 1) := by
      rw [gBef_succ hq, List.mem_append, List.mem_singleton];rintro (c | c)
      · exact hy2 c
      · exact h3 c.symm
     refine AW.skip <|BQ.normal ?_;refine go ?_;exact AW.backU [.k, .k, .k, .f, .f, .f, .f, .k, .k, .k, .F, .F, .F, .F, .F, .F, .F, .f, .f, .f] (m1 - 1) (q + 1) (by omega) (by (try dsimp only); exact ⟨by omega, hal, fun e => by omega⟩) cr cr
  ·
   rw [decide_eq_false_iff_not] at h1;have hq : q = (l.getD a default).groups.length := by omega
   subst hq;have hlt : a < i := by
    rcases Nat.lt_or_ge a i with c | c
    · exact c
    · have e : a = i := by omega
      have := hy3 e;subst e; omega
   have hnx : (a + 1 ≤ i ∧ gNk l i k ∉ gBef l (a + 1) 0) ∨ (a + 1 = i + 1 ∧ gNk l i k ∉ gBef l i k) := .inl ⟨by omega, by rw [gBef_next (by omega)]; exact hy2⟩;refine AW.exit <|SQ.exit <|AW.out <|LU.exit <|BQ.exit <|BQ.normal ?_;refine go ?_
   exact AW.backU [.k, .k, .k, .f, .f, .f, .f, .k, .k, .F, .F, .F, .F, .F, .F, .F, .f, .f, .f, .f] (m0 - 1) (a + 1) (by omega) (by (try dsimp only); exact ⟨by omega, hnx⟩) cr cr
 ·
  rw [decide_eq_false_iff_not] at h0;have hno : gNk l i k ∉ gBef l i k := by
   rcases hx2 with ⟨c, _⟩ | ⟨_, c⟩
   · omega
   · exact c
  have hah : ahB l i k = false := by
   cases hc : ahB l i k with
   | false => rfl
   | true => exact absurd (ahB_iff.1 hc) hno
  refine AW.exit <|SQ.exit <|AW.out <|LU.exit <|BQ.exit ?_;refine go ?_;refine AW.ret ?_;refine Fin.ret (Gh.refl) noid1 ?_;rw [hah]; rfl
set_option maxHeartbeats 4000000 in
theorem ref_Dropped (l : List ObjD) (hw : GrpW l) (i : Nat) (hi : i < l.length) : A0 Tryz.prog 34 [.rd 5 (l.map objA), .v (.int .i64 ((i : Int)))] (fun ret => ret = .rd 1 ((dRf l i).map bA)) := by
 have hmy := hw.many;have hgr := hw.grps i hi;refine A0.body 53 Tryz.func34 rfl rfl Tryz.ntmps34 fun base n0 => ?_
 refine go ?_;refine AW.loopU [.k, .k, .f, .f, .f, .k, .k, .F, .F, .F, .F, .F, .f, .f, .f, .f, .f, .f] (fun (k : Nat) => [(6, .v (.int .i64 ((k : Int))))]) (fun k => Hn n0 [some (.row 4 1 0 ((dRk l i k).map bA))]) (fun m k => k ≤ (l.getD i default).groups.length ∧ m = (l.getD i default).groups.length - k) ((l.getD i default).groups.length) (0) ⟨by omega, by omega⟩ cr (by simp [dRk]) ?_
 rintro m0 k ⟨hx1, hx2⟩
 refine go ?_;refine AW.iteB (GL.ev _) (fun h0 => ?_) (fun h0 => ?_)
 ·
  rw [decide_eq_true_eq] at h0;have hk : k < (l.getD i default).groups.length := by omega
  have hmm := hw.mem i k hi hk;have hdk := dRk_len l i k;refine go ?_;refine AO.call1 Tryz.func53 rfl rfl (ref_ahead l hw i k hi hk) ?_;refine go ?_;refine AW.iteB (GL.ev _) (fun h1 => ?_) (fun h1 => ?_)
  ·
   refine go ?_
   refine AW.loopU [.k, .k, .f, .f, .f, .k, .k, .k, .k, .F, .F, .F, .F, .F, .f, .f, .f, .f] (fun (q : Nat) => [(8, .v (.int .i64 ((q : Int))))]) (fun q => Hn n0 [some (.row 4 1 0 ((memSet true (dRk l i k) (((l.getD i default).groups.getD k default).mem.take q)).map bA))]) (fun m q => q ≤ ((l.getD i default).groups.getD k default).mem.length ∧ m = ((l.getD i default).groups.getD k default).mem.length - q) (((l.getD i default).groups.getD k default).mem.length) (0) ⟨by omega, by omega⟩ cr (by simp [memSet]) ?_
   rintro m1 q ⟨hy1, hy2⟩
   refine go ?_;refine AW.iteB (GL.ev _) (fun h2 => ?_) (fun h2 => ?_)
   ·
    rw [decide_eq_true_eq] at h2;have hq : q < ((l.getD i default).groups.getD k default).mem.length := by omega
    have hn := hmm.2 q hq;have hml := memSet_len true (((l.getD i default).groups.getD k default).mem.take q) (dRk l i k);refine go ?_;refine BQ.normal ?_;refine go ?_;exact AW.backU [.k, .k, .f, .f, .f, .k, .k, .k, .k, .F, .F, .F, .F, .F, .f, .f, .f, .f] (m1 - 1) (q + 1) (by omega) c2 cr (by (try dsimp only); rw [memSet_snoc _ _ hq, Nat.zero_add])
   ·
    rw [decide_eq_false_iff_not] at h2;have hq : q = ((l.getD i default).groups.getD k default).mem.length := by omega
    subst hq;rw [List.take_length];refine AW.exit <|SQ.exit <|AW.out <|LU.exit <|BQ.exit <|BQ.normal ?_;refine go ?_;exact AW.backU [.k, .k, .f, .f, .f, .k, .k, .F, .F, .F, .F, .F, .f, .f, .f, .f, .f, .f] (m0 - 1) (k + 1) (by omega) c2 cr (by (try dsimp only); rw [dRk_yes h1])
  ·
   refine AW.skip <|BQ.normal ?_;refine go ?_;exact AW.backU [.k, .k, .f, .f, .f, .k, .k, .F, .F, .F, .F, .F, .f, .f, .f, .f, .f, .f] (m0 - 1) (k + 1) (by omega) c2 cr (by (try dsimp only); rw [dRk_no h1])
 ·
  rw [decide_eq_false_iff_not] at h0;have hk : k = (l.getD i default).groups.length := by omega
  subst hk;refine AW.exit <|SQ.exit <|AW.out <|LU.exit <|BQ.exit <|SQ.normal <|AW.seq' ?_;have hdl := dRk_len l i (l.getD i default).groups.length;refine AW.ghost (Gh.freezeM 5 bA (dRf l i) rfl (by show (dRk l i _).length = _; omega) (by show (dRk l i _).length ≤ _; omega)) ?_;refine go ?_;refine AW.ret ?_;refine Fin.ret (Gh.refl) noid1 ?_
  first | rfl | (simp [packA]; done)
theorem ref_definesN (s : SymD) (dr : List Bool) (h : s.sec ≤ dr.length ∧ -1 ≤ s.sec ∧ dr.length ≤ 1000000) : A0 Tryz.prog 54 [.agg (symA s), .rd 1 (dr.map bA)] (fun ret => ret = .v (.bool (defB s dr))) := by
 refine A0.body 25 Tryz.func54 rfl rfl Tryz.ntmps54 fun base n0 => ?_
 refine go ?_;refine AW.iteB (GL.ev _) (fun h0 => ?_) (fun h0 => ?_)
 ·
  try simp only [Bool.and_eq_true, Bool.or_eq_true, Bool.not_eq_true', Bool.and_eq_false_iff, Bool.or_eq_false_iff, decide_eq_true_eq, decide_eq_false_iff_not, bys_length] at h0
  refine go ?_;refine AW.ret <|SQ.ret ?_;refine Fin.ret (Gh.refl) noid1 ?_;show AV.v _ = AV.v _
  congr 2
  unfold defB;rcases h0 with h0 | h0
  · simp [h0]
  · simp [h0]
 ·
  try simp only [Bool.and_eq_true, Bool.or_eq_true, Bool.not_eq_true', Bool.and_eq_false_iff, Bool.or_eq_false_iff, decide_eq_true_eq, decide_eq_false_iff_not, bys_length] at h0
  refine gs ?_;iterate 4 refine AO.c ?_
  iterate 3 refine AO.gx ?_
  refine AO.gxo (fun _ => by omega) ?_;refine AO.gxo (fun c => by simp at c; omega) ?_;refine go ?_;refine AW.ret ?_;refine Fin.ret (Gh.refl) noid1 ?_;show AV.v _ = AV.v _
  congr 2
  unfold defB;by_cases c : s.sec = -1
  · simp [c, h0.1]
  · have c1 : ¬ s.sec < 0 := by omega
    have c2 : s.sec > 0 := by omega
    simp [c, c1, c2, h0.1]
def isFst (l : List ObjD) (nm : ByteArray) (bd : Int) (i k : Nat) : Bool := defB ((l.getD i default).syms.getD k default) (dropR l i) && decide (((l.getD i default).syms.getD k default).name = nm) && decide (((l.getD i default).syms.getD k default).bind = bd)
def fK (l : List ObjD) (nm : ByteArray) (bd : Int) (i : Nat) (st : DefD × Int) : Nat → DefD × Int
 | 0 => st
 | k + 1 => if isFst l nm bd i k = true then (if (fK l nm bd i st k).2 = 0 then ⟨nm, (i : Int), (k : Int)⟩ else (fK l nm bd i st k).1, (fK l nm bd i st k).2 + 1) else fK l nm bd i st k
def fI (l : List ObjD) (nm : ByteArray) (bd : Int) : Nat → DefD × Int
 | 0 => (zDef, 0)
 | i + 1 => fK l nm bd i (fI l nm bd i) (l.getD i default).syms.length
def findR (l : List ObjD) (nm : ByteArray) : DefD × Bool :=
 if (fI l nm 1 l.length).2 > 0 then ((fI l nm 1 l.length).1, true) else ((fI l nm 2 l.length).1, decide ((fI l nm 2 l.length).2 > 0))
theorem fK_yes {l : List ObjD} {nm : ByteArray} {bd : Int} {i k : Nat} {st : DefD × Int} (h : isFst l nm bd i k = true) : fK l nm bd i st (k + 1) = (if (fK l nm bd i st k).2 = 0 then ⟨nm, (i : Int), (k : Int)⟩ else (fK l nm bd i st k).1, (fK l nm bd i st k).2 + 1) := by rw [fK, if_pos h]
theorem fK_no {l : List ObjD} {nm : ByteArray} {bd : Int} {i k : Nat} {st : DefD × Int} (h : isFst l nm bd i k = false) : fK l nm bd i st (k + 1) = fK l nm bd i st k := by rw [fK, if_neg (by rw [h]; decide)]
theorem fK_rng (l : List ObjD) (nm : ByteArray) (bd : Int) (i : Nat) (st : DefD × Int) (h : 0 ≤ st.2) : ∀ k : Nat, 0 ≤ (fK l nm bd i st k).2 ∧ (fK l nm bd i st k).2 ≤ st.2 + k := by
 intro k
 induction k with
 | zero => exact ⟨h, by show st.2 ≤ _; omega⟩
 | succ k ih =>
  rw [fK]
  split
  · show 0 ≤ (fK l nm bd i st k).2 + 1 ∧ (fK l nm bd i st k).2 + 1 ≤ _
    omega
  · omega
theorem fI_rng {l : List ObjD} (hw : ResW l) (nm : ByteArray) (bd : Int) : ∀ i : Nat, i ≤ l.length → 0 ≤ (fI l nm bd i).2 ∧ (fI l nm bd i).2 ≤ 128 * i := by
 intro i
 induction i with
 | zero => intro _; exact ⟨Int.le_refl _, by show (0 : Int) ≤ _; omega⟩
 | succ i ih =>
  intro hi;have h1 := ih (by omega);have h2 := fK_rng l nm bd i (fI l nm bd i) h1.1 (l.getD i default).syms.length;have h3 := (hw.sy i (by omega)).1;rw [fI]; omega
def putF (L : List DefD) (d : DefD) : List DefD := if ∃ x ∈ L, x.name = d.name then L else L.filter (fun x => sLt x.name d.name) ++ [d] ++ L.filter (fun x => sLt d.name x.name)
theorem filter_snoc {p : DefD → Bool} {L : List DefD} {i : Nat} (h : i < L.length) : (L.take (i + 1)).filter p = (L.take i).filter p ++ (if p (L.getD i default) = true then [L.getD i default] else []) := by
 rw [List.take_succ_eq_append_getElem h, List.filter_append, List.getD_eq_getElem?_getD, List.getElem?_eq_getElem h]
 congr 1
 simp only [List.filter_cons, List.filter_nil, Option.getD_some]
set_option maxHeartbeats 8000000 in
theorem ref_First (l : List ObjD) (hw : ResW l) (L : List DefD) (nm : ByteArray) (bd : Int) : A0 Tryz.prog 35 [.rd 5 (l.map objA), .agg (tabA ⟨dropF l l.length, L⟩), .v (.string nm), .v (.int .i64 (bd))] (fun ret => ret = .tup [.agg (defA (fI l nm bd l.length).1), .v (.int .i64 ((fI l nm bd l.length).2))]) := by
 have hl8 := hw.len;refine A0.body 72 Tryz.func35 rfl rfl Tryz.ntmps35 fun base n0 => ?_
 refine n2 ?_;iterate 2 refine AO.ww ?_
 refine AO.c ?_;refine n3 ?_;refine AO.c ?_;refine AO.ww ?_;refine AO.sst ?_;refine n3 ?_;refine AO.c ?_;refine n4 ?_;refine AO.c ?_;refine nb ?_
 refine AW.loopU2 [.k, .f, .k, .k, .f, .k, .f, .f, .k, .f, .k, .k, .k, .F, .F, .F, .F, .F, .F, .F, .f, .f, .f] (fun (i j : Nat) => [(11, .v (.int .i64 ((fI l nm bd i).2))), (12, .v (.int .i64 ((i : Int))))]) (fun i j => Hn n0 (([some (.box 78 (tabA ⟨dropF l l.length, L⟩)), some (.box 90 (defA zDef)), some (.box 90 (defA (fI l nm bd i).1))] ++ List.replicate j none) ++ [])) (fun m i j => i ≤ l.length ∧ m = l.length - i) (l.length) (0) (0) ⟨by omega, by omega⟩ (by first | rfl | (simp; done)) (by first | rfl | (simp; done)) ?_
 rintro m0 i j ⟨hx1, hx2⟩
 refine n8 ?_;iterate 4 refine AO.c ?_
 refine n1 ?_;refine AW.iteB (GL.ev _) (fun h0 => ?_) (fun h0 => ?_)
 ·
  rw [decide_eq_true_eq] at h0;have hi : i < l.length := by omega
  have hrl := dropR_len l i;have hsy := hw.sy i hi;have hfr := fI_rng hw nm bd i (by omega);refine nc ?_;refine AO.c ?_;refine nb ?_
  refine AW.loopU2 [.k, .f, .k, .k, .f, .k, .f, .f, .k, .f, .k, .k, .k, .k, .F, .F, .F, .F, .F, .F, .F, .f, .f] (fun (k j2 : Nat) => [(11, .v (.int .i64 ((fK l nm bd i (fI l nm bd i) k).2))), (13, .v (.int .i64 ((k : Int))))]) (fun k j2 => Hn n0 ((([some (.box 78 (tabA ⟨dropF l l.length, L⟩)), some (.box 90 (defA zDef)), some (.box 90 (defA (fK l nm bd i (fI l nm bd i) k).1))] ++ List.replicate j none) ++ List.replicate j2 none) ++ [])) (fun m k j2 => k ≤ (l.getD i default).syms.length ∧ m = (l.getD i default).syms.length - k) ((l.getD i default).syms.length) (0) (0) ⟨by omega, by omega⟩ (by first | rfl | (simp; done)) (by simp [fK]) ?_
  rintro m1 k j2 ⟨hy1, hy2⟩
  refine n8 ?_;iterate 3 refine AO.c ?_
  refine AO.oo ?_;iterate 4 refine AO.c ?_
  refine n1 ?_;refine AW.iteB (GL.ev _) (fun h1 => ?_) (fun h1 => ?_)
  ·
   rw [decide_eq_true_eq] at h1;have hk : k < (l.getD i default).syms.length := by omega
   have hkr := fK_rng l nm bd i (fI l nm bd i) hfr.1 k;refine nc ?_;iterate 2 refine AO.c ?_
   refine AO.oo ?_;iterate 3 refine AO.c ?_
   refine AO.oo ?_;refine AO.c ?_;refine AO.ww ?_;refine AO.sst ?_;refine n1 <|AW.seq' ?_;refine AW.drawsZ [] (.one 0 false (.one 1 false (.one 2 false (.one 3 false (.one 4 false (.one 5 false (.one 6 true (.one 7 false .nil)))))))) (by kernel_rfl) rfl (by kernel_rfl) ?_;iterate 4 refine AZ.c rfl ?_
   refine AZ.o rfl (by rw [dropF_len]; omega) ?_;refine AZ.c rfl ?_;refine AZ.eq 46 (av' := .rd 1 ((dropR l i).map bA)) (by rw [dropF_get hi]) ?_;refine AZ.call1 rfl Tryz.func54 rfl rfl (ref_definesN ((l.getD i default).syms.getD k default) (dropR l i) ⟨by rw [hrl]; exact (hw.sym i k hi hk).2.1, (hw.sym i k hi hk).2.2, by rw [hrl]; omega⟩) ?_;refine AZ.c rfl ?_;refine AZ.done ?_
   refine SQ.normal <|n8 ?_;iterate 3 refine AO.c ?_
   iterate 4 refine AO.gx ?_
   iterate 2 refine AO.c ?_
   iterate 4 refine AO.gx ?_
   refine AO.c ?_;refine n1 ?_;refine AW.iteB (GL.ev _) (fun h2 => ?_) (fun h2 => ?_)
   ·
    have hf : isFst l nm bd i k = false := by
     unfold isFst;simp only [Bool.or_eq_true, Bool.not_eq_true', decide_eq_true_eq, ne_eq, ba_eq] at h2;rcases h2 with (h2 | h2) | h2
     · rw [h2]; rfl
     · rw [decide_eq_false h2, Bool.and_false]; rfl
     · rw [decide_eq_false h2, Bool.and_false]
    refine AW.exit <|SQ.exit <|BQ.exit <|SQ.normal <|AW.region ?_;refine AO.c ?_;refine AO.oo ?_;refine AO.c ?_;refine AO.nil ?_
    exact AW.backE [.k, .f, .k, .k, .f, .k, .f, .f, .k, .f, .k, .k, .k, .k, .F, .F, .F, .F, .F, .F, .F, .f, .f] (j2) (m1 - 1) (k + 1, j2 + 1) (by omega) (by (try dsimp only); exact ⟨by omega, by omega⟩) (by first | ((try dsimp only); rw [fK_no hf]; done) | ((try dsimp only); rw [fK_no hf]; rfl)) (by first | ((try dsimp only); rw [fK_no hf]; done) | ((try dsimp only); rw [fK_no hf]; rfl))
   ·
    have hf : isFst l nm bd i k = true := by
     unfold isFst;simp only [Bool.or_eq_false_iff, Bool.not_eq_false', decide_eq_false_iff_not, ne_eq, Decidable.not_not, ba_eq] at h2;rw [h2.1.1, decide_eq_true h2.1.2, decide_eq_true h2.2]; rfl
    refine n5 <|n8 ?_;iterate 2 refine AO.c ?_
    refine n1 ?_;refine AW.iteB (GL.ev _) (fun h3 => ?_) (fun h3 => ?_)
    ·
     rw [decide_eq_true_eq] at h3;refine AW.region ?_;iterate 4 refine AO.c ?_
     refine AO.sst ?_;refine n1 <|AW.region ?_;refine AO.c ?_;refine AO.oo ?_;refine AO.c ?_;refine n7 ?_;refine AO.c ?_;refine AO.oo ?_;refine AO.c ?_;refine AO.nil ?_
     exact AW.backE [.k, .f, .k, .k, .f, .k, .f, .f, .k, .f, .k, .k, .k, .k, .F, .F, .F, .F, .F, .F, .F, .f, .f] (j2) (m1 - 1) (k + 1, j2 + 1) (by omega) (by (try dsimp only); exact ⟨by omega, by omega⟩) (by first | ((try dsimp only); rw [fK_yes hf]; done) | ((try dsimp only); rw [fK_yes hf]; rfl)) (by first | ((try dsimp only); rw [fK_yes hf, if_pos h3]; done) | ((try dsimp only); rw [fK_yes hf, if_pos h3]; rfl))
    ·
     rw [decide_eq_false_iff_not] at h3;refine n5 <|AW.region ?_;refine AO.c ?_;refine AO.oo ?_;refine AO.c ?_;refine n7 ?_;refine AO.c ?_;refine AO.oo ?_;refine AO.c ?_;refine AO.nil ?_
     exact AW.backE [.k, .f, .k, .k, .f, .k, .f, .f, .k, .f, .k, .k, .k, .k, .F, .F, .F, .F, .F, .F, .F, .f, .f] (j2) (m1 - 1) (k + 1, j2 + 1) (by omega) (by (try dsimp only); exact ⟨by omega, by omega⟩) (by first | ((try dsimp only); rw [fK_yes hf]; done) | ((try dsimp only); rw [fK_yes hf]; rfl)) (by first | ((try dsimp only); rw [fK_yes hf, if_neg h3]; done) | ((try dsimp only); rw [fK_yes hf, if_neg h3]; rfl))
  ·
   rw [decide_eq_false_iff_not] at h1;have hk : k = (l.getD i default).syms.length := by omega
   subst hk;refine AW.exit <|SQ.exit <|AW.out <|LU.exit <|BQ.exit <|BQ.normal <|SQ.normal <|AW.region ?_;refine AO.c ?_;refine AO.oo ?_;refine AO.c ?_;refine AO.nil ?_
   exact AW.backE [.k, .f, .k, .k, .f, .k, .f, .f, .k, .f, .k, .k, .k, .F, .F, .F, .F, .F, .F, .F, .f, .f, .f] (j) (m0 - 1) (i + 1, j + j2) (by omega) (by (try dsimp only); exact ⟨by omega, by omega⟩) (by first | rfl | (simp; done)) ((Hn_repJ (b := j + j2) (by first | (simp; done) | (simp; omega))).trans (by (try dsimp only) <;> rfl))
 ·
  rw [decide_eq_false_iff_not] at h0;have hi : i = l.length := by omega
  subst hi;refine AW.exit <|SQ.exit <|AW.out <|LU.exit <|BQ.exit <|SQ.normal <|n2 ?_;iterate 2 refine AO.c ?_
  refine AO.sst ?_;refine AO.c ?_;refine na ?_;refine Fin.ret (Gh.refl) noid2 ?_
  first | rfl | (simp [packA]; done)
set_option maxHeartbeats 4000000 in
theorem ref_FindN (l : List ObjD) (hw : ResW l) (L : List DefD) (nm : ByteArray) : A0 Tryz.prog 36 [.rd 5 (l.map objA), .agg (tabA ⟨dropF l l.length, L⟩), .v (.string nm)] (fun ret => ret = .tup [.agg (defA (findR l nm).1), .v (.bool (findR l nm).2)]) := by
 refine A0.body 30 Tryz.func36 rfl rfl Tryz.ntmps36 fun base n0 => ?_
 refine n2 ?_;iterate 2 refine AO.ww ?_
 refine AO.c ?_;refine n3 ?_;iterate 3 refine AO.c ?_
 refine AO.call1 Tryz.func35 rfl rfl (ref_First l hw L nm 1) ?_;iterate 3 refine AO.c ?_
 refine AO.ww ?_;refine AO.sst ?_;refine AO.c ?_;refine n4 ?_;iterate 2 refine AO.c ?_
 refine n1 ?_;refine AW.iteB (GL.ev _) (fun h0 => ?_) (fun h0 => ?_)
 ·
  rw [decide_eq_true_eq] at h0;have e : findR l nm = ((fI l nm 1 l.length).1, true) := by unfold findR; rw [if_pos h0]
  refine n2 ?_;refine AO.c ?_;refine AO.sst ?_;refine AO.c ?_;refine na <|SQ.ret ?_;refine Fin.ret (Gh.refl) noid2 ?_;rw [e]; rfl
 ·
  rw [decide_eq_false_iff_not] at h0;have e : findR l nm = ((fI l nm 2 l.length).1, decide ((fI l nm 2 l.length).2 > 0)) := by unfold findR; rw [if_neg h0]
  refine n6 ?_;iterate 3 refine AO.c ?_
  refine AO.call1 Tryz.func35 rfl rfl (ref_First l hw L nm 2) ?_;iterate 3 refine AO.c ?_
  refine AO.sst ?_;refine AO.c ?_;refine n3 ?_;iterate 3 refine AO.c ?_
  refine AO.sst ?_;refine AO.c ?_;refine na ?_;refine Fin.ret (Gh.refl) noid2 ?_;rw [e]; rfl
@[reducible] def z2 : OT := (.one 0 false (.one 1 false (.one 2 false (.one 3 false (.one 4 false (.one 5 false (.one 6 false (.one 7 false .nil))))))))
set_option maxHeartbeats 4000000 in
theorem ref_put (L : List DefD) (d : DefD) (hL : L.length ≤ 1000000) : A0 Tryz.prog 37 [.rd 3 (L.map defA), .agg (defA d)] (fun ret => ret = .rd 3 ((putF L d).map defA)) := by
 refine A0.body 64 Tryz.func37 rfl rfl Tryz.ntmps37 fun base n0 => ?_
 refine n2 ?_;refine AO.ww ?_;refine AO.c ?_;refine n3 ?_;refine AO.c ?_;refine n1 <|AW.seq' <|AW.seq' ?_;refine AW.ghost (Gh.adoptM 5 90 3) ?_;refine AW.region ?_;refine AO.c ?_;refine nb ?_
 refine AW.loopU2 [.k, .f, .f, .k, .f, .k, .k, .F, .F, .F, .F, .F, .F, .F, .f] (fun (i ep : Nat) => [(5, .own (n0 + 1) ep 0 ((L.take i).filter (fun x : DefD => sLt x.name d.name)).length), (6, .v (.int .i64 ((i : Int))))]) (fun i ep => Hn n0 [some (.box 90 (defA d)), some (.row 90 3 (ep) (((L.take i).filter (fun x : DefD => sLt x.name d.name)).map defA))]) (fun m i ep => (i ≤ L.length ∧ m = L.length - i) ∧ ∀ q, q < i → (L.getD q default).name ≠ d.name) (L.length) (0) (0) ⟨by omega, fun q h => by omega⟩ (by first | rfl | (simp; done)) (by first | rfl | (simp; done)) ?_
 rintro m0 i ep ⟨hx1, hx2⟩
 refine n8 ?_;iterate 4 refine AO.c ?_
 refine n1 ?_;refine AW.iteB (GL.ev _) (fun h0 => ?_) (fun h0 => ?_)
 ·
  rw [decide_eq_true_eq] at h0;have hi : i < L.length := by omega
  have hfl := List.length_filter_le (fun x : DefD => sLt x.name d.name) (L.take i);rw [List.length_take] at hfl;refine n5 <|AW.seq' <|AW.block' <|AW.seq' <|AW.seq' ?_;refine AW.drawsZ [] z2 (by kernel_rfl) rfl (by kernel_rfl) ?_;iterate 2 refine AZ.c rfl ?_
  refine AZ.oo rfl ?_;iterate 5 refine AZ.c rfl ?_
  refine AZ.done ?_;refine SQ.normal ?_;refine AW.iteB (GL.ev _) (fun h1 => ?_) (fun h1 => ?_)
  ·
   rw [decide_eq_true_eq, ba_eq] at h1;have hput : putF L d = L := by unfold putF; rw [if_pos ⟨L.getD i default, getD_in hi, h1⟩]
   refine n2 ?_;iterate 2 refine AO.c ?_
   refine na <|SQ.ret <|BQ.ret <|SQ.ret <|AW.out <|LU.ret <|BQ.ret <|SQ.ret ?_;refine Fin.ret (Gh.refl) noid1 ?_;rw [hput]; rfl
  ·
   rw [decide_eq_false_iff_not, ba_eq] at h1;have hal : ∀ q, q < i + 1 → (L.getD q default).name ≠ d.name := fun q hq => by
    by_cases e : q = i
    · rw [e]; exact h1
    · exact hx2 q (by omega)
   refine n5 <|AW.seq' ?_;refine AW.drawsZ [] z2 (by kernel_rfl) rfl (by kernel_rfl) ?_;iterate 2 refine AZ.c rfl ?_
   refine AZ.oo rfl ?_;iterate 5 refine AZ.c rfl ?_
   refine AZ.done ?_;refine SQ.normal ?_;refine AW.iteB (GL.ev _) (fun h2 => ?_) (fun h2 => ?_)
   ·
    skip;refine AW.region ?_;iterate 3 refine AO.c ?_
    refine AO.oo ?_;refine AO.c ?_;refine AO.rr ?_;refine AO.ww ?_;refine AO.c ?_;refine n7 ?_;refine AO.c ?_;refine AO.oo ?_;refine AO.c ?_;refine AO.nil ?_
    exact AW.backU [.k, .f, .f, .k, .f, .k, .k, .F, .F, .F, .F, .F, .F, .F, .f] (m0 - 1) (i + 1, ep + 1) (by omega) (by (try dsimp only); exact ⟨by omega, hal⟩) (by (try dsimp only); rw [filter_snoc hi, if_pos h2]; simp) (by first | ((try dsimp only); rw [filter_snoc hi, if_pos h2, List.map_append]; done) | ((try dsimp only); rw [filter_snoc hi, if_pos h2, List.map_append]; rfl))
   ·
    skip;refine n9 ?_;refine AO.c ?_;refine AO.oo ?_;refine AO.c ?_;refine AO.nil ?_
    exact AW.backU [.k, .f, .f, .k, .f, .k, .k, .F, .F, .F, .F, .F, .F, .F, .f] (m0 - 1) (i + 1, ep) (by omega) (by (try dsimp only); exact ⟨by omega, hal⟩) (by first | ((try dsimp only); rw [filter_snoc hi, if_neg (by rw [h2]; decide), List.append_nil]; done) | ((try dsimp only); rw [filter_snoc hi, if_neg (by rw [h2]; decide), List.append_nil]; rfl)) (by (try dsimp only); rw [filter_snoc hi, if_neg (by rw [h2]; decide), List.append_nil])
 ·
  rw [decide_eq_false_iff_not] at h0;have hi : i = L.length := by omega
  subst hi;rw [List.take_length];have hne : ¬ ∃ x ∈ L, x.name = d.name := by
   rintro ⟨x, hx, he⟩
   obtain ⟨q, hq, rfl⟩ := List.getElem_of_mem hx;have := hx2 q hq;rw [List.getD_eq_getElem?_getD, List.getElem?_eq_getElem hq] at this;exact this he
  have hput : putF L d = L.filter (fun x : DefD => sLt x.name d.name) ++ [d] ++ L.filter (fun x : DefD => sLt d.name x.name) := by unfold putF; rw [if_neg hne]
  have hfl := List.length_filter_le (fun x : DefD => sLt x.name d.name) L;refine AW.exit <|SQ.exit <|AW.out <|LU.exit <|BQ.exit <|SQ.normal <|n2 ?_;iterate 2 refine AO.c ?_
  refine AO.rr ?_;refine AO.ww ?_;refine AO.c ?_;refine n4 ?_;refine AO.c ?_;refine nb ?_
  refine AW.loopU2 [.k, .f, .f, .k, .f, .k, .f, .k, .F, .F, .F, .F, .F, .F, .F] (fun (i e2 : Nat) => [(5, .own (n0 + 1) e2 0 (L.filter (fun x : DefD => sLt x.name d.name) ++ [d] ++ (L.take i).filter (fun x : DefD => sLt d.name x.name)).length), (7, .v (.int .i64 ((i : Int))))]) (fun i e2 => Hn n0 [some (.box 90 (defA d)), some (.row 90 3 (e2) ((L.filter (fun x : DefD => sLt x.name d.name) ++ [d] ++ (L.take i).filter (fun x : DefD => sLt d.name x.name)).map defA))]) (fun m i e2 => (i ≤ L.length ∧ m = L.length - i)) (L.length) (0) (ep + 1) ⟨by omega, by omega⟩ (by simp) (by simp) ?_
  rintro m1 i e2 ⟨hy1, hy2⟩
  refine n8 ?_;iterate 4 refine AO.c ?_
  refine n1 ?_;refine AW.iteB (GL.ev _) (fun h3 => ?_) (fun h3 => ?_)
  ·
   rw [decide_eq_true_eq] at h3;have hi : i < L.length := by omega
   have hf2 := List.length_filter_le (fun x : DefD => sLt d.name x.name) (L.take i);rw [List.length_take] at hf2;refine n5 <|AW.seq' <|AW.block' <|AW.seq' ?_;refine AW.drawsZ [] z2 (by kernel_rfl) rfl (by kernel_rfl) ?_;iterate 2 refine AZ.c rfl ?_
   refine AZ.oo rfl ?_;iterate 5 refine AZ.c rfl ?_
   refine AZ.done ?_;refine SQ.normal ?_;refine AW.iteB (GL.ev _) (fun h4 => ?_) (fun h4 => ?_)
   ·
    skip;refine AW.region ?_;iterate 3 refine AO.c ?_
    refine AO.oo ?_;refine AO.c ?_;refine AO.rr ?_;refine AO.ww ?_;refine AO.c ?_;refine n7 ?_;refine AO.c ?_;refine AO.oo ?_;refine AO.c ?_;refine AO.nil ?_
    exact AW.backU [.k, .f, .f, .k, .f, .k, .f, .k, .F, .F, .F, .F, .F, .F, .F] (m1 - 1) (i + 1, e2 + 1) (by omega) (by (try dsimp only); exact ⟨by omega, by omega⟩) (by first | ((try dsimp only); rw [filter_snoc hi, if_pos h4, ← List.append_assoc]; simp; done) | ((try dsimp only); rw [filter_snoc hi, if_pos h4, ← List.append_assoc]; simp; omega)) (by first | ((try dsimp only); rw [filter_snoc hi, if_pos h4, ← List.append_assoc, List.map_append (l₂ := [L.getD i default])]; done) | ((try dsimp only); rw [filter_snoc hi, if_pos h4, ← List.append_assoc, List.map_append (l₂ := [L.getD i default])]; rfl))
   ·
    skip;refine n9 ?_;refine AO.c ?_;refine AO.oo ?_;refine AO.c ?_;refine AO.nil ?_
    exact AW.backU [.k, .f, .f, .k, .f, .k, .f, .k, .F, .F, .F, .F, .F, .F, .F] (m1 - 1) (i + 1, e2) (by omega) (by (try dsimp only); exact ⟨by omega, by omega⟩) (by first | ((try dsimp only); rw [filter_snoc hi, if_neg (by rw [h4]; decide), List.append_nil]; done) | ((try dsimp only); rw [filter_snoc hi, if_neg (by rw [h4]; decide), List.append_nil]; rfl)) (by (try dsimp only); rw [filter_snoc hi, if_neg (by rw [h4]; decide), List.append_nil])
  ·
   rw [decide_eq_false_iff_not] at h3;have hi : i = L.length := by omega
   subst hi;rw [List.take_length];refine AW.exit <|SQ.exit <|AW.out <|LU.exit <|BQ.exit <|SQ.normal <|AW.seq' ?_
   refine AW.ghost (Gh.freezeM 5 defA (putF L d) (by rw [hput]) (by rw [hput]) (by rw [hput]; have h1 := List.length_filter_le (fun x : DefD => sLt x.name d.name) L; have h2 := List.length_filter_le (fun x : DefD => sLt d.name x.name) L; simp only [List.length_append, List.length_cons, List.length_nil]; omega)) ?_;refine AW.region ?_;iterate 2 refine AO.c ?_
   refine na ?_;refine Fin.ret (Gh.refl) noid1 ?_;rfl
theorem set_get {r : List Bool} {p j : Nat} {b : Bool} : (r.set p b)[j]? = if p = j then (r[j]?).map (fun _ => b) else r[j]? := by
 by_cases e : p = j
 · subst e
   rw [if_pos rfl];by_cases hl : p < r.length
   · rw [List.getElem?_set_self hl, List.getElem?_eq_getElem hl]; rfl
   · rw [List.getElem?_eq_none (by rw [List.length_set]; omega), List.getElem?_eq_none (by omega)]; rfl
 · rw [List.getElem?_set_ne e, if_neg e]
theorem memSet_get (b : Bool) : ∀ (m : List Int) (r : List Bool) (j : Nat), (memSet b r m)[j]? = if ∃ n ∈ m, (n - 1).toNat = j then (r[j]?).map fun _ => b else r[j]? := by
 intro m
 induction m with
 | nil => intro r j; rw [if_neg (by rintro ⟨n, h, _⟩; cases h)]; rfl
 | cons x m ih =>
  intro r j;show (memSet b (r.set (x - 1).toNat b) m)[j]? = _
  rw [ih, set_get];by_cases h : ∃ n ∈ m, (n - 1).toNat = j
  · rw [if_pos h, if_pos (show ∃ n ∈ x :: m, (n - 1).toNat = j from by obtain ⟨n, h1, h2⟩ := h; exact ⟨n, by simp [h1], h2⟩)]
    split
    · cases r[j]? <;> rfl
    · rfl
  · rw [if_neg h]
    by_cases e : (x - 1).toNat = j
    · rw [if_pos e, if_pos ⟨x, by simp, e⟩]
    · rw [if_neg e, if_neg]
      rintro ⟨n, h1, h2⟩
      rcases List.mem_cons.1 h1 with rfl | h1
      · exact e h2
      · exact h ⟨n, h1, h2⟩
theorem memSet_same {b : Bool} {m : List Int} {r : List Bool} (h : ∀ n ∈ m, r[(n - 1).toNat]? ≠ some (!b)) : memSet b r m = r := by
 apply List.ext_getElem?;intro j;rw [memSet_get]
 split
 · rename_i hx
   obtain ⟨n, h1, rfl⟩ := hx;have := h n h1
   cases hr : r[(n - 1).toNat]? with
   | none => rfl
   | some y =>
    rw [hr] at this
    cases y <;> cases b <;> simp at this ⊢
 · rfl
theorem dropK_true {l : List ObjD} {i : Nat} : ∀ k j, (dropK l i k)[j]? = some true → ∃ k', k' < k ∧ ∃ n ∈ ((l.getD i default).groups.getD k' default).mem, (n - 1).toNat = j := by
 intro k
 induction k with
 | zero =>
  intro j h;rw [dropK, List.getElem?_replicate] at h
  split at h <;> cases h
 | succ k ih =>
  intro j h;rw [dropK, memSet_get] at h
  split at h
  · rename_i hx; exact ⟨k, by omega, hx⟩
  · obtain ⟨k', h1, h2⟩ := ih j h
    exact ⟨k', by omega, h2⟩
theorem sum_nonneg {f : GrpD → Int} (hf : ∀ g, 0 ≤ f g) : ∀ gs : List GrpD, 0 ≤ (gs.map f).sum := by
 intro gs
 induction gs with
 | nil => exact Int.le_refl _
 | cons g gs ih => rw [List.map_cons, List.sum_cons]; have := hf g; omega
theorem sum_one {f : GrpD → Int} (hf : ∀ g, 0 ≤ f g) : ∀ (gs : List GrpD) (k : Nat), k < gs.length → f (gs.getD k default) ≤ (gs.map f).sum := by
 intro gs
 induction gs with
 | nil => intro k h; simp at h
 | cons g gs ih =>
  intro k h;rw [List.map_cons, List.sum_cons]
  cases k with
  | zero => have := sum_nonneg hf gs; show f g ≤ _; omega
  | succ k =>
   have h1 := ih k (by simpa using h);have h2 := hf g;show f (gs.getD k default) ≤ _
   omega
theorem sum_two {f : GrpD → Int} (hf : ∀ g, 0 ≤ f g) : ∀ (gs : List GrpD) (a k : Nat), a < k → k < gs.length → f (gs.getD a default) + f (gs.getD k default) ≤ (gs.map f).sum := by
 intro gs
 induction gs with
 | nil => intro a k _ h; simp at h
 | cons g gs ih =>
  intro a k ha h;rw [List.map_cons, List.sum_cons];obtain ⟨k, rfl⟩ : ∃ q, k = q + 1 := ⟨k - 1, by omega⟩
  cases a with
  | zero =>
   have := sum_one hf gs k (by simpa using h);show f g + f (gs.getD k default) ≤ _
   omega
  | succ a =>
   have h1 := ih a k (by omega) (by simpa using h);have h2 := hf g;show f (gs.getD a default) + f (gs.getD k default) ≤ _
   omega
theorem section_member {o : ObjD} {n : Int} (h : sectionB o n = true) : memberF o.groups n ≤ 1 := by
 unfold sectionB at h;obtain ⟨_, h⟩ := bif_ff h;obtain ⟨_, h⟩ := bif_ff h;simp only [Bool.or_eq_true, Bool.and_eq_true, decide_eq_true_eq] at h;omega
theorem drop_same {l : List ObjD} {i : Nat} (hi : i < l.length) (hw : GrpW l) (hm : ∀ k, k < (l.getD i default).secs.length → memberF (l.getD i default).groups ((k : Int) + 1) ≤ 1) : ∀ k, k ≤ (l.getD i default).groups.length → dropK l i k = dRk l i k := by
 intro k
 induction k with
 | zero => intro _; rfl
 | succ k ih =>
  intro hk;have e := ih (by omega)
  cases ha : ahB l i k with
  | true => rw [dropK, dRk_yes ha, ha, e]
  | false =>
   rw [dropK, dRk_no ha, ha, ← e];refine memSet_same fun n hn ht => ?_
   obtain ⟨k', h1, n', h2, h3⟩ := dropK_true k _ ht;obtain ⟨q, hq, e1⟩ := List.getElem_of_mem hn;obtain ⟨q', hq', e2⟩ := List.getElem_of_mem h2;have b1 := (hw.mem i k hi (by omega)).2 q hq;have b2 := (hw.mem i k' hi (by omega)).2 q' hq';rw [List.getD_eq_getElem?_getD, List.getElem?_eq_getElem hq, e1] at b1;rw [List.getD_eq_getElem?_getD, List.getElem?_eq_getElem hq', e2] at b2
   simp only [Option.getD_some] at b1 b2;have en : n' = n := by omega
   subst en;have h4 := hm (n' - 1).toNat (by omega);rw [show (((n' - 1).toNat : Nat) : Int) + 1 = n' by omega] at h4;have h5 := sum_two (f := fun g => (g.mem.count n' : Int)) (fun g => by omega) (l.getD i default).groups k' k h1 (by omega);have c1 : 0 < ((l.getD i default).groups.getD k' default).mem.count n' := List.count_pos_iff.2 h2
   have c2 : 0 < ((l.getD i default).groups.getD k default).mem.count n' := List.count_pos_iff.2 hn;have h6 : memberF (l.getD i default).groups n' = ((l.getD i default).groups.map fun g => (g.mem.count n' : Int)).sum := rfl;rw [h6] at h4;omega
theorem dropR_eq {l : List ObjD} (hk : LOk l) (hm : AllMay l) {i : Nat} (hi : i < l.length) : dropR l i = dRf l i := by
 have hin : l.getD i default ∈ l := getD_in hi;have h1 := hm.2 _ hin;unfold mayP at h1;simp only [Bool.and_eq_true] at h1;exact drop_same hi (may_res hk hm).g (fun k hk2 => section_member ((shape_parts h1.1).2.2.1 k hk2)) _ (Nat.le_refl _)
end Go.Proofs.YtkbbcenjklaglaaGreat.AL
