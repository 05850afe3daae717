/- What functions of the program compute, each by its own contract; the conditions stand with each. -/
import Derived.Test.YtlapfdfbgckfcaaFInsn7
import Derived.Test.YtlapfdfbgckfcaaFInsn4
namespace Go.Proofs.Ytlapfdfbgckfcaa.AL
open Go Go.RowKit Go.Proofs.Ytlapfdfbgckfcaa.Base
set_option linter.unusedVariables false
set_option linter.unusedSimpArgs false
set_option maxRecDepth 4000
set_option synthInstance.maxSize 1000
set_option synthInstance.maxHeartbeats 200000

theorem Gh.pre {base : Cx} {s s1 : St} {X : St → Prop} (h : Gh base s s1) (k : ∃ s2, Gh base s1 s2 ∧ X s2) : ∃ s2, Gh base s s2 ∧ X s2 := by
  obtain ⟨s2, h1, h2⟩ := k
  exact ⟨s2, h.trans h1, h2⟩
theorem eq_dec2 {o : Option InsD} {x : InsD} : (!o.isSome || !eqI (o.getD noIns) x) = !decide (o = some x) := by
  cases o with
  | none => rfl
  | some z =>
    rw [eqI_iff, Bool.eq_iff_iff]
    simp
theorem headsR_len (op : Int) : (headsR op).length ≤ 3 := by
  unfold headsR
  (repeat' split) <;> simp
theorem bldR_of {x : InsD} {out : List Int} {w : Int} (h : preR x = (out, w)) (hw : w = 0 ∨ w = 4 ∨ w = 8) : out ++ (if Wide w then dig (IntKind.u64.wrap x.imm) w.toNat else []) = bldR x := by
  unfold bldR
  rw [h, wu64_mod]
  simp only [wide_084 hw]
theorem Bytes.app {a b : List Int} (ha : Bytes a) (hb : Bytes b) : Bytes (a ++ b) := fun x hx => by
  rcases List.mem_append.1 hx with h | h
  · exact ha x h
  · exact hb x h
theorem bldR_bytes {x : InsD} (h0 : 0 ≤ x.r ∧ x.r ≤ 7 ∧ 0 ≤ x.m ∧ x.m ≤ 7) : Bytes (bldR x) := by
  have hp : Bytes (preR x).1 := by
    unfold preR
    have hh : Bytes (headsR x.op) := by
      unfold headsR
      (repeat' split) <;> (intro y hy; first | omega | (simp at hy; omega) | (simp at hy))
    (repeat' (refine bytes_ite (fun _ => ?_) (fun _ => ?_))) <;> (intro y hy; try simp only [List.mem_append, List.mem_cons, List.not_mem_nil, or_false] at hy) <;> first | omega | (rcases hy with hy | hy; exact hh y hy; omega)
  unfold bldR
  refine Bytes.app hp ?_
  split
  · exact dig_bytes _ _
  · intro y hy; cases hy

set_option maxHeartbeats 4000000 in
theorem ref_Encode (x : InsD) : A0 Try.prog 17 [.agg (insA x)] (fun ret => ret = .rd 1 (bys (encR x))) := by
  have hu8 : ∀ y : Int, IntKind.u8.wrap y = y % 256 := fun y => by simp [IntKind.wrap, IntKind.bits, IntKind.signed]
  have hu : 0 ≤ IntKind.u64.wrap x.imm ∧ IntKind.u64.wrap x.imm ≤ 18446744073709551615 := by rw [wu64_mod]; omega
  have hh3 := headsR_len x.op
  refine A0.body 142 Try.func17 rfl rfl Try.ntmps17 fun base n0 => ?_
  refine AW.seq' ?_
  refine AW.region ?_
  refine AO.ww ?_
  refine AO.c ?_
  refine AO.nil ?_
  refine SQ.normal ?_
  refine AW.seq' ?_
  refine AW.seq' ?_
  refine AW.region ?_
  refine AO.c ?_
  refine AO.c ?_
  refine AO.c ?_
  refine AO.c ?_
  refine AO.gx ?_
  refine AO.gx ?_
  refine AO.gx ?_
  refine AO.c ?_
  refine AO.c ?_
  refine AO.gx ?_
  refine AO.gx ?_
  refine AO.gx ?_
  refine AO.c ?_
  refine AO.c ?_
  refine AO.gx ?_
  refine AO.gx ?_
  refine AO.gx ?_
  refine AO.c ?_
  refine AO.nil ?_
  refine SQ.normal ?_
  refine AW.iteB (GL.ev _) (fun h0 => ?_) (fun h0 => ?_)
  · skip
    simp only [Bool.or_eq_true, decide_eq_true_eq] at h0
    have e : encR x = [] := by unfold encR; rw [if_pos (by omega)]
    refine AW.seq' ?_
    refine AW.region ?_
    refine AO.c ?_
    refine AO.nil ?_
    refine SQ.normal ?_
    refine AW.ret ?_
    refine SQ.ret ?_
    refine Fin.ret (Gh.nilB 2) noid1 ?_
    rw [e]; rfl
  · skip
    simp only [Bool.or_eq_false_iff, decide_eq_false_iff_not] at h0
    refine AW.skip ?_
    refine SQ.normal ?_
    refine AW.seq' ?_
    refine AW.region ?_
    refine AO.c ?_
    refine AO.nil ?_
    refine SQ.normal ?_
    refine AW.seq' ?_
    refine AW.region ?_
    refine AO.c ?_
    refine AO.nil ?_
    refine SQ.normal ?_
    refine AW.joinM [.f, .k, .f, .k, .k, .F, .F, .F, .F, .F, .F, .F, .F, .F, .F, .F, .F, .F, .F, .F, .F, .F, .f] (fun (p : List Int × Int × Nat) => [(3, .own (n0 + 1) p.2.2 0 p.1.length), (4, .v (.int .i64 (p.2.1)))]) (fun (p : List Int × Int × Nat) => Hn n0 [some (.box 39 (insA x)), some (.row 5 1 p.2.2 (bys p.1))]) (fun (p : List Int × Int × Nat) => p.1.length ≤ 4 ∧ preR x = (p.1, p.2.1) ∧ (p.2.1 = 0 ∨ p.2.1 = 4 ∨ p.2.1 = 8)) ?_ (fun (p : List Int × Int × Nat) hp => ?_)
    · skip
      refine AW.seq' ?_
      refine AW.region ?_
      refine AO.c ?_
      refine AO.c ?_
      refine AO.nil ?_
      refine SQ.normal ?_
      refine AW.block' ?_
      refine AW.joinM [.f, .k, .f, .k, .k, .F, .F, .f, .f, .f, .f, .f, .k, .k, .F, .F, .F, .F, .F, .F, .F, .F, .F, .F, .F, .F, .F, .F, .f, .f] (fun (q : Bool) => [(27, .v (.bool q))]) (fun (q : Bool) => Hn n0 [some (.box 39 (insA x))]) (fun (q : Bool) => q = decide (x.op = 1 ∨ x.op = 11)) ?_ (fun (q : Bool) hq => ?_)
      · skip
        refine AW.seq' ?_
        refine AW.region ?_
        refine AO.c ?_
        refine AO.c ?_
        refine AO.nil ?_
        refine SQ.normal ?_
        refine AW.iteB (GL.ev _) (fun h1 => ?_) (fun h1 => ?_)
        · skip
          rw [decide_eq_true_eq] at h1
          refine AW.skip ?_
          exact AW.backJ [.f, .k, .f, .k, .k, .F, .F, .f, .f, .f, .f, .f, .k, .k, .F, .F, .F, .F, .F, .F, .F, .F, .F, .F, .F, .F, .F, .F, .f, .f] (decide (x.op = 1)) (by simp [*]) (by first | rfl | (simp; done)) (by first | rfl | (simp; done))
        · skip
          rw [decide_eq_false_iff_not] at h1
          refine AW.region ?_
          refine AO.c ?_
          refine AO.c ?_
          refine AO.nil ?_
          exact AW.backJ [.f, .k, .f, .k, .k, .F, .F, .f, .f, .f, .f, .f, .k, .k, .F, .F, .F, .F, .F, .F, .F, .F, .F, .F, .F, .F, .F, .F, .f, .f] (decide (x.op = 11)) (by simp [*]) (by first | rfl | (simp; done)) (by first | rfl | (simp; done))
      subst hq
      refine AW.iteB (GL.ev _) (fun h2 => ?_) (fun h2 => ?_)
      · skip
        rw [decide_eq_true_eq] at h2
        refine AW.seq' ?_
        apply AW.mid
        case h =>
          refine AW.drawsZ [8] (.one 0 false (.one 1 false (.one 3 false (.one 4 false (.one 5 false (.one 6 false (.two 2 7 (.one 7 true (.one 8 true (.one 9 false .nil))) (.one 2 true (.one 8 true (.one 9 false .nil)))))))))) (by kernel_rfl) rfl (by kernel_rfl) ?_
          refine AZ.c rfl ?_
          refine AZ.c rfl ?_
          refine AZ.c rfl ?_
          refine AZ.c rfl ?_
          refine AZ.oo rfl ?_
          refine AZ.pw rfl ?_
          refine AZ.two ?_ ?_
          · refine AZi.callR rfl Try.func40 rfl rfl (ref_headsR x.op) (by rw [bys_length]) ?_
            refine AZ.rr rfl ?_
            refine AZ.ww rfl rfl ?_
            refine AZ.c rfl ?_
            exact AZ.done ⟨rfl, rfl⟩
          · refine AZi.rr rfl ?_
            refine AZ.callR rfl Try.func40 rfl rfl (ref_headsR x.op) (by rw [bys_length]) ?_
            refine AZ.ww rfl rfl ?_
            refine AZ.c rfl ?_
            exact AZ.done ⟨rfl, rfl⟩
        refine SQ.normal ?_
        refine AW.region ?_
        refine AO.c ?_
        refine AO.nil ?_
        refine BQ.normal ?_
        exact AW.backJ [.f, .k, .f, .k, .k, .F, .F, .F, .F, .F, .F, .F, .F, .F, .F, .F, .F, .F, .F, .F, .F, .F, .f] (((headsR x.op ++ [IntKind.u8.wrap (192 + x.m)]), (4), 1)) ⟨by (try simp only [List.length_append]); (try simp only [List.length_cons, List.length_nil]); omega, by unfold preR; (repeat (first | rw [if_neg (by omega)] | rw [if_pos (by omega)])); (try simp only [hu8]); (repeat (first | rw [Int.emod_eq_of_lt (by omega) (by omega)])); (try rfl), by (try dsimp only); omega⟩ (by (try dsimp only); rw [List.length_append] <;> rfl) (by first | rfl | (simp; done))
      · skip
        rw [decide_eq_false_iff_not] at h2
        refine AW.seq' ?_
        refine AW.region ?_
        refine AO.c ?_
        refine AO.c ?_
        refine AO.nil ?_
        refine SQ.normal ?_
        refine AW.iteB (GL.ev _) (fun h3 => ?_) (fun h3 => ?_)
        · skip
          rw [decide_eq_true_eq] at h3
          refine AW.seq' ?_
          refine AW.region ?_
          refine AO.c ?_
          refine AO.c ?_
          refine AO.oo ?_
          refine AO.pw ?_
          refine AO.ww ?_
          refine AO.c ?_
          refine AO.nil ?_
          refine SQ.normal ?_
          refine AW.region ?_
          refine AO.c ?_
          refine AO.nil ?_
          refine BQ.normal ?_
          exact AW.backJ [.f, .k, .f, .k, .k, .F, .F, .F, .F, .F, .F, .F, .F, .F, .F, .F, .F, .F, .F, .F, .F, .F, .f] ((([72, IntKind.u8.wrap (184 + x.m)]), (8), 0)) ⟨by (try simp only [List.length_append]); (try simp only [List.length_cons, List.length_nil]); omega, by unfold preR; (repeat (first | rw [if_neg (by omega)] | rw [if_pos (by omega)])); (try simp only [hu8]); (repeat (first | rw [Int.emod_eq_of_lt (by omega) (by omega)])); (try rfl), by (try dsimp only); omega⟩ (by first | rfl | (simp; done)) (by first | rfl | (simp; done))
        · skip
          rw [decide_eq_false_iff_not] at h3
          refine AW.seq' ?_
          refine AW.region ?_
          refine AO.c ?_
          refine AO.c ?_
          refine AO.nil ?_
          refine SQ.normal ?_
          refine AW.iteB (GL.ev _) (fun h4 => ?_) (fun h4 => ?_)
          · skip
            rw [decide_eq_true_eq] at h4
            refine AW.seq' ?_
            apply AW.mid
            case h =>
              refine AW.drawsZ [9] (.one 0 false (.one 1 false (.one 3 false (.one 4 false (.one 5 false (.one 6 false (.one 7 false (.two 2 8 (.one 8 true (.one 9 true (.one 10 false .nil))) (.one 2 true (.one 9 true (.one 10 false .nil))))))))))) (by kernel_rfl) rfl (by kernel_rfl) ?_
              refine AZ.c rfl ?_
              refine AZ.c rfl ?_
              refine AZ.c rfl ?_
              refine AZ.c rfl ?_
              refine AZ.oo rfl ?_
              refine AZ.oo rfl ?_
              refine AZ.pw rfl ?_
              refine AZ.two ?_ ?_
              · refine AZi.callR rfl Try.func40 rfl rfl (ref_headsR x.op) (by rw [bys_length]) ?_
                refine AZ.rr rfl ?_
                refine AZ.ww rfl rfl ?_
                refine AZ.c rfl ?_
                exact AZ.done ⟨rfl, rfl⟩
              · refine AZi.rr rfl ?_
                refine AZ.callR rfl Try.func40 rfl rfl (ref_headsR x.op) (by rw [bys_length]) ?_
                refine AZ.ww rfl rfl ?_
                refine AZ.c rfl ?_
                exact AZ.done ⟨rfl, rfl⟩
            refine SQ.normal ?_
            refine AW.region ?_
            refine AO.c ?_
            refine AO.nil ?_
            refine BQ.normal ?_
            exact AW.backJ [.f, .k, .f, .k, .k, .F, .F, .F, .F, .F, .F, .F, .F, .F, .F, .F, .F, .F, .F, .F, .F, .F, .f] (((headsR x.op ++ [IntKind.u8.wrap (5 + 8 * x.r)]), (4), 1)) ⟨by (try simp only [List.length_append]); (try simp only [List.length_cons, List.length_nil]); omega, by unfold preR; (repeat (first | rw [if_neg (by omega)] | rw [if_pos (by omega)])); (try simp only [hu8]); (repeat (first | rw [Int.emod_eq_of_lt (by omega) (by omega)])); (try rfl), by (try dsimp only); omega⟩ (by (try dsimp only); rw [List.length_append] <;> rfl) (by first | rfl | (simp; done))
          · skip
            rw [decide_eq_false_iff_not] at h4
            refine AW.joinM [.f, .k, .f, .k, .k, .F, .F, .f, .f, .f, .f, .f, .k, .F, .F, .F, .f, .f, .f, .f, .f, .f, .f, .k, .F, .F, .F, .F, .F, .F, .F, .F, .F, .F, .f, .f, .f] (fun (q : Bool) => [(58, .v (.bool q))]) (fun (q : Bool) => Hn n0 [some (.box 39 (insA x))]) (fun (q : Bool) => q = decide (x.op = 4 ∨ x.op = 5 ∨ x.op = 6 ∨ x.op = 7)) ?_ (fun (q : Bool) hq => ?_)
            · skip
              refine AW.seq' ?_
              refine AW.region ?_
              refine AO.c ?_
              refine AO.c ?_
              refine AO.nil ?_
              refine SQ.normal ?_
              refine AW.iteB (GL.ev _) (fun h5 => ?_) (fun h5 => ?_)
              · skip
                rw [decide_eq_true_eq] at h5
                refine AW.skip ?_
                exact AW.backJ [.f, .k, .f, .k, .k, .F, .F, .f, .f, .f, .f, .f, .k, .F, .F, .F, .f, .f, .f, .f, .f, .f, .f, .k, .F, .F, .F, .F, .F, .F, .F, .F, .F, .F, .f, .f, .f] (decide (x.op = 4)) (by simp [*]) (by first | rfl | (simp; done)) (by first | rfl | (simp; done))
              · skip
                rw [decide_eq_false_iff_not] at h5
                refine AW.seq' ?_
                refine AW.region ?_
                refine AO.c ?_
                refine AO.c ?_
                refine AO.nil ?_
                refine SQ.normal ?_
                refine AW.iteB (GL.ev _) (fun h6 => ?_) (fun h6 => ?_)
                · skip
                  rw [decide_eq_true_eq] at h6
                  refine AW.skip ?_
                  exact AW.backJ [.f, .k, .f, .k, .k, .F, .F, .f, .f, .f, .f, .f, .k, .F, .F, .F, .f, .f, .f, .f, .f, .f, .f, .k, .F, .F, .F, .F, .F, .F, .F, .F, .F, .F, .f, .f, .f] (decide (x.op = 5)) (by simp [*]) (by first | rfl | (simp; done)) (by first | rfl | (simp; done))
                · skip
                  rw [decide_eq_false_iff_not] at h6
                  refine AW.seq' ?_
                  refine AW.region ?_
                  refine AO.c ?_
                  refine AO.c ?_
                  refine AO.nil ?_
                  refine SQ.normal ?_
                  refine AW.iteB (GL.ev _) (fun h7 => ?_) (fun h7 => ?_)
                  · skip
                    rw [decide_eq_true_eq] at h7
                    refine AW.skip ?_
                    exact AW.backJ [.f, .k, .f, .k, .k, .F, .F, .f, .f, .f, .f, .f, .k, .F, .F, .F, .f, .f, .f, .f, .f, .f, .f, .k, .F, .F, .F, .F, .F, .F, .F, .F, .F, .F, .f, .f, .f] (decide (x.op = 6)) (by simp [*]) (by first | rfl | (simp; done)) (by first | rfl | (simp; done))
                  · skip
                    rw [decide_eq_false_iff_not] at h7
                    refine AW.region ?_
                    refine AO.c ?_
                    refine AO.c ?_
                    refine AO.nil ?_
                    exact AW.backJ [.f, .k, .f, .k, .k, .F, .F, .f, .f, .f, .f, .f, .k, .F, .F, .F, .f, .f, .f, .f, .f, .f, .f, .k, .F, .F, .F, .F, .F, .F, .F, .F, .F, .F, .f, .f, .f] (decide (x.op = 7)) (by simp [*]) (by first | rfl | (simp; done)) (by first | rfl | (simp; done))
            subst hq
            refine AW.iteB (GL.ev _) (fun h8 => ?_) (fun h8 => ?_)
            · skip
              rw [decide_eq_true_eq] at h8
              refine AW.seq' ?_
              apply AW.mid
              case h =>
                refine AW.drawsZ [12] (.one 0 false (.one 1 false (.one 3 false (.one 4 false (.one 5 false (.one 6 false (.one 7 false (.one 8 false (.one 9 false (.one 10 false (.two 2 11 (.one 11 true (.one 12 true (.one 13 false .nil))) (.one 2 true (.one 12 true (.one 13 false .nil)))))))))))))) (by kernel_rfl) rfl (by kernel_rfl) ?_
                refine AZ.c rfl ?_
                refine AZ.c rfl ?_
                refine AZ.c rfl ?_
                refine AZ.c rfl ?_
                refine AZ.oo rfl ?_
                refine AZ.oo rfl ?_
                refine AZ.c rfl ?_
                refine AZ.c rfl ?_
                refine AZ.oo rfl ?_
                refine AZ.pw rfl ?_
                refine AZ.two ?_ ?_
                · refine AZi.callR rfl Try.func40 rfl rfl (ref_headsR x.op) (by rw [bys_length]) ?_
                  refine AZ.rr rfl ?_
                  refine AZ.ww rfl rfl ?_
                  refine AZ.c rfl ?_
                  exact AZ.done ⟨rfl, rfl⟩
                · refine AZi.rr rfl ?_
                  refine AZ.callR rfl Try.func40 rfl rfl (ref_headsR x.op) (by rw [bys_length]) ?_
                  refine AZ.ww rfl rfl ?_
                  refine AZ.c rfl ?_
                  exact AZ.done ⟨rfl, rfl⟩
              refine SQ.normal ?_
              refine AW.region ?_
              refine AO.c ?_
              refine AO.nil ?_
              refine BQ.normal ?_
              exact AW.backJ [.f, .k, .f, .k, .k, .F, .F, .F, .F, .F, .F, .F, .F, .F, .F, .F, .F, .F, .F, .F, .F, .F, .f] (((headsR x.op ++ [IntKind.u8.wrap (128 + 8 * x.r + x.m)]), (4), 1)) ⟨by (try simp only [List.length_append]); (try simp only [List.length_cons, List.length_nil]); omega, by unfold preR; (repeat (first | rw [if_neg (by omega)] | rw [if_pos (by omega)])); (try simp only [hu8]); (repeat (first | rw [Int.emod_eq_of_lt (by omega) (by omega)])); (try rfl), by (try dsimp only); omega⟩ (by (try dsimp only); rw [List.length_append] <;> rfl) (by first | rfl | (simp; done))
            · skip
              rw [decide_eq_false_iff_not] at h8
              refine AW.joinM [.f, .k, .f, .k, .k, .F, .F, .f, .f, .f, .f, .f, .k, .F, .F, .F, .F, .F, .F, .f, .k, .F, .F, .F, .F, .F, .F, .F, .F, .f] (fun (q : Bool) => [(76, .v (.bool q))]) (fun (q : Bool) => Hn n0 [some (.box 39 (insA x))]) (fun (q : Bool) => q = decide (x.op = 8 ∨ x.op = 9 ∨ x.op = 10 ∨ x.op = 12)) ?_ (fun (q : Bool) hq => ?_)
              · skip
                refine AW.seq' ?_
                refine AW.region ?_
                refine AO.c ?_
                refine AO.c ?_
                refine AO.nil ?_
                refine SQ.normal ?_
                refine AW.iteB (GL.ev _) (fun h9 => ?_) (fun h9 => ?_)
                · skip
                  rw [decide_eq_true_eq] at h9
                  refine AW.skip ?_
                  exact AW.backJ [.f, .k, .f, .k, .k, .F, .F, .f, .f, .f, .f, .f, .k, .F, .F, .F, .F, .F, .F, .f, .k, .F, .F, .F, .F, .F, .F, .F, .F, .f] (decide (x.op = 8)) (by simp [*]) (by first | rfl | (simp; done)) (by first | rfl | (simp; done))
                · skip
                  rw [decide_eq_false_iff_not] at h9
                  refine AW.seq' ?_
                  refine AW.region ?_
                  refine AO.c ?_
                  refine AO.c ?_
                  refine AO.nil ?_
                  refine SQ.normal ?_
                  refine AW.iteB (GL.ev _) (fun h10 => ?_) (fun h10 => ?_)
                  · skip
                    rw [decide_eq_true_eq] at h10
                    refine AW.skip ?_
                    exact AW.backJ [.f, .k, .f, .k, .k, .F, .F, .f, .f, .f, .f, .f, .k, .F, .F, .F, .F, .F, .F, .f, .k, .F, .F, .F, .F, .F, .F, .F, .F, .f] (decide (x.op = 9)) (by simp [*]) (by first | rfl | (simp; done)) (by first | rfl | (simp; done))
                  · skip
                    rw [decide_eq_false_iff_not] at h10
                    refine AW.seq' ?_
                    refine AW.region ?_
                    refine AO.c ?_
                    refine AO.c ?_
                    refine AO.nil ?_
                    refine SQ.normal ?_
                    refine AW.iteB (GL.ev _) (fun h11 => ?_) (fun h11 => ?_)
                    · skip
                      rw [decide_eq_true_eq] at h11
                      refine AW.skip ?_
                      exact AW.backJ [.f, .k, .f, .k, .k, .F, .F, .f, .f, .f, .f, .f, .k, .F, .F, .F, .F, .F, .F, .f, .k, .F, .F, .F, .F, .F, .F, .F, .F, .f] (decide (x.op = 10)) (by simp [*]) (by first | rfl | (simp; done)) (by first | rfl | (simp; done))
                    · skip
                      rw [decide_eq_false_iff_not] at h11
                      refine AW.region ?_
                      refine AO.c ?_
                      refine AO.c ?_
                      refine AO.nil ?_
                      exact AW.backJ [.f, .k, .f, .k, .k, .F, .F, .f, .f, .f, .f, .f, .k, .F, .F, .F, .F, .F, .F, .f, .k, .F, .F, .F, .F, .F, .F, .F, .F, .f] (decide (x.op = 12)) (by simp [*]) (by first | rfl | (simp; done)) (by first | rfl | (simp; done))
              subst hq
              refine AW.iteB (GL.ev _) (fun h12 => ?_) (fun h12 => ?_)
              · skip
                rw [decide_eq_true_eq] at h12
                apply AW.mid
                case h =>
                  refine AW.drawsZ [12] (.one 0 false (.one 1 false (.one 3 false (.one 4 false (.one 5 false (.one 6 false (.one 7 false (.one 8 false (.one 9 false (.one 10 false (.two 2 11 (.one 11 true (.one 12 true (.one 13 false .nil))) (.one 2 true (.one 12 true (.one 13 false .nil)))))))))))))) (by kernel_rfl) rfl (by kernel_rfl) ?_
                  refine AZ.c rfl ?_
                  refine AZ.c rfl ?_
                  refine AZ.c rfl ?_
                  refine AZ.c rfl ?_
                  refine AZ.oo rfl ?_
                  refine AZ.oo rfl ?_
                  refine AZ.c rfl ?_
                  refine AZ.c rfl ?_
                  refine AZ.oo rfl ?_
                  refine AZ.pw rfl ?_
                  refine AZ.two ?_ ?_
                  · refine AZi.callR rfl Try.func40 rfl rfl (ref_headsR x.op) (by rw [bys_length]) ?_
                    refine AZ.rr rfl ?_
                    refine AZ.ww rfl rfl ?_
                    refine AZ.c rfl ?_
                    exact AZ.done ⟨rfl, rfl⟩
                  · refine AZi.rr rfl ?_
                    refine AZ.callR rfl Try.func40 rfl rfl (ref_headsR x.op) (by rw [bys_length]) ?_
                    refine AZ.ww rfl rfl ?_
                    refine AZ.c rfl ?_
                    exact AZ.done ⟨rfl, rfl⟩
                refine BQ.normal ?_
                exact AW.backJ [.f, .k, .f, .k, .k, .F, .F, .F, .F, .F, .F, .F, .F, .F, .F, .F, .F, .F, .F, .F, .F, .F, .f] (((headsR x.op ++ [IntKind.u8.wrap (192 + 8 * x.r + x.m)]), (0), 1)) ⟨by (try simp only [List.length_append]); (try simp only [List.length_cons, List.length_nil]); omega, by unfold preR; (repeat (first | rw [if_neg (by omega)] | rw [if_pos (by omega)])); (try simp only [hu8]); (repeat (first | rw [Int.emod_eq_of_lt (by omega) (by omega)])); (try rfl), by (try dsimp only); omega⟩ (by (try dsimp only); rw [List.length_append] <;> rfl) (by first | rfl | (simp; done))
              · skip
                rw [decide_eq_false_iff_not] at h12
                refine AW.seq' ?_
                refine AW.region ?_
                refine AO.c ?_
                refine AO.c ?_
                refine AO.nil ?_
                refine SQ.normal ?_
                refine AW.iteB (GL.ev _) (fun h13 => ?_) (fun h13 => ?_)
                · skip
                  rw [decide_eq_true_eq] at h13
                  refine AW.seq' ?_
                  refine AW.region ?_
                  refine AO.ww ?_
                  refine AO.c ?_
                  refine AO.nil ?_
                  refine SQ.normal ?_
                  refine AW.region ?_
                  refine AO.c ?_
                  refine AO.nil ?_
                  refine BQ.normal ?_
                  exact AW.backJ [.f, .k, .f, .k, .k, .F, .F, .F, .F, .F, .F, .F, .F, .F, .F, .F, .F, .F, .F, .F, .F, .F, .f] ((([233]), (4), 0)) ⟨by (try simp only [List.length_append]); (try simp only [List.length_cons, List.length_nil]); omega, by unfold preR; (repeat (first | rw [if_neg (by omega)] | rw [if_pos (by omega)])); (try simp only [hu8]); (repeat (first | rw [Int.emod_eq_of_lt (by omega) (by omega)])); (try rfl), by (try dsimp only); omega⟩ (by first | rfl | (simp; done)) (by first | rfl | (simp; done))
                · skip
                  rw [decide_eq_false_iff_not] at h13
                  refine AW.seq' ?_
                  refine AW.region ?_
                  refine AO.c ?_
                  refine AO.c ?_
                  refine AO.nil ?_
                  refine SQ.normal ?_
                  refine AW.iteB (GL.ev _) (fun h14 => ?_) (fun h14 => ?_)
                  · skip
                    rw [decide_eq_true_eq] at h14
                    refine AW.seq' ?_
                    refine AW.region ?_
                    refine AO.ww ?_
                    refine AO.c ?_
                    refine AO.nil ?_
                    refine SQ.normal ?_
                    refine AW.region ?_
                    refine AO.c ?_
                    refine AO.nil ?_
                    refine BQ.normal ?_
                    exact AW.backJ [.f, .k, .f, .k, .k, .F, .F, .F, .F, .F, .F, .F, .F, .F, .F, .F, .F, .F, .F, .F, .F, .F, .f] ((([15, 132]), (4), 0)) ⟨by (try simp only [List.length_append]); (try simp only [List.length_cons, List.length_nil]); omega, by unfold preR; (repeat (first | rw [if_neg (by omega)] | rw [if_pos (by omega)])); (try simp only [hu8]); (repeat (first | rw [Int.emod_eq_of_lt (by omega) (by omega)])); (try rfl), by (try dsimp only); omega⟩ (by first | rfl | (simp; done)) (by first | rfl | (simp; done))
                  · skip
                    rw [decide_eq_false_iff_not] at h14
                    refine AW.seq' ?_
                    refine AW.region ?_
                    refine AO.c ?_
                    refine AO.c ?_
                    refine AO.nil ?_
                    refine SQ.normal ?_
                    refine AW.iteB (GL.ev _) (fun h15 => ?_) (fun h15 => ?_)
                    · skip
                      rw [decide_eq_true_eq] at h15
                      refine AW.seq' ?_
                      refine AW.region ?_
                      refine AO.ww ?_
                      refine AO.c ?_
                      refine AO.nil ?_
                      refine SQ.normal ?_
                      refine AW.region ?_
                      refine AO.c ?_
                      refine AO.nil ?_
                      refine BQ.normal ?_
                      exact AW.backJ [.f, .k, .f, .k, .k, .F, .F, .F, .F, .F, .F, .F, .F, .F, .F, .F, .F, .F, .F, .F, .F, .F, .f] ((([15, 133]), (4), 0)) ⟨by (try simp only [List.length_append]); (try simp only [List.length_cons, List.length_nil]); omega, by unfold preR; (repeat (first | rw [if_neg (by omega)] | rw [if_pos (by omega)])); (try simp only [hu8]); (repeat (first | rw [Int.emod_eq_of_lt (by omega) (by omega)])); (try rfl), by (try dsimp only); omega⟩ (by first | rfl | (simp; done)) (by first | rfl | (simp; done))
                    · skip
                      rw [decide_eq_false_iff_not] at h15
                      refine AW.seq' ?_
                      refine AW.region ?_
                      refine AO.c ?_
                      refine AO.c ?_
                      refine AO.nil ?_
                      refine SQ.normal ?_
                      refine AW.iteB (GL.ev _) (fun h16 => ?_) (fun h16 => ?_)
                      · skip
                        rw [decide_eq_true_eq] at h16
                        refine AW.seq' ?_
                        refine AW.region ?_
                        refine AO.ww ?_
                        refine AO.c ?_
                        refine AO.nil ?_
                        refine SQ.normal ?_
                        refine AW.region ?_
                        refine AO.c ?_
                        refine AO.nil ?_
                        refine BQ.normal ?_
                        exact AW.backJ [.f, .k, .f, .k, .k, .F, .F, .F, .F, .F, .F, .F, .F, .F, .F, .F, .F, .F, .F, .F, .F, .F, .f] ((([15, 130]), (4), 0)) ⟨by (try simp only [List.length_append]); (try simp only [List.length_cons, List.length_nil]); omega, by unfold preR; (repeat (first | rw [if_neg (by omega)] | rw [if_pos (by omega)])); (try simp only [hu8]); (repeat (first | rw [Int.emod_eq_of_lt (by omega) (by omega)])); (try rfl), by (try dsimp only); omega⟩ (by first | rfl | (simp; done)) (by first | rfl | (simp; done))
                      · skip
                        rw [decide_eq_false_iff_not] at h16
                        refine AW.seq' ?_
                        refine AW.region ?_
                        refine AO.c ?_
                        refine AO.c ?_
                        refine AO.nil ?_
                        refine SQ.normal ?_
                        refine AW.iteB (GL.ev _) (fun h17 => ?_) (fun h17 => ?_)
                        · skip
                          rw [decide_eq_true_eq] at h17
                          refine AW.seq' ?_
                          refine AW.region ?_
                          refine AO.ww ?_
                          refine AO.c ?_
                          refine AO.nil ?_
                          refine SQ.normal ?_
                          refine AW.region ?_
                          refine AO.c ?_
                          refine AO.nil ?_
                          refine BQ.normal ?_
                          exact AW.backJ [.f, .k, .f, .k, .k, .F, .F, .F, .F, .F, .F, .F, .F, .F, .F, .F, .F, .F, .F, .F, .F, .F, .f] ((([232]), (4), 0)) ⟨by (try simp only [List.length_append]); (try simp only [List.length_cons, List.length_nil]); omega, by unfold preR; (repeat (first | rw [if_neg (by omega)] | rw [if_pos (by omega)])); (try simp only [hu8]); (repeat (first | rw [Int.emod_eq_of_lt (by omega) (by omega)])); (try rfl), by (try dsimp only); omega⟩ (by first | rfl | (simp; done)) (by first | rfl | (simp; done))
                        · skip
                          rw [decide_eq_false_iff_not] at h17
                          refine AW.seq' ?_
                          refine AW.region ?_
                          refine AO.c ?_
                          refine AO.c ?_
                          refine AO.nil ?_
                          refine SQ.normal ?_
                          refine AW.iteB (GL.ev _) (fun h18 => ?_) (fun h18 => ?_)
                          · skip
                            rw [decide_eq_true_eq] at h18
                            refine AW.region ?_
                            refine AO.c ?_
                            refine AO.c ?_
                            refine AO.oo ?_
                            refine AO.pw ?_
                            refine AO.ww ?_
                            refine AO.c ?_
                            refine AO.nil ?_
                            refine BQ.normal ?_
                            exact AW.backJ [.f, .k, .f, .k, .k, .F, .F, .F, .F, .F, .F, .F, .F, .F, .F, .F, .F, .F, .F, .F, .F, .F, .f] ((([255, IntKind.u8.wrap (208 + x.m)]), (0), 0)) ⟨by (try simp only [List.length_append]); (try simp only [List.length_cons, List.length_nil]); omega, by unfold preR; (repeat (first | rw [if_neg (by omega)] | rw [if_pos (by omega)])); (try simp only [hu8]); (repeat (first | rw [Int.emod_eq_of_lt (by omega) (by omega)])); (try rfl), by (try dsimp only); omega⟩ (by first | rfl | (simp; done)) (by first | rfl | (simp; done))
                          · skip
                            rw [decide_eq_false_iff_not] at h18
                            refine AW.seq' ?_
                            refine AW.region ?_
                            refine AO.c ?_
                            refine AO.c ?_
                            refine AO.nil ?_
                            refine SQ.normal ?_
                            refine AW.iteB (GL.ev _) (fun h19 => ?_) (fun h19 => ?_)
                            · skip
                              rw [decide_eq_true_eq] at h19
                              refine AW.region ?_
                              refine AO.ww ?_
                              refine AO.c ?_
                              refine AO.nil ?_
                              refine BQ.normal ?_
                              exact AW.backJ [.f, .k, .f, .k, .k, .F, .F, .F, .F, .F, .F, .F, .F, .F, .F, .F, .F, .F, .F, .F, .F, .F, .f] ((([195]), (0), 0)) ⟨by (try simp only [List.length_append]); (try simp only [List.length_cons, List.length_nil]); omega, by unfold preR; (repeat (first | rw [if_neg (by omega)] | rw [if_pos (by omega)])); (try simp only [hu8]); (repeat (first | rw [Int.emod_eq_of_lt (by omega) (by omega)])); (try rfl), by (try dsimp only); omega⟩ (by first | rfl | (simp; done)) (by first | rfl | (simp; done))
                            · skip
                              rw [decide_eq_false_iff_not] at h19
                              refine AW.seq' ?_
                              refine AW.region ?_
                              refine AO.c ?_
                              refine AO.c ?_
                              refine AO.nil ?_
                              refine SQ.normal ?_
                              refine AW.iteB (GL.ev _) (fun h20 => ?_) (fun h20 => ?_)
                              · skip
                                rw [decide_eq_true_eq] at h20
                                refine AW.region ?_
                                refine AO.ww ?_
                                refine AO.c ?_
                                refine AO.nil ?_
                                refine BQ.normal ?_
                                exact AW.backJ [.f, .k, .f, .k, .k, .F, .F, .F, .F, .F, .F, .F, .F, .F, .F, .F, .F, .F, .F, .F, .F, .F, .f] ((([15, 5]), (0), 0)) ⟨by (try simp only [List.length_append]); (try simp only [List.length_cons, List.length_nil]); omega, by unfold preR; (repeat (first | rw [if_neg (by omega)] | rw [if_pos (by omega)])); (try simp only [hu8]); (repeat (first | rw [Int.emod_eq_of_lt (by omega) (by omega)])); (try rfl), by (try dsimp only); omega⟩ (by first | rfl | (simp; done)) (by first | rfl | (simp; done))
                              · skip
                                rw [decide_eq_false_iff_not] at h20
                                refine AW.skip ?_
                                refine BQ.normal ?_
                                refine Gh.pre (Gh.adoptB 3 5) ?_
                                exact AW.backJ [.f, .k, .f, .k, .k, .F, .F, .F, .F, .F, .F, .F, .F, .F, .F, .F, .F, .F, .F, .F, .F, .F, .f] ((([]), (0), 0)) ⟨by (try simp only [List.length_append]); (try simp only [List.length_cons, List.length_nil]); omega, by unfold preR; (repeat (first | rw [if_neg (by omega)] | rw [if_pos (by omega)])); (try simp only [hu8]); (repeat (first | rw [Int.emod_eq_of_lt (by omega) (by omega)])); (try rfl), by (try dsimp only); omega⟩ (by first | rfl | (simp; done)) (by first | rfl | (simp; done))
    obtain ⟨out, w, ep⟩ := p
    obtain ⟨hp1, hp2, hp3⟩ := hp
    dsimp only at hp1 hp2 hp3
    have hBy := bldR_bytes (x := x) (by omega)
    have hpl := put8_len (IntKind.u64.wrap x.imm) w
    have hbe := bldR_of hp2 hp3
    have hbl := congrArg List.length hbe
    rw [List.length_append] at hbl
    refine AW.seq' ?_
    refine AW.region ?_
    refine AO.c ?_
    refine AO.c ?_
    refine AO.c ?_
    refine AO.pw ?_
    refine AO.c ?_
    refine AO.call1 Try.func41 rfl rfl (ref_Put (IntKind.u64.wrap x.imm) w hu (by omega)) ?_
    refine AO.ww ?_
    refine AO.c ?_
    refine AO.nil ?_
    refine SQ.normal ?_
    refine AW.seq' ?_
    refine AW.ghost (Gh.freezeE 3 (li' := bldR x) hbe (by (try dsimp only); omega) (by omega)) ?_
    refine AW.region ?_
    refine AO.c ?_
    refine AO.call1 Try.func14 rfl rfl (ref_Decode (bldR x) hBy (by omega)) ?_
    refine AO.c ?_
    refine AO.c ?_
    refine AO.c ?_
    refine AO.ww ?_
    refine AO.sst ?_
    refine AO.c ?_
    refine AO.nil ?_
    refine SQ.normal ?_
    refine AW.seq' ?_
    refine AW.seq' ?_
    refine AW.region ?_
    refine AO.c ?_
    refine AO.c ?_
    refine AO.c ?_
    refine AO.gx ?_
    refine AO.gx ?_
    refine AO.gx ?_
    refine AO.c ?_
    refine AO.nil ?_
    refine SQ.normal ?_
    refine AW.iteB (GL.ev _) (fun h21 => ?_) (fun h21 => ?_)
    · skip
      have h22 : ¬ decR (bldR x) = some x := fun hh => by
        have h23 := (eq_dec2 (o := decR (bldR x)) (x := x)).symm.trans h21
        rw [hh] at h23; simp at h23
      have e : encR x = [] := by unfold encR; rw [if_neg (by omega), if_neg h22]
      refine AW.seq' ?_
      refine AW.region ?_
      refine AO.c ?_
      refine AO.nil ?_
      refine SQ.normal ?_
      refine AW.ret ?_
      refine SQ.ret ?_
      refine Fin.ret (Gh.nilB 2) noid1 ?_
      rw [e]; rfl
    · skip
      have h22 : decR (bldR x) = some x := by
        have h23 := (eq_dec2 (o := decR (bldR x)) (x := x)).symm.trans h21
        simpa using h23
      have e : encR x = bldR x := by unfold encR; rw [if_neg (by omega), if_pos h22]
      refine AW.skip ?_
      refine SQ.normal ?_
      refine AW.seq' ?_
      refine AW.region ?_
      refine AO.c ?_
      refine AO.c ?_
      refine AO.nil ?_
      refine SQ.normal ?_
      refine AW.ret ?_
      refine Fin.ret (Gh.refl) noid1 ?_
      rw [e]; rfl

end Go.Proofs.Ytlapfdfbgckfcaa.AL
