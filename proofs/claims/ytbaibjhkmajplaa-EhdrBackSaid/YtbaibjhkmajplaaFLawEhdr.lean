/- What functions of the program compute, each by its own contract; the conditions stand with each. -/
import Derived.Test.YtbaibjhkmajplaaFEhdr
namespace Go.Proofs.Ytbaibjhkmajplaa.AL
open Go Go.RowKit Go.Proofs.Ytbaibjhkmajplaa.Base
set_option linter.unusedVariables false
set_option linter.unusedSimpArgs false
set_option maxRecDepth 4000
set_option synthInstance.maxSize 1000

theorem wf_u8 {a : Int} (h : (Lit.int .u8 a).wf = true) : 0 ≤ a ∧ a < 256 := by simp [Lit.wf, IntKind.min, IntKind.max, IntKind.signed, IntKind.bits] at h; omega
theorem hd_ext {x y : HdD} (h1 : x.at_ = y.at_) (h2 : x.many = y.many) (h3 : x.names = y.names) : x = y := by
  cases x; cases y; simp only at h1 h2 h3; subst h1; subst h2; subst h3; rfl
theorem hd_forth {h : HdD} (hm : h.may) (c : List Int) : HdOk (h.bytes ++ c) ∧ hdOf (h.bytes ++ c) = h := by
  have e : ∀ i j : Nat, i + j ≤ 64 → ((h.bytes ++ c).drop i).take j = (h.bytes.drop i).take j := by
    intro i j hij
    rw [List.drop_append_of_le_length (by rw [hdB_len]; omega), List.take_append_of_le_length (by rw [List.length_drop, hdB_len]; omega)]
  have hm2 := hm
  unfold HdD.may MayHd at hm2
  have e1 : numAt (h.bytes ++ c) 40 8 = h.at_ := by
    show num (((h.bytes ++ c).drop 40).take 8) = _
    rw [e _ _ (by omega)]
    show num (((Hd h.at_ h.many h.names).drop 40).take 8) = _
    rw [hd_at, num_dig]; omega
  have e2 : numAt (h.bytes ++ c) 60 2 = h.many := by
    show num (((h.bytes ++ c).drop 60).take 2) = _
    rw [e _ _ (by omega)]
    show num (((Hd h.at_ h.many h.names).drop 60).take 2) = _
    rw [hd_many, num_dig]; omega
  have e3 : numAt (h.bytes ++ c) 62 2 = h.names := by
    show num (((h.bytes ++ c).drop 62).take 2) = _
    rw [e _ _ (by omega)]
    show num (((Hd h.at_ h.many h.names).drop 62).take 2) = _
    rw [hd_names, num_dig]; omega
  have he : hdOf (h.bytes ++ c) = h := by unfold hdOf; rw [e1, e2, e3]
  refine ⟨⟨by rw [List.length_append, hdB_len]; omega, by rw [he]; exact hm, ?_⟩, he⟩
  rw [he, List.take_append_of_le_length (by rw [hdB_len]; omega), List.take_of_length_le (by rw [hdB_len]; omega)]
theorem hd_turn {h : HdD} {at_ tu : Int} (h0 : 0 ≤ at_) (h1 : at_ ≤ 63) (ht : 0 ≤ tu ∧ tu < 256) (hne : tu ≠ 0) (hok : HdOk (h.bytes.set at_.toNat (Go.bits .xor .u8 (h.bytes.getD at_.toNat 0) tu))) : hdOf (h.bytes.set at_.toNat (Go.bits .xor .u8 (h.bytes.getD at_.toNat 0) tu)) ≠ h := by
  intro he
  have h2 := hok.2.2
  rw [he, List.take_of_length_le (by rw [List.length_set, hdB_len]; omega)] at h2
  have hlt : at_.toNat < h.bytes.length := by rw [hdB_len]; omega
  have h3 := congrArg (fun l => l.getD at_.toNat 0) h2
  simp only [List.getD_eq_getElem?_getD, List.getElem?_set_self hlt, Option.getD_some] at h3
  have hb := bytes_getD (hdB_bytes h) at_.toNat
  rw [List.getD_eq_getElem?_getD] at hb
  exact hne ((xor_u8 _ _ hb ht).2 h3)

theorem up04  : A0 Try.prog 75 [] (fun ret => ret = .v (.bool true)) := by
  have hm : (HdD.mk 64 2 1).may := by decide
  have he : (HdD.mk 64 2 1).bytes = [127, 69, 76, 70, 2, 1, 1, 0, 0, 0, 0, 0, 0, 0, 0, 0, 1, 0, 62, 0, 1, 0, 0, 0, 0, 0, 0, 0, 0, 0, 0, 0, 0, 0, 0, 0, 0, 0, 0, 0, 64, 0, 0, 0, 0, 0, 0, 0, 0, 0, 0, 0, 64, 0, 0, 0, 0, 0, 64, 0, 2, 0, 1, 0] := by decide
  have hp := (ehdr_Put (HdD.mk 64 2 1)).a0 (by rw [bys_length]; exact Nat.le_trans (hdI_len _) (by decide))
  rw [if_pos hm, he] at hp
  refine A0.body 31 Try.func75 rfl rfl Try.ntmps75 fun base n0 => ?_
  refine AW.seq' ?_
  refine AW.region ?_
  refine AO.c ?_
  refine AO.nil ?_
  refine SQ.normal ?_
  refine AW.seq' ?_
  refine AW.region ?_
  refine AO.c ?_
  refine AO.call1 Try.func78 rfl rfl (hp) ?_
  refine AO.c ?_
  refine AO.nil ?_
  refine SQ.normal ?_
  refine AW.seq' ?_
  refine AW.seq' ?_
  refine AW.region ?_
  refine AO.c ?_
  refine AO.c ?_
  refine AO.c ?_
  refine AO.nil ?_
  refine SQ.normal ?_
  refine AW.iteB (GL.ev _) (fun h0 => ?_) (fun h0 => ?_)
  · skip
    exfalso
    revert h0
    simp
  · skip
    skip
    refine AW.skip ?_
    refine SQ.normal ?_
    refine AW.seq' ?_
    refine AW.drawsZ [] (.one 0 false (.one 1 false (.one 2 false (.one 3 true (.one 4 false (.one 5 false (.one 6 false (.one 7 false (.one 8 false (.one 9 false (.one 10 false (.one 11 false (.one 12 false (.one 13 false (.one 14 false (.one 15 false (.one 16 false (.one 17 false (.one 18 false (.one 19 false (.one 20 false (.one 21 false (.one 22 false (.one 23 false (.one 24 false .nil))))))))))))))))))))))))) (by kernel_rfl) rfl (by kernel_rfl) ?_
    refine AZ.c rfl ?_
    refine AZ.oo rfl ?_
    refine AZ.c rfl ?_
    refine AZ.rr rfl ?_
    refine AZ.c rfl ?_
    refine AZ.c rfl ?_
    refine AZ.c rfl ?_
    refine AZ.gx rfl ?_
    refine AZ.gxoo rfl ?_
    refine AZ.gx rfl ?_
    refine AZ.gx rfl ?_
    refine AZ.c rfl ?_
    refine AZ.c rfl ?_
    refine AZ.gx rfl ?_
    refine AZ.gxoo rfl ?_
    refine AZ.gx rfl ?_
    refine AZ.gx rfl ?_
    refine AZ.c rfl ?_
    refine AZ.c rfl ?_
    refine AZ.gx rfl ?_
    refine AZ.gxoo rfl ?_
    refine AZ.gx rfl ?_
    refine AZ.gx rfl ?_
    refine AZ.c rfl ?_
    refine AZ.c rfl ?_
    refine AZ.done ?_
    refine SQ.normal ?_
    refine AW.ret ?_
    refine Fin.ret (Gh.refl) noid1 ?_
    show AV.v (.bool _) = AV.v (.bool true)
    simp
theorem ehdr_Tells (b : List Int) (h : HdD) (hB : Bytes b) (hbl : b.length ≤ maxLen) (hh : h.ok) : A0 Try.prog 19 [.rd 1 (bys b), .v (.int .i64 (h.at_)), .v (.int .i64 (h.many)), .v (.int .i64 (h.names))] (fun ret => ret = .v (.bool true)) := by
  have hup := up04
  refine A0.body 63 Try.func19 rfl rfl Try.ntmps19 fun base n0 => ?_
  refine AW.seq' ?_
  refine AW.region ?_
  refine AO.c ?_
  refine AO.nil ?_
  refine SQ.normal ?_
  refine AW.seq' ?_
  refine AW.region ?_
  refine AO.call1 Try.func75 rfl rfl (up04) ?_
  refine AO.c ?_
  refine AO.nil ?_
  refine SQ.normal ?_
  refine AW.seq' ?_
  refine AW.seq' ?_
  refine AW.region ?_
  refine AO.c ?_
  refine AO.c ?_
  refine AO.c ?_
  refine AO.nil ?_
  refine SQ.normal ?_
  refine AW.iteB (GL.ev _) (fun h0 => ?_) (fun h0 => ?_)
  · skip
    skip
    refine AW.seq' ?_
    refine AW.region ?_
    refine AO.c ?_
    refine AO.c ?_
    refine AO.nil ?_
    refine SQ.normal ?_
    refine AW.ret ?_
    refine SQ.ret ?_
    refine Fin.ret (Gh.refl) noid1 ?_
    rfl
  · skip
    rw [decide_eq_false_iff_not] at h0
    have hb : b.length ≤ 1000000000000 := by omega
    refine AW.skip ?_
    refine SQ.normal ?_
    refine AW.seq' ?_
    refine AW.region ?_
    refine AO.c ?_
    refine AO.call1 Try.func76 rfl rfl (ehdr_Get _ (by assumption) (by omega)) ?_
    refine AO.c ?_
    refine AO.c ?_
    refine AO.c ?_
    refine AO.ww ?_
    refine AO.sst ?_
    refine AO.c ?_
    refine AO.nil ?_
    refine SQ.normal ?_
    refine AW.seq' ?_
    refine AW.region ?_
    refine AO.c ?_
    refine AO.call1 Try.func77 rfl rfl (ref_Begun _ (by assumption) (by omega)) ?_
    refine AO.c ?_
    refine AO.c ?_
    refine AO.c ?_
    refine AO.c ?_
    refine AO.c ?_
    refine AO.c ?_
    refine AO.c ?_
    refine AO.c ?_
    refine AO.c ?_
    refine AO.nil ?_
    refine SQ.normal ?_
    refine AW.seq' ?_
    refine AW.drawsZ [] (.one 0 false (.one 1 false (.one 2 false (.one 3 false (.one 6 false (.one 7 false (.one 8 false (.one 4 true (.one 5 false (.one 9 true (.one 10 false (.one 11 false (.one 12 false .nil))))))))))))) (by kernel_rfl) rfl (by kernel_rfl) ?_
    refine AZ.c rfl ?_
    refine AZ.c rfl ?_
    refine AZ.c rfl ?_
    refine AZ.c rfl ?_
    refine AZ.c rfl ?_
    refine AZ.c rfl ?_
    refine AZ.c rfl ?_
    refine AZ.call1 rfl Try.func78 rfl rfl ((ehdr_Put h).a0 (by rw [bys_length]; exact Nat.le_trans (hdI_len _) (by decide))) ?_
    refine AZ.c rfl ?_
    refine AZ.call1 rfl Try.func79 rfl rfl (ref_Begin h hh) ?_
    refine AZ.c rfl ?_
    refine AZ.c rfl ?_
    refine AZ.c rfl ?_
    refine AZ.done ?_
    refine SQ.normal ?_
    refine AW.seq' ?_
    refine AW.region ?_
    refine AO.c ?_
    refine AO.c ?_
    refine AO.gx ?_
    refine AO.gx ?_
    refine AO.gx ?_
    refine AO.c ?_
    refine AO.c ?_
    refine AO.gx ?_
    refine AO.gx ?_
    refine AO.gx ?_
    refine AO.gx ?_
    refine AO.gx ?_
    refine AO.gx ?_
    refine AO.c ?_
    refine AO.c ?_
    refine AO.gx ?_
    refine AO.c ?_
    refine AO.c ?_
    refine AO.nil ?_
    refine SQ.normal ?_
    refine AW.ret ?_
    refine Fin.ret (Gh.refl) noid1 ?_
    show AV.v (.bool _) = AV.v (.bool true)
    simp
set_option maxHeartbeats 4000000 in
theorem ehdr_BackL (b : List Int) (h : HdD) (at_ tu : Int) (hB : Bytes b) (hbl : b.length ≤ maxLen) (hh : h.ok) (ha : I64 at_) (ht : 0 ≤ tu ∧ tu < 256) : A0 Try.prog 20 [.rd 1 (bys b), .v (.int .i64 (h.at_)), .v (.int .i64 (h.many)), .v (.int .i64 (h.names)), .v (.int .i64 (at_)), .v (.int .u8 tu)] (fun ret => ret = .v (.bool true)) := by
  have hup := up04
  refine A0.body 114 Try.func20 rfl rfl Try.ntmps20 fun base n0 => ?_
  refine AW.seq' ?_
  refine AW.region ?_
  refine AO.c ?_
  refine AO.nil ?_
  refine SQ.normal ?_
  refine AW.seq' ?_
  refine AW.region ?_
  refine AO.call1 Try.func75 rfl rfl (up04) ?_
  refine AO.c ?_
  refine AO.nil ?_
  refine SQ.normal ?_
  refine AW.seq' ?_
  refine AW.seq' ?_
  refine AW.region ?_
  refine AO.c ?_
  refine AO.c ?_
  refine AO.c ?_
  refine AO.nil ?_
  refine SQ.normal ?_
  refine AW.iteB (GL.ev _) (fun h0 => ?_) (fun h0 => ?_)
  · skip
    skip
    refine AW.seq' ?_
    refine AW.region ?_
    refine AO.c ?_
    refine AO.c ?_
    refine AO.nil ?_
    refine SQ.normal ?_
    refine AW.ret ?_
    refine SQ.ret ?_
    refine Fin.ret (Gh.refl) noid1 ?_
    rfl
  · skip
    rw [decide_eq_false_iff_not] at h0
    have hb : b.length ≤ 1000000000000 := by omega
    refine AW.skip ?_
    refine SQ.normal ?_
    refine AW.seq' ?_
    refine AW.region ?_
    refine AO.c ?_
    refine AO.call1 Try.func76 rfl rfl (ehdr_Get _ (by assumption) (by omega)) ?_
    refine AO.c ?_
    refine AO.c ?_
    refine AO.c ?_
    refine AO.ww ?_
    refine AO.sst ?_
    refine AO.c ?_
    refine AO.nil ?_
    refine SQ.normal ?_
    refine AW.seq' ?_
    refine AW.seq' ?_
    refine AW.region ?_
    refine AO.c ?_
    refine AO.c ?_
    refine AO.gx ?_
    refine AO.gx ?_
    refine AO.gx ?_
    refine AO.c ?_
    refine AO.nil ?_
    refine SQ.normal ?_
    refine AW.iteB (GL.ev _) (fun h1 => ?_) (fun h1 => ?_)
    · skip
      exfalso
      simp only [Bool.and_eq_true, decide_eq_true_eq] at h1
      obtain ⟨⟨p, _⟩, q⟩ := h1
      omega
    · skip
      skip
      refine AW.skip ?_
      refine SQ.normal ?_
      refine AW.seq' ?_
      refine AW.seq' ?_
      refine AW.drawsZ [] (.one 0 false (.one 1 false (.one 2 false (.one 5 false (.one 6 false (.one 7 false (.one 3 true (.one 4 false (.one 8 false (.one 9 false .nil)))))))))) (by kernel_rfl) rfl (by kernel_rfl) ?_
      refine AZ.c rfl ?_
      refine AZ.c rfl ?_
      refine AZ.gx rfl ?_
      refine AZ.gx rfl ?_
      refine AZ.gxo rfl (fun q => by have q := (of_decide_eq_true q).1; simp only [Option.getD_some, Option.getD_none]; omega) ?_
      refine AZ.gx rfl ?_
      refine AZ.gxcall1 rfl Try.func78 rfl rfl (fun hgd => (ehdr_Put (if HdOk b then hdOf b else zeroHd)).a0 (by rw [bys_length]; exact Nat.le_trans (hdI_len _) (by decide))) ?_
      refine AZ.gx rfl ?_
      refine AZ.gx rfl ?_
      refine AZ.c rfl ?_
      refine AZ.done ?_
      refine SQ.normal ?_
      refine AW.iteB (GL.ev _) (fun h2 => ?_) (fun h2 => ?_)
      · skip
        exfalso
        simp only [Bool.and_eq_true, decide_eq_true_eq] at h2
        obtain ⟨hok, hne⟩ := h2
        apply hne
        rw [if_pos hok, if_pos hok.2.1, ← hok.2.2]
        rfl
      · skip
        skip
        refine AW.skip ?_
        refine SQ.normal ?_
        refine AW.seq' ?_
        refine AW.region ?_
        refine AO.c ?_
        refine AO.c ?_
        refine AO.c ?_
        refine AO.c ?_
        refine AO.ww ?_
        refine AO.sst ?_
        refine AO.nil ?_
        refine SQ.normal ?_
        refine AW.seq' ?_
        refine AW.region ?_
        refine AO.c ?_
        refine AO.callR Try.func78 rfl rfl (ehdr_Put h) (m := if h.may then 64 else 0) (by rw [bys_length]; split <;> simp [hdB_len]) ?_
        refine AO.c ?_
        refine AO.nil ?_
        refine SQ.normal ?_
        refine AW.seq' ?_
        refine AW.seq' ?_
        refine AW.region ?_
        refine AO.c ?_
        refine AO.c ?_
        refine AO.c ?_
        refine AO.nil ?_
        refine SQ.normal ?_
        refine AW.iteB (GL.ev _) (fun h3 => ?_) (fun h3 => ?_)
        · skip
          skip
          refine AW.seq' ?_
          refine AW.region ?_
          refine AO.c ?_
          refine AO.c ?_
          refine AO.nil ?_
          refine SQ.normal ?_
          refine AW.ret ?_
          refine SQ.ret ?_
          refine Fin.ret (Gh.refl) noid1 ?_
          rfl
        · skip
          rw [decide_eq_false_iff_not] at h3
          have hm : h.may := by
            rcases Decidable.em h.may with q | q
            · exact q
            · rw [if_neg q] at h3; exact absurd rfl h3
          rw [if_pos hm, if_pos hm]
          refine AW.skip ?_
          refine SQ.normal ?_
          refine AW.seq' ?_
          refine AW.region ?_
          have hf := hd_forth hm b
          have hg := ehdr_Get (h.bytes ++ b) ((hdB_bytes h).append hB) (by rw [List.length_append, hdB_len]; omega)
          rw [if_pos hf.1, hf.2, decide_eq_true hf.1] at hg
          have hel := hdB_len h
          refine AO.ww ?_
          refine AO.c ?_
          refine AO.ww ?_
          refine AO.c ?_
          refine AO.ww ?_
          refine AO.ghost (Gh.freezeE 63 (li' := h.bytes ++ b) (by first | rfl | (simp; done)) (by simp [hel]) (by rw [List.length_append]; omega)) ?_
          refine AO.call1 Try.func76 rfl rfl (hg) ?_
          refine AO.c ?_
          refine AO.c ?_
          refine AO.c ?_
          refine AO.ww ?_
          refine AO.sst ?_
          refine AO.c ?_
          refine AO.nil ?_
          refine SQ.normal ?_
          refine AW.seq' ?_
          refine AW.seq' ?_
          refine AW.region ?_
          refine AO.c ?_
          refine AO.c ?_
          refine AO.c ?_
          refine AO.c ?_
          refine AO.gx ?_
          refine AO.gx ?_
          refine AO.c ?_
          refine AO.c ?_
          refine AO.gx ?_
          refine AO.gx ?_
          refine AO.gx ?_
          refine AO.c ?_
          refine AO.nil ?_
          refine SQ.normal ?_
          refine AW.iteB (GL.ev _) (fun h4 => ?_) (fun h4 => ?_)
          · skip
            exfalso
            simp at h4
          · skip
            skip
            refine AW.skip ?_
            refine SQ.normal ?_
            refine AW.seq' ?_
            refine AW.seq' ?_
            refine AW.region ?_
            refine AO.c ?_
            refine AO.c ?_
            refine AO.c ?_
            refine AO.gx ?_
            refine AO.gx ?_
            refine AO.c ?_
            refine AO.c ?_
            refine AO.gx ?_
            refine AO.gx ?_
            refine AO.c ?_
            refine AO.nil ?_
            refine SQ.normal ?_
            refine AW.iteB (GL.ev _) (fun h5 => ?_) (fun h5 => ?_)
            · skip
              skip
              refine AW.seq' ?_
              refine AW.region ?_
              refine AO.c ?_
              refine AO.c ?_
              refine AO.nil ?_
              refine SQ.normal ?_
              refine AW.ret ?_
              refine SQ.ret ?_
              refine Fin.ret (Gh.refl) noid1 ?_
              rfl
            · skip
              simp only [Bool.or_eq_false_iff, decide_eq_false_iff_not] at h5
              have ha0 : 0 ≤ at_ := by omega
              have ha1 : at_ ≤ 63 := by omega
              have hel := hdB_len h
              have hkey := fun q => hd_turn (h := h) ha0 ha1 ht h5.2 q
              refine AW.skip ?_
              refine SQ.normal ?_
              refine AW.seq' ?_
              refine AW.region ?_
              refine AO.c ?_
              refine AO.c ?_
              refine AO.c ?_
              refine AO.c ?_
              refine AO.oo ?_
              refine AO.oo ?_
              refine AO.c ?_
              refine AO.c ?_
              refine AO.oo ?_
              refine AO.sst ?_
              refine AO.nil ?_
              refine SQ.normal ?_
              refine AW.seq' ?_
              refine AW.region ?_
              refine AO.c ?_
              have hxr := (xor_u8 _ _ (bytes_getD (hdB_bytes h) at_.toNat) ht).1
              have hLB : Bytes (h.bytes.set at_.toNat (Go.bits .xor .u8 (h.bytes.getD at_.toNat 0) tu)) := by
                intro x hx
                rcases List.mem_or_eq_of_mem_set hx with hx | rfl
                · exact hdB_bytes h x hx
                · exact hxr
              have hLl : (h.bytes.set at_.toNat (Go.bits .xor .u8 (h.bytes.getD at_.toNat 0) tu)).length = 64 := by rw [List.length_set, hdB_len]
              have hg2 := ehdr_Get (h.bytes.set at_.toNat (Go.bits .xor .u8 (h.bytes.getD at_.toNat 0) tu)) hLB (by omega)
              refine AO.ghost (Gh.freezeE 100 (li' := (h.bytes.set at_.toNat (Go.bits .xor .u8 (h.bytes.getD at_.toNat 0) tu))) (by first | rfl | (simp only [Nat.zero_add])) (by omega) (by omega)) ?_
              refine AO.call1 Try.func76 rfl rfl (hg2) ?_
              refine AO.c ?_
              refine AO.c ?_
              refine AO.c ?_
              refine AO.ww ?_
              refine AO.sst ?_
              refine AO.c ?_
              refine AO.nil ?_
              refine SQ.normal ?_
              refine AW.seq' ?_
              refine AW.region ?_
              refine AO.c ?_
              refine AO.c ?_
              refine AO.gx ?_
              refine AO.gx ?_
              refine AO.gx ?_
              refine AO.gx ?_
              refine AO.gx ?_
              refine AO.gx ?_
              refine AO.gx ?_
              refine AO.c ?_
              refine AO.c ?_
              refine AO.nil ?_
              refine SQ.normal ?_
              refine AW.ret ?_
              refine Fin.ret (Gh.refl) noid1 ?_
              show AV.v (.bool _) = AV.v (.bool true)
              generalize (h.bytes.set at_.toNat (Go.bits .xor .u8 (h.bytes.getD at_.toNat 0) tu)) = fl at hkey ⊢
              rcases Decidable.em (HdOk fl) with q | q
              · have hk := hkey q
                rw [if_pos q, decide_eq_true q]
                have hc : (decide ((hdOf fl).at_ = h.at_) && (decide ((hdOf fl).many = h.many) && (decide ((hdOf fl).names = h.names) && true))) = false := by
                  rw [Bool.eq_false_iff]; intro hc
                  simp only [Bool.and_eq_true, decide_eq_true_eq, and_true] at hc
                  exact hk (hd_ext hc.1 hc.2.1 hc.2.2)
                rw [hc]; rfl
              · rw [decide_eq_false q]; rfl

theorem args_EhdrTells {avs : List AV} (h : TArgs Try.prog [22, 3, 3, 3] avs) : A0 Try.prog 19 avs (fun ret => ret = .v (.bool true)) := by
  obtain ⟨av1, b1, rfl, k1, h1⟩ := TArgs.inv_one rfl h
  obtain ⟨av2, b2, rfl, k2, h2⟩ := TArgs.inv_one rfl h1
  obtain ⟨av3, b3, rfl, k3, h3⟩ := TArgs.inv_one rfl h2
  obtain ⟨av4, b4, rfl, k4, h4⟩ := TArgs.inv_one rfl h3
  obtain rfl := TArgs.inv_nil h4
  obtain ⟨b, he1, w1, q1⟩ := TA.inv_bytes (e := 5) k1
  cases he1
  obtain ⟨n2, he2, w2⟩ := k2.inv_int (k := .i64)
  cases he2
  obtain ⟨n3, he3, w3⟩ := k3.inv_int (k := .i64)
  cases he3
  obtain ⟨n4, he4, w4⟩ := k4.inv_int (k := .i64)
  cases he4
  exact ehdr_Tells b ⟨n2, n3, n4⟩ q1 w1 ⟨wf_i64 w2, wf_i64 w3, wf_i64 w4⟩
theorem args_EhdrBack {avs : List AV} (h : TArgs Try.prog [22, 3, 3, 3, 3, 5] avs) : A0 Try.prog 20 avs (fun ret => ret = .v (.bool true)) := by
  obtain ⟨av1, b1, rfl, k1, h1⟩ := TArgs.inv_one rfl h
  obtain ⟨av2, b2, rfl, k2, h2⟩ := TArgs.inv_one rfl h1
  obtain ⟨av3, b3, rfl, k3, h3⟩ := TArgs.inv_one rfl h2
  obtain ⟨av4, b4, rfl, k4, h4⟩ := TArgs.inv_one rfl h3
  obtain ⟨av5, b5, rfl, k5, h5⟩ := TArgs.inv_one rfl h4
  obtain ⟨av6, b6, rfl, k6, h6⟩ := TArgs.inv_one rfl h5
  obtain rfl := TArgs.inv_nil h6
  obtain ⟨b, he1, w1, q1⟩ := TA.inv_bytes (e := 5) k1
  cases he1
  obtain ⟨n2, he2, w2⟩ := k2.inv_int (k := .i64)
  cases he2
  obtain ⟨n3, he3, w3⟩ := k3.inv_int (k := .i64)
  cases he3
  obtain ⟨n4, he4, w4⟩ := k4.inv_int (k := .i64)
  cases he4
  obtain ⟨n5, he5, w5⟩ := k5.inv_int (k := .i64)
  cases he5
  obtain ⟨n6, he6, w6⟩ := k6.inv_int (k := .u8)
  cases he6
  exact ehdr_BackL b ⟨n2, n3, n4⟩ n5 n6 q1 w1 ⟨wf_i64 w2, wf_i64 w3, wf_i64 w4⟩ (wf_i64 w5) (wf_u8 w6)


end Go.Proofs.Ytbaibjhkmajplaa.AL
