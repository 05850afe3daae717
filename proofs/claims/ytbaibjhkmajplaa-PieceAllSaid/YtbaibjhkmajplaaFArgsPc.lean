/- What functions of the program compute, each by its own contract; the conditions stand with each. -/
import Derived.Test.YtbaibjhkmajplaaFLawPc
namespace Go.Proofs.Ytbaibjhkmajplaa.AL
open Go Go.RowKit Go.Proofs.Ytbaibjhkmajplaa.Base
set_option linter.unusedVariables false
set_option linter.unusedSimpArgs false
set_option maxRecDepth 4000

theorem i64_wf {n : Int} (h : (Lit.int .i64 n).wf = true) : I64 n := wf_i64 h
theorem ta_rel {avs : List AV} (h : TA Try.prog 92 avs) : ∃ r : RelD, avs = relA r ∧ r.ok := by
  have h1 := h.inv_struct
  obtain ⟨a1, b1, rfl, k1, h2⟩ := TAs.inv_cons h1
  obtain ⟨a2, b2, rfl, k2, h3⟩ := TAs.inv_cons h2
  obtain ⟨a3, b3, rfl, k3, h4⟩ := TAs.inv_cons h3
  obtain ⟨a4, b4, rfl, k4, h5⟩ := TAs.inv_cons h4
  obtain rfl := TAs.inv_nil h5
  obtain ⟨n1, rfl, w1⟩ := k1.inv_int (k := .i64)
  obtain ⟨n2, rfl, w2⟩ := k2.inv_int (k := .i64)
  obtain ⟨n3, rfl, w3⟩ := k3.inv_int (k := .i64)
  obtain ⟨n4, rfl, w4⟩ := k4.inv_int (k := .i64)
  exact ⟨⟨n1, n2, n3, n4⟩, rfl, i64_wf w1, i64_wf w2, i64_wf w3, i64_wf w4⟩
theorem ta_rels {avs : List AV} (h : TA Try.prog 23 avs) : ∃ l : List RelD, avs = [.rd 4 (l.map relA)] ∧ l.length ≤ maxLen ∧ ∀ r ∈ l, r.ok := by
  obtain ⟨rows, rfl, hl, hr⟩ := TA.inv_slice (e := 92) (g := true) (sz := 4) h
  obtain ⟨l, rfl, h2⟩ := rows_map relA RelD.ok fun row hm => ta_rel (hr row hm)
  exact ⟨l, rfl, by simpa using hl, h2⟩
theorem ta_sec {avs : List AV} (h : TA Try.prog 25 avs) : ∃ s : SecD, avs = secA s ∧ s.ok := by
  have h0 := h.inv_struct
  obtain ⟨a1, b1, rfl, k1, h1⟩ := TAs.inv_cons h0
  obtain ⟨a2, b2, rfl, k2, h2⟩ := TAs.inv_cons h1
  obtain ⟨a3, b3, rfl, k3, h3⟩ := TAs.inv_cons h2
  obtain ⟨a4, b4, rfl, k4, h4⟩ := TAs.inv_cons h3
  obtain ⟨a5, b5, rfl, k5, h5⟩ := TAs.inv_cons h4
  obtain ⟨a6, b6, rfl, k6, h6⟩ := TAs.inv_cons h5
  obtain ⟨a7, b7, rfl, k7, h7⟩ := TAs.inv_cons h6
  obtain ⟨a8, b8, rfl, k8, h8⟩ := TAs.inv_cons h7
  obtain ⟨a9, b9, rfl, k9, h9⟩ := TAs.inv_cons h8
  obtain rfl := TAs.inv_nil h9
  obtain ⟨n1, rfl, w1⟩ := k1.inv_str
  obtain ⟨n2, rfl, w2⟩ := k2.inv_int (k := .i64)
  obtain ⟨n3, rfl, w3⟩ := k3.inv_int (k := .i64)
  obtain ⟨n4, rfl, w4⟩ := k4.inv_int (k := .i64)
  obtain ⟨n5, rfl, w5⟩ := k5.inv_int (k := .i64)
  obtain ⟨n6, rfl, w6⟩ := k6.inv_int (k := .i64)
  obtain ⟨n7, rfl, w7⟩ := k7.inv_int (k := .i64)
  obtain ⟨n8, rfl, w8, q8⟩ := TA.inv_bytes (e := 5) k8
  obtain ⟨n9, rfl, w9, q9⟩ := ta_rels k9
  exact ⟨⟨n1, n2, n3, n4, n5, n6, n7, n8, n9⟩, rfl, w1, i64_wf w2, i64_wf w3, i64_wf w4, i64_wf w5, i64_wf w6, i64_wf w7, w8, q8, w9, q9⟩
theorem args_PieceTells {avs : List AV} (h : TArgs Try.prog [25, 3] avs) : A0 Try.prog 3 avs (fun ret => ret = .v (.bool true)) := by
  obtain ⟨cs, b1, rfl, k1, h1⟩ := TArgs.inv_agg h
  obtain ⟨av, b2, rfl, k2, h2⟩ := TArgs.inv_one rfl h1
  obtain rfl := TArgs.inv_nil h2
  obtain ⟨s, rfl, hs⟩ := ta_sec k1
  obtain ⟨n, he, w⟩ := k2.inv_int (k := .i64)
  cases he
  exact piece_Tells s n hs (i64_wf w)


end Go.Proofs.Ytbaibjhkmajplaa.AL
