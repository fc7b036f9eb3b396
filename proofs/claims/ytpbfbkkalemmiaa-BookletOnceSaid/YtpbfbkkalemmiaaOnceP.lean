/- Each option of each choice part is one field of one page: plain lists. -/
import Derived.Test.YtpbfbkkalemmiaaFieldsP
import Derived.Test.YtpbfbkkalemmiaaFewest
import Derived.Test.YtpbfbkkalemmiaaPageOf
import Derived.Test.YtpbfbkkalemmiaaChoices
namespace Go.Proofs.Ytpbfbkkalemmiaa
open Go.RowKit

theorem iv_add (a m k : Nat) : iv a (m + k) = iv a m ++ iv (a + m) k := by
  induction k with
  | zero => simp [iv]
  | succ k ih => rw [← Nat.add_assoc, iv_succ, ih, iv_succ, List.append_assoc, Nat.add_assoc]
theorem iv_mem {a k : Nat} {x : Int} (h : x ∈ iv a k) : ∃ t : Nat, x = t ∧ a ≤ t ∧ t < a + k := by
  unfold iv at h
  obtain ⟨i, hi, rfl⟩ := List.mem_map.1 h
  have := List.mem_range.1 hi
  exact ⟨a + i, rfl, by omega, by omega⟩
theorem flds_app (ps : List Part) (a b : List Int) : fldsOf ps (a ++ b) = fldsOf ps a ++ fldsOf ps b := by unfold fldsOf; simp
theorem flds_one (ps : List Part) (x : Int) : fldsOf ps [x] = partF ps x := by unfold fldsOf; simp
/-- A page of a valid booklet is a row of numbers. -/
theorem page_iv {ns : List Int} {pgs : List (List Int)} (hok : okPages ns 0 pgs) {j : Nat} {pg : List Int} (hp : pgs[j]? = some pg) : pg = iv (consP pgs j) pg.length := by
  have h := (okPages_at pgs 0 hok).1 j pg hp
  rw [Nat.zero_add] at h
  apply List.ext_getElem?
  intro i
  rcases Nat.lt_or_ge i pg.length with hi | hi
  · have h1 := h.1.2 i _ hi (List.getElem?_eq_getElem hi)
    rw [List.getElem?_eq_getElem hi, h1]
    have hi2 : i < (iv (consP pgs j) pg.length).length := by rw [iv_len]; exact hi
    rw [List.getElem?_eq_getElem hi2]
    congr 1
    exact (iv_at (List.getElem?_eq_getElem hi2)).symm
  · rw [List.getElem?_eq_none hi, List.getElem?_eq_none (by rw [iv_len]; exact hi)]
/-- The fields of the first j pages. -/
def fldTo (ps : List Part) (pgs : List (List Int)) (j : Nat) : List Fld := fldsOf ps (iv 0 (consP pgs j))
theorem fldTo_succ {ns : List Int} {ps : List Part} {pgs : List (List Int)} (hok : okPages ns 0 pgs) {j : Nat} {pg : List Int} (hp : pgs[j]? = some pg) : fldTo ps pgs (j + 1) = fldTo ps pgs j ++ fldsOf ps pg := by
  unfold fldTo
  rw [consP_succ hp, iv_add, flds_app, Nat.zero_add, ← page_iv hok hp]
theorem fldTo_zero (ps : List Part) (pgs : List (List Int)) : fldTo ps pgs 0 = [] := by simp [fldTo, consP, iv, fldsOf]
theorem flds_iv_part {ps : List Part} {k : Nat} {q : Fld} (h : q ∈ fldsOf ps (iv 0 k)) : ∃ t : Nat, q.part = t ∧ t < k ∧ ∃ r, ps[t]? = some r ∧ r.kind = 2 ∧ 0 ≤ q.opt ∧ q.opt < r.opts := by
  obtain ⟨x, hx, hq⟩ := flds_mem h
  obtain ⟨t, rfl, _, ht⟩ := iv_mem hx
  obtain ⟨h1, r, hr, hk, h2, h3⟩ := partF_mem hq
  simp at hr
  exact ⟨t, h1, by omega, r, hr, hk, h2, h3⟩
theorem partF_nodup (ps : List Part) (x : Int) : (partF ps x).Nodup := by
  unfold partF
  split
  · split
    · rename_i q hq hk
      rw [List.nodup_iff_pairwise_ne, List.pairwise_map]
      refine (List.nodup_range (n := q.opts.toNat)).imp ?_
      intro a b hab e
      apply hab
      injection e with _ e2
      omega
    · exact List.nodup_nil
  · exact List.nodup_nil
theorem flds_nodup (ps : List Part) (k : Nat) : (fldsOf ps (iv 0 k)).Nodup := by
  induction k with
  | zero => simp [iv, fldsOf]
  | succ k ih =>
    rw [iv_succ, flds_app, flds_one, Nat.zero_add]
    refine List.nodup_append.2 ⟨ih, partF_nodup _ _, fun a ha b hb e => ?_⟩
    subst e
    obtain ⟨t, h1, h2, _⟩ := flds_iv_part ha
    have := (partF_mem hb).1
    omega
/-- A field that comes up has not come up before. -/
theorem fresh_fld {ns : List Int} {ps : List Part} {pgs : List (List Int)} (hok : okPages ns 0 pgs) {j k : Nat} {pg : List Int} (hp : pgs[j]? = some pg) {q : Fld} (hq : (fldsOf ps pg)[k]? = some q) : q ∉ fldTo ps pgs j ++ (fldsOf ps pg).take k := by
  have hn : (fldTo ps pgs j ++ fldsOf ps pg).Nodup := by rw [← fldTo_succ hok hp]; exact flds_nodup _ _
  have e : fldTo ps pgs j ++ fldsOf ps pg = (fldTo ps pgs j ++ (fldsOf ps pg).take k) ++ (fldsOf ps pg).drop k := by rw [List.append_assoc, List.take_append_drop]
  rw [e] at hn
  intro hm
  have h2 := (List.nodup_append.1 hn).2.2 q hm q
  exact h2 (List.mem_of_getElem? (i := 0) (by rw [List.getElem?_drop]; simpa using hq)) rfl
/-- The cell of a field. -/
def keyF (q : Fld) : Nat := q.part.toNat * 5 + q.opt.toNat
def seenB (L : List Fld) (k : Nat) : Bool := L.any fun q => keyF q == k
theorem seen_no {L : List Fld} {q : Fld} (hL : ∀ r ∈ L, 0 ≤ r.part ∧ 0 ≤ r.opt ∧ r.opt < 5) (hq : 0 ≤ q.part ∧ 0 ≤ q.opt ∧ q.opt < 5) (h : q ∉ L) : seenB L (keyF q) = false := by
  unfold seenB
  rw [List.any_eq_false]
  intro r hr e
  simp at e
  apply h
  have h1 := hL r hr
  unfold keyF at e
  have e1 : r.part = q.part := by omega
  have e2 : r.opt = q.opt := by omega
  have : r = q := by cases r; cases q; simp at e1 e2; rw [e1, e2]
  rw [← this]; exact hr
theorem seen_snoc (L : List Fld) (q : Fld) (k : Nat) : seenB (L ++ [q]) k = (seenB L k || keyF q == k) := by
  unfold seenB; simp
/-- The cells of the table of fields that have come up. -/
def seenC (L : List Fld) : List Value := (List.range 120).map fun k => .bool (seenB L k)
theorem seenC_len (L : List Fld) : (seenC L).length = 120 := by simp [seenC]
theorem seenC_at (L : List Fld) {k : Nat} (h : k < 120) : (seenC L)[k]? = some (.bool (seenB L k)) := by
  unfold seenC; rw [List.getElem?_map, List.getElem?_range h]; rfl
theorem seenC_set (L : List Fld) (q : Fld) (h : keyF q < 120) : (seenC L).set (keyF q) (.bool true) = seenC (L ++ [q]) := by
  apply List.ext_getElem?
  intro k
  rcases Nat.lt_or_ge k 120 with hk | hk
  · rw [seenC_at _ hk, seen_snoc]
    by_cases e : keyF q = k
    · subst e; rw [List.getElem?_set_self (by rw [seenC_len]; exact h)]; simp
    · rw [List.getElem?_set_ne e, seenC_at _ hk]; simp [e]
  · rw [List.getElem?_eq_none (by simp [seenC_len]; exact hk), List.getElem?_eq_none (by simp [seenC_len]; exact hk)]
theorem seenC_nil : seenC [] = List.replicate 120 (.bool false) := by
  apply List.ext_getElem?
  intro k
  rcases Nat.lt_or_ge k 120 with hk | hk
  · rw [seenC_at _ hk, List.getElem?_replicate, if_pos hk]; rfl
  · rw [List.getElem?_eq_none (by simp [seenC_len]; exact hk), List.getElem?_eq_none (by simpa using hk)]
/-- The options that are to be found. -/
def optOf (ps : List Part) (x : Int) : Int := match ps[x.toNat]? with | some q => q.opts | none => 0
theorem want_eq (ps : List Part) (hv : ps.all vpB = true) (k : Nat) (hk : k ≤ ps.length) : ((chTo ps k).map (optOf ps)).sum = ((fldsOf ps (iv 0 k)).length : Int) := by
  induction k with
  | zero => simp [chTo, iv, fldsOf]
  | succ k ih =>
    have ih := ih (by omega)
    have hq : ps[k]? = some ps[k] := List.getElem?_eq_getElem (by omega)
    rw [iv_succ, flds_app, flds_one, Nat.zero_add, List.length_append]
    by_cases h2 : (ps[k]).kind = 2
    · rw [chTo_yes hq h2, List.map_append, List.sum_append, ih, partF_yes hq h2]
      have := vp_of (List.all_eq_true.1 hv _ (List.getElem_mem (show k < ps.length by omega)))
      simp [optOf, hq]; omega
    · rw [chTo_no hq h2, ih, partF_no hq h2]; simp
end Go.Proofs.Ytpbfbkkalemmiaa
