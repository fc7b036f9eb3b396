/- rscode.corrections. -/
import Derived.Test.YtlabmdekdhjofaaDoorRsI
import Derived.Test.YtlabmdekdhjofaaDoorBaseF
import Derived.Deep.OwnRows
namespace Go.Proofs.YtlabmdekdhjofaaDoor
open Go.RowKit

/-- A list of places as ints. -/
def psI (ps : List Nat) : List Int := ps.map fun (p : Nat) => (p : Int)
theorem psI_len (ps : List Nat) : (psI ps).length = ps.length := by simp [psI]
theorem psI_at {ps : List Nat} {k : Nat} {x : Int} (h : (psI ps)[k]? = some x) : ∃ p : Nat, ps[k]? = some p ∧ x = (p : Int) := by
  unfold psI at h
  rw [List.getElem?_map, Option.map_eq_some_iff] at h
  obtain ⟨c, h1, h2⟩ := h
  exact ⟨c, h1, h2.symm⟩

/-- The rows of a matrix, as far as row j, and row j as far as column k. -/
def rowsTo (M : Nat → Nat → F) (wd j k : Nat) : List (List Int) := (List.range 6).map fun r => if r < j then F.rowI M wd r else if r = j then (F.rowI M wd r).take k else []
theorem rowsTo_len (M : Nat → Nat → F) (wd j k : Nat) : (rowsTo M wd j k).length = 6 := by simp [rowsTo]
theorem rowsTo_at {M : Nat → Nat → F} {wd j k r : Nat} (h : r < 6) : (rowsTo M wd j k)[r]? = some (if r < j then F.rowI M wd r else if r = j then (F.rowI M wd r).take k else []) := by
  unfold rowsTo; rw [List.getElem?_map, List.getElem?_range h]; rfl
theorem rowsTo_set {M : Nat → Nat → F} {wd j k : Nat} {x : Int} (hj : j < 6) (hx : (F.rowI M wd j)[k]? = some x) : (rowsTo M wd j k).set j ((F.rowI M wd j).take k ++ [x]) = rowsTo M wd j (k + 1) := by
  apply List.ext_getElem?
  intro r
  rcases Nat.lt_or_ge r 6 with hr | hr
  · rw [List.getElem?_set, rowsTo_at hr, rowsTo_at hr, rowsTo_len]
    by_cases e : j = r
    · subst e; rw [if_pos rfl, if_pos hr, if_neg (by omega), if_pos rfl, take_snoc hx]
    · rw [if_neg e, if_neg (show ¬ r = j from fun h => e h.symm), if_neg (show ¬ r = j from fun h => e h.symm)]
  · rw [List.getElem?_eq_none (by rw [List.length_set, rowsTo_len]; exact hr), List.getElem?_eq_none (by rw [rowsTo_len]; exact hr)]
theorem rowsTo_next (M : Nat → Nat → F) (wd j : Nat) : rowsTo M wd j wd = rowsTo M wd (j + 1) 0 := by
  unfold rowsTo
  refine List.map_congr_left fun r _ => ?_
  by_cases e : r < j
  · rw [if_pos e, if_pos (by omega)]
  · rw [if_neg e]
    by_cases e2 : r = j
    · rw [if_pos e2, if_pos (by omega), List.take_of_length_le (by rw [F.rowI_len]; exact Nat.le_refl _)]
    · rw [if_neg e2, if_neg (by omega)]
      split <;> simp
theorem rowsTo_all (M : Nat → Nat → F) (wd : Nat) : rowsTo M wd 6 0 = F.matI M wd := by
  unfold rowsTo F.matI
  exact List.map_congr_left fun r hr => if_pos (List.mem_range.1 hr)
theorem rowsTo_zero (M : Nat → Nat → F) (wd : Nat) : rowsTo M wd 0 0 = List.replicate 6 [] := by
  unfold rowsTo
  apply List.ext_getElem?
  intro r
  rcases Nat.lt_or_ge r 6 with hr | hr
  · rw [List.getElem?_map, List.getElem?_range hr, List.getElem?_replicate, if_pos hr]
    simp
  · rw [List.getElem?_eq_none (by simpa using hr), List.getElem?_eq_none (by simpa using hr)]

/-- From rows of the call's own to a matrix. -/
theorem Mat.matW {base g eS eI cap wd : Nat} {w : World} {M : Nat → Nat → F} (h : Mat base eS eI w (.slice (some ⟨g, 0, none⟩) 6 cap) (F.matI M wd)) (hne : eS ≠ eI) (hw : 0 < wd) : MatW base g eS eI w M wd := by
  obtain ⟨us, a, b, c, d⟩ := h
  rw [F.matI_len] at a b
  rcases b.2 with ⟨e, _⟩ | ⟨g', cap', cur, e, hg, hh, hnc, hcm, hcs, htk⟩
  · cases e
  injection e with e1 e2 e3
  injection e1 with e1
  injection e1 with e1
  subst e1
  rw [Nat.mul_one] at htk
  have hrow : ∀ r, r < 6 → ∃ br cr, us[r]? = some (.slice (some ⟨br, 0, none⟩) wd cr) ∧ base ≤ br ∧ wd ≤ cr ∧ cr ≤ 9223372036854775807 ∧ ∃ cu : Array Value, w.heap[br]? = some (.cells cu eI (0, 0)) ∧ ∀ i, i < wd → cu[i]? = some (.int .i64 ((M r i).n : Int)) := by
    intro r hr
    have hu : us[r]? = some us[r] := List.getElem?_eq_getElem (by omega)
    have ho := c r _ _ hu (F.matI_at hr)
    rw [F.rowI_len] at ho
    rcases ho.2 with ⟨e, h0⟩ | ⟨br, cr, cu, e, hb, hhb, h1, h2, h3, h4⟩
    · omega
    · refine ⟨br, cr, by rw [hu, e], hb, h1, h2, cu, hhb, fun i hi => ?_⟩
      rw [Nat.mul_one] at h4
      have : (cu.toList.take wd)[i]? = some (.int .i64 ((M r i).n : Int)) := by
        rw [h4, List.getElem?_map, F.rowI_at hi]; rfl
      rw [List.getElem?_take, if_pos hi] at this
      simpa using this
  let br : Nat → Nat := fun r => if h : r < 6 then (hrow r h).choose else 0
  have hbr : ∀ r (h : r < 6), br r = (hrow r h).choose := fun r h => dif_pos h
  let cr : Nat → Nat := fun r => if h : r < 6 then (hrow r h).choose_spec.choose else 0
  have hcr : ∀ r (h : r < 6), cr r = (hrow r h).choose_spec.choose := fun r h => dif_pos h
  have spec : ∀ r, r < 6 → us[r]? = some (.slice (some ⟨br r, 0, none⟩) wd (cr r)) ∧ base ≤ br r ∧ wd ≤ cr r ∧ cr r ≤ 9223372036854775807 ∧ ∃ cu : Array Value, w.heap[br r]? = some (.cells cu eI (0, 0)) ∧ ∀ i, i < wd → cu[i]? = some (.int .i64 ((M r i).n : Int)) := fun r h => by
    rw [hbr r h, hcr r h]; exact (hrow r h).choose_spec.choose_spec
  refine ⟨br, cr, cur, ⟨hh, fun r hr => ?_, fun r hr => (spec r hr).2.2.2.2, fun r s hr hs he => ?_, fun r hr he => ?_, fun r hr => (spec r hr).2.1, hg, fun r hr => ⟨(spec r hr).2.2.1, (spec r hr).2.2.2.1⟩⟩⟩
  · have := (spec r hr).1
    rw [← htk, List.getElem?_take, if_pos hr] at this
    simpa using this
  · rcases Nat.decEq r s with hne' | heq
    · exact absurd (by rw [he]; rfl) (d r s _ _ (br r) hne' (spec r hr).1 (spec s hs).1 rfl)
    · exact heq
  · obtain ⟨cu, h1, _⟩ := (spec r hr).2.2.2.2
    rw [he, hh] at h1
    injection h1 with h1
    injection h1 with _ h2
    exact hne h2

theorem mat6_new {base eS eI : Nat} (w : World) (hb : base ≤ w.heap.size) : Mat base eS eI (w.alloc (.cells #[.slice none 0 0, .slice none 0 0, .slice none 0 0, .slice none 0 0, .slice none 0 0, .slice none 0 0] eS)) (.slice (some ⟨w.heap.size, 0, none⟩) 6 6) (List.replicate 6 []) := by
  refine ⟨List.replicate 6 (.slice none 0 0), by simp, ⟨by simp, .inr ⟨w.heap.size, 6, _, rfl, hb, heap_alloc_new w _, by simp, by unfold maxLen; omega, by simp, by simp [List.replicate]⟩⟩, fun j u l hu hl => ?_, fun i j u u' k _ hu _ hk => ?_⟩
  · obtain rfl := (List.mem_replicate.1 (List.mem_of_getElem? hu)).2
    obtain rfl := (List.mem_replicate.1 (List.mem_of_getElem? hl)).2
    exact World.ownsRow_nil _ _ _ _
  · obtain rfl := (List.mem_replicate.1 (List.mem_of_getElem? hu)).2
    simp [Value.ownBlock] at hk
end Go.Proofs.YtlabmdekdhjofaaDoor
