/- Small words on readings of slices. No program. -/
import Derived.Test.YtcpanmonllhmaaaDoorBase
set_option linter.unusedSimpArgs false
set_option linter.unusedVariables false
namespace Go.Proofs.YtcpanmonllhmaaaDoor
open Go.RowKit
/-- A reading in w is away from every block that w does not have yet. -/
theorem IsI.re {p q : Nat} {w : World} {v : Value} {l : List Int} (h : IsI p w v l) (hq : w.heap.size ≤ q) : IsI q w v l := by
  obtain ⟨A, c, hv, h1, h2, h3, h5, h4⟩ := h
  exact ⟨A, c, hv, h1, h2, h3, h5, fun k x hx => by obtain ⟨b, off, ha, hb, hc⟩ := h4 k x hx; have := lt_of_cell hc; simp at this; exact ⟨b, off, ha, by omega, hc⟩⟩
/-- The first k elements of a row of the call's own are one too. -/
theorem own_take {w : World} {base e size n g cap k : Nat} {xs : List Value} (h : w.ownsRow base e size (.slice (some ⟨g, 0, none⟩) n cap) n xs) (hk : k ≤ n) : w.ownsRow base e size (.slice (some ⟨g, 0, none⟩) k cap) k (xs.take (k * size)) := by
  have hl := h.1
  have hks : k * size ≤ n * size := Nat.mul_le_mul_right _ hk
  refine ⟨by rw [List.length_take, hl]; exact Nat.min_eq_left hks, ?_⟩
  rcases h.2 with ⟨e, _⟩ | ⟨g', cap', cur, e, hg, hh, hnc, hcm, hcs, ht⟩
  · cases e
  · injection e with e1 e2 e3
    subst e3
    injection e1 with e1
    injection e1 with e1
    subst e1
    refine .inr ⟨g, cap, cur, rfl, hg, hh, by omega, hcm, hcs, ?_⟩
    rw [← ht, List.take_take, Nat.min_eq_left hks]
theorem own_cap {w : World} {base e size n m g cap : Nat} {xs : List Value} (h : w.ownsRow base e size (.slice (some ⟨g, 0, none⟩) n cap) m xs) : n ≤ cap ∧ cap ≤ 9223372036854775807 := by
  rcases h.2 with ⟨e, _⟩ | ⟨g', cap', cur, e, hg, hh, hnc, hcm, hcs, ht⟩
  · cases e
  · injection e with e1 e2 e3
    subst e2; subst e3
    exact ⟨hnc, hcm⟩
/-- A fact that the walk does not look into. -/
structure Bx (p : Prop) : Prop where
  out : p
end Go.Proofs.YtcpanmonllhmaaaDoor
