/- An argument of type []api.Field. -/
import Derived.Test.YtndmadohffcdiaaOpen
import Derived.Test.YtndmadohffcdiaaSplitP
import Derived.Deep.SlicePairs
namespace Go.Proofs.Ytndmadohffcdiaa
open Go.ChangeShapes Go.WideShapes Go.ChangeAt Go.RowKit
section
variable {H : Type} {enc : TypeId × Value → H} {P : Program} {W : World} {sp : Nat → Bool} {held : Bool} {r : Reach} {b0 : Nat}
theorem fields_of_trod {t e i : TypeId} {f0 f1 : Field} {v : Value} {d : DataW H} {p : List MemPlace} (q : Nat) (hq : W.heap.size ≤ q) (hu : P.underlying t = some (.slice e)) (he : P.underlying e = some (.struct #[f0, f1])) (hi : P.underlying i = some (.int .i64))
    (ce : P.cellsOf e = 2) (o0 : f0.offset = 0) (o1 : f1.offset = 1) (t0 : f0.type = i) (t1 : f1.type = i) (ci : P.cellsOf i = 1)
    (hv : Value.okWide P W r b0 t v) (h : DataW.Trod enc P W 0 sp held t v d p) : ∃ fs, IsF q W v fs := by
  obtain ⟨a, len, cap, rfl⟩ := okWide_slice hu hv
  obtain ⟨fuel, hf⟩ := h
  rcases Go.Deep.open_slice_pairs hu he ce o0 o1 (by rw [t0]; exact ci) (by rw [t1]; exact ci) hf with ⟨hcs, _⟩ | ⟨x, l, c, m, n, V0, V1, D0, D1, P0, P1, hcs, _, hl, hm, hmm, _, hrow⟩
  · simp [Value.cells] at hcs
    obtain ⟨rfl, rfl, rfl⟩ := hcs
    exact ⟨[], IsS.nil _ _ _ _⟩
  · simp [Value.cells] at hcs
    obtain ⟨rfl, rfl, rfl⟩ := hcs
    have hm' : cap ≤ 9223372036854775807 := hm
    have hlm : len ≤ m := by rw [hmm]; split <;> omega
    have each : ∀ k, ∃ q : Fld, k < len → V0 k = .int .i64 q.part ∧ V1 k = .int .i64 q.opt ∧ I64 q.part ∧ I64 q.opt := by
      intro k
      by_cases hk : k < len
      · obtain ⟨_, _, h0, h1⟩ := hrow k (by omega)
        rw [t0] at h0; rw [t1] at h1
        obtain ⟨x0, e0, _, w0⟩ := DataW.trod_int hi h0
        obtain ⟨x1, e1, _, w1⟩ := DataW.trod_int hi h1
        exact ⟨⟨x0, x1⟩, fun _ => ⟨by simpa using e0, by simpa using e1, i64_of_wf w0, i64_of_wf w1⟩⟩
      · exact ⟨⟨0, 0⟩, fun h => absurd h hk⟩
    refine ⟨(List.range len).map fun k => (each k).choose, some x, cap, by simp, by simpa using hl, hm', fun k y hy => ?_⟩
    simp only [List.getElem?_map, Option.map_eq_some_iff] at hy
    obtain ⟨k', hk', rfl⟩ := hy
    obtain ⟨h1, h2⟩ := List.getElem?_eq_some_iff.1 hk'
    simp at h1 h2
    subst h2
    obtain ⟨e0, e1, w0, w1⟩ := (each k).choose_spec h1
    obtain ⟨c0, c1, _, _⟩ := hrow k (by omega)
    obtain ⟨c00, _, _, _⟩ := hrow 0 (by omega)
    obtain ⟨xb, xo, xs⟩ := x
    have hs : xs = none := spot_of (show W.cell? ⟨xb, xo, xs⟩ = some _ by simpa [Addr.add] using c00)
    subst hs
    rw [add_some] at c0 c1
    have hlt := lt_of_cell c0
    refine ⟨xb, xo, [V0 k, V1 k], rfl, by simp at hlt; omega, rfl, fun j u hu => ?_, (by have h0 := e0; have h1 := e1; exact List.cons_eq_cons.2 ⟨h0, List.cons_eq_cons.2 ⟨h1, rfl⟩⟩), w0, w1⟩
    match j, hu with
    | 0, hu => simp at hu; subst hu; simpa using c0
    | 1, hu => simp at hu; subst hu; simpa [Nat.add_assoc] using c1
end
end Go.Proofs.Ytndmadohffcdiaa
