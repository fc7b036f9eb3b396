/- From the reading of a law's arguments to the words that the walks use. -/
import Derived.Test.YtcpanmonllhmaaaDoorBaseC
import Derived.Deep.Matrix
import Derived.ProofKit
import Derived.OpenShut
import Derived.ShutString
set_option linter.unusedSimpArgs false
set_option linter.unusedVariables false
namespace Go.Proofs.YtcpanmonllhmaaaDoor
open Go.ChangeShapes Go.WideShapes Go.ChangeAt Go.RowKit
section
variable {H : Type} {enc : TypeId × Value → H} {P : Program} {W : World} {sp : Nat → Bool} {held : Bool} {r : Reach} {b0 : Nat}

theorem i64_of_wf {x : Int} (h : (Lit.int .i64 x).wf = true) : I64 x := by
  simp [Lit.wf, IntKind.min, IntKind.max, IntKind.signed, IntKind.bits] at h
  exact ⟨by omega, by omega⟩
/-- An argument of type int. -/
theorem int_of_trod {t : TypeId} {v : Value} {d : DataW H} {p : List MemPlace} (hu : P.underlying t = some (.int .i64)) (hv : Value.okWide P W r b0 t v) (h : DataW.Trod enc P W 0 sp held t v d p) : ∃ x, v = .int .i64 x ∧ I64 x := by
  obtain ⟨x, hx, _, _, wx⟩ := open_int hu hv h
  exact ⟨x, hx, i64_of_wf wx⟩
/-- An argument of type []int. -/
theorem ints_of_trod {t e : TypeId} {v : Value} {d : DataW H} {p : List MemPlace} (q : Nat) (hq : W.heap.size ≤ q) (hu : P.underlying t = some (.slice e)) (he : P.underlying e = some (.int .i64)) (hc : P.cellsOf e = 1)
    (hv : Value.okWide P W r b0 t v) (h : DataW.Trod enc P W 0 sp held t v d p) : ∃ l, IsI q W v l := by
  obtain ⟨a, len, cap, rfl⟩ := okWide_slice hu hv
  obtain ⟨fuel, hf⟩ := h
  rcases open_ints hu he hc hf with ⟨hcs, _⟩ | ⟨x, l, c, zs, hcs, _, hl, hm, hz, _, hcell, hwz⟩
  · simp [Value.cells] at hcs
    obtain ⟨rfl, rfl, rfl⟩ := hcs
    exact ⟨[], IsI.nil _ _⟩
  · simp [Value.cells] at hcs
    obtain ⟨rfl, rfl, rfl⟩ := hcs
    have hlen : len ≤ zs.length := by rw [hz]; split <;> omega
    have hm' : cap ≤ 9223372036854775807 := hm
    have hlk : (zs.take len).length = len := by rw [List.length_take]; omega
    refine ⟨zs.take len, some x, cap, by rw [hlk], by omega, hm', by omega, fun y hy => i64_of_wf (hwz y (List.mem_of_mem_take hy)), fun k y hy => ?_⟩
    have hk := (List.getElem?_eq_some_iff.1 hy).1
    have hcx := hcell k (by omega)
    have hc0 := hcell 0 (by omega)
    have hy' : zs.getD k 0 = y := by
      rw [List.getElem?_take, if_pos (by omega)] at hy
      simp [List.getD, hy]
    rw [hy'] at hcx
    obtain ⟨xb, xo, xs⟩ := x
    have hs : xs = none := by
      have h0 : (⟨xb, xo, xs⟩ : Addr).add 0 = ⟨xb, xo, xs⟩ := rfl
      rw [h0] at hc0
      unfold World.cell? at hc0
      cases xs with
      | none => rfl
      | some s => split at hc0 <;> simp at hc0
    subst hs
    rw [add_some] at hcx
    have := lt_of_cell hcx
    exact ⟨xb, xo, rfl, by simp at this; omega, hcx⟩

theorem spot_of {b o : Nat} {s : Option Nat} {v : Value} (h : W.cell? ⟨b, o, s⟩ = some v) : s = none := by
  unfold World.cell? at h
  cases s with
  | none => rfl
  | some s => split at h <;> simp at h
theorem isI_of_cells (q : Nat) (hq : W.heap.size ≤ q) (A : Option Addr) (len cap : Nat) (zs : List Int) (hl : len ≤ cap) (hm : cap ≤ maxLen) (hz : len ≤ zs.length) (h0 : A = none → len = 0)
    (hcell : ∀ a, A = some a → ∀ i, i < len → W.cell? (a.add i) = some (.int .i64 (zs.getD i 0))) (hwz : ∀ n ∈ zs, (Lit.int .i64 n).wf = true) : IsI q W (.slice A len cap) (zs.take len) := by
  have hm' : cap ≤ 9223372036854775807 := hm
  have hlk : (zs.take len).length = len := by rw [List.length_take]; omega
  refine ⟨A, cap, by rw [hlk], by omega, hm', by omega, fun y hy => i64_of_wf (hwz y (List.mem_of_mem_take hy)), fun k y hy => ?_⟩
  have hk := (List.getElem?_eq_some_iff.1 hy).1
  cases A with
  | none => have := h0 rfl; omega
  | some a =>
    have hcx := hcell a rfl k (by omega)
    have hc0 := hcell a rfl 0 (by omega)
    have hy' : zs.getD k 0 = y := by
      rw [List.getElem?_take, if_pos (by omega)] at hy
      simp [List.getD, hy]
    rw [hy'] at hcx
    obtain ⟨xb, xo, xs⟩ := a
    have hs : xs = none := spot_of (show W.cell? ⟨xb, xo, xs⟩ = some _ from hc0)
    subst hs
    rw [add_some] at hcx
    have := lt_of_cell hcx
    exact ⟨xb, xo, rfl, by simp at this; omega, hcx⟩
/-- An argument of type [][]int. -/
theorem intss_of_trod {t e i : TypeId} {v : Value} {d : DataW H} {p : List MemPlace} (q : Nat) (hq : W.heap.size ≤ q) (hu : P.underlying t = some (.slice e)) (he : P.underlying e = some (.slice i)) (hi : P.underlying i = some (.int .i64)) (hc : P.cellsOf e = 1) (hci : P.cellsOf i = 1)
    (hv : Value.okWide P W r b0 t v) (h : DataW.Trod enc P W 0 (fun _ => true) held t v d p) : ∃ ls, IsP q W v ls := by
  obtain ⟨a, len, cap, rfl⟩ := okWide_slice hu hv
  obtain ⟨fuel, hf⟩ := h
  rcases Go.Deep.open_int_rows hu he hi hc hci hf with ⟨hcs, _⟩ | ⟨x, l, c, A, L, C, Z, hcs, _, hl, hm, _, hrow⟩
  · simp [Value.cells] at hcs
    obtain ⟨rfl, rfl, rfl⟩ := hcs
    exact ⟨[], IsS.nil _ _ _ _⟩
  · simp [Value.cells] at hcs
    obtain ⟨rfl, rfl, rfl⟩ := hcs
    have hm' : cap ≤ 9223372036854775807 := hm
    refine ⟨(List.range len).map fun r => (Z r).take (L r), some x, cap, by simp, by simpa using hl, hm', fun k y hy => ?_⟩
    simp only [List.getElem?_map, Option.map_eq_some_iff] at hy
    obtain ⟨k', hk', rfl⟩ := hy
    have hkk := List.getElem?_eq_some_iff.1 hk'
    obtain ⟨h1, h2⟩ := hkk
    simp at h1 h2
    subst h2
    obtain ⟨hcell, r1, r2, r3, r4, r5, r6⟩ := hrow k (by omega)
    obtain ⟨h00, _⟩ := hrow 0 (by omega)
    obtain ⟨xb, xo, xs⟩ := x
    have hs : xs = none := spot_of (show W.cell? ⟨xb, xo, xs⟩ = some _ from h00)
    subst hs
    rw [add_some] at hcell
    have hlt := lt_of_cell hcell
    refine ⟨xb, xo, [.slice (A k) (L k) (C k)], rfl, by simp at hlt; omega, rfl, fun j u hu => ?_, _, rfl, ?_⟩
    · match j, hu with
      | 0, hu => simp at hu; subst hu; simpa using hcell
    · exact isI_of_cells q hq (A k) (L k) (C k) (Z k) r1 r2 (by omega) (fun h => by have := r5 h; omega) (fun a' ha' i hi => (r6 a' ha').2 i (by omega)) r4
end
end Go.Proofs.YtcpanmonllhmaaaDoor
