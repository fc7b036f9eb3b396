/- What is chosen moves with its value if the values are permuted: no program. -/
import Derived.Test.YtndmadohffcdiaaBubF
import Derived.Test.YtndmadohffcdiaaTapeC
namespace Go.Proofs.Ytndmadohffcdiaa
open Go.RowKit

theorem upTo_nodup (n : Nat) : (upTo n).Nodup := by
  induction n with
  | zero => simp [upTo]
  | succ n ih =>
    rw [upTo_succ]
    exact List.nodup_append.2 ⟨ih, by simp, fun a ha b hb => by simp at hb; have := upTo_mem ha; omega⟩
theorem nodup_at {l : List Int} (h : l.Nodup) {i j : Nat} {x : Int} (hi : l[i]? = some x) (hj : l[j]? = some x) : i = j := by
  have a1 := List.getElem?_eq_some_iff.1 hi
  have a2 := List.getElem?_eq_some_iff.1 hj
  obtain ⟨b1, c1⟩ := a1
  obtain ⟨b2, c2⟩ := a2
  have hp := List.pairwise_iff_getElem.1 h
  rcases Nat.lt_trichotomy i j with h1 | h1 | h1
  · exact absurd (c1.trans c2.symm) (hp i j b1 b2 h1)
  · exact h1
  · exact absurd (c2.trans c1.symm) (hp j i b2 b1 h1)
theorem mem_upTo {n i : Nat} (h : i < n) : (i : Int) ∈ upTo n := by unfold upTo; exact List.mem_map.2 ⟨i, by simpa using h, rfl⟩
/-- The values in a new order. -/
def moved (l o : List Int) : List Int := o.map fun i => l.getD i.toNat 0
theorem moved_at {l o : List Int} {j : Nat} {x : Int} (h : o[j]? = some x) : (moved l o)[j]? = some (l.getD x.toNat 0) := by
  unfold moved; simp [h]
theorem moved_of {l o : List Int} {j : Nat} {y : Int} (h : (moved l o)[j]? = some y) : ∃ x, o[j]? = some x ∧ y = l.getD x.toNat 0 := by
  unfold moved at h
  simp only [List.getElem?_map, Option.map_eq_some_iff] at h
  obtain ⟨x, hx, rfl⟩ := h
  exact ⟨x, hx, rfl⟩
theorem moved_perm {l o : List Int} (h : o.Perm (upTo l.length)) : (moved l o).Perm l := by
  have h1 : (moved l o).Perm (moved l (upTo l.length)) := h.map _
  have h2 : moved l (upTo l.length) = l := by
    unfold moved upTo
    apply List.ext_getElem
    · simp
    · intro i h1 h2; simp [h2]
  rw [h2] at h1; exact h1

section
variable {d f ld : Int} {l o : List Int}
theorem at_nat (h : o.Perm (upTo l.length)) {j : Nat} {x : Int} (hj : o[j]? = some x) : ∃ i : Nat, x = i ∧ i < l.length := by
  have := upTo_mem (h.mem_iff.1 (List.mem_of_getElem? hj))
  exact ⟨x.toNat, by omega, by omega⟩
theorem sel_to (h : o.Perm (upTo l.length)) {i j : Nat} (hj : o[j]? = some (i : Int)) (hs : Sel d f ld l i) : Sel d f ld (moved l o) j := by
  have hnd : o.Nodup := h.nodup_iff.2 (upTo_nodup _)
  obtain ⟨x, hx, hc⟩ := hs
  have hm : (moved l o)[j]? = some x := by rw [moved_at hj]; simp [hx]
  have key : ∀ i' y, (moved l o)[i']? = some y → i' ≠ j → ∃ i2 : Nat, i2 ≠ i ∧ l[i2]? = some y := by
    intro i' y hi' hne
    obtain ⟨z, hz, rfl⟩ := moved_of hi'
    obtain ⟨i2, rfl, h2⟩ := at_nat h hz
    refine ⟨i2, ?_, ?_⟩
    · rintro rfl
      exact hne (nodup_at hnd hz hj)
    · rw [List.getElem?_eq_getElem h2]; simp [h2]
  refine ⟨x, hm, ?_⟩
  rcases hc with ⟨h1, h2⟩ | ⟨h1, h2⟩
  · exact .inl ⟨h1, fun i' y hi' hne => by obtain ⟨i2, hn2, hl2⟩ := key i' y hi' hne; exact h2 i2 y hl2 hn2⟩
  · exact .inr ⟨h1, fun i' y hi' hne => by obtain ⟨i2, hn2, hl2⟩ := key i' y hi' hne; exact h2 i2 y hl2 hn2⟩
theorem sel_from (h : o.Perm (upTo l.length)) {i j : Nat} (hj : o[j]? = some (i : Int)) (hs : Sel d f ld (moved l o) j) : Sel d f ld l i := by
  obtain ⟨i', hi', hil⟩ := at_nat h hj
  obtain rfl : i = i' := by omega
  obtain ⟨x, hx, hc⟩ := hs
  have hx' : l[i]? = some x := by
    rw [moved_at hj] at hx
    simp [hil] at hx
    rw [List.getElem?_eq_getElem hil, hx]
  have key : ∀ i2 y, l[i2]? = some y → i2 ≠ i → ∃ j2 : Nat, j2 ≠ j ∧ (moved l o)[j2]? = some y := by
    intro i2 y hy hne
    have hi2 := (List.getElem?_eq_some_iff.1 hy).1
    have hmem : (i2 : Int) ∈ o := h.mem_iff.2 (mem_upTo hi2)
    obtain ⟨j2, hj2⟩ := List.getElem?_of_mem hmem
    refine ⟨j2, ?_, ?_⟩
    · rintro rfl
      rw [hj] at hj2
      have := Option.some.inj hj2
      omega
    · rw [moved_at hj2]; simp [hy]
  refine ⟨x, hx', ?_⟩
  rcases hc with ⟨h1, h2⟩ | ⟨h1, h2⟩
  · exact .inl ⟨h1, fun i2 y hi2 hne => by obtain ⟨j2, hn2, hl2⟩ := key i2 y hi2 hne; exact h2 j2 y hl2 hn2⟩
  · exact .inr ⟨h1, fun i2 y hi2 hne => by obtain ⟨j2, hn2, hl2⟩ := key i2 y hi2 hne; exact h2 j2 y hl2 hn2⟩

theorem moves (hd : d ≤ 9) (hf1 : 1 ≤ f) (hf : f ≤ d) (hl1 : 1 ≤ ld) (hl2 : ld ≤ 9) (h2 : 2 ≤ l.length) (h5 : l.length ≤ 5) (hv : l.all valB = true) (h : o.Perm (upTo l.length)) :
    judgeE d f ld l = 0 ∧ judgeE d f ld (moved l o) = 0 ∧
    ((∃ i j : Nat, i < l.length ∧ j < l.length ∧ judgeV d f ld l = i ∧ judgeV d f ld (moved l o) = j ∧ o[j]? = some (i : Int)) ∨
     (judgeV d f ld l = -1 ∧ judgeV d f ld (moved l o) = -1) ∨ (judgeV d f ld l = -2 ∧ judgeV d f ld (moved l o) = -2)) := by
  have hp := moved_perm h
  have hlen : (moved l o).length = l.length := hp.length_eq
  have hv' : (moved l o).all valB = true := by
    rw [List.all_eq_true] at *
    exact fun x hx => hv x (hp.mem_iff.1 hx)
  have hdrk : drk (moved l o) d = drk l d := hp.countP_eq _
  have C1 := chosen (d := d) (f := f) (ld := ld) hd hf1 hf hl1 hl2 h2 h5 hv
  have C2 := chosen (d := d) (f := f) (ld := ld) (l := moved l o) hd hf1 hf hl1 hl2 (by omega) (by omega) hv'
  refine ⟨C1.1, C2.1, ?_⟩
  rcases C2.2 with ⟨j, hj, hje, _, _⟩ | ⟨hje, hz⟩ | ⟨hje, hz, _⟩
  · have hs := (sel_iff hd hf1 hf hl1 hl2 (by omega) (by omega) hv' j).1 hje
    have hjo : j < o.length := by have := h.length_eq; unfold upTo at this; simp at this; omega
    obtain ⟨i, hi, hil⟩ := at_nat h (List.getElem?_eq_getElem hjo)
    have hoj : o[j]? = some (i : Int) := by rw [List.getElem?_eq_getElem hjo, hi]
    have hs' := sel_from h hoj hs
    exact .inl ⟨i, j, hil, by omega, (sel_iff hd hf1 hf hl1 hl2 h2 h5 hv i).2 hs', hje, hoj⟩
  all_goals
    rcases C1.2 with ⟨i, hi, hie, _, _⟩ | ⟨hie, hz'⟩ | ⟨hie, hz', _⟩
    · exfalso
      have hs := (sel_iff hd hf1 hf hl1 hl2 h2 h5 hv i).1 hie
      have hmem : (i : Int) ∈ o := h.mem_iff.2 (mem_upTo hi)
      obtain ⟨j2, hj2⟩ := List.getElem?_of_mem hmem
      have := (sel_iff hd hf1 hf hl1 hl2 (by omega) (by omega) hv' j2).2 (sel_to h hj2 hs)
      omega
    · first | exact .inr (.inl ⟨hie, hje⟩) | (exfalso; omega)
    · first | exact .inr (.inr ⟨hie, hje⟩) | (exfalso; omega)
end
end Go.Proofs.Ytndmadohffcdiaa
