/- Plain facts on what Judge chooses: no program. -/
import Derived.Test.YtndmadohffcdiaaBubC
namespace Go.Proofs.Ytndmadohffcdiaa
open Go.RowKit

/-- The greatest of 0 and the first k values. -/
def mxTo (l : List Int) (k : Nat) : Int := (l.take k).foldl max 0
theorem mxTo_succ {l : List Int} {k : Nat} {x m : Int} (hm : m = mxTo l k) (h : l[k]? = some x) : max m x = mxTo l (k + 1) := by
  subst hm; unfold mxTo; rw [take_snoc h, List.foldl_append]; rfl
theorem foldl_max_ge (l : List Int) : ∀ a : Int, a ≤ l.foldl max a ∧ ∀ x ∈ l, x ≤ l.foldl max a := by
  induction l with
  | nil => intro a; simp
  | cons y l ih =>
    intro a
    obtain ⟨h1, h2⟩ := ih (max a y)
    refine ⟨by simp only [List.foldl_cons]; omega, fun x hx => ?_⟩
    simp only [List.foldl_cons]
    rcases List.mem_cons.1 hx with rfl | hx
    · omega
    · exact h2 x hx
theorem foldl_max_le (l : List Int) (b : Int) : ∀ a : Int, a ≤ b → (∀ x ∈ l, x ≤ b) → l.foldl max a ≤ b := by
  induction l with
  | nil => intro a h _; simpa using h
  | cons y l ih =>
    intro a h hx
    simp only [List.foldl_cons]
    exact ih _ (by have := hx y (by simp); omega) (fun x h => hx x (by simp [h]))
theorem mval_mem {l : List Int} (h : l ≠ []) : ∃ k, k < l.length ∧ l[k]? = some (mval l) ∧ midx l = k := by
  obtain ⟨a, ha, h1, h2⟩ := midx_nat (l := l) rfl (List.length_pos_iff.2 h)
  exact ⟨a, ha, h2, h1⟩
theorem mxTo_all {l : List Int} {n : Nat} (hl : l.length = n) (h : l ≠ []) (hv : l.all valB = true) : mxTo l n = mval l := by
  unfold mxTo
  rw [take_all hl]
  obtain ⟨k, hk, hm, _⟩ := mval_mem h
  have h0 := (val_of hv hm).1
  refine Int.le_antisymm (foldl_max_le l _ 0 h0 fun x hx => ?_) ((foldl_max_ge l 0).2 _ (List.mem_of_getElem? hm))
  obtain ⟨i, hi⟩ := List.getElem?_of_mem hx
  exact mval_ge hi

theorem drk_mono (l : List Int) {d f : Int} (h : f ≤ d) : drk l d ≤ drk l f := by
  unfold drk
  refine List.countP_mono_left fun x _ hx => ?_
  simp at *; omega
theorem drk_pos {l : List Int} {f : Int} (h0 : l ≠ []) (h : f ≤ mval l) : 0 < drk l f := by
  obtain ⟨k, hk, hm, _⟩ := mval_mem h0
  exact List.countP_pos_iff.2 ⟨_, List.mem_of_getElem? hm, by simpa using h⟩

/-- What is chosen, with what the counts of dark and faint values then are. -/
theorem chosen {d f ld : Int} {l : List Int} (hd : d ≤ 9) (hf1 : 1 ≤ f) (hf : f ≤ d) (hl1 : 1 ≤ ld) (hl2 : ld ≤ 9) (h2 : 2 ≤ l.length) (h5 : l.length ≤ 5) (hv : l.all valB = true) :
    judgeE d f ld l = 0 ∧
    ((∃ k : Nat, k < l.length ∧ judgeV d f ld l = k ∧ l[k]? = some (mval l) ∧ 0 < drk l f) ∨ (judgeV d f ld l = -1 ∧ drk l d = 0) ∨ (judgeV d f ld l = -2 ∧ 2 ≤ drk l d ∧ 0 < drk l f)) := by
  have hvd : vldB d f ld = true := by simp [vldB]; omega
  refine ⟨(jE_ok hvd rfl h2 h5 hv).symm, ?_⟩
  rw [jV_ok hvd rfl h2 h5 hv]
  have h0 : l ≠ [] := by rintro rfl; simp at h2
  obtain ⟨k, hk, hm, hi⟩ := mval_mem h0
  have hmono := drk_mono l hf
  unfold jm
  by_cases h1 : drk l d = 1
  · rw [if_pos h1]
    exact .inl ⟨k, hk, hi, hm, by omega⟩
  rw [if_neg h1]
  by_cases hz : drk l d = 0
  · rw [if_pos hz]
    by_cases hc : lds l ld = true ∧ f ≤ mval l
    · rw [if_pos hc]; exact .inl ⟨k, hk, hi, hm, drk_pos h0 hc.2⟩
    · rw [if_neg hc]; exact .inr (.inl ⟨rfl, hz⟩)
  rw [if_neg hz]
  by_cases hc : lds l ld = true
  · rw [if_pos hc]; exact .inl ⟨k, hk, hi, hm, by omega⟩
  · rw [if_neg hc]; exact .inr (.inr ⟨rfl, by omega, by omega⟩)
end Go.Proofs.Ytndmadohffcdiaa
