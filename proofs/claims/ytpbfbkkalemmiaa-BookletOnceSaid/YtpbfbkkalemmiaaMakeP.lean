/- How parts fill pages: plain lists, no program. -/
import Derived.Test.YtpbfbkkalemmiaaPaper
import Derived.Test.YtpbfbkkalemmiaaBaseD
namespace Go.Proofs.Ytpbfbkkalemmiaa
open Go.RowKit

theorem getD0 {l : List Int} {k : Nat} {x : Int} (h : l[k]? = some x) : l.getD k 0 = x := by simp [List.getD, h]
/-- Behind the first k parts: the pages that are full (with the cover), the page that is being filled, its lines. -/
def gs (ns : List Int) : Nat → List (List Int) × List Int × Int
  | 0 => ([[]], [], 0)
  | k + 1 => if 30 < (gs ns k).2.2 + ns.getD k 0 then ((gs ns k).1 ++ [(gs ns k).2.1], [(k : Int)], ns.getD k 0) else ((gs ns k).1, (gs ns k).2.1 ++ [(k : Int)], (gs ns k).2.2 + ns.getD k 0)
def pagesOf (ns : List Int) : List (List Int) := (gs ns ns.length).1 ++ [(gs ns ns.length).2.1]
/-- Empty pages up to a multiple of 4. -/
def pad (ls : List (List Int)) : List (List Int) := ls ++ List.replicate ((4 - ls.length % 4) % 4) []
def makeP (ps : List Part) : List (List Int) := pad (pagesOf (ps.map need))

section
variable {ns : List Int} {k : Nat} {d : List (List Int)} {c : List Int} {s x : Int}
theorem gs_fit (h : gs ns k = (d, c, s)) (hx : ns[k]? = some x) (hf : s + x ≤ 30) : gs ns (k + 1) = (d, c ++ [(k : Int)], s + x) := by
  unfold gs; rw [h]; simp only; rw [getD0 hx, if_neg (by omega)]
theorem gs_new (h : gs ns k = (d, c, s)) (hx : ns[k]? = some x) (hf : 30 < s + x) : gs ns (k + 1) = (d ++ [c], [(k : Int)], x) := by
  unfold gs; rw [h]; simp only; rw [getD0 hx, if_pos hf]
end

/-- What holds of the state behind k parts. -/
theorem gs_inv (ns : List Int) (hn : ∀ x ∈ ns, 0 ≤ x ∧ x ≤ 30) : ∀ k, k ≤ ns.length → 0 ≤ (gs ns k).2.2 ∧ (gs ns k).2.2 ≤ 30 ∧ (gs ns k).1.length ≤ k + 1 ∧ (gs ns k).2.1.length ≤ k ∧
    (∀ l ∈ (gs ns k).1, ∀ y ∈ l, 0 ≤ y ∧ y < k) ∧ (∀ y ∈ (gs ns k).2.1, 0 ≤ y ∧ y < k) ∧ (∀ l ∈ (gs ns k).1, l.length ≤ k) ∧ ((gs ns k).2.1 = [] → (gs ns k).2.2 = 0 ∧ k = 0) := by
  intro k
  induction k with
  | zero => intro _; simp [gs]
  | succ k ih =>
    intro hk
    obtain ⟨h1, h2, h3, h4, h5, h6, h7, h8⟩ := ih (by omega)
    have hkl : k < ns.length := by omega
    have hx : ns[k]? = some ns[k] := List.getElem?_eq_getElem hkl
    have hb := hn _ (List.getElem_mem hkl)
    obtain ⟨d, c, s, e⟩ : ∃ d c s, gs ns k = (d, c, s) := ⟨_, _, _, rfl⟩
    rw [e] at h1 h2 h3 h4 h5 h6 h7 h8
    simp only at h1 h2 h3 h4 h5 h6 h7 h8
    by_cases hf : s + ns[k] ≤ 30
    · rw [gs_fit e hx hf]
      simp only
      refine ⟨by omega, by omega, by omega, by simp; omega, ?_, ?_, fun l hl => by have := h7 l hl; omega, fun h => by simp at h⟩
      · intro l hl y hy; have := h5 l hl y hy; omega
      · intro y hy
        rcases List.mem_append.1 hy with hy | hy
        · have := h6 y hy; omega
        · simp at hy; omega
    · rw [gs_new e hx (by omega)]
      simp only
      refine ⟨by omega, by omega, by simp; omega, by simp, ?_, ?_, ?_, fun h => by simp at h⟩
      · intro l hl y hy
        rcases List.mem_append.1 hl with hl | hl
        · have := h5 l hl y hy; omega
        · simp at hl; subst hl; have := h6 y hy; omega
      · intro y hy; simp at hy; omega
      · intro l hl
        rcases List.mem_append.1 hl with hl | hl
        · have := h7 l hl; omega
        · simp at hl; subst hl; omega

theorem pad_step {ls : List (List Int)} (h : ls.length % 4 ≠ 0) : pad (ls ++ [[]]) = pad ls := by
  unfold pad
  have e : (4 - ls.length % 4) % 4 = (4 - (ls ++ [[]]).length % 4) % 4 + 1 := by simp; omega
  rw [e, List.append_assoc, List.replicate_succ]
  rfl
theorem pad_done {ls : List (List Int)} (h : ls.length % 4 = 0) : pad ls = ls := by unfold pad; simp [h]
theorem need_range (ps : List Part) : ∀ x ∈ ps.map need, 0 ≤ x ∧ x ≤ 30 := by
  intro x hx
  obtain ⟨q, _, rfl⟩ := List.mem_map.1 hx
  exact need_bd q
theorem pagesOf_bd (ps : List Part) : (pagesOf (ps.map need)).length ≤ ps.length + 2 ∧ (∀ l ∈ pagesOf (ps.map need), l.length ≤ ps.length ∧ ∀ y ∈ l, 0 ≤ y ∧ y < ps.length) := by
  have h := gs_inv (ps.map need) (need_range ps) (ps.map need).length (Nat.le_refl _)
  obtain ⟨_, _, h3, h4, h5, h6, h7, _⟩ := h
  unfold pagesOf
  simp only [List.length_map] at *
  refine ⟨by simp; omega, fun l hl => ?_⟩
  rcases List.mem_append.1 hl with hl | hl
  · exact ⟨h7 l hl, h5 l hl⟩
  · simp at hl; subst hl; exact ⟨h4, h6⟩
theorem makeP_bd (ps : List Part) : (makeP ps).length ≤ ps.length + 5 ∧ (∀ l ∈ makeP ps, l.length ≤ ps.length ∧ ∀ y ∈ l, 0 ≤ y ∧ y < ps.length) := by
  obtain ⟨h1, h2⟩ := pagesOf_bd ps
  unfold makeP pad
  refine ⟨by simp; omega, fun l hl => ?_⟩
  rcases List.mem_append.1 hl with hl | hl
  · exact h2 l hl
  · rw [List.mem_replicate] at hl
    rw [hl.2]; simp
theorem needs_at {ps : List Part} {k : Nat} {q : Part} (h : ps[k]? = some q) : (ps.map need)[k]? = some (need q) := by simp [h]
theorem pagesOf_of {ps : List Part} {n : Nat} {d : List (List Int)} {c : List Int} {s : Int} (hl : ps.length = n) (h : gs (ps.map need) n = (d, c, s)) : d ++ [c] = pagesOf (ps.map need) := by
  unfold pagesOf; rw [List.length_map, hl, h]
end Go.Proofs.Ytpbfbkkalemmiaa
