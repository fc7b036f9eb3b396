/- Which option is chosen, as a condition on the values alone: no program. -/
import Derived.Test.YtndmadohffcdiaaBubE
namespace Go.Proofs.Ytndmadohffcdiaa
open Go.RowKit

/-- The value at k is the only dark one, or it is at least faint and leads. -/
def Sel (d f ld : Int) (l : List Int) (k : Nat) : Prop :=
  ∃ x, l[k]? = some x ∧ ((d ≤ x ∧ ∀ i y, l[i]? = some y → i ≠ k → y < d) ∨ (f ≤ x ∧ ∀ i y, l[i]? = some y → i ≠ k → y + ld ≤ x))

theorem amax_strict {l : List Int} {k : Nat} {x : Int} (hk : l[k]? = some x) (h : ∀ i y, l[i]? = some y → i ≠ k → y < x) : amax l l.length = k := by
  have hkl := (List.getElem?_eq_some_iff.1 hk).1
  have h1 := amax_ge l l.length k hkl
  rw [getD_of hk] at h1
  have h2 := amax_le l l.length
  have h3 : amax l l.length < l.length := by omega
  by_cases e : amax l l.length = k
  · exact e
  · have := h _ _ (List.getElem?_eq_getElem h3) e
    have e2 : l.getD (amax l l.length) 0 = l[amax l l.length] := getD_of (List.getElem?_eq_getElem h3)
    omega

theorem count_one (p : Int → Bool) : ∀ (l : List Int) (k : Nat) (x : Int), l[k]? = some x → p x = true → (l.countP p = 1 ↔ ∀ i y, l[i]? = some y → i ≠ k → p y = false) := by
  intro l
  induction l with
  | nil => intro k x h; simp at h
  | cons a l ih =>
    intro k x hk hp
    cases k with
    | zero =>
      simp at hk
      subst hk
      rw [List.countP_cons, if_pos hp]
      constructor
      · intro h i y hi hne
        cases i with
        | zero => omega
        | succ i =>
          simp at hi
          have h0 : l.countP p = 0 := by omega
          have := List.countP_eq_zero.1 h0 y (List.mem_of_getElem? hi)
          simpa using this
      · intro h
        have : l.countP p = 0 := List.countP_eq_zero.2 fun y hy => by
          obtain ⟨i, hi⟩ := List.getElem?_of_mem hy
          have := h (i + 1) y (by simpa using hi) (by omega)
          simp [this]
        omega
    | succ k =>
      simp at hk
      have hpos : 0 < l.countP p := List.countP_pos_iff.2 ⟨x, List.mem_of_getElem? hk, hp⟩
      rw [List.countP_cons]
      cases ha : p a with
      | true =>
        simp only [if_true]
        constructor
        · intro h; omega
        · intro h; have := h 0 a (by simp) (by omega); simp [ha] at this
      | false =>
        simp only [Bool.false_eq_true, if_false, Nat.add_zero]
        rw [ih k x hk hp]
        constructor
        · intro h i y hi hne
          cases i with
          | zero => simp at hi; subst hi; exact ha
          | succ i => exact h i y (by simpa using hi) (by omega)
        · intro h i y hi hne
          exact h (i + 1) y (by simpa using hi) (by omega)

theorem lds_iff (l : List Int) (ld : Int) : lds l ld = true ↔ ∀ i y, l[i]? = some y → i ≠ amax l l.length → y + ld ≤ mval l := by
  unfold lds ldsTo
  rw [List.all_eq_true]
  constructor
  · intro h i y hi hne
    have hil := (List.getElem?_eq_some_iff.1 hi).1
    have := h i (by simpa using hil)
    rw [getD_of hi] at this
    simp [hne] at this
    exact this
  · intro h i hi
    have hil : i < l.length := by simpa using hi
    by_cases e : i = amax l l.length
    · simp [e]
    · have := h i _ (List.getElem?_eq_getElem hil) e
      rw [getD_of (List.getElem?_eq_getElem hil)]
      simp [e]
      exact this

section
variable {d f ld : Int} {l : List Int}
theorem sel_iff (hd : d ≤ 9) (hf1 : 1 ≤ f) (hf : f ≤ d) (hl1 : 1 ≤ ld) (hl2 : ld ≤ 9) (h2 : 2 ≤ l.length) (h5 : l.length ≤ 5) (hv : l.all valB = true) (k : Nat) :
    judgeV d f ld l = k ↔ Sel d f ld l k := by
  have hvd : vldB d f ld = true := by simp [vldB]; omega
  rw [jV_ok hvd rfl h2 h5 hv]
  have h0 : l ≠ [] := by rintro rfl; simp at h2
  have ham : amax l l.length < l.length := by have := amax_le l l.length; omega
  have hmv : l[amax l l.length]? = some (mval l) := by
    rw [List.getElem?_eq_getElem ham]; unfold mval; rw [getD_of (List.getElem?_eq_getElem ham)]
  have hmi : midx l = (amax l l.length : Nat) := rfl
  constructor
  · intro h
    have key : amax l l.length = k ∧ (drk l d = 1 ∨ (lds l ld = true ∧ f ≤ mval l)) := by
      unfold jm at h
      by_cases h1 : drk l d = 1
      · rw [if_pos h1] at h; exact ⟨by omega, .inl h1⟩
      · rw [if_neg h1] at h
        by_cases hz : drk l d = 0
        · rw [if_pos hz] at h
          by_cases hc : lds l ld = true ∧ f ≤ mval l
          · rw [if_pos hc] at h; exact ⟨by omega, .inr hc⟩
          · rw [if_neg hc] at h; omega
        · rw [if_neg hz] at h
          by_cases hc : lds l ld = true
          · rw [if_pos hc] at h; exact ⟨by omega, .inr ⟨hc, by have := mval_drk (l := l) (d := d) (by omega); omega⟩⟩
          · rw [if_neg hc] at h; omega
    obtain ⟨rfl, hc⟩ := key
    refine ⟨mval l, hmv, ?_⟩
    rcases hc with h1 | ⟨hl, hfm⟩
    · have hdm := mval_drk (l := l) (d := d) (by omega)
      refine .inl ⟨hdm, fun i y hi hne => ?_⟩
      have := (count_one (fun x => decide (d ≤ x)) l _ _ hmv (by simpa using hdm)).1 h1 i y hi hne
      simpa using this
    · exact .inr ⟨hfm, (lds_iff l ld).1 hl⟩
  · rintro ⟨x, hx, hc⟩
    have hst : amax l l.length = k := by
      refine amax_strict hx fun i y hi hne => ?_
      rcases hc with ⟨h1, h2⟩ | ⟨h1, h2⟩
      · have := h2 i y hi hne; omega
      · have := h2 i y hi hne; omega
    rw [hst] at hmv
    rw [hx] at hmv
    have hxm : x = mval l := Option.some.inj hmv
    subst hxm
    unfold jm
    rcases hc with ⟨h1, h2⟩ | ⟨h1, h2⟩
    · have : drk l d = 1 := (count_one (fun x => decide (d ≤ x)) l k _ hx (by simpa using h1)).2 fun i y hi hne => by
        have := h2 i y hi hne; simp; omega
      rw [if_pos this, hmi, hst]
    · have hlds : lds l ld = true := (lds_iff l ld).2 fun i y hi hne => h2 i y hi (by rw [← hst]; exact hne)
      rw [hmi, hst, hlds]
      split
      · rfl
      · split
        · rw [if_pos ⟨rfl, h1⟩]
        · rfl
end
theorem Sel.darker {d f ld : Int} {l : List Int} {k : Nat} {x x' : Int} (h : Sel d f ld l k) (hx : l[k]? = some x) (hle : x ≤ x') : Sel d f ld (l.set k x') k := by
  obtain ⟨y, hy, hc⟩ := h
  obtain rfl : y = x := by rw [hx] at hy; exact (Option.some.inj hy).symm
  have hk := (List.getElem?_eq_some_iff.1 hx).1
  refine ⟨x', by rw [List.getElem?_set_self hk], ?_⟩
  rcases hc with ⟨h1, h2⟩ | ⟨h1, h2⟩
  · refine .inl ⟨by omega, fun i z hi hne => ?_⟩
    rw [List.getElem?_set_ne (by omega)] at hi
    exact h2 i z hi hne
  · refine .inr ⟨by omega, fun i z hi hne => ?_⟩
    rw [List.getElem?_set_ne (by omega)] at hi
    have := h2 i z hi hne; omega
theorem Sel.lighter {d f ld : Int} {l : List Int} {k j : Nat} {x x' : Int} (h : Sel d f ld l k) (hj : j ≠ k) (hx : l[j]? = some x) (hle : x' ≤ x) : Sel d f ld (l.set j x') k := by
  obtain ⟨y, hy, hc⟩ := h
  have hk := (List.getElem?_eq_some_iff.1 hx).1
  refine ⟨y, by rw [List.getElem?_set_ne hj]; exact hy, ?_⟩
  rcases hc with ⟨h1, h2⟩ | ⟨h1, h2⟩
  · refine .inl ⟨h1, fun i z hi hne => ?_⟩
    by_cases e : i = j
    · subst e
      rw [List.getElem?_set_self hk] at hi
      have := Option.some.inj hi
      have := h2 i x hx hne
      omega
    · rw [List.getElem?_set_ne (by omega)] at hi; exact h2 i z hi hne
  · refine .inr ⟨h1, fun i z hi hne => ?_⟩
    by_cases e : i = j
    · subst e
      rw [List.getElem?_set_self hk] at hi
      have := Option.some.inj hi
      have := h2 i x hx hne
      omega
    · rw [List.getElem?_set_ne (by omega)] at hi; exact h2 i z hi hne
end Go.Proofs.Ytndmadohffcdiaa
