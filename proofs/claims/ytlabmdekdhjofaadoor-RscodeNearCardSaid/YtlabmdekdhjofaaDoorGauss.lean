/- Elimination in a matrix with six rows over the field with 32 elements. No program. -/
import Derived.Test.YtlabmdekdhjofaaDoorGf
namespace Go.Proofs.YtlabmdekdhjofaaDoor
namespace F
def sumN (f : Nat → F) : Nat → F | 0 => 0 | k + 1 => sumN f k + f k
theorem sumN_congr {f g : Nat → F} {k : Nat} (h : ∀ c, c < k → f c = g c) : sumN f k = sumN g k := by
  induction k with
  | zero => rfl
  | succ k ih => show _ + _ = _ + _; rw [ih fun c hc => h c (by omega), h k (by omega)]
theorem sumN_add (f g : Nat → F) (k : Nat) : sumN (fun c => f c + g c) k = sumN f k + sumN g k := by
  induction k with
  | zero => show (0 : F) = 0 + 0; rw [add_zero]
  | succ k ih => show sumN _ k + (f k + g k) = (sumN f k + f k) + (sumN g k + g k); rw [ih]; ac_rfl
theorem sumN_mul (a : F) (f : Nat → F) (k : Nat) : sumN (fun c => a * f c) k = a * sumN f k := by
  induction k with
  | zero => show (0 : F) = a * 0; rw [mul_zero]
  | succ k ih => show sumN _ k + _ = a * (sumN f k + f k); rw [ih, mul_add]
theorem sumN_zero {f : Nat → F} {k : Nat} (h : ∀ c, c < k → f c = 0) : sumN f k = 0 := by
  induction k with
  | zero => rfl
  | succ k ih => show sumN f k + f k = 0; rw [ih fun c hc => h c (by omega), h k (by omega), add_zero]
theorem sumN_single {f : Nat → F} {k i : Nat} (hi : i < k) (h : ∀ c, c < k → c ≠ i → f c = 0) : sumN f k = f i := by
  induction k with
  | zero => omega
  | succ k ih =>
    show sumN f k + f k = f i
    by_cases e : i = k
    · subst e; rw [sumN_zero fun c hc => h c (by omega) (by omega), zero_add]
    · rw [ih (by omega) fun c hc hne => h c (by omega) hne, h k (by omega) (Ne.symm e), add_zero]
theorem sumN_two {f : Nat → F} {k i j : Nat} (hi : i < k) (hj : j < k) (hij : i ≠ j) (h : ∀ c, c < k → c ≠ i → c ≠ j → f c = 0) : sumN f k = f i + f j := by
  have e : sumN f k = sumN (fun c => (if c = i then f c else 0) + (if c = i then 0 else f c)) k := sumN_congr fun c _ => by split <;> simp [add_zero, zero_add]
  rw [e, sumN_add, sumN_single hi (fun c _ hne => if_neg hne), sumN_single (i := j) hj (fun c hc hne => by
    split
    · rfl
    · rename_i h'; exact h c hc h' hne), if_pos rfl, if_neg (Ne.symm hij)]

/-- Row r times X. -/
def dot (M : Nat → Nat → F) (r : Nat) (X : Nat → F) (wd : Nat) : F := sumN (fun c => M r c * X c) wd
def Sol (M : Nat → Nat → F) (X : Nat → F) (wd : Nat) : Prop := ∀ r, r < 6 → dot M r X wd = 0
def swapM (M : Nat → Nat → F) (k p : Nat) : Nat → Nat → F := fun r c => if r = k then M p c else if r = p then M k c else M r c
def scaleM (M : Nat → Nat → F) (k : Nat) (s : F) : Nat → Nat → F := fun r c => if r = k then M r c * s else M r c
def redM (M : Nat → Nat → F) (k : Nat) : Nat → Nat → F := fun r c => if r = k then M r c else M r c + M r k * M k c
def stepM (M : Nat → Nat → F) (k p : Nat) : Nat → Nat → F := redM (scaleM (swapM M k p) k (M p k).inv) k
def Unit6 (M : Nat → Nat → F) (k : Nat) : Prop := ∀ r c, r < 6 → c < k → M r c = if r = c then 1 else 0

theorem sol_swap {M : Nat → Nat → F} {X : Nat → F} {wd k p : Nat} (hk : k < 6) (hp : p < 6) : Sol (swapM M k p) X wd ↔ Sol M X wd := by
  have hd : ∀ r, dot (swapM M k p) r X wd = if r = k then dot M p X wd else if r = p then dot M k X wd else dot M r X wd := fun r => by
    unfold dot swapM
    split
    · rfl
    · split <;> rfl
  constructor
  · intro h r hr
    by_cases e : r = k
    · subst e
      have := h p hp
      rw [hd] at this
      by_cases e2 : p = r
      · subst e2; rw [if_pos rfl] at this; exact this
      · rw [if_neg e2, if_pos rfl] at this; exact this
    · by_cases e2 : r = p
      · subst e2
        have := h k hk
        rw [hd, if_pos rfl] at this; exact this
      · have := h r hr
        rw [hd, if_neg e, if_neg e2] at this; exact this
  · intro h r hr
    rw [hd]
    split
    · exact h p hp
    · split
      · exact h k hk
      · exact h r hr
theorem sol_scale {M : Nat → Nat → F} {X : Nat → F} {wd k : Nat} {s : F} (hs : s ≠ 0) : Sol (scaleM M k s) X wd ↔ Sol M X wd := by
  have hd : ∀ r, dot (scaleM M k s) r X wd = if r = k then s * dot M r X wd else dot M r X wd := fun r => by
    unfold dot scaleM
    split
    · rw [← sumN_mul]; exact sumN_congr fun c _ => by ac_rfl
    · rfl
  constructor
  · intro h r hr
    have := h r hr
    rw [hd] at this
    split at this
    · exact (mul_eq_zero _ _ this).resolve_left hs
    · exact this
  · intro h r hr
    rw [hd, h r hr]
    split
    · rw [mul_zero]
    · rfl
theorem sol_red {M : Nat → Nat → F} {X : Nat → F} {wd k : Nat} (hk : k < 6) : Sol (redM M k) X wd ↔ Sol M X wd := by
  have hd : ∀ r, dot (redM M k) r X wd = if r = k then dot M r X wd else dot M r X wd + M r k * dot M k X wd := fun r => by
    unfold dot redM
    split
    · rfl
    · rw [← sumN_mul, ← sumN_add]; exact sumN_congr fun c _ => by rw [add_mul, mul_assoc]
  constructor
  · intro h r hr
    have h1 := h r hr
    rw [hd] at h1
    have h2 := h k hk
    rw [hd, if_pos rfl] at h2
    split at h1
    · exact h1
    · rw [h2, mul_zero, add_zero] at h1; exact h1
  · intro h r hr
    rw [hd, h r hr, h k hk, mul_zero, add_zero]
    split <;> rfl
theorem inv_ne {a : F} (h : a ≠ 0) : a.inv ≠ 0 := fun e => by
  have := mul_inv a h
  rw [e, mul_zero] at this
  exact absurd this (by decide +kernel)
theorem sol_step {M : Nat → Nat → F} {X : Nat → F} {wd k p : Nat} (hk : k < 6) (hp : p < 6) (hn : M p k ≠ 0) : Sol (stepM M k p) X wd ↔ Sol M X wd :=
  (sol_red hk).trans ((sol_scale (inv_ne hn)).trans (sol_swap hk hp))
theorem unit_step {M : Nat → Nat → F} {k p : Nat} (h : Unit6 M k) (hk : k < 6) (hp : p < 6) (hkp : k ≤ p) (hn : M p k ≠ 0) : Unit6 (stepM M k p) (k + 1) := by
  have hs : ∀ r c, r < 6 → c < k → swapM M k p r c = if r = c then 1 else 0 := by
    intro r c hr hc
    unfold swapM
    split
    · rename_i e; rw [h p c hp hc, if_neg (by omega), if_neg (by omega)]
    · split
      · rw [h k c hk hc, if_neg (by omega), if_neg (by omega)]
      · exact h r c hr hc
  have hz : ∀ c, c < k → scaleM (swapM M k p) k (M p k).inv k c = 0 := by
    intro c hc
    unfold scaleM
    rw [if_pos rfl, hs k c hk hc, if_neg (by omega), zero_mul]
  have hkk : scaleM (swapM M k p) k (M p k).inv k k = 1 := by
    unfold scaleM swapM
    rw [if_pos rfl, if_pos rfl, mul_inv _ hn]
  intro r c hr hc
  unfold stepM redM
  rcases Nat.lt_or_ge c k with hck | hck
  · rw [hz c hck, mul_zero, add_zero]
    have : scaleM (swapM M k p) k (M p k).inv r c = if r = c then 1 else 0 := by
      by_cases e : r = k
      · subst e; rw [hz c hck, if_neg (by omega)]
      · unfold scaleM; rw [if_neg e]; exact hs r c hr hck
    rw [this]
    split <;> rfl
  · obtain rfl : c = k := by omega
    split
    · rename_i e; subst e; rw [hkk]
    · rename_i e; rw [hkk, mul_one, add_self]
/-- If the columns are independent there is a pivot. -/
theorem pivot_ex {M : Nat → Nat → F} {u k : Nat} (hu : k < u) (hu6 : u ≤ 6) (h : Unit6 M k) (ind : ∀ X, Sol M X (u + 1) → X u = 0 → ∀ c, c < u → X c = 0) : ∃ p, k ≤ p ∧ p < 6 ∧ M p k ≠ 0 := by
  rcases Classical.em (∃ p, k ≤ p ∧ p < 6 ∧ M p k ≠ 0) with h0 | hno
  · exact h0
  · exfalso
    have hz : ∀ p, k ≤ p → p < 6 → M p k = 0 := fun p h1 h2 => Classical.byContradiction fun hne => hno ⟨p, h1, h2, hne⟩
    have := ind (fun c => if c < k then M c k else if c = k then 1 else 0) (fun r hr => by
      unfold dot
      rcases Nat.lt_or_ge r k with hrk | hrk
      · rw [sumN_two (i := r) (j := k) (by omega) (by omega) (by omega)]
        · simp only [if_pos hrk, Nat.lt_irrefl, if_false, if_true, h r r hr hrk, one_mul, mul_one, add_self]
        · intro c hc h1 h2
          by_cases e : c < k
          · rw [h r c hr e, if_neg (by omega), zero_mul]
          · simp only [if_neg e, if_neg h2, mul_zero]
      · refine sumN_zero fun c hc => ?_
        by_cases e : c < k
        · rw [h r c hr e, if_neg (by omega), zero_mul]
        · by_cases e2 : c = k
          · subst e2; rw [hz r hrk hr, zero_mul]
          · simp only [if_neg e, if_neg e2, mul_zero]) (by simp only [if_neg (show ¬ u < k by omega), if_neg (show u ≠ k by omega)]) k hu
    simp only [Nat.lt_irrefl, if_false, if_true] at this
    exact absurd this (by decide +kernel)
/-- The end of an elimination: a solution is in the last column. -/
theorem unit_dot {M : Nat → Nat → F} {u r : Nat} (h : Unit6 M u) (hu : u ≤ 6) (hr : r < 6) (X : Nat → F) (h1 : X u = 1) : dot M r X (u + 1) = (if r < u then X r else 0) + M r u := by
  show sumN (fun c => M r c * X c) u + M r u * X u = _
  rw [h1, mul_one]
  congr 1
  split
  · rename_i e
    rw [sumN_single e]
    · rw [h r r hr e, if_pos rfl, one_mul]
    · intro c hc hne; rw [h r c hr hc, if_neg (Ne.symm hne), zero_mul]
  · rename_i e
    exact sumN_zero fun c hc => by rw [h r c hr hc, if_neg (by omega), zero_mul]
theorem unit_sol {M : Nat → Nat → F} {u : Nat} (h : Unit6 M u) (hu : u ≤ 6) (X : Nat → F) (h1 : X u = 1) : Sol M X (u + 1) ↔ (∀ c, c < u → X c = M c u) ∧ (∀ r, u ≤ r → r < 6 → M r u = 0) := by
  constructor
  · intro hs
    refine ⟨fun c hc => ?_, fun r h2 h3 => ?_⟩
    · have := hs c (by omega)
      rw [unit_dot h hu (by omega) X h1, if_pos hc] at this
      exact eq_of_add this
    · have := hs r h3
      rw [unit_dot h hu h3 X h1, if_neg (by omega), zero_add] at this
      exact this
  · intro ⟨ha, hb⟩ r hr
    rw [unit_dot h hu hr X h1]
    split
    · rename_i e; rw [ha r e, add_self]
    · rename_i e; rw [hb r (by omega) hr, add_zero]

/-- The matrix as lists of ints. -/
def rowI (M : Nat → Nat → F) (wd r : Nat) : List Int := (List.range wd).map fun c => ((M r c).n : Int)
def matI (M : Nat → Nat → F) (wd : Nat) : List (List Int) := (List.range 6).map (rowI M wd)
def upd (M : Nat → Nat → F) (r c : Nat) (y : F) : Nat → Nat → F := fun r' c' => if r' = r ∧ c' = c then y else M r' c'
theorem rowI_len (M : Nat → Nat → F) (wd r : Nat) : (rowI M wd r).length = wd := by simp [rowI]
theorem matI_len (M : Nat → Nat → F) (wd : Nat) : (matI M wd).length = 6 := by simp [matI]
theorem matI_at {M : Nat → Nat → F} {wd r : Nat} (h : r < 6) : (matI M wd)[r]? = some (rowI M wd r) := by
  unfold matI; rw [List.getElem?_map, List.getElem?_range h]; rfl
theorem rowI_at {M : Nat → Nat → F} {wd r c : Nat} (h : c < wd) : (rowI M wd r)[c]? = some ((M r c).n : Int) := by
  unfold rowI; rw [List.getElem?_map, List.getElem?_range h]; rfl
theorem rowI_congr2 {M N : Nat → Nat → F} {wd r r' : Nat} (h : ∀ c, c < wd → M r c = N r' c) : rowI M wd r = rowI N wd r' := by
  unfold rowI; exact List.map_congr_left fun c hc => by rw [h c (List.mem_range.1 hc)]
theorem rowI_congr {M N : Nat → Nat → F} {wd r : Nat} (h : ∀ c, c < wd → M r c = N r c) : rowI M wd r = rowI N wd r := by
  unfold rowI; exact List.map_congr_left fun c hc => by rw [h c (List.mem_range.1 hc)]
theorem matI_congr {M N : Nat → Nat → F} {wd : Nat} (h : ∀ r c, r < 6 → c < wd → M r c = N r c) : matI M wd = matI N wd := by
  unfold matI; exact List.map_congr_left fun r hr => rowI_congr fun c hc => h r c (List.mem_range.1 hr) hc
theorem rowI_set {M : Nat → Nat → F} {wd r c : Nat} (y : F) : (rowI M wd r).set c (y.n : Int) = rowI (upd M r c y) wd r := by
  apply List.ext_getElem?
  intro i
  rcases Nat.lt_or_ge i wd with hi | hi
  · rw [rowI_at hi, List.getElem?_set]
    unfold upd
    by_cases e : c = i
    · subst e; rw [if_pos rfl, if_pos (by rw [rowI_len]; exact hi), if_pos ⟨rfl, rfl⟩]
    · rw [if_neg e, rowI_at hi, if_neg (fun h => e h.2.symm)]
  · rw [List.getElem?_eq_none (by rw [List.length_set, rowI_len]; exact hi), List.getElem?_eq_none (by rw [rowI_len]; exact hi)]
theorem matI_set {M : Nat → Nat → F} {wd r c : Nat} (hr : r < 6) (y : F) : (matI M wd).set r ((rowI M wd r).set c (y.n : Int)) = matI (upd M r c y) wd := by
  apply List.ext_getElem?
  intro i
  rcases Nat.lt_or_ge i 6 with hi | hi
  · rw [matI_at hi, List.getElem?_set]
    by_cases e : r = i
    · subst e; rw [if_pos rfl, if_pos (by rw [matI_len]; exact hi), rowI_set]
    · rw [if_neg e, matI_at hi]
      exact congrArg some (rowI_congr fun c' _ => by unfold upd; rw [if_neg (fun h => e h.1.symm)])
  · rw [List.getElem?_eq_none (by rw [List.length_set, matI_len]; exact hi), List.getElem?_eq_none (by rw [matI_len]; exact hi)]
theorem matI_swap {M : Nat → Nat → F} {wd k p : Nat} (hk : k < 6) (hp : p < 6) : ((matI M wd).set k (rowI M wd p)).set p (rowI M wd k) = matI (swapM M k p) wd := by
  apply List.ext_getElem?
  intro i
  rcases Nat.lt_or_ge i 6 with hi | hi
  · rw [matI_at hi, List.getElem?_set, List.getElem?_set, List.length_set, matI_len, matI_at hi]
    by_cases e : p = i
    · subst e
      rw [if_pos rfl, if_pos hi]
      refine congrArg some (rowI_congr2 fun c _ => ?_)
      unfold swapM
      by_cases e2 : p = k
      · subst e2; rw [if_pos rfl]
      · rw [if_neg e2, if_pos rfl]
    · rw [if_neg e]
      by_cases e2 : k = i
      · subst e2
        rw [if_pos rfl, if_pos hi]
        exact congrArg some (rowI_congr2 fun c _ => by unfold swapM; rw [if_pos rfl])
      · rw [if_neg e2]
        exact congrArg some (rowI_congr fun c _ => by unfold swapM; rw [if_neg (Ne.symm e2), if_neg (Ne.symm e)])
  · rw [List.getElem?_eq_none (by rw [List.length_set, List.length_set, matI_len]; exact hi), List.getElem?_eq_none (by rw [matI_len]; exact hi)]
/-- Row k scaled as far as column c. -/
def scaleTo (M : Nat → Nat → F) (k : Nat) (s : F) (c : Nat) : Nat → Nat → F := fun r' c' => if r' = k ∧ c' < c then M r' c' * s else M r' c'
theorem scaleTo_zero (M : Nat → Nat → F) (k : Nat) (s : F) : scaleTo M k s 0 = M := by funext r c; simp [scaleTo]
theorem scaleTo_succ (M : Nat → Nat → F) (k : Nat) (s : F) (c : Nat) : upd (scaleTo M k s c) k c (M k c * s) = scaleTo M k s (c + 1) := by
  funext r' c'
  unfold upd scaleTo
  by_cases e : r' = k ∧ c' = c
  · obtain ⟨rfl, rfl⟩ := e; simp
  · rw [if_neg e]
    by_cases e2 : r' = k ∧ c' < c
    · rw [if_pos e2, if_pos ⟨e2.1, by omega⟩]
    · rw [if_neg e2, if_neg (fun h => e2 ⟨h.1, by have : c' ≠ c := fun h' => e ⟨h.1, h'⟩; omega⟩)]
theorem scaleTo_all {M : Nat → Nat → F} {k : Nat} {s : F} {wd : Nat} : matI (scaleTo M k s wd) wd = matI (scaleM M k s) wd := matI_congr fun r c _ hc => by
  unfold scaleTo scaleM
  by_cases e : r = k
  · rw [if_pos ⟨e, hc⟩, if_pos e]
  · rw [if_neg (fun h => e h.1), if_neg e]
/-- Rows reduced as far as row r, and row r as far as column c. -/
def redTo (M : Nat → Nat → F) (k r c : Nat) : Nat → Nat → F := fun r' c' => if r' ≠ k ∧ (r' < r ∨ r' = r ∧ c' < c) then M r' c' + M r' k * M k c' else M r' c'
theorem redTo_zero (M : Nat → Nat → F) (k : Nat) : redTo M k 0 0 = M := by funext r c; simp [redTo]
theorem redTo_succ (M : Nat → Nat → F) (k r c : Nat) (h : r ≠ k) : upd (redTo M k r c) r c (M r c + M r k * M k c) = redTo M k r (c + 1) := by
  funext r' c'
  unfold upd redTo
  by_cases e : r' = r ∧ c' = c
  · obtain ⟨rfl, rfl⟩ := e; rw [if_pos ⟨rfl, rfl⟩, if_pos ⟨h, .inr ⟨rfl, by omega⟩⟩]
  · rw [if_neg e]
    by_cases e2 : r' ≠ k ∧ (r' < r ∨ r' = r ∧ c' < c)
    · rw [if_pos e2, if_pos ⟨e2.1, by omega⟩]
    · rw [if_neg e2, if_neg (fun h' => e2 ⟨h'.1, by
        rcases h'.2 with h2 | h2
        · exact .inl h2
        · refine .inr ⟨h2.1, ?_⟩
          have : c' ≠ c := fun h3 => e ⟨h2.1, h3⟩
          omega⟩)]
theorem redTo_row {M : Nat → Nat → F} {k r : Nat} {wd : Nat} : matI (redTo M k r wd) wd = matI (redTo M k (r + 1) 0) wd := matI_congr fun r' c' _ hc => by
  unfold redTo
  by_cases e : r' ≠ k ∧ (r' < r ∨ r' = r ∧ c' < wd)
  · rw [if_pos e, if_pos ⟨e.1, by omega⟩]
  · rw [if_neg e, if_neg (fun h => e ⟨h.1, by omega⟩)]
theorem redTo_skip {M : Nat → Nat → F} {k r : Nat} {wd : Nat} (h : r = k ∨ M r k = 0) : matI (redTo M k r 0) wd = matI (redTo M k (r + 1) 0) wd := matI_congr fun r' c' _ hc => by
  unfold redTo
  by_cases e : r' = r
  · subst e
    rw [if_neg (by omega)]
    rcases h with h | h
    · rw [if_neg (by omega)]
    · rw [h, zero_mul, add_zero]; split <;> rfl
  · by_cases e2 : r' ≠ k ∧ (r' < r ∨ r' = r ∧ c' < 0)
    · rw [if_pos e2, if_pos ⟨e2.1, by omega⟩]
    · rw [if_neg e2, if_neg (fun h => e2 ⟨h.1, by omega⟩)]
theorem redTo_all {M : Nat → Nat → F} {k : Nat} {wd : Nat} : matI (redTo M k 6 0) wd = matI (redM M k) wd := matI_congr fun r c hr _ => by
  unfold redTo redM
  by_cases e : r = k
  · rw [if_neg (fun h => h.1 e), if_pos e]
  · rw [if_pos ⟨e, .inl hr⟩, if_neg e]
end F
end Go.Proofs.YtlabmdekdhjofaaDoor
