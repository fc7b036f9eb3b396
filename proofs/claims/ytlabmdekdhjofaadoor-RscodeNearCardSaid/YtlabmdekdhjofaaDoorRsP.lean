/- awardingbodyref18.Fill: the plain part, and rows added to a matrix. -/
import Derived.Test.YtlabmdekdhjofaaDoorRsO
import Derived.Laws.CopyOwn
namespace Go.Proofs.YtlabmdekdhjofaaDoor
open Go.RowKit

/-- Some places set to z. -/
def zer {α : Type} (z : α) (l : List α) (ps : List Nat) : List α := ps.foldl (fun a p => a.set p z) l
section
variable {α : Type} {z : α}
theorem zer_len (l : List α) (ps : List Nat) : (zer z l ps).length = l.length := by
  induction ps generalizing l with
  | nil => rfl
  | cons p ps ih => show (zer z (l.set p z) ps).length = _; rw [ih, List.length_set]
theorem zer_snoc (l : List α) (ps : List Nat) (p : Nat) : zer z l (ps ++ [p]) = (zer z l ps).set p z := by unfold zer; rw [List.foldl_append]; rfl
theorem zer_at (l : List α) (ps : List Nat) (i : Nat) : (zer z l ps)[i]? = if i < l.length ∧ i ∈ ps then some z else l[i]? := by
  induction ps generalizing l with
  | nil => rw [if_neg (by simp)]; rfl
  | cons p ps ih =>
    show (zer z (l.set p z) ps)[i]? = _
    rw [ih, List.length_set, List.getElem?_set]
    by_cases h1 : i < l.length
    · by_cases h2 : i ∈ ps
      · rw [if_pos ⟨h1, h2⟩, if_pos ⟨h1, List.mem_cons_of_mem _ h2⟩]
      · rw [if_neg (fun h => h2 h.2)]
        by_cases h3 : p = i
        · subst h3; rw [if_pos rfl, if_pos h1, if_pos ⟨h1, List.mem_cons_self⟩]
        · rw [if_neg h3, if_neg (fun h => by rcases List.mem_cons.1 h.2 with e | e; exact h3 e.symm; exact h2 e)]
    · rw [if_neg (show ¬ (i < l.length ∧ i ∈ ps) from fun h => h1 h.1), if_neg (show ¬ (i < l.length ∧ i ∈ p :: ps) from fun h => h1 h.1)]
      by_cases h3 : p = i
      · subst h3; rw [if_pos rfl, if_neg h1, List.getElem?_eq_none (by omega)]
      · rw [if_neg h3]
end
theorem toF_at {l : List Int} {i : Nat} {x : Int} (h : l[i]? = some x) : (toF l)[i]? = some (F.mk (x.toNat % 32) (Nat.mod_lt _ (by decide))) := by
  unfold toF; rw [List.getElem?_map, h]; rfl
/-- With its places zeroed a word is a word of elements. -/
theorem zer_wI {l : List Int} {ps : List Nat} (h : ∀ i x, i ∉ ps → l[i]? = some x → 0 ≤ x ∧ x < 32) : zer 0 l ps = wI (zer 0 (toF l) ps) := by
  apply List.ext_getElem?
  intro i
  unfold wI
  rw [List.getElem?_map, zer_at, zer_at, toF_len]
  by_cases h1 : i < l.length ∧ i ∈ ps
  · rw [if_pos h1, if_pos h1]; rfl
  · rw [if_neg h1, if_neg h1]
    rcases Nat.lt_or_ge i l.length with hi | hi
    · have hx := List.getElem?_eq_getElem hi
      obtain ⟨a, b⟩ := h i _ (fun hm => h1 ⟨hi, hm⟩) hx
      rw [hx, toF_at hx]
      show some _ = some ((F.n (F.mk _ _) : Nat) : Int)
      rw [F.n_mk]
      congr 1
      omega
    · rw [List.getElem?_eq_none hi, List.getElem?_eq_none (by rw [toF_len]; exact hi)]; rfl

/-- The places are zero: the value is put. -/
theorem addAt_put {wd : List F} {ps : List Nat} {xs : List F} {p : Nat} {x : F} (hl : ps.length = xs.length) (hp : p ∉ ps) (h0 : wd.getD p 0 = 0) : F.addAt wd (ps ++ [p]) (xs ++ [x]) = (F.addAt wd ps xs).set p x := by
  rw [addAt_snoc _ _ _ _ _ hl, List.getD_eq_getElem?_getD, F.addAt_off ps xs wd hp, ← List.getD_eq_getElem?_getD, h0, F.zero_add]

section
variable {base eS eI p : Nat} {w0 w w' : World} {v v' : Value} {ls : List (List Int)}
/-- One row more, that lies behind all the others. -/
theorem Mat.push {u : Value} {l : List Int} (h : Mat base eS eI w0 v ls) (hx : Ext w0 w) (hb : base ≤ w0.heap.size) (hu : w.ownsRow w0.heap.size eI 1 u l.length (l.map (Value.int .i64))) (hne : eS ≠ eI) {us : List Value} (hus : w0.ownsRow base eS 1 v ls.length us) (hg : w.grownBy w' v.ownBlock) (h' : w'.ownsRow base eS 1 v' (ls.length + 1) (us ++ [u])) :
    Mat base eS eI w' v' (ls ++ [l]) := by
  obtain ⟨us0, a, b, c, d⟩ := h
  obtain rfl := own_uniq b hus
  have b1 := own_ext b hx
  have keep : ∀ {b0 : Nat} {z : Value} {n : Nat} {xs : List Value}, w.ownsRow b0 eI 1 z n xs → w'.ownsRow b0 eI 1 z n xs := fun hz =>
    own_apart hz hg (fun k hk => own_types hz b1 (Ne.symm hne) k hk)
  have at0 : ∀ (j : Nat) (y : Value), (us0 ++ [u])[j]? = some y → (j < ls.length ∧ us0[j]? = some y) ∨ (j = ls.length ∧ y = u) := by
    intro j y hy
    rcases Nat.lt_or_ge j ls.length with hj | hj
    · rw [List.getElem?_append_left (by omega)] at hy; exact .inl ⟨hj, hy⟩
    · rw [List.getElem?_append_right (by omega)] at hy
      have : j - us0.length = 0 := by
        rcases Nat.eq_zero_or_pos (j - us0.length) with h | h
        · exact h
        · rw [List.getElem?_eq_none (by show 1 ≤ _; exact h)] at hy; cases hy
      rw [this] at hy
      exact .inr ⟨by omega, by simpa using hy.symm⟩
  have low : ∀ (j : Nat) (y : Value) (k : Nat), us0[j]? = some y → y.ownBlock = some k → k < w0.heap.size := fun j y k hy hk => by
    have hj : j < ls.length := by rw [← a]; exact (List.getElem?_eq_some_iff.1 hy).1
    exact ((c j y _ hy (List.getElem?_eq_getElem hj)).lt k hk).2
  refine ⟨us0 ++ [u], by simp [a], by simpa using h', fun j y m hy hm => ?_, fun i j y y' k hij hy hy' hk => ?_⟩
  · rcases at0 j y hy with ⟨hj, hy⟩ | ⟨rfl, rfl⟩
    · rw [List.getElem?_append_left hj] at hm
      exact keep (own_ext (c j y m hy hm) hx)
    · rw [List.getElem?_append_right (Nat.le_refl _), Nat.sub_self] at hm
      obtain rfl : l = m := by simpa using hm
      exact own_mono (keep hu) hb
  · rcases at0 i y hy with ⟨hi, hz⟩ | ⟨hi, hz⟩
    · rcases at0 j y' hy' with ⟨hj, hz'⟩ | ⟨hj, hz'⟩
      · exact d i j y y' k hij hz hz' hk
      · intro e
        have h1 := low i y k hz hk
        rw [hz'] at e
        have h2 := own_ge hu k e
        omega
    · rcases at0 j y' hy' with ⟨hj, hz'⟩ | ⟨hj, hz'⟩
      · intro e
        have h1 := low j y' k hz' e
        rw [hz] at hk
        have h2 := own_ge hu k hk
        omega
      · exact absurd (hi.trans hj.symm) hij
end
end Go.Proofs.YtlabmdekdhjofaaDoor
