/- Runs of equal parts: plain lists; slices of fields. -/
import Derived.Test.YtpbfbkkalemmiaaBaseD
namespace Go.Proofs.Ytpbfbkkalemmiaa
open Go.RowKit

/-- A field: the part and the option. -/
structure Fld where
  part : Int
  opt : Int
def RFld : World → List Value → Fld → Prop := fun _ cs q => cs = [.int .i64 q.part, .int .i64 q.opt] ∧ I64 q.part ∧ I64 q.opt
theorem RFld.stab (p : Nat) : Stab p RFld := fun _ _ _ _ h _ => h
abbrev IsF (p : Nat) : World → Value → List Fld → Prop := IsS p 2 RFld
theorem IsS.fld {p : Nat} {w : World} {b off n c k : Nat} {fs : List Fld} (h : IsF p w (.slice (some ⟨b, off, none⟩) n c) fs) (hk : k < n) :
    ∃ q : Fld, w.cell? ⟨b, off + k * 2, none⟩ = some (.int .i64 q.part) ∧ w.cell? ⟨b, off + k * 2 + 1, none⟩ = some (.int .i64 q.opt) ∧ Hid (fs[k]? = some q) ∧ I64 q.part ∧ I64 q.opt := by
  obtain ⟨cs, q, hl, hc, ⟨rfl, hw⟩, hx⟩ := h.cell_ hk
  exact ⟨q, hc 0 _ rfl, hc 1 _ rfl, hx, hw⟩

/-- A new run begins with field k. -/
def newRun (fs : List Fld) (k : Nat) : Prop := k = 0 ∨ ∀ a b, fs[k]? = some a → fs[k - 1]? = some b → a.part ≠ b.part
noncomputable instance (fs : List Fld) (k : Nat) : Decidable (newRun fs k) := Classical.propDecidable _
/-- The runs among the first k fields. -/
noncomputable def runsTo (fs : List Fld) (cs : List Int) : Nat → List (List Int)
  | 0 => []
  | k + 1 => if newRun fs k then runsTo fs cs k ++ [[cs.getD k 0]]
      else (runsTo fs cs k).dropLast ++ [(runsTo fs cs k).getLastD [] ++ [cs.getD k 0]]
theorem runs_new {fs : List Fld} {cs : List Int} {k : Nat} {x : Int} (h : newRun fs k) (hx : cs[k]? = some x) : runsTo fs cs (k + 1) = runsTo fs cs k ++ [[x]] := by
  rw [runsTo, if_pos h, List.getD_eq_getElem?_getD, hx]; rfl
theorem runs_on {fs : List Fld} {cs : List Int} {k : Nat} {x : Int} {d : List (List Int)} {c : List Int} (h : ¬ newRun fs k) (hx : cs[k]? = some x) (hd : runsTo fs cs k = d ++ [c]) : runsTo fs cs (k + 1) = d ++ [c ++ [x]] := by
  rw [runsTo, if_neg h, List.getD_eq_getElem?_getD, hx, hd]; simp
theorem runs_form (fs : List Fld) (cs : List Int) (k : Nat) (hk : 0 < k) : ∃ d c, runsTo fs cs k = d ++ [c] := by
  cases k with
  | zero => omega
  | succ k =>
    rw [runsTo]; split
    · exact ⟨_, _, rfl⟩
    · exact ⟨_, _, rfl⟩
theorem runs_len (fs : List Fld) (cs : List Int) (k : Nat) : (runsTo fs cs k).length ≤ k := by
  induction k with
  | zero => simp [runsTo]
  | succ k ih =>
    rw [runsTo]; split
    · simp; omega
    · rename_i h
      have hk : 0 < k := Nat.pos_of_ne_zero fun e => h (.inl e)
      obtain ⟨d, c, e⟩ := runs_form fs cs k hk
      rw [e] at ih ⊢
      simp at ih ⊢; omega
theorem runs_mem (fs : List Fld) (cs : List Int) (k : Nat) (hk : k ≤ cs.length) : ∀ l ∈ runsTo fs cs k, l.length ≤ k ∧ ∀ x ∈ l, x ∈ cs := by
  induction k with
  | zero => simp [runsTo]
  | succ k ih =>
    have ih := ih (by omega)
    have hx : cs[k]? = some cs[k] := List.getElem?_eq_getElem (by omega)
    have hm : cs[k] ∈ cs := List.getElem_mem _
    by_cases h : newRun fs k
    · rw [runs_new h hx]
      intro l hl
      rcases List.mem_append.1 hl with hl | hl
      · exact ⟨by have := (ih l hl).1; omega, (ih l hl).2⟩
      · simp at hl; subst hl; simp
    · have h0 : 0 < k := Nat.pos_of_ne_zero fun e => h (.inl e)
      obtain ⟨d, c, e⟩ := runs_form fs cs k h0
      rw [runs_on h hx e]
      intro l hl
      rcases List.mem_append.1 hl with hl | hl
      · have := ih l (by rw [e]; simp [hl])
        exact ⟨by omega, this.2⟩
      · simp at hl; subst hl
        have := ih c (by rw [e]; simp)
        refine ⟨by simp; omega, fun x hx => ?_⟩
        rcases List.mem_append.1 hx with hx | hx
        · exact this.2 x hx
        · simp at hx; subst hx; exact hm
/-- One whole run. -/
theorem runs_whole {fs : List Fld} {cs : List Int} {a b : Nat} (hb : b ≤ cs.length) (h1 : newRun fs a) (hab : a < b) (h2 : ∀ k, a < k → k < b → ¬ newRun fs k) : runsTo fs cs b = runsTo fs cs a ++ [(cs.take b).drop a] := by
  obtain ⟨m, rfl⟩ : ∃ m, b = a + 1 + m := ⟨b - a - 1, by omega⟩
  induction m with
  | zero =>
    rw [Nat.add_zero, runs_new h1 (List.getElem?_eq_getElem (by omega))]
    congr 2
    rw [List.take_succ_eq_append_getElem (by omega), List.drop_append_of_le_length (by simp; omega)]
    simp
  | succ m ih =>
    have e := ih (by omega) (by omega) (fun k hk hk' => h2 k hk (by omega))
    have := runs_on (h2 (a + 1 + m) (by omega) (by omega)) (List.getElem?_eq_getElem (show a + 1 + m < cs.length by omega)) e
    rw [show a + 1 + (m + 1) = a + 1 + m + 1 by omega, this]
    congr 2
    rw [List.take_succ_eq_append_getElem (show a + 1 + m < cs.length by omega), List.drop_append_of_le_length (by simp; omega)]
end Go.Proofs.Ytpbfbkkalemmiaa
