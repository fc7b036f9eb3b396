/- Which booklets are valid: plain lists, no program. -/
import Derived.Test.YtpbfbkkalemmiaaMakeP
namespace Go.Proofs.Ytpbfbkkalemmiaa
open Go.RowKit

/-- The lines of the k parts from nx on. -/
def lnTo (ns : List Int) (nx k : Nat) : Int := ((ns.drop nx).take k).sum
/-- The first k entries of a page are nx, nx + 1, .. and parts. -/
def entTo (ns : List Int) (nx : Nat) (pg : List Int) (k : Nat) : Prop := nx + k ≤ ns.length ∧ ∀ i y, i < k → pg[i]? = some y → y = ((nx + i : Nat) : Int)
def pgOk (ns : List Int) (nx : Nat) (pg : List Int) : Prop := entTo ns nx pg pg.length ∧ lnTo ns nx pg.length ≤ 30
/-- All pages from the part nx on are in order. -/
def okPages (ns : List Int) : Nat → List (List Int) → Prop
  | nx, [] => nx = ns.length
  | nx, pg :: rest => pgOk ns nx pg ∧ okPages ns (nx + pg.length) rest
/-- A booklet is valid for a paper. -/
def BkOk (code var : Int) (ps : List Part) (pgs : List (List Int)) : Prop :=
  vpaB code var ps = true ∧ pgs.length ≤ 12 ∧ pgs.length % 4 = 0 ∧ (∀ l, pgs[0]? = some l → l = []) ∧ okPages (ps.map need) 0 pgs
open Classical in
noncomputable def bkB (code var : Int) (ps : List Part) (pgs : List (List Int)) : Bool := decide (BkOk code var ps pgs)
theorem bk_true {code var : Int} {ps : List Part} {pgs : List (List Int)} (h : BkOk code var ps pgs) : bkB code var ps pgs = true := by unfold bkB; simp [h]
theorem bk_false {code var : Int} {ps : List Part} {pgs : List (List Int)} (h : ¬ BkOk code var ps pgs) : bkB code var ps pgs = false := by unfold bkB; simp [h]
theorem bk_of {code var : Int} {ps : List Part} {pgs : List (List Int)} (h : bkB code var ps pgs = true) : BkOk code var ps pgs := by unfold bkB at h; simpa using h
theorem bk_not {code var : Int} {ps : List Part} {pgs : List (List Int)} (h : bkB code var ps pgs = false) : ¬ BkOk code var ps pgs := by unfold bkB at h; simpa using h

section
variable {ns : List Int} {nx k : Nat} {pg : List Int} {x y : Int}
theorem lnTo_zero (ns : List Int) (nx : Nat) : lnTo ns nx 0 = 0 := by simp [lnTo]
theorem lnTo_succ (h : ns[nx + k]? = some x) : lnTo ns nx (k + 1) = lnTo ns nx k + x := by
  unfold lnTo
  have h' : (ns.drop nx)[k]? = some x := by rw [List.getElem?_drop]; exact h
  rw [take_snoc h']; simp
theorem lnTo_bd (hn : ∀ x ∈ ns, 0 ≤ x ∧ x ≤ 30) (nx : Nat) : ∀ k, 0 ≤ lnTo ns nx k ∧ lnTo ns nx k ≤ 30 * k := by
  intro k
  induction k with
  | zero => simp [lnTo]
  | succ k ih =>
    cases h : ns[nx + k]? with
    | some x =>
      have := hn x (List.mem_of_getElem? h)
      rw [lnTo_succ h]; omega
    | none =>
      have e : lnTo ns nx (k + 1) = lnTo ns nx k := by
        unfold lnTo
        have hl : (ns.drop nx).length ≤ k := by rw [List.length_drop]; have := List.getElem?_eq_none_iff.1 h; omega
        rw [List.take_of_length_le (by omega), List.take_of_length_le hl]
      rw [e]; omega
theorem entTo_zero (h : nx ≤ ns.length) (pg : List Int) : entTo ns nx pg 0 := ⟨by omega, fun i y hi => by omega⟩
theorem entTo_succ (h : entTo ns nx pg k) (hy : pg[k]? = some y) (he : y = ((nx + k : Nat) : Int)) (hlt : nx + k < ns.length) : entTo ns nx pg (k + 1) := by
  refine ⟨by omega, fun i z hi hz => ?_⟩
  by_cases e : i = k
  · subst e; rw [hy] at hz; rw [← Option.some.inj hz]; exact he
  · exact h.2 i z (by omega) hz
theorem ent_bad (hy : pg[k]? = some y) (h : y ≠ ((nx + k : Nat) : Int) ∨ ns.length ≤ nx + k) : ¬ pgOk ns nx pg := by
  intro hc
  have hk := (List.getElem?_eq_some_iff.1 hy).1
  rcases h with h | h
  · exact h (hc.1.2 k y hk hy)
  · have := hc.1.1; omega
end

/-- What is still to be asked when i pages are in order. -/
def Left (code var : Int) (ps : List Part) (pgs : List (List Int)) (i nx : Nat) : Prop := (okPages (ps.map need) 0 pgs ↔ okPages (ps.map need) nx (pgs.drop i))
theorem Left.start (code var : Int) (ps : List Part) (pgs : List (List Int)) : Left code var ps pgs 0 0 := by unfold Left; simp
section
variable {code var : Int} {ps : List Part} {pgs : List (List Int)} {i nx : Nat} {pg : List Int}
theorem drop_at {α : Type} {l : List α} {i : Nat} {x : α} (h : l[i]? = some x) : l.drop i = x :: l.drop (i + 1) := by
  obtain ⟨hi, rfl⟩ := List.getElem?_eq_some_iff.1 h
  exact List.drop_eq_getElem_cons hi
theorem Left.next (h : Left code var ps pgs i nx) (hp : pgs[i]? = some pg) (hk : pgOk (ps.map need) nx pg) : Left code var ps pgs (i + 1) (nx + pg.length) := by
  unfold Left at *
  rw [h, drop_at hp]
  exact ⟨fun a => a.2, fun a => ⟨hk, a⟩⟩
theorem Left.bad (h : Left code var ps pgs i nx) (hp : pgs[i]? = some pg) (hk : ¬ pgOk (ps.map need) nx pg) : ¬ BkOk code var ps pgs := by
  rintro ⟨_, _, _, _, ho⟩
  unfold Left at h
  rw [h, drop_at hp] at ho
  exact hk ho.1
theorem Left.fin (h : Left code var ps pgs i nx) (hi : pgs.length = i) : okPages (ps.map need) 0 pgs ↔ nx = ps.length := by
  unfold Left at h
  rw [h, List.drop_of_length_le (by omega)]
  simp [okPages]
end
end Go.Proofs.Ytpbfbkkalemmiaa
