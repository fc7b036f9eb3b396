/- The choice fields of a page: plain lists. -/
import Derived.Test.YtpbfbkkalemmiaaValidP
import Derived.Test.YtpbfbkkalemmiaaFldB
namespace Go.Proofs.Ytpbfbkkalemmiaa
open Go.RowKit

/-- The fields of a part. -/
def partF (ps : List Part) (x : Int) : List Fld := match ps[x.toNat]? with
  | some q => if q.kind = 2 then (List.range q.opts.toNat).map fun k : Nat => ⟨x, (k : Int)⟩ else []
  | none => []
def fldsOf (ps : List Part) (pg : List Int) : List Fld := (pg.map (partF ps)).flatten
/-- What Fields returns. -/
noncomputable def fieldsP (code var : Int) (ps : List Part) (pgs : List (List Int)) (page : Int) : List Fld :=
  if bkB code var ps pgs = true ∧ 0 ≤ page then (match pgs[page.toNat]? with | some pg => fldsOf ps pg | none => []) else []
theorem flds_snoc {ps : List Part} {pg : List Int} {k : Nat} {x : Int} (h : pg[k]? = some x) : fldsOf ps (pg.take (k + 1)) = fldsOf ps (pg.take k) ++ partF ps x := by
  unfold fldsOf; rw [take_snoc h]; simp
theorem partF_no {ps : List Part} {j : Nat} {q : Part} (h : ps[j]? = some q) (hk : q.kind ≠ 2) : partF ps (j : Int) = [] := by
  unfold partF; simp [h, hk]
theorem partF_yes {ps : List Part} {j : Nat} {q : Part} (h : ps[j]? = some q) (hk : q.kind = 2) : partF ps (j : Int) = (List.range q.opts.toNat).map fun k : Nat => ⟨(j : Int), (k : Int)⟩ := by
  unfold partF; simp [h, hk]
theorem range_snoc (x : Int) (j : Nat) : ((List.range (j + 1)).map fun k : Nat => (⟨x, (k : Int)⟩ : Fld)) = ((List.range j).map fun k : Nat => ⟨x, (k : Int)⟩) ++ [⟨x, (j : Int)⟩] := by
  rw [List.range_succ]; simp
theorem partF_mem {ps : List Part} {x : Int} {q : Fld} (h : q ∈ partF ps x) : q.part = x ∧ ∃ r, ps[x.toNat]? = some r ∧ r.kind = 2 ∧ 0 ≤ q.opt ∧ q.opt < r.opts := by
  unfold partF at h
  split at h
  · rename_i r hr
    split at h
    · rename_i hk
      obtain ⟨k, hk', rfl⟩ := List.mem_map.1 h
      refine ⟨rfl, r, hr, hk, by simp, ?_⟩
      have := List.mem_range.1 hk'
      simp only; omega
    · cases h
  · cases h
/-- The parts of a page of a valid booklet. -/
theorem page_parts {code var : Int} {ps : List Part} {pgs : List (List Int)} {i : Nat} {pg : List Int} (h : bkB code var ps pgs = true) (hp : pgs[i]? = some pg) :
    pg.length ≤ 24 ∧ ∀ (k : Nat) (x : Int), pg[k]? = some x → ∃ (j : Nat) (q : Part), x = j ∧ ps[j]? = some q ∧ j < 24 ∧ vpB q = true := by
  have hb := bk_of h
  obtain ⟨hv, _, _, _, hok⟩ := hb
  have hps := (vpa_of hv).2.2.2.2.2.1
  have hall := (vpa_of hv).2.2.2.2.2.2.1
  have key : ∀ (l : List (List Int)) (nx i : Nat) (pg : List Int), okPages (ps.map need) nx l → l[i]? = some pg → ∃ a, pgOk (ps.map need) a pg := by
    intro l
    induction l with
    | nil => intro nx i pg _ h; simp at h
    | cons p l ih =>
      intro nx i pg ho h
      cases i with
      | zero => simp at h; subst h; exact ⟨nx, ho.1⟩
      | succ i => exact ih _ i pg ho.2 (by simpa using h)
  obtain ⟨a, ha⟩ := key pgs 0 i pg hok hp
  have h1 := ha.1.1
  simp at h1
  refine ⟨by omega, fun k x hx => ?_⟩
  have hk := (List.getElem?_eq_some_iff.1 hx).1
  have hxe := ha.1.2 k x hk hx
  have hlt : a + k < ps.length := by omega
  exact ⟨a + k, ps[a + k], hxe, List.getElem?_eq_getElem hlt, by omega, List.all_eq_true.1 hall _ (List.getElem_mem hlt)⟩
theorem flds_mem {ps : List Part} {pg : List Int} {q : Fld} (h : q ∈ fldsOf ps pg) : ∃ x ∈ pg, q ∈ partF ps x := by
  unfold fldsOf at h
  obtain ⟨l, hl, hq⟩ := List.mem_flatten.1 h
  obtain ⟨x, hx, rfl⟩ := List.mem_map.1 hl
  exact ⟨x, hx, hq⟩
theorem fieldsP_in {code var : Int} {ps : List Part} {pgs : List (List Int)} {j : Nat} {pg : List Int} (h : bkB code var ps pgs = true) (hp : pgs[j]? = some pg) : fieldsP code var ps pgs (j : Int) = fldsOf ps pg := by
  unfold fieldsP; rw [if_pos ⟨h, by omega⟩]; simp [hp]
theorem fieldsP_out {code var : Int} {ps : List Part} {pgs : List (List Int)} {page : Int} (h : ¬ (bkB code var ps pgs = true ∧ 0 ≤ page ∧ page < pgs.length)) : fieldsP code var ps pgs page = [] := by
  unfold fieldsP
  split
  · rename_i hc
    have hnl : ¬ page < pgs.length := fun hlt => h ⟨hc.1, hc.2, hlt⟩
    rw [List.getElem?_eq_none (by omega)]
  · rfl
theorem fields_i64 {code var : Int} {ps : List Part} {pgs : List (List Int)} {i : Nat} {pg : List Int} (h : bkB code var ps pgs = true) (hp : pgs[i]? = some pg) : ∀ q ∈ fldsOf ps pg, I64 q.part ∧ I64 q.opt := by
  intro q hq
  obtain ⟨x, hx, hq⟩ := flds_mem hq
  obtain ⟨k, hk⟩ := List.getElem?_of_mem hx
  obtain ⟨j, r, rfl, hj, hj24, hr⟩ := (page_parts h hp).2 k x hk
  obtain ⟨h1, r', hr', hk2, h2, h3⟩ := partF_mem hq
  simp at hr'
  rw [hj] at hr'
  injection hr' with hr'
  subst hr'
  have := vp_of hr
  unfold I64; omega
end Go.Proofs.Ytpbfbkkalemmiaa
