/- On which page a part is, and what is chosen there: plain lists. -/
import Derived.Test.YtndmadohffcdiaaPageP
import Derived.Test.YtndmadohffcdiaaPageOf
import Derived.Test.YtndmadohffcdiaaFewest
namespace Go.Proofs.Ytndmadohffcdiaa
open Go.RowKit

section
variable {ns : List Int} {pgs : List (List Int)}
theorem consP_mono (pgs : List (List Int)) {a b : Nat} (h : a ≤ b) : consP pgs a ≤ consP pgs b := by
  obtain ⟨m, rfl⟩ : ∃ m, b = a + m := ⟨b - a, by omega⟩
  unfold consP
  rw [List.take_add, List.map_append, List.sum_append]
  omega
theorem on_page (hok : okPages ns 0 pgs) {j : Nat} {pg : List Int} (hp : pgs[j]? = some pg) (t : Nat) : (t : Int) ∈ pg ↔ consP pgs j ≤ t ∧ t < consP pgs (j + 1) := by
  have h := (okPages_at pgs 0 hok).1 j pg hp
  rw [Nat.zero_add] at h
  rw [consP_succ hp]
  constructor
  · intro hm
    obtain ⟨i, hi⟩ := List.getElem?_of_mem hm
    have hil := (List.getElem?_eq_some_iff.1 hi).1
    have := h.1.2 i _ hil hi
    omega
  · intro hb
    have hil : t - consP pgs j < pg.length := by omega
    have := h.1.2 (t - consP pgs j) _ hil (List.getElem?_eq_getElem hil)
    have e : pg[t - consP pgs j] = (t : Int) := by omega
    rw [← e]; exact List.getElem_mem _
theorem pageOf_iff (hok : okPages ns 0 pgs) {j : Nat} {pg : List Int} (hp : pgs[j]? = some pg) (t : Nat) : pageOf pgs (t : Int) = (j : Int) ↔ (t : Int) ∈ pg := by
  have hasI : ∀ (l : List Int) (x : Int), hasB x l = true ↔ x ∈ l := by
    intro l x
    unfold hasB
    rw [List.any_eq_true]
    constructor
    · rintro ⟨y, hy, he⟩; simp at he; subst he; exact hy
    · intro h; exact ⟨x, h, by simp⟩
  have hj := (List.getElem?_eq_some_iff.1 hp).1
  constructor
  · intro h
    unfold pageOf idxG at h
    split at h
    · rename_i ha
      have hlt : pgs.findIdx (hasB (t : Int)) < pgs.length := by
        rw [List.findIdx_lt_length]
        obtain ⟨l, hl, hh⟩ := List.any_eq_true.1 ha
        exact ⟨l, hl, hh⟩
      have hw := List.findIdx_getElem (w := hlt)
      have e : pgs.findIdx (hasB (t : Int)) = j := by omega
      have e2 : pgs[pgs.findIdx (hasB (t : Int))] = pg := by
        have := List.getElem?_eq_some_iff.1 hp
        obtain ⟨_, h2⟩ := this
        rw [← h2]; congr 1
      rw [e2] at hw
      exact (hasI _ _).1 hw
    · omega
  · intro h
    have hb := (on_page hok hp t).1 h
    refine (idxG_hit (f := hasB (t : Int)) hp ((hasI _ _).2 h) (fun i y hi hy => ?_)).symm
    cases e : hasB (t : Int) y with
    | false => rfl
    | true =>
      exfalso
      have h1 := (on_page hok hy t).1 ((hasI _ _).1 e)
      have := consP_mono pgs (show i + 1 ≤ j by omega)
      omega
end
/-- What is still to come when i parts have been looked at. -/
structure Rest (ps : List Part) (pgs : List (List Int)) (J : List Int → Int) (page : Int) (A : List Int) (rs : List (List Int)) (i at_ : Nat) (G : List (Nat × Nat)) (cs : List Int) : Prop where
  runs : rs.drop at_ = chunks G cs
  le : at_ ≤ rs.length
  ok : GOk ps.length G
  ge : ∀ g ∈ G, i ≤ g.1
  len : (flatG G).length = cs.length
  val : cs.all valB = true
  ans : ∀ t, i ≤ t → t < ps.length → A[t]? = (refA J ps.length (flatG G) cs)[t]?
  mem : ∀ t q, i ≤ t → ps[t]? = some q → ((q.kind = 2 ∧ pageOf pgs (t : Int) = page) ↔ ∃ g ∈ G, g.1 = t)
section
variable {ps : List Part} {pgs : List (List Int)} {J : List Int → Int} {page : Int} {A : List Int} {rs : List (List Int)} {i at_ : Nat} {G : List (Nat × Nat)} {cs : List Int}
theorem refA_get {J : List Int → Int} {n j : Nat} {fs : List Fld} {cs : List Int} (hj : j < n) : (refA J n fs cs)[j]? = some (if valsOf fs cs (j : Int) = [] then -1 else J (valsOf fs cs (j : Int))) := by
  unfold refA; rw [List.getElem?_map, List.getElem?_range hj]; rfl
theorem Rest.skip (h : Rest ps pgs J page A rs i at_ G cs) (hi : i < ps.length) (hn : ∀ g ∈ G, g.1 ≠ i) : A[i]? = some (-1) ∧ Rest ps pgs J page A rs (i + 1) at_ G cs := by
  refine ⟨?_, ⟨h.runs, h.le, h.ok, fun g hg => by have := h.ge g hg; have := hn g hg; omega, h.len, h.val, fun t ht htl => h.ans t (by omega) htl, fun t q ht hq => h.mem t q (by omega) hq⟩⟩
  rw [h.ans i (Nat.le_refl _) hi, refA_get hi, if_pos]
  refine valsOf_none (fun q hq => ?_)
  obtain ⟨g, hg, e⟩ := flatG_part hq
  have := hn g hg
  omega
theorem Rest.take (h : Rest ps pgs J page A rs i at_ G cs) (hi : i < ps.length) (he : ∃ g ∈ G, g.1 = i) :
    ∃ run G' cs', rs[at_]? = some run ∧ at_ < rs.length ∧ 2 ≤ run.length ∧ run.length ≤ 5 ∧ run.all valB = true ∧ A[i]? = some (J run) ∧ Rest ps pgs J page A rs (i + 1) (at_ + 1) G' cs' := by
  cases G with
  | nil => obtain ⟨g, hg, _⟩ := he; cases hg
  | cons g G =>
    have hgi : g.1 = i := by
      obtain ⟨x, hx, hxi⟩ := he
      rcases List.mem_cons.1 hx with rfl | hx
      · exact hxi
      · have h1 := (List.pairwise_cons.1 h.ok.1).1 x hx
        have h2 := h.ge g (by simp)
        omega
    have hg := h.ok.2 g (by simp)
    have hlen := h.len
    rw [flatG_cons, List.length_append, grp_len] at hlen
    have hrun : rs[at_]? = some (cs.take g.2) := by
      have := congrArg (fun l => l[0]?) h.runs
      simpa [chunks] using this
    have htl : (cs.take g.2).length = g.2 := by rw [List.length_take]; omega
    have hsplit : ∀ t : Int, valsOf (flatG (g :: G)) cs t = valsOf (grp g) (cs.take g.2) t ++ valsOf (flatG G) (cs.drop g.2) t := by
      intro t
      rw [flatG_cons, valsOf_app (by rw [grp_len]; omega), grp_len]
    have hval := h.val
    rw [List.all_eq_true] at hval
    refine ⟨cs.take g.2, G, cs.drop g.2, hrun, (List.getElem?_eq_some_iff.1 hrun).1, by omega, by omega, List.all_eq_true.2 (fun x hx => hval x (List.mem_of_mem_take hx)), ?_, ?_⟩
    · rw [h.ans i (Nat.le_refl _) hi, refA_get hi, hsplit]
      have h1 : valsOf (grp g) (cs.take g.2) (i : Int) = cs.take g.2 := valsOf_all (by rw [grp_len, htl]) (fun q hq => by rw [grp_part hq, hgi])
      have h2 : valsOf (flatG G) (cs.drop g.2) (i : Int) = [] := valsOf_none (fun q hq => by
        obtain ⟨x, hx, e⟩ := flatG_part hq
        have := (List.pairwise_cons.1 h.ok.1).1 x hx
        omega)
      rw [h1, h2, List.append_nil, if_neg]
      intro e
      rw [e] at htl
      simp at htl
      omega
    · refine ⟨?_, ?_, ⟨(List.pairwise_cons.1 h.ok.1).2, fun x hx => h.ok.2 x (by simp [hx])⟩, fun x hx => ?_, by rw [List.length_drop]; omega, List.all_eq_true.2 (fun x hx => hval x (List.mem_of_mem_drop hx)), fun t ht htl' => ?_, fun t q ht hq => ?_⟩
      · rw [← List.drop_drop, h.runs]; rfl
      · have := (List.getElem?_eq_some_iff.1 hrun).1; omega
      · have := (List.pairwise_cons.1 h.ok.1).1 x hx; omega
      · rw [h.ans t (by omega) htl', refA_get htl', refA_get htl', hsplit]
        have h1 : valsOf (grp g) (cs.take g.2) (t : Int) = [] := valsOf_none (fun q hq => by rw [grp_part hq]; omega)
        rw [h1, List.nil_append]
      · rw [h.mem t q (by omega) hq]
        constructor
        · rintro ⟨x, hx, e⟩
          rcases List.mem_cons.1 hx with rfl | hx
          · omega
          · exact ⟨x, hx, e⟩
        · rintro ⟨x, hx, e⟩; exact ⟨x, by simp [hx], e⟩
theorem Rest.fin (h : Rest ps pgs J page A rs i at_ G cs) (hi : ps.length ≤ i) : at_ = rs.length := by
  cases G with
  | nil =>
    have := congrArg List.length h.runs
    simp [chunks] at this
    have := h.le
    omega
  | cons g G =>
    have := h.ge g (by simp)
    have := (h.ok.2 g (by simp)).1
    omega
end
theorem rest_start {code var : Int} {ps : List Part} {pgs : List (List Int)} {j : Nat} {pg : List Int} {cs : List Int} {J : List Int → Int} (h : bkB code var ps pgs = true) (hp : pgs[j]? = some pg) (hl : cs.length = (fieldsP code var ps pgs (j : Int)).length) (hv : cs.all valB = true) :
    Rest ps pgs J (j : Int) (refA J ps.length (fieldsP code var ps pgs (j : Int)) cs) (runsTo (fieldsP code var ps pgs (j : Int)) cs cs.length) 0 0 (groups ps pg) cs := by
  have hG := groups_ok h hp
  have hF : fieldsP code var ps pgs (j : Int) = flatG (groups ps pg) := by rw [fieldsP_in h hp]; exact flds_groups ps pg hG.2
  have hok := (bk_of h).2.2.2.2
  refine ⟨?_, by omega, hG.1, fun g _ => by omega, by rw [← hF]; exact hl.symm, hv, fun t _ _ => by rw [hF], fun t q _ hq => ?_⟩
  · rw [List.drop_zero]
    exact runs_all hl.symm hG.1.1 (fun g hg => (hG.1.2 g hg).2.1) hF
  · rw [pageOf_iff hok hp]
    unfold groups
    constructor
    · rintro ⟨hk, hm⟩
      exact ⟨(t, q.opts.toNat), List.mem_filterMap.2 ⟨(t : Int), hm, by simp [hq, hk]⟩, rfl⟩
    · rintro ⟨g, hg, e⟩
      obtain ⟨x, hx, hgx⟩ := List.mem_filterMap.1 hg
      have hx0 := hG.2 x hx
      split at hgx
      · rename_i q' hq'
        split at hgx
        · rename_i hk
          injection hgx with hgx
          have e1 : x.toNat = t := by rw [← e, ← hgx]
          rw [e1, hq] at hq'
          injection hq' with hq'
          subst hq'
          refine ⟨hk, ?_⟩
          have : (t : Int) = x := by omega
          rw [this]; exact hx
        · cases hgx
      · cases hgx
end Go.Proofs.Ytndmadohffcdiaa
