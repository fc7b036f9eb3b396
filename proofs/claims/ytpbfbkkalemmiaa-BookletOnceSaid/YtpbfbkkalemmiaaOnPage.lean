/- On which page a part is, and what is known of a field: plain lists. -/
import Derived.Test.YtpbfbkkalemmiaaOnceP
namespace Go.Proofs.Ytpbfbkkalemmiaa
open Go.RowKit

section
variable {ns : List Int} {pgs : List (List Int)}
theorem consP_mono (pgs : List (List Int)) {a b : Nat} (h : a ≤ b) : consP pgs a ≤ consP pgs b := by
  obtain ⟨m, rfl⟩ : ∃ m, b = a + m := ⟨b - a, by omega⟩
  unfold consP
  rw [List.take_add, List.map_append, List.sum_append]
  omega
theorem on_page (hok : okPages ns 0 pgs) {j : Nat} {pg : List Int} (hp : pgs[j]? = some pg) (t : Nat) : (t : Int) ∈ pg ↔ consP pgs j ≤ t ∧ t < consP pgs (j + 1) := by
  have h := (okPages_at pgs 0 hok).1 j pg hp
  rw [Nat.zero_add] at h
  rw [consP_succ hp]
  constructor
  · intro hm
    obtain ⟨i, hi⟩ := List.getElem?_of_mem hm
    have hil := (List.getElem?_eq_some_iff.1 hi).1
    have := h.1.2 i _ hil hi
    omega
  · intro hb
    have hil : t - consP pgs j < pg.length := by omega
    have := h.1.2 (t - consP pgs j) _ hil (List.getElem?_eq_getElem hil)
    have e : pg[t - consP pgs j] = (t : Int) := by omega
    rw [← e]; exact List.getElem_mem _
theorem pageOf_iff (hok : okPages ns 0 pgs) {j : Nat} {pg : List Int} (hp : pgs[j]? = some pg) (t : Nat) : pageOf pgs (t : Int) = (j : Int) ↔ (t : Int) ∈ pg := by
  have hasI : ∀ (l : List Int) (x : Int), hasB x l = true ↔ x ∈ l := by
    intro l x
    unfold hasB
    rw [List.any_eq_true]
    constructor
    · rintro ⟨y, hy, he⟩; simp at he; subst he; exact hy
    · intro h; exact ⟨x, h, by simp⟩
  have hj := (List.getElem?_eq_some_iff.1 hp).1
  constructor
  · intro h
    unfold pageOf idxG at h
    split at h
    · rename_i ha
      have hlt : pgs.findIdx (hasB (t : Int)) < pgs.length := by
        rw [List.findIdx_lt_length]
        obtain ⟨l, hl, hh⟩ := List.any_eq_true.1 ha
        exact ⟨l, hl, hh⟩
      have hw := List.findIdx_getElem (w := hlt)
      have e : pgs.findIdx (hasB (t : Int)) = j := by omega
      have e2 : pgs[pgs.findIdx (hasB (t : Int))] = pg := by
        have := List.getElem?_eq_some_iff.1 hp
        obtain ⟨_, h2⟩ := this
        rw [← h2]; congr 1
      rw [e2] at hw
      exact (hasI _ _).1 hw
    · omega
  · intro h
    have hb := (on_page hok hp t).1 h
    refine (idxG_hit (f := hasB (t : Int)) hp ((hasI _ _).2 h) (fun i y hi hy => ?_)).symm
    cases e : hasB (t : Int) y with
    | false => rfl
    | true =>
      exfalso
      have h1 := (on_page hok hy t).1 ((hasI _ _).1 e)
      have := consP_mono pgs (show i + 1 ≤ j by omega)
      omega
end
theorem fld_facts {ps : List Part} {pgs : List (List Int)} (hok : okPages (ps.map need) 0 pgs) (hv : ps.all vpB = true) {j k : Nat} {pg : List Int} (hp : pgs[j]? = some pg) {q : Fld} (hq : (fldsOf ps pg)[k]? = some q) :
    ∃ t o : Nat, q.part = t ∧ q.opt = o ∧ t < ps.length ∧ (∃ r, ps[t]? = some r ∧ (o : Int) < r.opts) ∧ o < 5 ∧ pageOf pgs (t : Int) = (j : Int) ∧ seenB (fldTo ps pgs j ++ (fldsOf ps pg).take k) (t * 5 + o) = false ∧ keyF q = t * 5 + o := by
  have hm := List.mem_of_getElem? hq
  obtain ⟨x, hx, hqx⟩ := flds_mem hm
  obtain ⟨h1, r, hr, hk, h2, h3⟩ := partF_mem hqx
  have hxi := hx
  rw [page_iv hok hp] at hxi
  obtain ⟨t, rfl, _, ht⟩ := iv_mem hxi
  have h5 : ∀ r ∈ ps, r.opts ≤ 5 := fun r hr => by have := vp_of (List.all_eq_true.1 hv r hr); omega
  simp at hr
  have htl := (List.getElem?_eq_some_iff.1 hr).1
  have ho5 := h5 r (List.mem_of_getElem? hr)
  obtain ⟨o, ho⟩ : ∃ o : Nat, q.opt = o := ⟨q.opt.toNat, by omega⟩
  have hkey : keyF q = t * 5 + o := by unfold keyF; omega
  refine ⟨t, o, h1, ho, htl, ⟨r, hr, by omega⟩, by omega, (pageOf_iff hok hp t).2 hx, ?_, hkey⟩
  rw [← hkey]
  refine seen_no (fun s hs => ?_) ⟨by omega, by omega, by omega⟩ (fresh_fld hok hp hq)
  have hs2 : s ∈ fldTo ps pgs (j + 1) := by
    rw [fldTo_succ hok hp]
    rcases List.mem_append.1 hs with h | h
    · exact List.mem_append_left _ h
    · exact List.mem_append_right _ (List.mem_of_mem_take h)
  obtain ⟨u, e1, _, r', hr', _, e2, e3⟩ := flds_iv_part hs2
  have := h5 r' (List.mem_of_getElem? hr')
  exact ⟨by omega, by omega, by omega⟩
end Go.Proofs.Ytpbfbkkalemmiaa
