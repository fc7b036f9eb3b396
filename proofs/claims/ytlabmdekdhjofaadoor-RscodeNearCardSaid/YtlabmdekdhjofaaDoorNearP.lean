/- Words with erasures and errors: at most one codeword is near enough. No program. -/
import Derived.Test.YtlabmdekdhjofaaDoorRsH
namespace Go.Proofs.YtlabmdekdhjofaaDoor

/-- The erased places, and the others. -/
def erTo (l : List Int) (k : Nat) : List Nat := (List.range k).filter fun i => l.getD i 0 == -1
def whTo (l : List Int) (k : Nat) : List Nat := (List.range k).filter fun i => !(l.getD i 0 == -1)
theorem erTo_zero (l : List Int) : erTo l 0 = [] := rfl
theorem whTo_zero (l : List Int) : whTo l 0 = [] := rfl
section
variable {l : List Int} {k : Nat} {x : Int}
theorem getD_int (h : l[k]? = some x) : l.getD k 0 = x := by rw [List.getD_eq_getElem?_getD, h]; rfl
theorem erTo_hit (h : l[k]? = some x) (e : x = -1) : erTo l (k + 1) = erTo l k ++ [k] := by
  unfold erTo; rw [List.range_succ, List.filter_append]; simp only [List.filter_cons, List.filter_nil, getD_int h, e]; rfl
theorem erTo_miss (h : l[k]? = some x) (e : x ≠ -1) : erTo l (k + 1) = erTo l k := by
  unfold erTo; rw [List.range_succ, List.filter_append]; simp [List.filter_cons, h, e]
theorem whTo_hit (h : l[k]? = some x) (e : x ≠ -1) : whTo l (k + 1) = whTo l k ++ [k] := by
  unfold whTo; rw [List.range_succ, List.filter_append]; simp [List.filter_cons, h, e]
theorem whTo_miss (h : l[k]? = some x) (e : x = -1) : whTo l (k + 1) = whTo l k := by
  unfold whTo; rw [List.range_succ, List.filter_append]; simp [List.filter_cons, h, e]
theorem erTo_len (l : List Int) (k : Nat) : (erTo l k).length ≤ k := by
  unfold erTo; have := List.length_filter_le (fun i => l.getD i 0 == -1) (List.range k); simpa using this
theorem whTo_len (l : List Int) (k : Nat) : (whTo l k).length ≤ k := by
  unfold whTo; have := List.length_filter_le (fun i => !(l.getD i 0 == -1)) (List.range k); simpa using this
theorem erTo_lt {p : Nat} (h : p ∈ erTo l k) : p < k := by unfold erTo at h; exact List.mem_range.1 (List.mem_filter.1 h).1
theorem whTo_lt {p : Nat} (h : p ∈ whTo l k) : p < k := by unfold whTo at h; exact List.mem_range.1 (List.mem_filter.1 h).1
theorem mem_er {p : Nat} : p ∈ erTo l k ↔ p < k ∧ l.getD p 0 = -1 := by unfold erTo; simp [List.mem_filter]
theorem mem_wh {p : Nat} : p ∈ whTo l k ↔ p < k ∧ l.getD p 0 ≠ -1 := by unfold whTo; simp [List.mem_filter]
theorem er_wh_nodup (l : List Int) (k : Nat) : (erTo l k ++ whTo l k).Nodup := by
  rw [List.nodup_append]
  refine ⟨List.nodup_range.filter _, List.nodup_range.filter _, fun a ha b hb e => ?_⟩
  subst e
  exact (mem_wh.1 hb).2 (mem_er.1 ha).2
end

/-- The places, not erased, in which a word differs from a codeword. -/
def wrongP (l : List Int) (c : List F) : List Nat := (whTo l l.length).filter fun i => !((toF l).getD i 0 == c.getD i 0)
/-- The codeword c is near enough, with e errors. -/
structure Near (l : List Int) (c : List F) (e : Nat) : Prop where
  len : c.length = l.length
  code : F.Code c
  err : (wrongP l c).length = e
  near : 2 * e + (erTo l l.length).length ≤ 6

theorem nodup_len {α : Type} [DecidableEq α] : ∀ (a b : List α), a.Nodup → (∀ x ∈ a, x ∈ b) → a.length ≤ b.length
  | [], b, _, _ => Nat.zero_le _
  | x :: a, b, h, hs => by
    rw [List.nodup_cons] at h
    have hx := hs x List.mem_cons_self
    have := nodup_len a (b.erase x) h.2 (fun y hy => (List.mem_erase_of_ne (fun (e : y = x) => h.1 (e ▸ hy))).2 (hs y (List.mem_cons_of_mem _ hy)))
    rw [List.length_erase_of_mem hx] at this
    have := List.length_pos_of_mem hx
    simp; omega
theorem diffs_len : ∀ (a b : List F), a.length = b.length → (F.diffs a b).length = ((List.range a.length).filter fun i => !(a.getD i 0 == b.getD i 0)).length
  | [], [], _ => rfl
  | c :: a, d :: b, h => by
    have ih := diffs_len a b (by simpa using h)
    rw [List.length_cons, List.range_succ_eq_map, List.filter_cons, List.filter_map]
    unfold F.diffs
    by_cases e : c = d
    · rw [if_pos e]
      simp only [List.getD_cons_zero, e, beq_self_eq_true, Bool.not_true, Bool.false_eq_true, if_false, List.length_map]
      rw [ih]; rfl
    · rw [if_neg e]
      simp only [List.getD_cons_zero, beq_eq_false_iff_ne.2 e, Bool.not_false, if_true, List.length_cons, List.length_map]
      rw [ih]; rfl
/-- Words that differ in few places of a list. -/
theorem diffs_le {a b : List F} {ps : List Nat} (h : a.length = b.length) (hp : ∀ i, i < a.length → a.getD i 0 ≠ b.getD i 0 → i ∈ ps) : (F.diffs a b).length ≤ ps.length := by
  rw [diffs_len a b h]
  refine nodup_len _ _ (List.nodup_range.filter _) fun i hi => ?_
  rw [List.mem_filter, List.mem_range] at hi
  exact hp i hi.1 (by simpa using hi.2)
theorem near_uniq {l : List Int} {c c' : List F} {e e' : Nat} (h15 : l.length ≤ 31) (h : Near l c e) (h' : Near l c' e') : c = c' ∧ e = e' := by
  have hc : c = c' := by
    refine F.code_apart h.code h'.code (h.len.trans h'.len.symm) (by rw [h.len]; exact h15) ?_
    refine Nat.le_trans (diffs_le (ps := erTo l l.length ++ wrongP l c ++ wrongP l c') (h.len.trans h'.len.symm) fun i hi hne => ?_) ?_
    · rw [h.len] at hi
      rcases Classical.em (l.getD i 0 = -1) with h1 | h1
      · exact List.mem_append_left _ (List.mem_append_left _ (mem_er.2 ⟨hi, h1⟩))
      · rcases Classical.em ((toF l).getD i 0 = c.getD i 0) with h2 | h2
        · refine List.mem_append_right _ (List.mem_filter.2 ⟨mem_wh.2 ⟨hi, h1⟩, ?_⟩)
          rw [h2]; simpa using hne
        · exact List.mem_append_left _ (List.mem_append_right _ (List.mem_filter.2 ⟨mem_wh.2 ⟨hi, h1⟩, by simpa using h2⟩))
    · have := h.near; have := h'.near; have := h.err; have := h'.err
      simp only [List.length_append]
      omega
  subst hc
  exact ⟨rfl, h.err.symm.trans h'.err⟩
/-- A codeword agrees with the word outside the erased and the wrong places. -/
theorem off_wrong {l : List Int} {c : List F} (hl : c.length = l.length) : F.Off (toF l) c (erTo l l.length ++ wrongP l c) := by
  refine ⟨by rw [toF_len]; exact hl, fun i hi => ?_⟩
  rcases Nat.lt_or_ge i l.length with h | h
  · have h1 : l.getD i 0 ≠ -1 := fun e => hi (List.mem_append_left _ (mem_er.2 ⟨h, e⟩))
    have h2 : (toF l).getD i 0 = c.getD i 0 := Classical.byContradiction fun e => hi (List.mem_append_right _ (List.mem_filter.2 ⟨mem_wh.2 ⟨h, h1⟩, by simpa using e⟩))
    rw [F.getD_eq (w := c) (by omega), F.getD_eq (w := toF l) (by rw [toF_len]; exact h), h2]
  · rw [List.getElem?_eq_none (by omega), List.getElem?_eq_none (by rw [toF_len]; exact h)]
theorem wrong_sub (l : List Int) (c : List F) : (wrongP l c).Sublist (whTo l l.length) := List.filter_sublist
/-- What is found with the fewest wrong places is near. -/
theorem found_near {l : List Int} {S : List Nat} {c : List F} {wrong : Nat} (hS : S.Sublist (whTo l l.length)) (hl : S.length = wrong) (ho : F.Off (toF l) c (erTo l l.length ++ S)) (hc : F.Code c) (h6 : 2 * wrong + (erTo l l.length).length ≤ 6)
    (hno : ∀ s, s < wrong → ∀ S, S.Sublist (whTo l l.length) → S.length = s → ∀ c, F.Off (toF l) c (erTo l l.length ++ S) → ¬ F.Code c) : Near l c wrong := by
  have hlen : c.length = l.length := by rw [ho.1, toF_len]
  have hle : (wrongP l c).length ≤ S.length := by
    refine nodup_len _ _ ((List.nodup_append.1 (er_wh_nodup l l.length)).2.1.sublist (wrong_sub l c)) fun i hi => ?_
    obtain ⟨h1, h2⟩ := List.mem_filter.1 hi
    obtain ⟨h3, h4⟩ := mem_wh.1 h1
    refine Classical.byContradiction fun hns => ?_
    have h5 := ho.2 i (fun hm => by
      rcases List.mem_append.1 hm with h | h
      · exact h4 (mem_er.1 h).2
      · exact hns h)
    rw [F.getD_eq (w := c) (by omega), F.getD_eq (w := toF l) (by rw [toF_len]; exact h3)] at h5
    injection h5 with h5
    rw [h5] at h2
    simp at h2
  refine ⟨hlen, hc, ?_, h6⟩
  rcases Nat.lt_or_ge (wrongP l c).length wrong with hlt | hge
  · exact absurd hc (hno _ hlt _ (wrong_sub l c) rfl c (off_wrong hlen))
  · omega
/-- If nothing is found, nothing is near. -/
theorem none_near {l : List Int} {wrong : Nat} (h6 : 6 < 2 * wrong + (erTo l l.length).length)
    (hno : ∀ s, s < wrong → ∀ S, S.Sublist (whTo l l.length) → S.length = s → ∀ c, F.Off (toF l) c (erTo l l.length ++ S) → ¬ F.Code c) : ∀ c e, ¬ Near l c e := by
  intro c e h
  have := h.near
  exact hno e (by omega) (wrongP l c) (wrong_sub l c) h.err c (off_wrong h.len) h.code
theorem addAt_snoc : ∀ (ps : List Nat) (xs w : List F) (p : Nat) (x : F), ps.length = xs.length → F.addAt w (ps ++ [p]) (xs ++ [x]) = (F.addAt w ps xs).set p ((F.addAt w ps xs).getD p 0 + x)
  | [], [], w, p, x, _ => rfl
  | q :: ps, y :: xs, w, p, x, h => by
    simp only [List.cons_append, F.addAt]
    exact addAt_snoc ps xs _ p x (by simpa using h)
/-- The word, its erased symbols replaced by 0 as far as place k. -/
def fillTo (l : List Int) (k : Nat) : List Int := wI (toF (l.take k)) ++ l.drop k
theorem fillTo_zero (l : List Int) : fillTo l 0 = l := by simp [fillTo, wI, toF]
theorem fillTo_all (l : List Int) : fillTo l l.length = wI (toF l) := by simp [fillTo]
theorem fillTo_len (l : List Int) (k : Nat) (h : k ≤ l.length) : (fillTo l k).length = l.length := by simp [fillTo, wI, toF]; omega
theorem fillTo_hit {l : List Int} {k : Nat} (h : l[k]? = some (-1)) : (fillTo l k).set k 0 = fillTo l (k + 1) := by
  have hk := (List.getElem?_eq_some_iff.1 h).1
  unfold fillTo
  rw [List.set_append_right _ _ (by simp [wI, toF]; omega)]
  have e1 : (wI (toF (l.take k))).length = k := by simp [wI, toF]; omega
  rw [e1, Nat.sub_self, List.drop_eq_getElem_cons hk, List.set_cons_zero, List.take_succ_eq_append_getElem hk]
  have e2 : l[k] = -1 := (List.getElem?_eq_some_iff.1 h).2
  have e3 : toF (l.take k ++ [l[k]]) = toF (l.take k) ++ [0] := by rw [e2]; simp [toF]; rfl
  rw [e3, wI_app]
  simp [wI, F.n_zero]
theorem fillTo_miss {l : List Int} {k : Nat} {x : Int} (h : l[k]? = some x) (h1 : 0 ≤ x) (h2 : x < 32) : fillTo l k = fillTo l (k + 1) := by
  have hk := (List.getElem?_eq_some_iff.1 h).1
  unfold fillTo
  rw [List.drop_eq_getElem_cons hk, List.take_succ_eq_append_getElem hk]
  have e2 : l[k] = x := (List.getElem?_eq_some_iff.1 h).2
  have e3 : toF (l.take k ++ [l[k]]) = toF (l.take k) ++ toF [x] := by rw [e2]; simp [toF]
  rw [e3, wI_app, e2, wI_toF (l := [x]) (by simpa using ⟨h1, h2⟩)]
  simp
end Go.Proofs.YtlabmdekdhjofaaDoor
