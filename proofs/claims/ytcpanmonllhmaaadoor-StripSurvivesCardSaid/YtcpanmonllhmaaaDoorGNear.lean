/- Words with erasures and errors: at most one codeword is near enough. No program. -/
import Derived.Test.YtcpanmonllhmaaaDoorRsH
set_option linter.unusedSimpArgs false
set_option linter.unusedVariables false
namespace Go.Proofs.YtcpanmonllhmaaaDoor

/-- The erased places, and the others. -/
def erTo (l : List Int) (k : Nat) : List Nat := (List.range k).filter fun i => l.getD i 0 == -1
def whTo (l : List Int) (k : Nat) : List Nat := (List.range k).filter fun i => !(l.getD i 0 == -1)
theorem erTo_zero (l : List Int) : erTo l 0 = [] := rfl
theorem whTo_zero (l : List Int) : whTo l 0 = [] := rfl
section
variable {l : List Int} {k : Nat} {x : Int}
theorem getD_int (h : l[k]? = some x) : l.getD k 0 = x := by rw [List.getD_eq_getElem?_getD, h]; rfl
theorem erTo_hit (h : l[k]? = some x) (e : x = -1) : erTo l (k + 1) = erTo l k ++ [k] := by
  unfold erTo; rw [List.range_succ, List.filter_append]; simp only [List.filter_cons, List.filter_nil, getD_int h, e]; rfl
theorem erTo_miss (h : l[k]? = some x) (e : x ≠ -1) : erTo l (k + 1) = erTo l k := by
  unfold erTo; rw [List.range_succ, List.filter_append]; simp [List.filter_cons, h, e]
theorem whTo_hit (h : l[k]? = some x) (e : x ≠ -1) : whTo l (k + 1) = whTo l k ++ [k] := by
  unfold whTo; rw [List.range_succ, List.filter_append]; simp [List.filter_cons, h, e]
theorem whTo_miss (h : l[k]? = some x) (e : x = -1) : whTo l (k + 1) = whTo l k := by
  unfold whTo; rw [List.range_succ, List.filter_append]; simp [List.filter_cons, h, e]
theorem erTo_len (l : List Int) (k : Nat) : (erTo l k).length ≤ k := by
  unfold erTo; have := List.length_filter_le (fun i => l.getD i 0 == -1) (List.range k); simpa using this
theorem whTo_len (l : List Int) (k : Nat) : (whTo l k).length ≤ k := by
  unfold whTo; have := List.length_filter_le (fun i => !(l.getD i 0 == -1)) (List.range k); simpa using this
theorem erTo_lt {p : Nat} (h : p ∈ erTo l k) : p < k := by unfold erTo at h; exact List.mem_range.1 (List.mem_filter.1 h).1
theorem whTo_lt {p : Nat} (h : p ∈ whTo l k) : p < k := by unfold whTo at h; exact List.mem_range.1 (List.mem_filter.1 h).1
theorem mem_er {p : Nat} : p ∈ erTo l k ↔ p < k ∧ l.getD p 0 = -1 := by unfold erTo; simp [List.mem_filter]
theorem mem_wh {p : Nat} : p ∈ whTo l k ↔ p < k ∧ l.getD p 0 ≠ -1 := by unfold whTo; simp [List.mem_filter]
theorem er_wh_nodup (l : List Int) (k : Nat) : (erTo l k ++ whTo l k).Nodup := by
  rw [List.nodup_append]
  refine ⟨List.nodup_range.filter _, List.nodup_range.filter _, fun a ha b hb e => ?_⟩
  subst e
  exact (mem_wh.1 hb).2 (mem_er.1 ha).2
end

/-- The places, not erased, in which a word differs from a codeword. -/
def wrongP (l : List Int) (c : List F) : List Nat := (whTo l l.length).filter fun i => !((toF l).getD i 0 == c.getD i 0)
/-- The codeword c is near enough, with e errors. -/
structure Near (l : List Int) (c : List F) (e : Nat) : Prop where
  len : c.length = l.length
  code : F.Code c
  err : (wrongP l c).length = e
  near : 2 * e + (erTo l l.length).length ≤ 6

theorem nodup_len {α : Type} [DecidableEq α] : ∀ (a b : List α), a.Nodup → (∀ x ∈ a, x ∈ b) → a.length ≤ b.length
  | [], b, _, _ => Nat.zero_le _
  | x :: a, b, h, hs => by
    rw [List.nodup_cons] at h
    have hx := hs x List.mem_cons_self
    have := nodup_len a (b.erase x) h.2 (fun y hy => (List.mem_erase_of_ne (fun (e : y = x) => h.1 (e ▸ hy))).2 (hs y (List.mem_cons_of_mem _ hy)))
    rw [List.length_erase_of_mem hx] at this
    have := List.length_pos_of_mem hx
    simp; omega
theorem diffs_len : ∀ (a b : List F), a.length = b.length → (F.diffs a b).length = ((List.range a.length).filter fun i => !(a.getD i 0 == b.getD i 0)).length
  | [], [], _ => rfl
  | c :: a, d :: b, h => by
    have ih := diffs_len a b (by simpa using h)
    rw [List.length_cons, List.range_succ_eq_map, List.filter_cons, List.filter_map]
    unfold F.diffs
    by_cases e : c = d
    · rw [if_pos e]
      simp only [List.getD_cons_zero, e, beq_self_eq_true, Bool.not_true, Bool.false_eq_true, if_false, List.length_map]
      rw [ih]; rfl
    · rw [if_neg e]
      simp only [List.getD_cons_zero, beq_eq_false_iff_ne.2 e, Bool.not_false, if_true, List.length_cons, List.length_map]
      rw [ih]; rfl
/-- Words that differ in few places of a list. -/
theorem diffs_le {a b : List F} {ps : List Nat} (h : a.length = b.length) (hp : ∀ i, i < a.length → a.getD i 0 ≠ b.getD i 0 → i ∈ ps) : (F.diffs a b).length ≤ ps.length := by
  rw [diffs_len a b h]
  refine nodup_len _ _ (List.nodup_range.filter _) fun i hi => ?_
  rw [List.mem_filter, List.mem_range] at hi
  exact hp i hi.1 (by simpa using hi.2)
theorem near_uniq {l : List Int} {c c' : List F} {e e' : Nat} (h15 : l.length ≤ 31) (h : Near l c e) (h' : Near l c' e') : c = c' ∧ e = e' := by
  have hc : c = c' := by
    refine F.code_apart h.code h'.code (h.len.trans h'.len.symm) (by rw [h.len]; exact h15) ?_
    refine Nat.le_trans (diffs_le (ps := erTo l l.length ++ wrongP l c ++ wrongP l c') (h.len.trans h'.len.symm) fun i hi hne => ?_) ?_
    · rw [h.len] at hi
      rcases Classical.em (l.getD i 0 = -1) with h1 | h1
      · exact List.mem_append_left _ (List.mem_append_left _ (mem_er.2 ⟨hi, h1⟩))
      · rcases Classical.em ((toF l).getD i 0 = c.getD i 0) with h2 | h2
        · refine List.mem_append_right _ (List.mem_filter.2 ⟨mem_wh.2 ⟨hi, h1⟩, ?_⟩)
          rw [h2]; simpa using hne
        · exact List.mem_append_left _ (List.mem_append_right _ (List.mem_filter.2 ⟨mem_wh.2 ⟨hi, h1⟩, by simpa using h2⟩))
    · have := h.near; have := h'.near; have := h.err; have := h'.err
      simp only [List.length_append]
      omega
  subst hc
  exact ⟨rfl, h.err.symm.trans h'.err⟩
/-- A codeword agrees with the word outside the erased and the wrong places. -/
theorem off_wrong {l : List Int} {c : List F} (hl : c.length = l.length) : F.Off (toF l) c (erTo l l.length ++ wrongP l c) := by
  refine ⟨by rw [toF_len]; exact hl, fun i hi => ?_⟩
  rcases Nat.lt_or_ge i l.length with h | h
  · have h1 : l.getD i 0 ≠ -1 := fun e => hi (List.mem_append_left _ (mem_er.2 ⟨h, e⟩))
    have h2 : (toF l).getD i 0 = c.getD i 0 := Classical.byContradiction fun e => hi (List.mem_append_right _ (List.mem_filter.2 ⟨mem_wh.2 ⟨h, h1⟩, by simpa using e⟩))
    rw [F.getD_eq (w := c) (by omega), F.getD_eq (w := toF l) (by rw [toF_len]; exact h), h2]
  · rw [List.getElem?_eq_none (by omega), List.getElem?_eq_none (by rw [toF_len]; exact h)]
theorem wrong_sub (l : List Int) (c : List F) : (wrongP l c).Sublist (whTo l l.length) := List.filter_sublist
/-- What is found with the fewest wrong places is near. -/
theorem found_near {l : List Int} {S : List Nat} {c : List F} {wrong : Nat} (hS : S.Sublist (whTo l l.length)) (hl : S.length = wrong) (ho : F.Off (toF l) c (erTo l l.length ++ S)) (hc : F.Code c) (h6 : 2 * wrong + (erTo l l.length).length ≤ 6)
    (hno : ∀ s, s < wrong → ∀ S, S.Sublist (whTo l l.length) → S.length = s → ∀ c, F.Off (toF l) c (erTo l l.length ++ S) → ¬ F.Code c) : Near l c wrong := by
  have hlen : c.length = l.length := by rw [ho.1, toF_len]
  have hle : (wrongP l c).length ≤ S.length := by
    refine nodup_len _ _ ((List.nodup_append.1 (er_wh_nodup l l.length)).2.1.sublist (wrong_sub l c)) fun i hi => ?_
    obtain ⟨h1, h2⟩ := List.mem_filter.1 hi
    obtain ⟨h3, h4⟩ := mem_wh.1 h1
    refine Classical.byContradiction fun hns => ?_
    have h5 := ho.2 i (fun hm => by
      rcases List.mem_append.1 hm with h | h
      · exact h4 (mem_er.1 h).2
      · exact hns h)
    rw [F.getD_eq (w := c) (by omega), F.getD_eq (w := toF l) (by rw [toF_len]; exact h3)] at h5
    injection h5 with h5
    rw [h5] at h2
    simp at h2
  refine ⟨hlen, hc, ?_, h6⟩
  rcases Nat.lt_or_ge (wrongP l c).length wrong with hlt | hge
  · exact absurd hc (hno _ hlt _ (wrong_sub l c) rfl c (off_wrong hlen))
  · omega
/-- If nothing is found, nothing is near. -/
theorem none_near {l : List Int} {wrong : Nat} (h6 : 6 < 2 * wrong + (erTo l l.length).length)
    (hno : ∀ s, s < wrong → ∀ S, S.Sublist (whTo l l.length) → S.length = s → ∀ c, F.Off (toF l) c (erTo l l.length ++ S) → ¬ F.Code c) : ∀ c e, ¬ Near l c e := by
  intro c e h
  have := h.near
  exact hno e (by omega) (wrongP l c) (wrong_sub l c) h.err c (off_wrong h.len) h.code
theorem addAt_snoc : ∀ (ps : List Nat) (xs w : List F) (p : Nat) (x : F), ps.length = xs.length → F.addAt w (ps ++ [p]) (xs ++ [x]) = (F.addAt w ps xs).set p ((F.addAt w ps xs).getD p 0 + x)
  | [], [], w, p, x, _ => rfl
  | q :: ps, y :: xs, w, p, x, h => by
    simp only [List.cons_append, F.addAt]
    exact addAt_snoc ps xs _ p x (by simpa using h)
/-- The word, its erased symbols replaced by 0 as far as place k. -/
def fillTo (l : List Int) (k : Nat) : List Int := wI (toF (l.take k)) ++ l.drop k
theorem fillTo_zero (l : List Int) : fillTo l 0 = l := by simp [fillTo, wI, toF]
theorem fillTo_all (l : List Int) : fillTo l l.length = wI (toF l) := by simp [fillTo]
theorem fillTo_len (l : List Int) (k : Nat) (h : k ≤ l.length) : (fillTo l k).length = l.length := by simp [fillTo, wI, toF]; omega
theorem fillTo_hit {l : List Int} {k : Nat} (h : l[k]? = some (-1)) : (fillTo l k).set k 0 = fillTo l (k + 1) := by
  have hk := (List.getElem?_eq_some_iff.1 h).1
  unfold fillTo
  rw [List.set_append_right _ _ (by simp [wI, toF]; omega)]
  have e1 : (wI (toF (l.take k))).length = k := by simp [wI, toF]; omega
  rw [e1, Nat.sub_self, List.drop_eq_getElem_cons hk, List.set_cons_zero, List.take_succ_eq_append_getElem hk]
  have e2 : l[k] = -1 := (List.getElem?_eq_some_iff.1 h).2
  have e3 : toF (l.take k ++ [l[k]]) = toF (l.take k) ++ [0] := by rw [e2]; simp [toF]; rfl
  rw [e3, wI_app]
  simp [wI, F.n_zero]
theorem fillTo_miss {l : List Int} {k : Nat} {x : Int} (h : l[k]? = some x) (h1 : 0 ≤ x) (h2 : x < 32) : fillTo l k = fillTo l (k + 1) := by
  have hk := (List.getElem?_eq_some_iff.1 h).1
  unfold fillTo
  rw [List.drop_eq_getElem_cons hk, List.take_succ_eq_append_getElem hk]
  have e2 : l[k] = x := (List.getElem?_eq_some_iff.1 h).2
  have e3 : toF (l.take k ++ [l[k]]) = toF (l.take k) ++ toF [x] := by rw [e2]; simp [toF]
  rw [e3, wI_app, e2, wI_toF (l := [x]) (by simpa using ⟨h1, h2⟩)]
  simp
end Go.Proofs.YtcpanmonllhmaaaDoor
/- Strips: plain functions on lists of bytes. No program. -/
namespace Go.Proofs.YtcpanmonllhmaaaDoor

/-- The five modules of a symbol. -/
def mod1 (n i : Nat) : UInt8 := if n / 2 ^ i % 2 = 1 then 49 else 48
def mods (n : Nat) : List UInt8 := [mod1 n 4, mod1 n 3, mod1 n 2, mod1 n 1, mod1 n 0]
theorem mods_len (n : Nat) : (mods n).length = 5 := rfl
def midL (c : List F) : List UInt8 := c.flatMap fun x => mods x.n
def drawL (c : List F) : List UInt8 := List.replicate 7 49 ++ midL c ++ List.replicate 7 48
theorem midL_len (c : List F) : (midL c).length = 5 * c.length := by
  induction c with
  | nil => rfl
  | cons x c ih => unfold midL at *; rw [List.flatMap_cons, List.length_append, ih, mods_len, List.length_cons]; omega
theorem midL_snoc (c : List F) (x : F) : midL (c ++ [x]) = midL c ++ mods x.n := by unfold midL; simp
theorem drawL_len {c : List F} (h : c.length = 12) : (drawL c).length = 74 := by
  unfold drawL; rw [List.length_append, List.length_append, midL_len, h]; rfl
def okBy (b : UInt8) : Bool := b == 48 || (b == 49 || b == 63)
/-- Which texts are strips. -/
def stripB (s : List UInt8) : Bool := decide (s.length = 74) && s.all okBy
theorem mods_ok (x : F) : ∀ b ∈ mods x.n, b = 48 ∨ b = 49 := by
  intro b hb
  unfold mods mod1 at hb
  simp only [List.mem_cons, List.not_mem_nil, or_false] at hb
  rcases hb with rfl | rfl | rfl | rfl | rfl <;> (split <;> simp)
theorem midL_ok (c : List F) : ∀ b ∈ midL c, b = 48 ∨ b = 49 := by
  intro b hb
  unfold midL at hb
  obtain ⟨x, _, hx⟩ := List.mem_flatMap.1 hb
  exact mods_ok x b hx
theorem drawL_ok (c : List F) : ∀ b ∈ drawL c, b = 48 ∨ b = 49 := by
  intro b hb
  unfold drawL at hb
  rcases List.mem_append.1 hb with h | h
  · rcases List.mem_append.1 h with h | h
    · exact .inr (List.eq_of_mem_replicate h)
    · exact midL_ok c b h
  · exact .inl (List.eq_of_mem_replicate h)
theorem okBy_iff {b : UInt8} : okBy b = true ↔ b = 48 ∨ b = 49 ∨ b = 63 := by unfold okBy; simp
theorem strip_iff {s : List UInt8} : stripB s = true ↔ s.length = 74 ∧ ∀ b ∈ s, b = 48 ∨ b = 49 ∨ b = 63 := by
  unfold stripB
  simp [okBy_iff]
theorem draw_strip {c : List F} (h : c.length = 12) : stripB (drawL c) = true :=
  strip_iff.2 ⟨drawL_len h, fun b hb => (drawL_ok c b hb).imp id .inl⟩
/-- Most modules of the beginning and of the end are as given. -/
def markB (s : List UInt8) (b e : UInt8) : Bool := decide (4 ≤ (s.take 7).count b) && decide (4 ≤ (s.drop 67).count e)
theorem draw_head (c : List F) : (drawL c).take 7 = List.replicate 7 49 := by unfold drawL; rw [List.append_assoc]; rfl
theorem draw_tail {c : List F} (h : c.length = 12) : (drawL c).drop 67 = List.replicate 7 48 := by
  unfold drawL
  rw [List.drop_left' (by rw [List.length_append, midL_len, h]; rfl)]
theorem draw_mark {c : List F} (h : c.length = 12) : markB (drawL c) 49 48 = true := by
  unfold markB; rw [draw_head, draw_tail h]; decide
/-- The text the right way up, and the error. -/
def uprS (s : List UInt8) : List UInt8 := if stripB s then (if markB s 49 48 then s else if markB s 48 49 then s.reverse else []) else []
def uprE (s : List UInt8) : Int := if stripB s then (if markB s 49 48 then 0 else if markB s 48 49 then 0 else 26) else 7
theorem strip_rev (s : List UInt8) : stripB s.reverse = stripB s := by unfold stripB; rw [List.length_reverse, List.all_reverse]
theorem mark_rev {s : List UInt8} (h : s.length = 74) (b e : UInt8) : markB s.reverse b e = markB s e b := by
  unfold markB
  have e1 : s.reverse.take 7 = (s.drop 67).reverse := by rw [List.take_reverse, h]
  have e2 : s.reverse.drop 67 = (s.take 7).reverse := by rw [List.drop_reverse, h]
  rw [e1, e2, List.count_reverse, List.count_reverse, Bool.and_comm]
theorem count_two (l : List UInt8) {a b : UInt8} (h : a ≠ b) : l.count a + l.count b ≤ l.length := by
  induction l with
  | nil => simp
  | cons x l ih =>
    rw [List.count_cons, List.count_cons, List.length_cons]
    by_cases h1 : x = a
    · subst h1
      rw [if_pos (by simp), if_neg (by simpa using h)]; omega
    · rw [if_neg (by simpa using h1)]
      split <;> omega
theorem mark_not {s : List UInt8} (h : markB s 49 48 = true) : markB s 48 49 = false := by
  unfold markB at *
  simp only [Bool.and_eq_true, decide_eq_true_eq] at h
  have h1 := count_two (s.take 7) (a := 49) (b := 48) (by decide)
  have h2 : (s.take 7).length ≤ 7 := List.length_take_le _ _
  rw [decide_eq_false (by omega), Bool.false_and]
theorem upr_turn (s : List UInt8) : uprS s.reverse = uprS s ∧ uprE s.reverse = uprE s := by
  unfold uprS uprE
  rw [strip_rev]
  rcases Bool.eq_false_or_eq_true (stripB s) with hs | hs
  · have hl := (strip_iff.1 hs).1
    rw [hs, mark_rev hl, mark_rev hl, List.reverse_reverse]
    rcases Bool.eq_false_or_eq_true (markB s 49 48) with h | h
    · rw [h, mark_not h]; simp
    · rw [h]; simp
  · rw [hs]; simp
theorem upr_strip {s : List UInt8} (h : uprE s = 0) : stripB (uprS s) = true := by
  unfold uprE at h
  unfold uprS
  rcases Bool.eq_false_or_eq_true (stripB s) with hs | hs
  · rw [hs] at h ⊢
    simp only [if_true] at h ⊢
    split
    · exact hs
    · split
      · rw [strip_rev]; exact hs
      · rename_i h1 h2
        rw [if_neg h1, if_neg h2] at h
        omega
  · rw [hs] at h
    simp at h
/-- The number that modules spell. -/
def binL (b : List UInt8) : Nat := b.foldl (fun n x => 2 * n + (x.toNat - 48)) 0
def symV (b : List UInt8) : Int := if 63 ∈ b then -1 else (binL b : Int)
def cutS (s : List UInt8) (i : Nat) : List UInt8 := (s.drop (7 + 5 * i)).take 5
def wordL (s : List UInt8) : List Int := (List.range 12).map fun i => symV (cutS s i)
theorem wordL_len (s : List UInt8) : (wordL s).length = 12 := by simp [wordL]
theorem wordL_at (s : List UInt8) {i : Nat} (h : i < 12) : (wordL s)[i]? = some (symV (cutS s i)) := by
  unfold wordL; rw [List.getElem?_map, List.getElem?_range h]; rfl
theorem symV_mods : ∀ x : F, symV (mods x.n) = (x.n : Int) := by decide +kernel
theorem mid_drop : ∀ (c : List F) (i : Nat) (x : F), c[i]? = some x → (midL c).drop (5 * i) = mods x.n ++ midL (c.drop (i + 1))
  | y :: c, 0, x, h => by
    simp at h; subst h; rfl
  | y :: c, i + 1, x, h => by
    have ih := mid_drop c i x (by simpa using h)
    have e : midL (y :: c) = mods y.n ++ midL c := by unfold midL; rw [List.flatMap_cons]
    rw [e, show 5 * (i + 1) = 5 + 5 * i by omega, ← List.drop_drop, List.drop_left' (mods_len _), ih]
    rfl
theorem cut_draw {c : List F} (h : c.length = 12) {i : Nat} (hi : i < 12) : cutS (drawL c) i = mods (c.getD i 0).n := by
  have hx : c[i]? = some (c.getD i 0) := F.getD_eq (by omega)
  unfold cutS drawL
  rw [List.append_assoc, ← List.drop_drop, List.drop_left' (by simp), List.drop_append_of_le_length (by rw [midL_len, h]; omega), mid_drop c i _ hx, List.append_assoc, List.take_left' (mods_len _)]
theorem word_draw {c : List F} (h : c.length = 12) : wordL (drawL c) = wI c := by
  apply List.ext_getElem?
  intro i
  rcases Nat.lt_or_ge i 12 with hi | hi
  · rw [wordL_at _ hi, cut_draw h hi, symV_mods]
    unfold wI
    rw [List.getElem?_map, F.getD_eq (w := c) (by omega)]; rfl
  · rw [List.getElem?_eq_none (by rw [wordL_len]; exact hi), List.getElem?_eq_none (by rw [wI_len, h]; exact hi)]
theorem bin5 : ∀ a b c d e : Bool, binL [if a then 49 else 48, if b then 49 else 48, if c then 49 else 48, if d then 49 else 48, if e then 49 else 48] < 32 := by decide
theorem symV_bnd {b : List UInt8} (hl : b.length = 5) (h : ∀ x ∈ b, x = 48 ∨ x = 49 ∨ x = 63) : -1 ≤ symV b ∧ symV b < 32 := by
  unfold symV
  by_cases h63 : 63 ∈ b
  · rw [if_pos h63]; omega
  · rw [if_neg h63]
    have hb : ∀ x ∈ b, ∃ y : Bool, x = if y then 49 else 48 := fun x hx => by
      rcases h x hx with e | e | e
      · exact ⟨false, by rw [e]; rfl⟩
      · exact ⟨true, by rw [e]; rfl⟩
      · subst e; exact absurd hx h63
    match b, hl with
    | [x1, x2, x3, x4, x5], _ =>
      obtain ⟨y1, rfl⟩ := hb x1 (by simp)
      obtain ⟨y2, rfl⟩ := hb x2 (by simp)
      obtain ⟨y3, rfl⟩ := hb x3 (by simp)
      obtain ⟨y4, rfl⟩ := hb x4 (by simp)
      obtain ⟨y5, rfl⟩ := hb x5 (by simp)
      have := bin5 y1 y2 y3 y4 y5
      omega
theorem cutS_len {s : List UInt8} (h : s.length = 74) {i : Nat} (hi : i < 12) : (cutS s i).length = 5 := by
  unfold cutS; rw [List.length_take, List.length_drop, h]; omega
theorem word_strip {s : List UInt8} (h : stripB s = true) : wordB (-1) (wordL s) = true := by
  obtain ⟨h1, h2⟩ := strip_iff.1 h
  refine mem_word (by rw [wordL_len]; omega) (by rw [wordL_len]; omega) fun x hx => ?_
  unfold wordL at hx
  obtain ⟨i, hi, rfl⟩ := List.mem_map.1 hx
  exact symV_bnd (cutS_len h1 (List.mem_range.1 hi)) fun y hy => h2 y (List.mem_of_mem_drop (List.mem_of_mem_take hy))
end Go.Proofs.YtcpanmonllhmaaaDoor
