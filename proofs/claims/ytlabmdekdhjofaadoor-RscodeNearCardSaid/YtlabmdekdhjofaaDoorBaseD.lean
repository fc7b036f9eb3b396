/- A slice of slices of ints whose rows are all done, beside a row that still grows. No program. -/
import Derived.Test.YtlabmdekdhjofaaDoorBaseC
namespace Go.Proofs.YtlabmdekdhjofaaDoor
open Go.RowKit

/-- All rows of v are done: they lie below H. -/
def Rowz (base eS eI H : Nat) (w : World) (v : Value) (ls : List (List Int)) : Prop :=
  ∃ us : List Value, us.length = ls.length ∧ w.ownsRow base eS 1 v ls.length us ∧ base ≤ H ∧ H ≤ w.heap.size ∧
    ∀ (j : Nat) (u : Value) (l : List Int), us[j]? = some u → ls[j]? = some l → w.ownsRow base eI 1 u l.length (l.map (Value.int .i64)) ∧ BelowH H u

section
variable {base eS eI H : Nat} {w w' : World} {v v' : Value} {ls : List (List Int)}
theorem Rowz.own (h : Rowz base eS eI H w v ls) : ∃ us, us.length = ls.length ∧ w.ownsRow base eS 1 v ls.length us := by
  obtain ⟨us, a, b, _⟩ := h; exact ⟨us, a, b⟩
theorem Rowz.ext (h : Rowz base eS eI H w v ls) (e : Ext w w') : Rowz base eS eI H w' v ls := by
  obtain ⟨us, a, b, c, d, f⟩ := h
  exact ⟨us, a, own_ext b e, c, Nat.le_trans d e.size, fun j u l hu hl => ⟨own_ext (f j u l hu hl).1 e, (f j u l hu hl).2⟩⟩
/-- Kept while nothing from base on is written. -/
theorem Rowz.keep (h : Rowz base eS eI H w v ls) (hs : w.heap.size ≤ w'.heap.size) (e : ∀ k, base ≤ k → k < w.heap.size → w'.heap[k]? = w.heap[k]?) : Rowz base eS eI H w' v ls := by
  have tr : ∀ {e' n : Nat} {u : Value} {xs : List Value}, w.ownsRow base e' 1 u n xs → w'.ownsRow base e' 1 u n xs := by
    intro e' n u xs h
    rcases h with ⟨h1, h2 | ⟨g, cap, cur, hv, hg, hh, r⟩⟩
    · exact ⟨h1, .inl h2⟩
    · exact ⟨h1, .inr ⟨g, cap, cur, hv, hg, (e g (by omega) (lt_of_blk hh)).trans hh, r⟩⟩
  obtain ⟨us, a, b, c, d, f⟩ := h
  exact ⟨us, a, tr b, c, by omega, fun j u l hu hl => ⟨tr (f j u l hu hl).1, (f j u l hu hl).2⟩⟩
theorem Rowz.up (h : Rowz base eS eI H w v ls) {H' : Nat} (h1 : H ≤ H') (h2 : H' ≤ w.heap.size) : Rowz base eS eI H' w v ls := by
  obtain ⟨us, a, b, c, d, f⟩ := h
  exact ⟨us, a, b, by omega, h2, fun j u l hu hl => ⟨(f j u l hu hl).1, fun k hk => by have := (f j u l hu hl).2 k hk; omega⟩⟩
/-- Kept while a row of ints from H on grows. -/
theorem Rowz.apart (h : Rowz base eS eI H w v ls) (hne : eS ≠ eI) {u : Value} {n : Nat} {xs : List Value} (hu : w.ownsRow H eI 1 u n xs) (hg : w.grownBy w' u.ownBlock) : Rowz base eS eI H w' v ls := by
  obtain ⟨us, a, b, c, d, f⟩ := h
  refine ⟨us, a, own_apart b hg (fun k hk => own_types b hu hne k hk), c, Nat.le_trans d hg.size, fun j z l hz hl => ⟨own_apart (f j z l hz hl).1 hg (fun k hk e => ?_), (f j z l hz hl).2⟩⟩
  have h1 := (f j z l hz hl).2 k hk
  have h2 := (hu.lt k e).1
  omega
theorem own_uniq {e size n : Nat} {us us' : List Value} (a : w.ownsRow base e size v n us) (b : w.ownsRow base e size v n us') : us = us' := by
  rcases a.2 with ⟨rfl, h0⟩ | ⟨g, cap, cur, rfl, _, hh, _, _, _, ht⟩
  · have h1 := a.1; have h2 := b.1; rw [h0] at h1 h2
    have e1 : us = [] := List.eq_nil_of_length_eq_zero (by simpa using h1)
    have e2 : us' = [] := List.eq_nil_of_length_eq_zero (by simpa using h2)
    rw [e1, e2]
  · rcases b.2 with ⟨e, _⟩ | ⟨g', cap', cur', e, _, hh', _, _, _, ht'⟩
    · cases e
    · injection e with e1 e2 e3
      injection e1 with e1
      injection e1 with e1
      subst e1
      rw [hh] at hh'
      injection hh' with hh'
      injection hh' with hc
      subst hc
      exact ht.symm.trans ht'
/-- One row more, which is done. -/
theorem Rowz.push (h : Rowz base eS eI H w v ls) (hne : eS ≠ eI) {us : List Value} (hus : w.ownsRow base eS 1 v ls.length us) {u : Value} {l : List Int} (hu : w.ownsRow base eI 1 u l.length (l.map (Value.int .i64)))
    (hg : w.grownBy w' v.ownBlock) (h' : w'.ownsRow base eS 1 v' (ls.length + 1) (us ++ [u])) : Rowz base eS eI w'.heap.size w' v' (ls ++ [l]) := by
  obtain ⟨us0, a, b, c, d, f⟩ := h
  obtain rfl := own_uniq b hus
  have keep : ∀ {z : Value} {n : Nat} {xs : List Value}, w.ownsRow base eI 1 z n xs → w'.ownsRow base eI 1 z n xs := fun hz =>
    own_apart hz hg (fun k hk => own_types hz b (Ne.symm hne) k hk)
  have hs := hg.size
  refine ⟨us0 ++ [u], by simp [a], by simpa using h', by omega, Nat.le_refl _, fun j z m hz hm => ?_⟩
  rcases Nat.lt_or_ge j ls.length with hj | hj
  · rw [List.getElem?_append_left (by omega)] at hz
    rw [List.getElem?_append_left hj] at hm
    exact ⟨keep (f j z m hz hm).1, fun k hk => by have := (f j z m hz hm).2 k hk; omega⟩
  · rw [List.getElem?_append_right (by omega)] at hz
    rw [List.getElem?_append_right hj] at hm
    have hj0 : j - ls.length = 0 := by
      have := (List.getElem?_eq_some_iff.1 hm).1
      simp at this; omega
    rw [a, hj0] at hz
    rw [hj0] at hm
    simp at hz hm
    subst hz; subst hm
    exact ⟨keep hu, own_le (keep hu)⟩
theorem Rowz.isP (h : Rowz base eS eI H w v ls) {p : Nat} (hp : p < base) (hb : ∀ l ∈ ls, ∀ x ∈ l, I64 x) (hl : ∀ l ∈ ls, l.length ≤ 9223372036854775807) : IsP p w v ls := by
  obtain ⟨us, a, b, c, d, f⟩ := h
  refine IsS.of_own (e := eS) (us.map fun u => [u]) (by simp) (by decide) (by simpa using a) (by rw [flat1]; exact b) hp ?_
  intro k cs x hcs hx
  simp only [List.getElem?_map, Option.map_eq_some_iff] at hcs
  obtain ⟨u, hu, rfl⟩ := hcs
  exact ⟨u, rfl, IsI.of_own (f k u x hu hx).1 hp (hb x (List.mem_of_getElem? hx)) (hl x (List.mem_of_getElem? hx))⟩
/-- A slice literal of one nil. -/
theorem Rowz.one (w : World) (base eS eI : Nat) (hb : base ≤ w.heap.size) : Rowz base eS eI (w.heap.size + 1) (w.alloc (.cells #[.slice none 0 0] eS)) (.slice (some ⟨w.heap.size, 0, none⟩) 1 1) [[]] := by
  refine ⟨[.slice none 0 0], rfl, ?_, by omega, by simp, fun j u l hu hl => ?_⟩
  · exact World.ownsRow_lit w #[.slice none 0 0] 1 hb (by unfold maxLen; omega) rfl
  · have hj : j = 0 := by have := (List.getElem?_eq_some_iff.1 hu).1; simp at this; omega
    subst hj
    simp at hu hl
    subst hu; subst hl
    exact ⟨World.ownsRow_nil _ _ _ _, fun k hk => by simp [Value.ownBlock] at hk⟩
end

/-- What a round 'out[last] = append(out[last], x)' needs and leaves. -/
theorem Nest.step {p base eS eI g j cap : Nat} {w : World} {d : List (List Int)} {c : List Int} (h : Nest p base eS eI w (.slice (some ⟨g, 0, none⟩) (j + 1) cap) (d ++ [c])) (hd : d.length = j) (hne : eS ≠ eI) :
    ∃ (A : Option Addr) (n cu H : Nat), w.cell? ⟨g, j, none⟩ = some (.slice A n cu) ∧ c.length = n ∧ base ≤ g ∧ base ≤ H ∧ H ≤ w.heap.size ∧ w.ownsRow H eI 1 (.slice A n cu) n (c.map (Value.int .i64)) ∧
      ∀ (w1 w2 : World) (u' : Value) (x : Int), Ext w w1 → w1.grownBy w2 (Value.slice A n cu).ownBlock → w2.ownsRow H eI 1 u' (n + 1) (c.map (Value.int .i64) ++ [.int .i64 x]) →
        w2.cell? ⟨g, j, none⟩ = some (.slice A n cu) ∧ w2.frozen? ⟨g, j, none⟩ = false ∧ Nest p base eS eI (w2.setCell ⟨g, j, none⟩ u') (.slice (some ⟨g, 0, none⟩) (j + 1) cap) (d ++ [c ++ [x]]) := by
  have hls : (d ++ [c]).length = j + 1 := by simp [hd]
  have hl1 : (d ++ [c]).length - 1 = j := by omega
  obtain ⟨us, H, hus, hown, hbH, hH, hold, hlast⟩ := h.parts
  have hcj : (d ++ [c])[(d ++ [c]).length - 1]? = some c := by rw [hl1, List.getElem?_append_right (by omega)]; simp [hd]
  have hj : j < us.length := by omega
  have huj : us[(d ++ [c]).length - 1]? = some us[j] := by rw [hl1]; exact List.getElem?_eq_getElem hj
  have ho := hlast _ c huj hcj
  obtain ⟨A, n, cu, hv, hn⟩ : ∃ A n cu, us[j] = .slice A n cu ∧ c.length = n := by
    rcases ho.2 with ⟨e, h0⟩ | ⟨g', cap', cur, e, _⟩
    · exact ⟨none, 0, 0, e, h0⟩
    · exact ⟨_, _, cap', e, rfl⟩
  rw [hv] at ho huj
  rw [hn] at ho
  rw [hls] at hown
  have hcell : w.cell? ⟨g, j, none⟩ = some (.slice A n cu) := by
    rw [hown.cellAt j (by omega), List.getElem?_eq_getElem hj, hv]
  have hbg : base ≤ g := (hown.lt g rfl).1
  refine ⟨A, n, cu, H, hcell, hn, hbg, hbH, hH, ho, fun w1 w2 u' x hs hg h' => ?_⟩
  have o1 := own_ext hown hs
  have o2 : w2.ownsRow base eS 1 (.slice (some ⟨g, 0, none⟩) (j + 1) cap) (j + 1) us := own_apart o1 hg fun k hk => own_types o1 (own_ext ho hs) hne k hk
  refine ⟨by rw [o2.cellAt j (by omega), List.getElem?_eq_getElem hj, hv], o2.frozenAt j, ?_⟩
  subst hn
  have hp := Nest.push (p := p) (x := x) (u' := u') (w1 := w1) (w' := w2) (ls := d ++ [c]) (us := us) (u := .slice A c.length cu) (l := c) (H := H) (g := g) (cap := cap) (w := w) (base := base) (eS := eS) (eI := eI)
    (by rw [hls]; exact h) hne (by simp) hs huj hcj (by rw [hls]; exact hown) hg (by simpa using h') ho hbH hH hold
  rw [hl1, hls] at hp
  have e : (d ++ [c]).set j (c ++ [x]) = d ++ [c ++ [x]] := by
    rw [List.set_append_right _ _ (by omega)]; simp [hd]
  rw [e] at hp
  exact hp
/-- A slice literal of two nils. -/
theorem Nest.two (p : Nat) (w : World) (base eS eI : Nat) (hb : base ≤ w.heap.size) : Nest p base eS eI (w.alloc (.cells #[.slice none 0 0, .slice none 0 0] eS)) (.slice (some ⟨w.heap.size, 0, none⟩) 2 2) [[], []] := by
  refine ⟨[.slice none 0 0, .slice none 0 0], w.heap.size + 1, rfl, ?_, by omega, by simp, fun j u l hu hl hj => ?_, fun u l hu hl => ?_⟩
  · exact World.ownsRow_lit w #[.slice none 0 0, .slice none 0 0] 2 hb (by unfold maxLen; omega) rfl
  · simp at hj
    obtain rfl : j = 0 := by omega
    simp at hu hl
    subst hu; subst hl
    exact ⟨World.ownsRow_nil _ _ _ _, fun k hk => by simp [Value.ownBlock] at hk⟩
  · simp at hu hl
    subst hu; subst hl
    exact World.ownsRow_nil _ _ _ _
theorem Nest.form {p base eS eI : Nat} {w : World} {v : Value} {ls : List (List Int)} {m : Nat} (h : Nest p base eS eI w v ls) (hm : ls.length = m + 1) : ∃ g cap, v = .slice (some ⟨g, 0, none⟩) (m + 1) cap := by
  obtain ⟨us, _, hown⟩ := h.own
  obtain ⟨g, cap, hv, _⟩ := own_form hown (by omega)
  rw [hm] at hv
  exact ⟨g, cap, hv⟩
end Go.Proofs.YtlabmdekdhjofaaDoor
