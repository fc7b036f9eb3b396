/- A slice of slices of ints whose rows are all done, beside a row that still grows. No program. -/
import Derived.Test.YtcpanmonllhmaaaDoorBaseC
set_option linter.unusedSimpArgs false
set_option linter.unusedVariables false
namespace Go.Proofs.YtcpanmonllhmaaaDoor
open Go.RowKit

/-- All rows of v are done: they lie below H. -/
def Rowz (base eS eI H : Nat) (w : World) (v : Value) (ls : List (List Int)) : Prop :=
  ∃ us : List Value, us.length = ls.length ∧ w.ownsRow base eS 1 v ls.length us ∧ base ≤ H ∧ H ≤ w.heap.size ∧
    ∀ (j : Nat) (u : Value) (l : List Int), us[j]? = some u → ls[j]? = some l → w.ownsRow base eI 1 u l.length (l.map (Value.int .i64)) ∧ BelowH H u

section
variable {base eS eI H : Nat} {w w' : World} {v v' : Value} {ls : List (List Int)}
theorem Rowz.own (h : Rowz base eS eI H w v ls) : ∃ us, us.length = ls.length ∧ w.ownsRow base eS 1 v ls.length us := by
  obtain ⟨us, a, b, _⟩ := h; exact ⟨us, a, b⟩
theorem Rowz.ext (h : Rowz base eS eI H w v ls) (e : Ext w w') : Rowz base eS eI H w' v ls := by
  obtain ⟨us, a, b, c, d, f⟩ := h
  exact ⟨us, a, own_ext b e, c, Nat.le_trans d e.size, fun j u l hu hl => ⟨own_ext (f j u l hu hl).1 e, (f j u l hu hl).2⟩⟩
/-- Kept while nothing from base on is written. -/
theorem Rowz.keep (h : Rowz base eS eI H w v ls) (hs : w.heap.size ≤ w'.heap.size) (e : ∀ k, base ≤ k → k < w.heap.size → w'.heap[k]? = w.heap[k]?) : Rowz base eS eI H w' v ls := by
  have tr : ∀ {e' n : Nat} {u : Value} {xs : List Value}, w.ownsRow base e' 1 u n xs → w'.ownsRow base e' 1 u n xs := by
    intro e' n u xs h
    rcases h with ⟨h1, h2 | ⟨g, cap, cur, hv, hg, hh, r⟩⟩
    · exact ⟨h1, .inl h2⟩
    · exact ⟨h1, .inr ⟨g, cap, cur, hv, hg, (e g (by omega) (lt_of_blk hh)).trans hh, r⟩⟩
  obtain ⟨us, a, b, c, d, f⟩ := h
  exact ⟨us, a, tr b, c, by omega, fun j u l hu hl => ⟨tr (f j u l hu hl).1, (f j u l hu hl).2⟩⟩
theorem Rowz.up (h : Rowz base eS eI H w v ls) {H' : Nat} (h1 : H ≤ H') (h2 : H' ≤ w.heap.size) : Rowz base eS eI H' w v ls := by
  obtain ⟨us, a, b, c, d, f⟩ := h
  exact ⟨us, a, b, by omega, h2, fun j u l hu hl => ⟨(f j u l hu hl).1, fun k hk => by have := (f j u l hu hl).2 k hk; omega⟩⟩
/-- Kept while a row of ints from H on grows. -/
theorem Rowz.apart (h : Rowz base eS eI H w v ls) (hne : eS ≠ eI) {u : Value} {n : Nat} {xs : List Value} (hu : w.ownsRow H eI 1 u n xs) (hg : w.grownBy w' u.ownBlock) : Rowz base eS eI H w' v ls := by
  obtain ⟨us, a, b, c, d, f⟩ := h
  refine ⟨us, a, own_apart b hg (fun k hk => own_types b hu hne k hk), c, Nat.le_trans d hg.size, fun j z l hz hl => ⟨own_apart (f j z l hz hl).1 hg (fun k hk e => ?_), (f j z l hz hl).2⟩⟩
  have h1 := (f j z l hz hl).2 k hk
  have h2 := (hu.lt k e).1
  omega
theorem own_uniq {e size n : Nat} {us us' : List Value} (a : w.ownsRow base e size v n us) (b : w.ownsRow base e size v n us') : us = us' := by
  rcases a.2 with ⟨rfl, h0⟩ | ⟨g, cap, cur, rfl, _, hh, _, _, _, ht⟩
  · have h1 := a.1; have h2 := b.1; rw [h0] at h1 h2
    have e1 : us = [] := List.eq_nil_of_length_eq_zero (by simpa using h1)
    have e2 : us' = [] := List.eq_nil_of_length_eq_zero (by simpa using h2)
    rw [e1, e2]
  · rcases b.2 with ⟨e, _⟩ | ⟨g', cap', cur', e, _, hh', _, _, _, ht'⟩
    · cases e
    · injection e with e1 e2 e3
      injection e1 with e1
      injection e1 with e1
      subst e1
      rw [hh] at hh'
      injection hh' with hh'
      injection hh' with hc
      subst hc
      exact ht.symm.trans ht'
/-- One row more, which is done. -/
theorem Rowz.push (h : Rowz base eS eI H w v ls) (hne : eS ≠ eI) {us : List Value} (hus : w.ownsRow base eS 1 v ls.length us) {u : Value} {l : List Int} (hu : w.ownsRow base eI 1 u l.length (l.map (Value.int .i64)))
    (hg : w.grownBy w' v.ownBlock) (h' : w'.ownsRow base eS 1 v' (ls.length + 1) (us ++ [u])) : Rowz base eS eI w'.heap.size w' v' (ls ++ [l]) := by
  obtain ⟨us0, a, b, c, d, f⟩ := h
  obtain rfl := own_uniq b hus
  have keep : ∀ {z : Value} {n : Nat} {xs : List Value}, w.ownsRow base eI 1 z n xs → w'.ownsRow base eI 1 z n xs := fun hz =>
    own_apart hz hg (fun k hk => own_types hz b (Ne.symm hne) k hk)
  have hs := hg.size
  refine ⟨us0 ++ [u], by simp [a], by simpa using h', by omega, Nat.le_refl _, fun j z m hz hm => ?_⟩
  rcases Nat.lt_or_ge j ls.length with hj | hj
  · rw [List.getElem?_append_left (by omega)] at hz
    rw [List.getElem?_append_left hj] at hm
    exact ⟨keep (f j z m hz hm).1, fun k hk => by have := (f j z m hz hm).2 k hk; omega⟩
  · rw [List.getElem?_append_right (by omega)] at hz
    rw [List.getElem?_append_right hj] at hm
    have hj0 : j - ls.length = 0 := by
      have := (List.getElem?_eq_some_iff.1 hm).1
      simp at this; omega
    rw [a, hj0] at hz
    rw [hj0] at hm
    simp at hz hm
    subst hz; subst hm
    exact ⟨keep hu, own_le (keep hu)⟩
theorem Rowz.isP (h : Rowz base eS eI H w v ls) {p : Nat} (hp : p < base) (hb : ∀ l ∈ ls, ∀ x ∈ l, I64 x) (hl : ∀ l ∈ ls, l.length ≤ 9223372036854775807) : IsP p w v ls := by
  obtain ⟨us, a, b, c, d, f⟩ := h
  refine IsS.of_own (e := eS) (us.map fun u => [u]) (by simp) (by decide) (by simpa using a) (by rw [flat1]; exact b) hp ?_
  intro k cs x hcs hx
  simp only [List.getElem?_map, Option.map_eq_some_iff] at hcs
  obtain ⟨u, hu, rfl⟩ := hcs
  exact ⟨u, rfl, IsI.of_own (f k u x hu hx).1 hp (hb x (List.mem_of_getElem? hx)) (hl x (List.mem_of_getElem? hx))⟩
/-- A slice literal of one nil. -/
theorem Rowz.one (w : World) (base eS eI : Nat) (hb : base ≤ w.heap.size) : Rowz base eS eI (w.heap.size + 1) (w.alloc (.cells #[.slice none 0 0] eS)) (.slice (some ⟨w.heap.size, 0, none⟩) 1 1) [[]] := by
  refine ⟨[.slice none 0 0], rfl, ?_, by omega, by simp, fun j u l hu hl => ?_⟩
  · exact World.ownsRow_lit w #[.slice none 0 0] 1 hb (by unfold maxLen; omega) rfl
  · have hj : j = 0 := by have := (List.getElem?_eq_some_iff.1 hu).1; simp at this; omega
    subst hj
    simp at hu hl
    subst hu; subst hl
    exact ⟨World.ownsRow_nil _ _ _ _, fun k hk => by simp [Value.ownBlock] at hk⟩
end

/-- What a round 'out[last] = append(out[last], x)' needs and leaves. -/
theorem Nest.step {p base eS eI g j cap : Nat} {w : World} {d : List (List Int)} {c : List Int} (h : Nest p base eS eI w (.slice (some ⟨g, 0, none⟩) (j + 1) cap) (d ++ [c])) (hd : d.length = j) (hne : eS ≠ eI) :
    ∃ (A : Option Addr) (n cu H : Nat), w.cell? ⟨g, j, none⟩ = some (.slice A n cu) ∧ c.length = n ∧ base ≤ g ∧ base ≤ H ∧ H ≤ w.heap.size ∧ w.ownsRow H eI 1 (.slice A n cu) n (c.map (Value.int .i64)) ∧
      ∀ (w1 w2 : World) (u' : Value) (x : Int), Ext w w1 → w1.grownBy w2 (Value.slice A n cu).ownBlock → w2.ownsRow H eI 1 u' (n + 1) (c.map (Value.int .i64) ++ [.int .i64 x]) →
        w2.cell? ⟨g, j, none⟩ = some (.slice A n cu) ∧ w2.frozen? ⟨g, j, none⟩ = false ∧ Nest p base eS eI (w2.setCell ⟨g, j, none⟩ u') (.slice (some ⟨g, 0, none⟩) (j + 1) cap) (d ++ [c ++ [x]]) := by
  have hls : (d ++ [c]).length = j + 1 := by simp [hd]
  have hl1 : (d ++ [c]).length - 1 = j := by omega
  obtain ⟨us, H, hus, hown, hbH, hH, hold, hlast⟩ := h.parts
  have hcj : (d ++ [c])[(d ++ [c]).length - 1]? = some c := by rw [hl1, List.getElem?_append_right (by omega)]; simp [hd]
  have hj : j < us.length := by omega
  have huj : us[(d ++ [c]).length - 1]? = some us[j] := by rw [hl1]; exact List.getElem?_eq_getElem hj
  have ho := hlast _ c huj hcj
  obtain ⟨A, n, cu, hv, hn⟩ : ∃ A n cu, us[j] = .slice A n cu ∧ c.length = n := by
    rcases ho.2 with ⟨e, h0⟩ | ⟨g', cap', cur, e, _⟩
    · exact ⟨none, 0, 0, e, h0⟩
    · exact ⟨_, _, cap', e, rfl⟩
  rw [hv] at ho huj
  rw [hn] at ho
  rw [hls] at hown
  have hcell : w.cell? ⟨g, j, none⟩ = some (.slice A n cu) := by
    rw [hown.cellAt j (by omega), List.getElem?_eq_getElem hj, hv]
  have hbg : base ≤ g := (hown.lt g rfl).1
  refine ⟨A, n, cu, H, hcell, hn, hbg, hbH, hH, ho, fun w1 w2 u' x hs hg h' => ?_⟩
  have o1 := own_ext hown hs
  have o2 : w2.ownsRow base eS 1 (.slice (some ⟨g, 0, none⟩) (j + 1) cap) (j + 1) us := own_apart o1 hg fun k hk => own_types o1 (own_ext ho hs) hne k hk
  refine ⟨by rw [o2.cellAt j (by omega), List.getElem?_eq_getElem hj, hv], o2.frozenAt j, ?_⟩
  subst hn
  have hp := Nest.push (p := p) (x := x) (u' := u') (w1 := w1) (w' := w2) (ls := d ++ [c]) (us := us) (u := .slice A c.length cu) (l := c) (H := H) (g := g) (cap := cap) (w := w) (base := base) (eS := eS) (eI := eI)
    (by rw [hls]; exact h) hne (by simp) hs huj hcj (by rw [hls]; exact hown) hg (by simpa using h') ho hbH hH hold
  rw [hl1, hls] at hp
  have e : (d ++ [c]).set j (c ++ [x]) = d ++ [c ++ [x]] := by
    rw [List.set_append_right _ _ (by omega)]; simp [hd]
  rw [e] at hp
  exact hp
/-- A slice literal of two nils. -/
theorem Nest.two (p : Nat) (w : World) (base eS eI : Nat) (hb : base ≤ w.heap.size) : Nest p base eS eI (w.alloc (.cells #[.slice none 0 0, .slice none 0 0] eS)) (.slice (some ⟨w.heap.size, 0, none⟩) 2 2) [[], []] := by
  refine ⟨[.slice none 0 0, .slice none 0 0], w.heap.size + 1, rfl, ?_, by omega, by simp, fun j u l hu hl hj => ?_, fun u l hu hl => ?_⟩
  · exact World.ownsRow_lit w #[.slice none 0 0, .slice none 0 0] 2 hb (by unfold maxLen; omega) rfl
  · simp at hj
    obtain rfl : j = 0 := by omega
    simp at hu hl
    subst hu; subst hl
    exact ⟨World.ownsRow_nil _ _ _ _, fun k hk => by simp [Value.ownBlock] at hk⟩
  · simp at hu hl
    subst hu; subst hl
    exact World.ownsRow_nil _ _ _ _
theorem Nest.form {p base eS eI : Nat} {w : World} {v : Value} {ls : List (List Int)} {m : Nat} (h : Nest p base eS eI w v ls) (hm : ls.length = m + 1) : ∃ g cap, v = .slice (some ⟨g, 0, none⟩) (m + 1) cap := by
  obtain ⟨us, _, hown⟩ := h.own
  obtain ⟨g, cap, hv, _⟩ := own_form hown (by omega)
  rw [hm] at hv
  exact ⟨g, cap, hv⟩
end Go.Proofs.YtcpanmonllhmaaaDoor
/- Appends of structs: rows whose elements have several cells. No program. -/
namespace Go.Proofs.YtcpanmonllhmaaaDoor
open Go.RowKit

/-- 'out = append(out, T{..})': the element lies, cell by cell, in a block of its own. -/
theorem wpList_pushN {P : Program} (w : World) {ops : Array Oper} {rest : List Oper} {o : Oper} {a : Act} {Q : Exit → Act → World → Prop} (hgd : o.guard = none) (s x : Operand) (t : TypeId)
    (ho : o.op = .call { callee := .builtin .append, args := #[s, x], argTypes := #[t, t] })
    (base : Nat) (e : TypeId) (i : TypeInfo) (z : Value) (size bytes : Nat) (ht : P.underlying t = some (.slice e)) (hi : P.info? e = some i) (hz : i.zero = some z)
    (hsize : i.size = size) (hby : i.bytes = bytes) (hzs : z.cells.size = size) (hsz : 0 < size)
    (v : Value) (n : Nat) (xs : List Value) (hs : a.eval s = v) (hown : w.ownsRow base e size v n xs)
    (g : Nat) (us : Array Value) (t' : TypeId) (hx : a.eval x = .slice (some ⟨g, 0, none⟩) 1 1) (hu : w.heap[g]? = some (.cells us t' (0, 0))) (hul : us.size = size) (h1 : ∀ u ∈ us.toList, u.oneCell' = true)
    (hn : n ≤ 1000000) (hb : bytes ≤ 1000) (hbase : base ≤ w.heap.size)
    (h : ∀ v' w', w'.ownsRow base e size v' (n + 1) (xs ++ us.toList) → w.grownBy w' v.ownBlock → wpList P ops Q rest (a.put o.dst v') w') : wpList P ops Q (o :: rest) a w := by
  refine wpList_append_own w hgd s x t ho base e i z size bytes ht hi hz hsize hby hzs hsz v n xs hs hown ⟨g, 0, none⟩ 1 1 us.toList hx (by simp [hul]) (World.news_of_block hu) h1 (by unfold maxLen; omega) ?_ hbase (fun v' w' h2 h3 _ => h v' w' h2 h3)
  have : (n + 1) * bytes ≤ (n + 1) * 1000 := Nat.mul_le_mul_left _ hb
  omega
end Go.Proofs.YtcpanmonllhmaaaDoor
/- A slice of slices of ints that the call itself has made, all of whose rows may still grow. No program. -/
namespace Go.Proofs.YtcpanmonllhmaaaDoor
open Go.RowKit

/-- A row of the call's own does not lie in a block of another element type. -/
theorem own_ne {w : World} {base e size n b t : Nat} {v : Value} {xs : List Value} {cs : Array Value} (h : w.ownsRow base e size v n xs) (hb : w.heap[b]? = some (.cells cs t (0, 0))) (he : t ≠ e) : v.ownBlock ≠ some b := by
  intro hk
  rcases h.2 with ⟨rfl, _⟩ | ⟨g, c1, cu1, rfl, _, hh1, _⟩
  · simp [Value.ownBlock] at hk
  have e1 : g = b := by simpa [Value.ownBlock] using hk
  subst e1
  rw [hh1] at hb
  injection hb with hb
  injection hb with _ h2
  exact he h2.symm
theorem own_far' {w : World} {base e size n : Nat} {v : Value} {xs : List Value} (h : w.ownsRow base e size v n xs) {a : Addr} (ha : v.ownBlock ≠ some a.block) (u : Value) : (w.setCell a u).ownsRow base e size v n xs :=
  own_apart h (XT.setCell (XT.refl a.block w) rfl u) (fun k hk e => ha (by rw [hk]; exact e.symm))

/-- All rows of v are the call's own, and lie apart. -/
def Mat (base eS eI : Nat) (w : World) (v : Value) (ls : List (List Int)) : Prop :=
  ∃ us : List Value, us.length = ls.length ∧ w.ownsRow base eS 1 v ls.length us ∧
    (∀ (j : Nat) (u : Value) (l : List Int), us[j]? = some u → ls[j]? = some l → w.ownsRow base eI 1 u l.length (l.map (Value.int .i64))) ∧
    (∀ (i j : Nat) (u u' : Value) (k : Nat), i ≠ j → us[i]? = some u → us[j]? = some u' → u.ownBlock = some k → u'.ownBlock ≠ some k)

section
variable {base eS eI p : Nat} {w w' : World} {v v' : Value} {ls : List (List Int)}
theorem Mat.nil (base eS eI : Nat) (w : World) : Mat base eS eI w (.slice none 0 0) [] :=
  ⟨[], rfl, World.ownsRow_nil _ _ _ _, fun j u l hu => by simp at hu, fun i j u u' k _ hu => by simp at hu⟩
theorem Mat.own (h : Mat base eS eI w v ls) : ∃ us, us.length = ls.length ∧ w.ownsRow base eS 1 v ls.length us := by
  obtain ⟨us, a, b, _⟩ := h; exact ⟨us, a, b⟩
theorem Mat.form (h : Mat base eS eI w v ls) : ∃ A c, v = .slice A ls.length c ∧ ls.length ≤ c ∧ c ≤ 9223372036854775807 := by
  obtain ⟨us, a, b, _⟩ := h
  rcases b.2 with ⟨rfl, h0⟩ | ⟨g, cap, cur, rfl, _, _, h1, h2, _⟩
  · exact ⟨none, 0, by rw [h0], by omega, by omega⟩
  · exact ⟨_, _, rfl, h1, h2⟩
theorem Mat.xt (h : Mat base eS eI w v ls) (hx : XT p w w') (hp : p < base) : Mat base eS eI w' v ls := by
  obtain ⟨us, a, b, c, d⟩ := h
  exact ⟨us, a, own_xt b hx hp, fun j u l hu hl => own_xt (c j u l hu hl) hx hp, d⟩
theorem Mat.ext (h : Mat base eS eI w v ls) (hx : Ext w w') : Mat base eS eI w' v ls := by
  obtain ⟨us, a, b, c, d⟩ := h
  exact ⟨us, a, own_ext b hx, fun j u l hu hl => own_ext (c j u l hu hl) hx, d⟩
theorem Mat.isP (h : Mat base eS eI w v ls) (hp : p < base) (hb : ∀ l ∈ ls, ∀ x ∈ l, I64 x) (hl : ∀ l ∈ ls, l.length ≤ 9223372036854775807) : IsP p w v ls := by
  obtain ⟨us, a, b, f, _⟩ := h
  refine IsS.of_own (e := eS) (us.map fun u => [u]) (by simp) (by decide) (by simpa using a) (by rw [flat1]; exact b) hp ?_
  intro k cs x hcs hx
  simp only [List.getElem?_map, Option.map_eq_some_iff] at hcs
  obtain ⟨u, hu, rfl⟩ := hcs
  exact ⟨u, rfl, IsI.of_own (f k u x hu hx) hp (hb x (List.mem_of_getElem? hx)) (hl x (List.mem_of_getElem? hx))⟩
/-- A store into a block of another type. -/
theorem Mat.far (h : Mat base eS eI w v ls) {b t : Nat} {cs : Array Value} (hb : w.heap[b]? = some (.cells cs t (0, 0))) (h1 : t ≠ eS) (h2 : t ≠ eI) {a : Addr} (ha : a.block = b) (x : Value) : Mat base eS eI (w.setCell a x) v ls := by
  subst ha
  obtain ⟨us, i, j, c, d⟩ := h
  exact ⟨us, i, own_far' j (own_ne j hb h1) x, fun j u l hu hl => own_far' (c j u l hu hl) (own_ne (c j u l hu hl) hb h2) x, d⟩
/-- Some empty rows more. -/
theorem Mat.nils {m : Nat} (h : Mat base eS eI w v ls) (hne : eS ≠ eI) {us : List Value} (hus : w.ownsRow base eS 1 v ls.length us) (hg : w.grownBy w' v.ownBlock) (h' : w'.ownsRow base eS 1 v' (ls.length + m) (us ++ List.replicate m (.slice none 0 0))) :
    Mat base eS eI w' v' (ls ++ List.replicate m []) := by
  obtain ⟨us0, a, b, c, d⟩ := h
  obtain rfl := own_uniq b hus
  have keep : ∀ {z : Value} {n : Nat} {xs : List Value}, w.ownsRow base eI 1 z n xs → w'.ownsRow base eI 1 z n xs := fun hz =>
    own_apart hz hg (fun k hk => own_types hz b (Ne.symm hne) k hk)
  have at0 : ∀ (j : Nat) (u : Value), (us0 ++ List.replicate m (Value.slice none 0 0))[j]? = some u → (j < ls.length ∧ us0[j]? = some u) ∨ (ls.length ≤ j ∧ u = .slice none 0 0) := by
    intro j u hu
    rcases Nat.lt_or_ge j ls.length with hj | hj
    · rw [List.getElem?_append_left (by omega)] at hu; exact .inl ⟨hj, hu⟩
    · rw [List.getElem?_append_right (by omega)] at hu
      exact .inr ⟨hj, (List.mem_replicate.1 (List.mem_of_getElem? hu)).2⟩
  refine ⟨us0 ++ List.replicate m (.slice none 0 0), by simp [a], by simpa using h', fun j u l hu hl => ?_, fun i j u u' k hij hu hu' hk => ?_⟩
  · rcases at0 j u hu with ⟨hj, hu⟩ | ⟨hj, rfl⟩
    · rw [List.getElem?_append_left hj] at hl
      exact keep (c j u l hu hl)
    · rw [List.getElem?_append_right hj] at hl
      obtain rfl := (List.mem_replicate.1 (List.mem_of_getElem? hl)).2
      exact World.ownsRow_nil _ _ _ _
  · rcases at0 i u hu with ⟨hi, hu⟩ | ⟨hi, rfl⟩
    · rcases at0 j u' hu' with ⟨hj, hu'⟩ | ⟨hj, rfl⟩
      · exact d i j u u' k hij hu hu' hk
      · simp [Value.ownBlock]
    · simp [Value.ownBlock] at hk
/-- Row j: what a store into it needs and leaves. -/
theorem Mat.row {g n cap j : Nat} (h : Mat base eS eI w (.slice (some ⟨g, 0, none⟩) n cap) ls) (hn : ls.length = n) (hne : eS ≠ eI) (hj : j < n) :
    ∃ (A : Option Addr) (m cu : Nat) (l : List Int), ls[j]? = some l ∧ l.length = m ∧ w.cell? ⟨g, j, none⟩ = some (.slice A m cu) ∧ w.frozen? ⟨g, j, none⟩ = false ∧ base ≤ g ∧ g < w.heap.size ∧ w.ownsRow base eI 1 (.slice A m cu) m (l.map (Value.int .i64)) ∧
      Mat base eS eI (w.setCell ⟨g, j, none⟩ (.slice none 0 0)) (.slice (some ⟨g, 0, none⟩) n cap) (ls.set j []) ∧
      ∀ (p : Nat) (w1 w2 : World) (g' c' : Nat) (x : Int), XT p w w1 → p < base → w1.grownBy w2 (Value.slice A m cu).ownBlock → w2.ownsRow base eI 1 (.slice (some ⟨g', 0, none⟩) (m + 1) c') (m + 1) (l.map (Value.int .i64) ++ [.int .i64 x]) →
        ((Value.slice A m cu).ownBlock = some g' ∨ w.heap.size ≤ g') →
        w2.cell? ⟨g, j, none⟩ = some (.slice A m cu) ∧ w2.frozen? ⟨g, j, none⟩ = false ∧ Mat base eS eI (w2.setCell ⟨g, j, none⟩ (.slice (some ⟨g', 0, none⟩) (m + 1) c')) (.slice (some ⟨g, 0, none⟩) n cap) (ls.set j (l ++ [x])) := by
  obtain ⟨us, a, b, c, d⟩ := h
  subst hn
  have hj' : j < us.length := by omega
  have huj : us[j]? = some us[j] := List.getElem?_eq_getElem hj'
  have hlj : ls[j]? = some ls[j] := List.getElem?_eq_getElem hj
  have ho := c j _ _ huj hlj
  obtain ⟨A, m, cu, hv, hm⟩ : ∃ A m cu, us[j] = .slice A m cu ∧ (ls[j]).length = m := by
    rcases ho.2 with ⟨e, h0⟩ | ⟨g', cap', cur, e, _⟩
    · exact ⟨none, 0, 0, e, h0⟩
    · exact ⟨_, _, cap', e, rfl⟩
  rw [hv, hm] at ho
  rw [hv] at huj
  have hcell : w.cell? ⟨g, j, none⟩ = some (.slice A m cu) := by rw [b.cellAt j (by omega)]; exact huj
  have hbg := b.lt g rfl
  refine ⟨A, m, cu, ls[j], hlj, hm, hcell, b.frozenAt j, hbg.1, hbg.2, ho, ?_, fun p w1 w2 g' c' x hx hp hg h' hat => ?_⟩
  · obtain ⟨o3, g3⟩ := b.stored j (.slice none 0 0)
    have kp : ∀ {z : Value} {n : Nat} {xs : List Value}, w.ownsRow base eI 1 z n xs → (w.setCell ⟨g, j, none⟩ (.slice none 0 0)).ownsRow base eI 1 z n xs := fun hz =>
      own_apart hz g3 (fun k hk e => own_types hz b (Ne.symm hne) k hk (by simpa [Value.ownBlock] using e))
    refine ⟨us.set j (.slice none 0 0), by simp [a], by simpa using o3, fun i u l hu hl => ?_, fun i i' u u' k hii hu hu' hk => ?_⟩
    · by_cases e : i = j
      · subst e
        rw [List.getElem?_set_self (by omega)] at hu hl
        injection hu with hu; injection hl with hl
        subst hu; subst hl
        exact World.ownsRow_nil _ _ _ _
      · rw [List.getElem?_set_ne (Ne.symm e)] at hu hl
        exact kp (c i u l hu hl)
    · by_cases e : i = j
      · subst e
        rw [List.getElem?_set_self (by omega)] at hu
        injection hu with hu; subst hu
        simp [Value.ownBlock] at hk
      · rw [List.getElem?_set_ne (Ne.symm e)] at hu
        by_cases e' : i' = j
        · subst e'
          rw [List.getElem?_set_self (by omega)] at hu'
          injection hu' with hu'; subst hu'
          simp [Value.ownBlock]
        · rw [List.getElem?_set_ne (Ne.symm e')] at hu'
          exact d i i' u u' k hii hu hu' hk
  · have o1 := own_xt b hx hp
    have ho1 := own_xt ho hx hp
    have o2 : w2.ownsRow base eS 1 (.slice (some ⟨g, 0, none⟩) ls.length cap) ls.length us := own_apart o1 hg fun k hk => own_types o1 ho1 hne k hk
    obtain ⟨o3, g3⟩ := o2.stored j (.slice (some ⟨g', 0, none⟩) (m + 1) c')
    have kp : ∀ {z : Value} {n : Nat} {xs : List Value}, w2.ownsRow base eI 1 z n xs → (w2.setCell ⟨g, j, none⟩ (.slice (some ⟨g', 0, none⟩) (m + 1) c')).ownsRow base eI 1 z n xs := fun hz =>
      own_apart hz g3 (fun k hk e => own_types hz o2 (Ne.symm hne) k hk (by simpa [Value.ownBlock] using e))
    refine ⟨by rw [o2.cellAt j (by omega)]; exact huj, o2.frozenAt j, us.set j (.slice (some ⟨g', 0, none⟩) (m + 1) c'), by simp [a], by simpa using o3, fun i u l hu hl => ?_, fun i i' u u' k hii hu hu' hk => ?_⟩
    · by_cases e : i = j
      · subst e
        rw [List.getElem?_set_self (by omega)] at hu hl
        injection hu with hu; injection hl with hl
        subst hu; subst hl
        have := kp h'
        simpa [hm] using this
      · rw [List.getElem?_set_ne (Ne.symm e)] at hu hl
        exact kp (own_apart (own_xt (c i u l hu hl) hx hp) hg fun k hk => d i j u _ k e hu huj hk)
    · by_cases e : i = j
      · subst e
        rw [List.getElem?_set_self (by omega)] at hu
        injection hu with hu; subst hu
        rw [List.getElem?_set_ne hii] at hu'
        have hk' : g' = k := by simpa [Value.ownBlock] using hk
        subst hk'
        rcases hat with hat | hat
        · exact d i i' _ u' g' hii huj hu' hat
        · intro hk2
          have hi' := (List.getElem?_eq_some_iff.1 hu').1
          have := (c i' u' _ hu' (List.getElem?_eq_getElem (show i' < ls.length by omega))).lt g' hk2
          omega
      · rw [List.getElem?_set_ne (Ne.symm e)] at hu
        by_cases e' : i' = j
        · subst e'
          rw [List.getElem?_set_self (by omega)] at hu'
          injection hu' with hu'; subst hu'
          intro hk2
          have hk' : g' = k := by simpa [Value.ownBlock] using hk2
          subst hk'
          rcases hat with hat | hat
          · exact d i i' u _ g' hii hu huj hk hat
          · have hi := (List.getElem?_eq_some_iff.1 hu).1
            have := (c i u _ hu (List.getElem?_eq_getElem (show i < ls.length by omega))).lt g' hk
            omega
        · rw [List.getElem?_set_ne (Ne.symm e')] at hu'
          exact d i i' u u' k hii hu hu' hk
end
/-- The first k elements of a slice of anything. -/
theorem IsS.take {α : Type} {p size : Nat} {R : World → List Value → α → Prop} {w : World} {A : Option Addr} {n c k : Nat} {xs : List α} (h : IsS p size R w (.slice A n c) xs) (hk : k ≤ n) : IsS p size R w (.slice A k c) (xs.take k) := by
  have hl := h.len
  obtain ⟨A', c', hv, h1, h2, h4⟩ := h
  injection hv with ha hn hc
  subst ha; subst hc
  refine ⟨A, c, by rw [List.length_take]; congr; omega, by rw [List.length_take]; omega, h2, fun i x hx => h4 i x ?_⟩
  rw [List.getElem?_take] at hx
  split at hx
  · exact hx
  · cases hx
end Go.Proofs.YtcpanmonllhmaaaDoor
