/- Slices whose elements are of any kind; slices of slices that the call itself fills. No program. -/
import Derived.Test.YtcpanmonllhmaaaDoorBaseB
import Derived.Deep.AppendLies
set_option linter.unusedSimpArgs false
set_option linter.unusedVariables false
namespace Go.Proofs.YtcpanmonllhmaaaDoor
open Go.RowKit

/-- A reading of elements that is kept while only block p turns. -/
def Stab {α : Type} (p : Nat) (R : World → List Value → α → Prop) : Prop := ∀ w w' cs x, R w cs x → XT p w w' → R w' cs x

/-- The slice value v reads in w as the list xs: each element has 'size' cells, of which R says what they hold. -/
def IsS {α : Type} (p size : Nat) (R : World → List Value → α → Prop) (w : World) (v : Value) (xs : List α) : Prop :=
  ∃ (A : Option Addr) (c : Nat), v = .slice A xs.length c ∧ xs.length ≤ c ∧ c ≤ 9223372036854775807 ∧
    ∀ k x, xs[k]? = some x → ∃ b off cs, A = some ⟨b, off, none⟩ ∧ b ≠ p ∧ cs.length = size ∧ (∀ j u, cs[j]? = some u → w.cell? ⟨b, off + k * size + j, none⟩ = some u) ∧ R w cs x

section
variable {α : Type} {p size : Nat} {R : World → List Value → α → Prop} {w w' : World} {v : Value} {xs : List α}
theorem IsS.xt (h : IsS p size R w v xs) (hR : Stab p R) (e : XT p w w') : IsS p size R w' v xs := by
  obtain ⟨A, c, hv, h1, h2, h4⟩ := h
  exact ⟨A, c, hv, h1, h2, fun k x hx => by
    obtain ⟨b, off, cs, ha, hb, hl, hc, hr⟩ := h4 k x hx
    exact ⟨b, off, cs, ha, hb, hl, fun j u hu => e.cell (hc j u hu) hb, hR _ _ _ _ hr e⟩⟩
theorem IsS.ext (h : IsS p size R w v xs) (hR : Stab p R) (e : Ext w w') : IsS p size R w' v xs := h.xt hR e.xt
theorem IsS.open_ (h : IsS p size R w v xs) : ∃ (A : Option Addr) (n c : Nat), v = .slice A n c ∧ n ≤ c ∧ c ≤ 9223372036854775807 ∧ n ≤ 9223372036854775807 ∧ Hid (xs.length = n) := by
  obtain ⟨A, c, hv, h1, h2, h4⟩ := h
  exact ⟨A, xs.length, c, hv, h1, h2, by omega, rfl⟩
theorem IsS.len {A : Option Addr} {n c : Nat} (h : IsS p size R w (.slice A n c) xs) : xs.length = n := by
  obtain ⟨A', c', hv, _⟩ := h
  injection hv with _ hn _
  exact hn.symm
theorem IsS.at_ {A : Option Addr} {n c k : Nat} (h : IsS p size R w (.slice A n c) xs) (hk : k < n) :
    ∃ (b off : Nat) (cs : List Value) (x : α), A = some ⟨b, off, none⟩ ∧ cs.length = size ∧ (∀ j u, cs[j]? = some u → w.cell? ⟨b, off + k * size + j, none⟩ = some u) ∧ R w cs x ∧ Hid (xs[k]? = some x) := by
  have hl := h.len
  obtain ⟨A', c', hv, h1, h2, h4⟩ := h
  injection hv with ha _ _
  subst ha
  have hk' : k < xs.length := by omega
  obtain ⟨b, off, cs, ha, _, hcl, hc, hr⟩ := h4 k _ (List.getElem?_eq_getElem hk')
  exact ⟨b, off, cs, xs[k], ha, hcl, hc, hr, List.getElem?_eq_getElem hk'⟩
theorem IsS.cell_ {b off n c k : Nat} (h : IsS p size R w (.slice (some ⟨b, off, none⟩) n c) xs) (hk : k < n) :
    ∃ (cs : List Value) (x : α), cs.length = size ∧ (∀ j u, cs[j]? = some u → w.cell? ⟨b, off + k * size + j, none⟩ = some u) ∧ R w cs x ∧ Hid (xs[k]? = some x) := by
  obtain ⟨b', off', cs, x, ha, r⟩ := h.at_ hk
  injection ha with ha
  injection ha with hb ho
  subst hb; subst ho
  exact ⟨cs, x, r⟩
theorem IsS.nil (p size : Nat) (R : World → List Value → α → Prop) (w : World) : IsS p size R w (.slice none 0 0) [] :=
  ⟨none, 0, rfl, Nat.le_refl _, by omega, fun k x hx => by simp at hx⟩
/-- A row of the call's own: its cells are those of the elements, one behind the other. -/
theorem IsS.of_own {base e : Nat} (css : List (List Value)) (hcs : ∀ cs ∈ css, cs.length = size) (hsz : 0 < size) (hlen : css.length = xs.length) (h : w.ownsRow base e size v xs.length css.flatten) (hp : p < base)
    (hR : ∀ (k : Nat) cs x, css[k]? = some cs → xs[k]? = some x → R w cs x) : IsS p size R w v xs := by
  rcases h.2 with ⟨rfl, h0⟩ | ⟨g, cap, cur, rfl, hg, hh, hnc, hcm, hcz, htk⟩
  · obtain rfl : xs = [] := List.eq_nil_of_length_eq_zero h0
    exact IsS.nil p size R w
  · refine ⟨_, cap, rfl, hnc, hcm, fun k x hx => ?_⟩
    have hk := (List.getElem?_eq_some_iff.1 hx).1
    have hk' : k < css.length := by omega
    refine ⟨g, 0, css[k], rfl, by omega, hcs _ (List.getElem_mem hk'), fun j u hu => ?_, hR k _ x (List.getElem?_eq_getElem hk') hx⟩
    have hj := (List.getElem?_eq_some_iff.1 hu).1
    rw [hcs _ (List.getElem_mem hk')] at hj
    have hlt : k * size + j < xs.length * size := by
      have : (k + 1) * size ≤ xs.length * size := Nat.mul_le_mul_right _ hk
      rw [Nat.add_mul] at this; omega
    rw [Nat.zero_add, h.cellAt _ hlt]
    have key : ∀ (l : List (List Value)), (∀ cs ∈ l, cs.length = size) → ∀ i j (hi : i < l.length), j < size → l.flatten[i * size + j]? = (l[i])[j]? := by
      intro l
      induction l with
      | nil => intro _ i j hi; simp at hi
      | cons a l ih =>
        intro hl i j hi hj
        have ha : a.length = size := hl a (by simp)
        rw [List.flatten_cons]
        cases i with
        | zero => simp only [Nat.zero_mul, Nat.zero_add]; rw [List.getElem?_append_left (by omega)]; rfl
        | succ i =>
          rw [List.getElem?_append_right (by rw [ha, Nat.add_mul]; omega)]
          have : (i + 1) * size + j - a.length = i * size + j := by rw [ha, Nat.add_mul]; omega
          rw [this, ih (fun cs hc => hl cs (by simp [hc])) i j (by simpa using hi) hj]
          rfl
    rw [key css hcs k j hk' hj]; exact hu
end

/-- An element of one cell that is itself a slice of ints. -/
def RI (p : Nat) : World → List Value → List Int → Prop := fun w cs l => ∃ u, cs = [u] ∧ IsI p w u l
theorem RI.stab (p : Nat) : Stab p (RI p) := by
  rintro w w' cs l ⟨u, rfl, h⟩ e
  exact ⟨u, rfl, h.xt e⟩
/-- A slice of slices of ints. -/
abbrev IsP (p : Nat) : World → Value → List (List Int) → Prop := IsS p 1 (RI p)
theorem IsS.page {p : Nat} {w : World} {b off n c k : Nat} {xs : List (List Int)} (h : IsP p w (.slice (some ⟨b, off, none⟩) n c) xs) (hk : k < n) :
    ∃ (u : Value) (l : List Int), w.cell? ⟨b, off + k, none⟩ = some u ∧ IsI p w u l ∧ Hid (xs[k]? = some l) := by
  obtain ⟨cs, l, hl, hc, ⟨u, rfl, hi⟩, hx⟩ := h.cell_ hk
  refine ⟨u, l, ?_, hi, hx⟩
  have := hc 0 u rfl
  simpa using this

theorem flat1 (us : List Value) : (us.map fun u => [u]).flatten = us := by induction us <;> simp_all
/-- The block of a slice value lies below H. -/
def BelowH (H : Nat) (v : Value) : Prop := ∀ k, v.ownBlock = some k → k < H

/-- A slice of slices of ints that the call itself fills: all rows but the last one are done; the last one may grow. -/
def Nest (p base eS eI : Nat) (w : World) (v : Value) (ls : List (List Int)) : Prop :=
  ∃ (us : List Value) (H : Nat), us.length = ls.length ∧ w.ownsRow base eS 1 v ls.length us ∧ base ≤ H ∧ H ≤ w.heap.size ∧
    (∀ j u l, us[j]? = some u → ls[j]? = some l → j + 1 < ls.length → w.ownsRow base eI 1 u l.length (l.map (Value.int .i64)) ∧ BelowH H u) ∧
    (∀ u l, us[ls.length - 1]? = some u → ls[ls.length - 1]? = some l → w.ownsRow H eI 1 u l.length (l.map (Value.int .i64)))

section
variable {p base eS eI : Nat} {w w' : World} {v : Value} {ls : List (List Int)}
theorem own_le {w : World} {base e size n : Nat} {v : Value} {xs : List Value} (h : w.ownsRow base e size v n xs) : BelowH w.heap.size v := fun k hk => (h.lt k hk).2
theorem Nest.nil (p base eS eI : Nat) (w : World) (hb : base ≤ w.heap.size) : Nest p base eS eI w (.slice none 0 0) [] :=
  ⟨[], w.heap.size, rfl, World.ownsRow_nil _ _ _ _, hb, Nat.le_refl _, fun j u l hu => by simp at hu, fun u l hu => by simp at hu⟩
theorem Nest.isP (h : Nest p base eS eI w v ls) (hp : p < base) (hb : ∀ l ∈ ls, ∀ x ∈ l, I64 x) (hl : ∀ l ∈ ls, l.length ≤ 9223372036854775807) : IsP p w v ls := by
  obtain ⟨us, H, hus, hown, hbH, hH, hold, hlast⟩ := h
  refine IsS.of_own (e := eS) (us.map fun u => [u]) (by simp) (by decide) (by simpa using hus) ?_ hp ?_
  · rw [flat1]; exact hown
  · intro k cs x hcs hx
    simp only [List.getElem?_map, Option.map_eq_some_iff] at hcs
    obtain ⟨u, hu, rfl⟩ := hcs
    have hk := (List.getElem?_eq_some_iff.1 hx).1
    refine ⟨u, rfl, ?_⟩
    by_cases e : k + 1 < ls.length
    · exact IsI.of_own (hold k u x hu hx e).1 hp (hb x (List.mem_of_getElem? hx)) (hl x (List.mem_of_getElem? hx))
    · obtain rfl : k = ls.length - 1 := by omega
      exact IsI.of_own (hlast u x hu hx) (by omega) (hb x (List.mem_of_getElem? hx)) (hl x (List.mem_of_getElem? hx))
/-- Kept while nothing from base on is written. -/
theorem Nest.keep (h : Nest p base eS eI w v ls) (hs : w.heap.size ≤ w'.heap.size) (e : ∀ k, base ≤ k → k < w.heap.size → w'.heap[k]? = w.heap[k]?) : Nest p base eS eI w' v ls := by
  have tr : ∀ {b e' n : Nat} {u : Value} {xs : List Value}, base ≤ b → w.ownsRow b e' 1 u n xs → w'.ownsRow b e' 1 u n xs := by
    intro b e' n u xs hb h
    rcases h with ⟨h1, h2 | ⟨g, cap, cur, hv, hg, hh, r⟩⟩
    · exact ⟨h1, .inl h2⟩
    · exact ⟨h1, .inr ⟨g, cap, cur, hv, hg, (e g (by omega) (lt_of_blk hh)).trans hh, r⟩⟩
  obtain ⟨us, H, hus, hown, hbH, hH, hold, hlast⟩ := h
  exact ⟨us, H, hus, tr (Nat.le_refl _) hown, hbH, by omega, fun j u l hu hl hj => ⟨tr (Nat.le_refl _) (hold j u l hu hl hj).1, (hold j u l hu hl hj).2⟩, fun u l hu hl => tr hbH (hlast u l hu hl)⟩
theorem Nest.ext (h : Nest p base eS eI w v ls) (e : Ext w w') : Nest p base eS eI w' v ls := h.keep e.size fun k _ hk => e.block k hk
theorem Nest.own (h : Nest p base eS eI w v ls) : ∃ us, us.length = ls.length ∧ w.ownsRow base eS 1 v ls.length us := by
  obtain ⟨us, H, hus, hown, _⟩ := h; exact ⟨us, hus, hown⟩
end

/-- An owned row stays while another row, of another element type or elsewhere, is written. -/
theorem own_apart {w w' : World} {base e size n : Nat} {v : Value} {xs : List Value} {row : Option Nat} (h : w.ownsRow base e size v n xs) (hg : w.grownBy w' row) (hne : ∀ k, v.ownBlock = some k → row ≠ some k) : w'.ownsRow base e size v n xs := by
  refine h.kept hg ?_
  cases hb : v.ownBlock with
  | none => exact .inl rfl
  | some k => exact .inr (fun e => hne k hb e.symm)
/-- Rows of different element types lie in different blocks. -/
theorem own_types {w : World} {b1 b2 e1 e2 s1 s2 n1 n2 : Nat} {v1 v2 : Value} {x1 x2 : List Value} (h1 : w.ownsRow b1 e1 s1 v1 n1 x1) (h2 : w.ownsRow b2 e2 s2 v2 n2 x2) (hne : e1 ≠ e2) : ∀ k, v1.ownBlock = some k → v2.ownBlock ≠ some k := by
  intro k hk hk2
  rcases h1.2 with ⟨rfl, _⟩ | ⟨g1, c1, cu1, rfl, _, hh1, _⟩
  · simp [Value.ownBlock] at hk
  rcases h2.2 with ⟨rfl, _⟩ | ⟨g2, c2, cu2, rfl, _, hh2, _⟩
  · simp [Value.ownBlock] at hk2
  have e1' : g1 = k := by simpa [Value.ownBlock] using hk
  have e2' : g2 = k := by simpa [Value.ownBlock] using hk2
  subst e1'; subst e2'
  rw [hh1] at hh2
  injection hh2 with hh2
  injection hh2 with _ he
  exact hne he

section
variable {p base eS eI : Nat} {w w' : World} {v v' : Value} {ls : List (List Int)}
/-- A new empty row: behind 'out = append(out, nil)'. us: the cells of the outer row before. -/
theorem Nest.new (h : Nest p base eS eI w v ls) (hne : eS ≠ eI) {us : List Value} (hus : w.ownsRow base eS 1 v ls.length us) (hg : w.grownBy w' v.ownBlock) (h' : w'.ownsRow base eS 1 v' (ls.length + 1) (us ++ [.slice none 0 0])) :
    Nest p base eS eI w' v' (ls ++ [[]]) := by
  obtain ⟨us0, H, hl0, hown, hbH, hH, hold, hlast⟩ := h
  obtain rfl : us0 = us := by
    have a := hown.2; have b := hus.2
    rcases a with ⟨rfl, h0⟩ | ⟨g, cap, cur, rfl, _, hh, _, _, _, ht⟩
    · have h1 := hown.1; have h2 := hus.1; rw [h0] at h1 h2
      have e1 : us0 = [] := List.eq_nil_of_length_eq_zero (by simpa using h1)
      have e2 : us = [] := List.eq_nil_of_length_eq_zero (by simpa using h2)
      rw [e1, e2]
    · rcases b with ⟨e, _⟩ | ⟨g', cap', cur', e, _, hh', _, _, _, ht'⟩
      · cases e
      · injection e with e1 e2 e3
        injection e1 with e1
        injection e1 with e1
        subst e1
        rw [hh] at hh'
        injection hh' with hh'
        injection hh' with hc
        subst hc
        exact ht.symm.trans ht'
  have keep : ∀ {b n : Nat} {u : Value} {xs : List Value}, w.ownsRow b eI 1 u n xs → w'.ownsRow b eI 1 u n xs := fun hu =>
    own_apart hu hg (fun k hk => own_types hu hown (Ne.symm hne) k hk)
  have hsz := hg.size
  refine ⟨us0 ++ [.slice none 0 0], w'.heap.size, by simp [hl0], by simpa using h', by omega, Nat.le_refl _, ?_, ?_⟩
  · intro j u l hu hl hj
    simp at hj
    have hj' : j < ls.length := by omega
    rw [List.getElem?_append_left (by omega)] at hu
    rw [List.getElem?_append_left hj'] at hl
    by_cases e : j + 1 < ls.length
    · obtain ⟨a, b⟩ := hold j u l hu hl e
      exact ⟨keep a, fun k hk => by have := b k hk; omega⟩
    · obtain rfl : j = ls.length - 1 := by omega
      have a := hlast u l hu hl
      exact ⟨own_base (keep a) hbH, fun k hk => by have := (a.lt k hk).2; omega⟩
  · intro u l hu hl
    simp at hu hl
    rw [List.getElem?_append_right (by omega)] at hu
    simp [hl0] at hu
    subst hu; subst hl
    exact World.ownsRow_nil _ _ _ _
/-- The last row. -/
theorem Nest.last (h : Nest p base eS eI w v ls) (h0 : ls ≠ []) : ∃ (g cap : Nat) (us : List Value) (u : Value) (l : List Int) (H : Nat), v = .slice (some ⟨g, 0, none⟩) ls.length cap ∧ base ≤ g ∧ us.length = ls.length ∧
    w.ownsRow base eS 1 v ls.length us ∧ us[ls.length - 1]? = some u ∧ ls[ls.length - 1]? = some l ∧ w.cell? ⟨g, ls.length - 1, none⟩ = some u ∧ w.frozen? ⟨g, ls.length - 1, none⟩ = false ∧ w.ownsRow H eI 1 u l.length (l.map (Value.int .i64)) ∧ base ≤ H ∧ H ≤ w.heap.size := by
  have hp : 0 < ls.length := List.length_pos_iff.2 h0
  obtain ⟨us, H, hl0, hown, hbH, hH, hold, hlast⟩ := h
  obtain ⟨g, cap, rfl, hg, _⟩ := own_form hown hp
  have hu : us[ls.length - 1]? = some (us[ls.length - 1]'(by omega)) := List.getElem?_eq_getElem (by omega)
  have hl : ls[ls.length - 1]? = some (ls[ls.length - 1]'(by omega)) := List.getElem?_eq_getElem (by omega)
  exact ⟨g, cap, us, _, _, H, rfl, hg, hl0, hown, hu, hl, by rw [hown.cellAt _ (by omega)]; exact hu, hown.frozenAt _, hlast _ _ hu hl, hbH, hH⟩
/-- Behind 'out[last] = append(out[last], x)'. -/
theorem Nest.push {g cap H : Nat} {us : List Value} {u u' : Value} {l : List Int} {x : Int} {w1 : World} (h : Nest p base eS eI w (.slice (some ⟨g, 0, none⟩) ls.length cap) ls) (hne : eS ≠ eI) (h0 : ls ≠ [])
    (hs : Ext w w1) (hu : us[ls.length - 1]? = some u) (hl : ls[ls.length - 1]? = some l) (hus : w.ownsRow base eS 1 (.slice (some ⟨g, 0, none⟩) ls.length cap) ls.length us)
    (hg : w1.grownBy w' u.ownBlock) (h' : w'.ownsRow H eI 1 u' (l.length + 1) ((l ++ [x]).map (Value.int .i64))) (hH : w.ownsRow H eI 1 u l.length (l.map (Value.int .i64))) (hbH : base ≤ H) (hHw : H ≤ w.heap.size)
    (hold : ∀ j u l, us[j]? = some u → ls[j]? = some l → j + 1 < ls.length → w.ownsRow base eI 1 u l.length (l.map (Value.int .i64)) ∧ BelowH H u) :
    Nest p base eS eI (w'.setCell ⟨g, ls.length - 1, none⟩ u') (.slice (some ⟨g, 0, none⟩) ls.length cap) (ls.set (ls.length - 1) (l ++ [x])) := by
  have hp : 0 < ls.length := List.length_pos_iff.2 h0
  have hlen : us.length = ls.length := by simpa using hus.1
  have o1 : w1.ownsRow base eS 1 (.slice (some ⟨g, 0, none⟩) ls.length cap) ls.length us := own_ext hus hs
  have o2 : w'.ownsRow base eS 1 (.slice (some ⟨g, 0, none⟩) ls.length cap) ls.length us := own_apart o1 hg fun k hk => own_types o1 (own_ext hH hs) hne k hk
  obtain ⟨o3, g3⟩ := o2.stored (ls.length - 1) u'
  have kp : ∀ {b n : Nat} {z : Value} {xs : List Value}, w'.ownsRow b eI 1 z n xs → (w'.setCell ⟨g, ls.length - 1, none⟩ u').ownsRow b eI 1 z n xs := fun hz =>
    own_apart hz g3 (fun k hk e => own_types hz o2 (Ne.symm hne) k hk (by simpa [Value.ownBlock] using e))
  have hsz : w.heap.size ≤ w'.heap.size := Nat.le_trans hs.size hg.size
  refine ⟨us.set (ls.length - 1) u', H, by simp [hlen], by simpa using o3, hbH, by have := g3.size; omega, ?_, ?_⟩
  · intro j z m hz hm hj
    simp at hj
    rw [List.getElem?_set_ne (by omega)] at hz hm
    obtain ⟨a, b⟩ := hold j z m hz hm hj
    refine ⟨kp (own_apart (own_ext a hs) hg fun k hk e => ?_), b⟩
    have h1 := b k hk
    have h2 := (hH.lt k e).1
    omega
  · intro z m hz hm
    simp only [List.length_set] at hz hm
    rw [List.getElem?_set_self (by omega)] at hz hm
    have e1 := Option.some.inj hz
    have e2 := Option.some.inj hm
    subst e1; subst e2
    have := kp h'
    simpa using this
theorem Nest.parts (h : Nest p base eS eI w v ls) : ∃ (us : List Value) (H : Nat), us.length = ls.length ∧ w.ownsRow base eS 1 v ls.length us ∧ base ≤ H ∧ H ≤ w.heap.size ∧
    (∀ j u l, us[j]? = some u → ls[j]? = some l → j + 1 < ls.length → w.ownsRow base eI 1 u l.length (l.map (Value.int .i64)) ∧ BelowH H u) ∧
    (∀ u l, us[ls.length - 1]? = some u → ls[ls.length - 1]? = some l → w.ownsRow H eI 1 u l.length (l.map (Value.int .i64))) := h
end
end Go.Proofs.YtcpanmonllhmaaaDoor
