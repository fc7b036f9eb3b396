/- A word with changes and erasures is near its codeword. -/
import Derived.Test.YtcpanmonllhmaaaDoorGRsP
import Derived.Test.YtcpanmonllhmaaaDoorTapeC
set_option linter.unusedSimpArgs false
set_option linter.unusedVariables false
namespace Go.Proofs.YtcpanmonllhmaaaDoor
open Go.RowKit

/-- A codeword with changes (the first a places of an order) and erasures (the next ones), as far as number k. -/
def Dam (c : List F) (ord : List Int) (a k : Nat) (lx : List Int) : Prop :=
  lx.length = c.length ∧ ∀ (j o : Nat), ord[j]? = some (o : Int) → (j < k → j < a → 0 ≤ lx.getD o 0 ∧ lx.getD o 0 < 32 ∧ lx.getD o 0 ≠ ((c.getD o 0).n : Int)) ∧ (j < k → a ≤ j → lx.getD o 0 = -1) ∧ (k ≤ j → lx.getD o 0 = ((c.getD o 0).n : Int))
theorem wI_getD (c : List F) (o : Nat) : (wI c).getD o 0 = ((c.getD o 0).n : Int) := by
  unfold wI
  rw [List.getD_eq_getElem?_getD, List.getD_eq_getElem?_getD, List.getElem?_map]
  cases c[o]? <;> rfl
theorem Dam.zero (c : List F) (ord : List Int) (a : Nat) : Dam c ord a 0 (wI c) :=
  ⟨wI_len c, fun j o _ => ⟨fun h => by omega, fun h => by omega, fun _ => wI_getD c o⟩⟩
theorem ord_inj {ord : List Int} {n i j : Nat} {x : Int} (hp : ord.Perm (upTo n)) (h1 : ord[i]? = some x) (h2 : ord[j]? = some x) : i = j := by
  have hn : ord.Nodup := hp.nodup_iff.2 (List.Pairwise.map _ (fun a b h e => h (Int.ofNat.inj e)) List.nodup_range)
  exact (List.getElem?_inj (List.getElem?_eq_some_iff.1 h1).1 hn).1 (h1.trans h2.symm)
theorem getD_set_eq {l : List Int} {o : Nat} {y : Int} (h : o < l.length) : (l.set o y).getD o 0 = y := by
  rw [List.getD_eq_getElem?_getD, List.getElem?_set_self h]; rfl
theorem getD_set_ne {l : List Int} {o i : Nat} {y : Int} (h : o ≠ i) : (l.set o y).getD i 0 = l.getD i 0 := by
  rw [List.getD_eq_getElem?_getD, List.getElem?_set_ne h, List.getD_eq_getElem?_getD]
theorem Dam.err {c : List F} {ord : List Int} {a k n o : Nat} {lx : List Int} {r : F} (h : Dam c ord a k lx) (hp : ord.Perm (upTo n)) (ho : ord[k]? = some (o : Int)) (hol : o < c.length) (hk : k < a) (hr : r ≠ 0) : Dam c ord a (k + 1) (lx.set o (((c.getD o 0 + r).n : Nat) : Int)) := by
  refine ⟨by rw [List.length_set]; exact h.1, fun j o' hj => ?_⟩
  by_cases e : j = k
  · subst e
    rw [ho] at hj
    injection hj with hj
    obtain rfl : o = o' := by omega
    rw [getD_set_eq (by rw [h.1]; exact hol)]
    have := (c.getD o 0 + r).lt
    refine ⟨fun _ _ => ⟨by omega, by omega, fun e => ?_⟩, fun _ h => by omega, fun h => by omega⟩
    have e2 : c.getD o 0 + r = c.getD o 0 := F.ext (by omega)
    refine hr ?_
    have := congrArg (fun z => c.getD o 0 + z) e2
    simpa [← F.add_assoc, F.add_self, F.zero_add] using this
  · have hne : o ≠ o' := fun eo => by subst eo; exact e (ord_inj hp hj ho)
    rw [getD_set_ne hne]
    have := h.2 j o' hj
    exact ⟨fun h1 h2 => this.1 (by omega) h2, fun h1 h2 => this.2.1 (by omega) h2, fun h1 => this.2.2 (by omega)⟩
theorem Dam.era {c : List F} {ord : List Int} {a k n o : Nat} {lx : List Int} (h : Dam c ord a k lx) (hp : ord.Perm (upTo n)) (ho : ord[k]? = some (o : Int)) (hol : o < c.length) (hk : a ≤ k) : Dam c ord a (k + 1) (lx.set o (-1)) := by
  refine ⟨by rw [List.length_set]; exact h.1, fun j o' hj => ?_⟩
  by_cases e : j = k
  · subst e
    rw [ho] at hj
    injection hj with hj
    obtain rfl : o = o' := by omega
    rw [getD_set_eq (by rw [h.1]; exact hol)]
    exact ⟨fun _ h => by omega, fun _ _ => rfl, fun h => by omega⟩
  · have hne : o ≠ o' := fun eo => by subst eo; exact e (ord_inj hp hj ho)
    rw [getD_set_ne hne]
    have := h.2 j o' hj
    exact ⟨fun h1 h2 => this.1 (by omega) h2, fun h1 h2 => this.2.1 (by omega) h2, fun h1 => this.2.2 (by omega)⟩
theorem ord_mem {ord : List Int} {n o : Nat} (hp : ord.Perm (upTo n)) (ho : o < n) : ∃ j : Nat, ord[j]? = some (o : Int) := by
  have : (o : Int) ∈ ord := hp.mem_iff.2 (List.mem_map.2 ⟨o, List.mem_range.2 ho, rfl⟩)
  exact List.mem_iff_getElem?.1 this
theorem Dam.bnd {c : List F} {ord : List Int} {a k n : Nat} {lx : List Int} (h : Dam c ord a k lx) (hp : ord.Perm (upTo n)) (hc : c.length = n) : ∀ x ∈ lx, -1 ≤ x ∧ x < 32 := by
  intro x hx
  obtain ⟨o, ho, rfl⟩ := List.getElem_of_mem hx
  obtain ⟨j, hj⟩ := ord_mem (o := o) hp (by rw [← hc, ← h.1]; exact ho)
  have e : lx.getD o 0 = lx[o] := by rw [List.getD_eq_getElem?_getD, List.getElem?_eq_getElem ho]; rfl
  have hd := h.2 j o hj
  rw [e] at hd
  have := (c.getD o 0).lt
  rcases Nat.lt_or_ge j k with h1 | h1
  · rcases Nat.lt_or_ge j a with h2 | h2
    · have := hd.1 h1 h2; omega
    · have := hd.2.1 h1 h2; omega
  · have := hd.2.2 h1; omega
theorem Dam.word {c : List F} {ord : List Int} {a k n : Nat} {lx : List Int} (h : Dam c ord a k lx) (hp : ord.Perm (upTo n)) (hc : c.length = n) (h7 : 7 ≤ n) (h15 : n ≤ 15) : wordB (-1) lx = true :=
  mem_word (by rw [h.1]; omega) (by rw [h.1]; omega) (h.bnd hp hc)
/-- The places of an order, from one number to another. -/
def ordNat (ord : List Int) : List Nat := ord.map Int.toNat
theorem ordNat_nodup {ord : List Int} {n : Nat} (hp : ord.Perm (upTo n)) : (ordNat ord).Nodup := by
  have : (ordNat ord).Perm (List.range n) := by
    have := hp.map Int.toNat
    refine this.trans ?_
    unfold upTo
    rw [List.map_map]
    have : (Int.toNat ∘ fun i : Nat => (i : Int)) = id := by funext i; simp
    rw [this, List.map_id]
  exact this.nodup_iff.2 List.nodup_range
theorem Dam.near {c : List F} {ord : List Int} {a b n : Nat} {lx : List Int} (h : Dam c ord a (a + b) lx) (hp : ord.Perm (upTo n)) (hc : c.length = n) (hcode : F.Code c) (hab : a + b ≤ n) (h6 : 2 * a + b ≤ 6) : Near lx c a := by
  have hlo : (ordNat ord).length = n := by unfold ordNat; rw [List.length_map, hp.length_eq]; simp [upTo]
  have hol : ord.length = n := by rw [hp.length_eq]; simp [upTo]
  have hn := ordNat_nodup hp
  have hw := h.bnd hp hc
  have hmem : ∀ j o : Nat, (ordNat ord)[j]? = some o → ord[j]? = some (o : Int) := fun j o hj => by
    unfold ordNat at hj
    rw [List.getElem?_map, Option.map_eq_some_iff] at hj
    obtain ⟨x, hx, rfl⟩ := hj
    have := upTo_mem (hp.mem_iff.1 (List.mem_of_getElem? hx))
    rw [hx]; congr 1; omega
  have her : (erTo lx lx.length).length = b := by
    have h1 : (erTo lx lx.length).length ≤ (((ordNat ord).drop a).take b).length := nodup_len _ _ ((List.nodup_append.1 (er_wh_nodup lx lx.length)).1) fun o ho => by
      obtain ⟨ho1, ho2⟩ := mem_er.1 ho
      obtain ⟨j, hj⟩ := ord_mem (o := o) hp (by rw [← hc, ← h.1]; exact ho1)
      have hd := h.2 j o hj
      have hj1 : a ≤ j ∧ j < a + b := by
        rw [ho2] at hd
        have := (c.getD o 0).lt
        rcases Nat.lt_or_ge j (a + b) with g1 | g1
        · rcases Nat.lt_or_ge j a with g2 | g2
          · have := (hd.1 g1 g2).1; omega
          · exact ⟨g2, g1⟩
        · have := hd.2.2 g1; omega
      refine List.mem_iff_getElem?.2 ⟨j - a, ?_⟩
      rw [List.getElem?_take, if_pos (by omega), List.getElem?_drop, show a + (j - a) = j by omega]
      unfold ordNat
      rw [List.getElem?_map, hj]; simp
    have h2 : (((ordNat ord).drop a).take b).length ≤ (erTo lx lx.length).length := nodup_len _ _ ((hn.sublist (List.drop_sublist _ _)).sublist (List.take_sublist _ _)) fun o ho => by
      obtain ⟨j, hj⟩ := List.mem_iff_getElem?.1 ho
      rw [List.getElem?_take] at hj
      split at hj
      · rw [List.getElem?_drop] at hj
        have hj' := hmem _ _ hj
        have hb := upTo_mem (hp.mem_iff.1 (List.mem_of_getElem? hj'))
        exact mem_er.2 ⟨by rw [h.1, hc]; omega, (h.2 _ o hj').2.1 (by omega) (by omega)⟩
      · cases hj
    rw [List.length_take, List.length_drop] at h1 h2
    omega
  have hwr : (wrongP lx c).length = a := by
    have key : ∀ j o : Nat, ord[j]? = some (o : Int) → (o ∈ wrongP lx c ↔ j < a) := fun j o hj => by
      have hb := upTo_mem (hp.mem_iff.1 (List.mem_of_getElem? hj))
      have hol2 : o < lx.length := by rw [h.1, hc]; omega
      have hd := h.2 j o hj
      have hcl := (c.getD o 0).lt
      have hx : lx[o]? = some (lx.getD o 0) := by rw [List.getD_eq_getElem?_getD, List.getElem?_eq_getElem hol2]; rfl
      unfold wrongP
      rw [List.mem_filter, mem_wh]
      constructor
      · rintro ⟨⟨_, h2⟩, h3⟩
        rcases Nat.lt_or_ge j a with g | g
        · exact g
        · rcases Nat.lt_or_ge j (a + b) with g1 | g1
          · exact absurd (hd.2.1 g1 g) h2
          · have e := hd.2.2 g1
            have h4 := toF_el hx (by omega) (by omega)
            rw [e] at h4
            have : (toF lx).getD o 0 = c.getD o 0 := F.ext (by omega)
            rw [this] at h3
            simp at h3
      · intro g
        have e := hd.1 (by omega) g
        refine ⟨⟨hol2, by omega⟩, ?_⟩
        have h4 := toF_el hx e.1 e.2.1
        have : (toF lx).getD o 0 ≠ c.getD o 0 := fun e2 => e.2.2 (by rw [e2] at h4; omega)
        rw [beq_eq_false_iff_ne.2 this]; rfl
    have h1 : (wrongP lx c).length ≤ ((ordNat ord).take a).length := nodup_len _ _ ((List.nodup_append.1 (er_wh_nodup lx lx.length)).2.1.sublist (wrong_sub lx c)) fun o ho => by
      have ho1 := (mem_wh.1 (List.mem_filter.1 ho).1).1
      obtain ⟨j, hj⟩ := ord_mem (o := o) hp (by rw [← hc, ← h.1]; exact ho1)
      have := (key j o hj).1 ho
      refine List.mem_iff_getElem?.2 ⟨j, ?_⟩
      rw [List.getElem?_take, if_pos this]
      unfold ordNat
      rw [List.getElem?_map, hj]; simp
    have h2 : ((ordNat ord).take a).length ≤ (wrongP lx c).length := nodup_len _ _ (hn.sublist (List.take_sublist _ _)) fun o ho => by
      obtain ⟨j, hj⟩ := List.mem_iff_getElem?.1 ho
      rw [List.getElem?_take] at hj
      split at hj
      · exact (key j o (hmem _ _ hj)).2 (by assumption)
      · cases hj
    rw [List.length_take] at h1 h2
    omega
  exact ⟨h.1.symm, hcode, hwr, by rw [her]; exact h6⟩

end Go.Proofs.YtcpanmonllhmaaaDoor
