/- No valid booklet has fewer pages than the one of Make: plain lists. -/
import Derived.Test.YtpbfbkkalemmiaaMakeV
namespace Go.Proofs.Ytpbfbkkalemmiaa
open Go.RowKit

theorem lnTo_add (ns : List Int) (nx p q : Nat) : lnTo ns nx (p + q) = lnTo ns nx p + lnTo ns (nx + p) q := by
  unfold lnTo
  rw [List.take_add, List.sum_append, List.drop_drop]
theorem lnTo_mono {ns : List Int} (hn : ∀ x ∈ ns, 0 ≤ x ∧ x ≤ 30) {nx a m len : Nat} (h1 : nx ≤ a) (h2 : a + m ≤ nx + len) : lnTo ns a m ≤ lnTo ns nx len := by
  obtain ⟨p, rfl⟩ : ∃ p, a = nx + p := ⟨a - nx, by omega⟩
  obtain ⟨r, rfl⟩ : ∃ r, len = p + (m + r) := ⟨len - p - m, by omega⟩
  rw [lnTo_add, lnTo_add ns (nx + p) m r]
  have := (lnTo_bd hn nx p).1
  have := (lnTo_bd hn (nx + p + m) r).1
  omega
/-- How many parts the first j pages hold. -/
def consP (pgs : List (List Int)) (j : Nat) : Nat := ((pgs.take j).map List.length).sum
theorem consP_succ {pgs : List (List Int)} {j : Nat} {pg : List Int} (h : pgs[j]? = some pg) : consP pgs (j + 1) = consP pgs j + pg.length := by
  unfold consP; rw [take_snoc h]; simp
theorem consP_end {pgs : List (List Int)} {j : Nat} (h : pgs.length ≤ j) : consP pgs j = consP pgs pgs.length := by
  unfold consP; rw [List.take_of_length_le h, List.take_of_length_le (Nat.le_refl _)]
theorem okPages_at {ns : List Int} : ∀ (pgs : List (List Int)) (nx : Nat), okPages ns nx pgs → (∀ j pg, pgs[j]? = some pg → pgOk ns (nx + consP pgs j) pg) ∧ nx + consP pgs pgs.length = ns.length := by
  intro pgs
  induction pgs with
  | nil => intro nx h; exact ⟨fun j pg hj => by simp at hj, by have h' : nx = ns.length := h; simpa [consP] using h'⟩
  | cons p rest ih =>
    intro nx h
    obtain ⟨h1, h2⟩ := h
    obtain ⟨h3, h4⟩ := ih _ h2
    refine ⟨fun j pg hj => ?_, ?_⟩
    · cases j with
      | zero => simp at hj; subst hj; simpa [consP] using h1
      | succ j =>
        have := h3 j pg (by simpa using hj)
        have e : nx + p.length + consP rest j = nx + consP (p :: rest) (j + 1) := by unfold consP; simp; omega
        rw [e] at this; exact this
    · have e : nx + p.length + consP rest rest.length = nx + consP (p :: rest) (p :: rest).length := by unfold consP; simp; omega
      rw [e] at h4; exact h4

theorem gs_least {ns : List Int} {pgs : List (List Int)} (hn : ∀ x ∈ ns, 0 ≤ x ∧ x ≤ 30) (hok : okPages ns 0 pgs) (h0 : ∀ l, pgs[0]? = some l → l = []) :
    ∀ k, k ≤ ns.length → ∃ a, a ≤ k ∧ (gs ns k).2.1 = iv a (k - a) ∧ (gs ns k).2.2 = lnTo ns a (k - a) ∧ consP pgs (gs ns k).1.length ≤ a := by
  obtain ⟨hat, _⟩ := okPages_at pgs 0 hok
  intro k
  induction k with
  | zero =>
    intro _
    refine ⟨0, by omega, rfl, by simp [gs, lnTo], ?_⟩
    simp only [gs, List.length_singleton]
    cases e : pgs[0]? with
    | none => unfold consP; have := List.getElem?_eq_none_iff.1 e; rw [List.eq_nil_of_length_eq_zero (by omega : pgs.length = 0)]; simp
    | some l => rw [show (1 : Nat) = 0 + 1 from rfl, consP_succ e, h0 l e]; simp [consP]
  | succ k ih =>
    intro hk
    obtain ⟨a, ha, h2, h3, h4⟩ := ih (by omega)
    have hkl : k < ns.length := by omega
    have hx : ns[k]? = some ns[k] := List.getElem?_eq_getElem hkl
    obtain ⟨d, c, s, e⟩ : ∃ d c s, gs ns k = (d, c, s) := ⟨_, _, _, rfl⟩
    rw [e] at h2 h3 h4
    simp only at h2 h3 h4
    by_cases hf : s + ns[k] ≤ 30
    · rw [gs_fit e hx hf]
      have ek : k + 1 - a = (k - a) + 1 := by omega
      have eak : a + (k - a) = k := by omega
      refine ⟨a, by omega, ?_, ?_, h4⟩
      · simp only; rw [ek, iv_succ, h2, eak]
      · simp only; rw [ek, lnTo_succ (x := ns[k]) (by rw [eak]; exact hx), h3]
    · rw [gs_new e hx (by omega)]
      refine ⟨k, by omega, ?_, ?_, ?_⟩
      · simp only
        have : k + 1 - k = 0 + 1 := by omega
        rw [this, iv_succ]; simp [iv]
      · simp only
        have : k + 1 - k = 0 + 1 := by omega
        rw [this, lnTo_succ (x := ns[k]) (by simp), lnTo_zero]; omega
      · simp only [List.length_append, List.length_singleton]
        cases eq : pgs[d.length]? with
        | none =>
          have hle := List.getElem?_eq_none_iff.1 eq
          rw [consP_end (by omega), ← consP_end hle]; omega
        | some pg =>
          rw [consP_succ eq]
          have hp := hat _ _ eq
          rw [Nat.zero_add] at hp
          refine Nat.le_of_not_lt fun hlt => ?_
          have hm := lnTo_mono hn h4 (show a + (k - a + 1) ≤ consP pgs d.length + pg.length by omega)
          have eak : a + (k - a) = k := by omega
          rw [lnTo_succ (x := ns[k]) (by rw [eak]; exact hx), ← h3] at hm
          have := hp.2
          omega

theorem fewest {code var : Int} {ps : List Part} {pgs : List (List Int)} (h : BkOk code var ps pgs) : (makeP ps).length ≤ pgs.length ∧ pgs.length ≤ 12 := by
  obtain ⟨hv, hl, h4, h0, hok⟩ := h
  refine ⟨?_, hl⟩
  have hps := (vpa_of hv).2.2.2.2.1
  have hn := need_range ps
  obtain ⟨a, ha, h2, h3, hc⟩ := gs_least hn hok h0 (ps.map need).length (Nat.le_refl _)
  have hinv := (gs_inv (ps.map need) hn (ps.map need).length (Nat.le_refl _)).2.2.2.2.2.2.2
  have hlen : (ps.map need).length = ps.length := by simp
  have halt : a < (ps.map need).length := by
    rcases Nat.lt_or_ge a (ps.map need).length with h | h
    · exact h
    · have : (ps.map need).length - a = 0 := by omega
      rw [this] at h2
      have := (hinv (by rw [h2]; rfl)).2
      omega
  obtain ⟨_, hend⟩ := okPages_at pgs 0 hok
  have hlt : (gs (ps.map need) (ps.map need).length).1.length < pgs.length := by
    rcases Nat.lt_or_ge (gs (ps.map need) (ps.map need).length).1.length pgs.length with h | h
    · exact h
    · rw [consP_end h] at hc; omega
  unfold makeP pad pagesOf
  simp only [List.length_append, List.length_replicate, List.length_singleton]
  omega
end Go.Proofs.Ytpbfbkkalemmiaa
