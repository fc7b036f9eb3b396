/- What Make returns is a valid booklet: plain lists. -/
import Derived.Test.YtpbfbkkalemmiaaValidP
namespace Go.Proofs.Ytpbfbkkalemmiaa
open Go.RowKit

/-- The numbers from a to a + k - 1. -/
def iv (a k : Nat) : List Int := (List.range k).map fun i => ((a + i : Nat) : Int)
theorem iv_succ (a k : Nat) : iv a (k + 1) = iv a k ++ [((a + k : Nat) : Int)] := by unfold iv; rw [List.range_succ]; simp
theorem iv_len (a k : Nat) : (iv a k).length = k := by simp [iv]
theorem iv_at {a k i : Nat} {y : Int} (h : (iv a k)[i]? = some y) : y = ((a + i : Nat) : Int) := by
  unfold iv at h
  simp only [List.getElem?_map, Option.map_eq_some_iff] at h
  obtain ⟨j, hj, rfl⟩ := h
  have := List.getElem?_eq_some_iff.1 hj
  obtain ⟨h1, h2⟩ := this
  simp at h2
  omega
theorem ent_iv {ns : List Int} {a k : Nat} (h : a + k ≤ ns.length) : entTo ns a (iv a k) k := ⟨h, fun _ _ _ hy => iv_at hy⟩
theorem pgOk_iv {ns : List Int} {a k : Nat} (h : a + k ≤ ns.length) (hl : lnTo ns a k ≤ 30) : pgOk ns a (iv a k) := by
  unfold pgOk; rw [iv_len]; exact ⟨ent_iv h, hl⟩

/-- The pages d are in order and hold the first a parts. -/
def okPre (ns : List Int) (d : List (List Int)) (a : Nat) : Prop := ∀ rest, okPages ns 0 (d ++ rest) ↔ okPages ns a rest
theorem okPre_nil (ns : List Int) : okPre ns [[]] 0 := by
  intro rest
  simp [okPages, pgOk, entTo, lnTo]
theorem okPre_push {ns : List Int} {d : List (List Int)} {a : Nat} {pg : List Int} (h : okPre ns d a) (hp : pgOk ns a pg) : okPre ns (d ++ [pg]) (a + pg.length) := by
  intro rest
  rw [List.append_assoc, h]
  exact ⟨fun x => x.2, fun x => ⟨hp, x⟩⟩

theorem gs_ok (ns : List Int) (hn : ∀ x ∈ ns, 0 ≤ x ∧ x ≤ 30) : ∀ k, k ≤ ns.length → ∃ a, a ≤ k ∧ okPre ns (gs ns k).1 a ∧ (gs ns k).2.1 = iv a (k - a) ∧ (gs ns k).2.2 = lnTo ns a (k - a) ∧ (gs ns k).2.2 ≤ 30 ∧ ∃ t, (gs ns k).1 = [] :: t := by
  intro k
  induction k with
  | zero => intro _; exact ⟨0, by omega, okPre_nil ns, rfl, by simp [gs, lnTo], by simp [gs], [], rfl⟩
  | succ k ih =>
    intro hk
    obtain ⟨a, ha, h1, h2, h3, h4, t, h5⟩ := ih (by omega)
    have hkl : k < ns.length := by omega
    have hx : ns[k]? = some ns[k] := List.getElem?_eq_getElem hkl
    have hb := hn _ (List.getElem_mem hkl)
    obtain ⟨d, c, s, e⟩ : ∃ d c s, gs ns k = (d, c, s) := ⟨_, _, _, rfl⟩
    rw [e] at h1 h2 h3 h4 h5
    simp only at h1 h2 h3 h4 h5
    by_cases hf : s + ns[k] ≤ 30
    · rw [gs_fit e hx hf]
      have ek : k + 1 - a = (k - a) + 1 := by omega
      have eak : a + (k - a) = k := by omega
      refine ⟨a, by omega, h1, ?_, ?_, hf, t, h5⟩
      · simp only; rw [ek, iv_succ, h2, eak]
      · simp only; rw [ek, lnTo_succ (x := ns[k]) (by rw [eak]; exact hx), h3]
    · rw [gs_new e hx (by omega)]
      refine ⟨k, by omega, ?_, ?_, ?_, by simp only; omega, t ++ [c], by simp only; rw [h5]; rfl⟩
      · simp only
        have hp : pgOk ns a c := by rw [h2]; exact pgOk_iv (by omega) (by rw [← h3]; exact h4)
        have := okPre_push h1 hp
        rw [h2, iv_len] at this
        rw [h2]
        have e2 : a + (k - a) = k := by omega
        rw [e2] at this
        exact this
      · simp only
        have : k + 1 - k = 0 + 1 := by omega
        rw [this, iv_succ]; simp [iv]
      · simp only
        have : k + 1 - k = 0 + 1 := by omega
        rw [this, lnTo_succ (x := ns[k]) (by simp), lnTo_zero]; omega
theorem okPages_rep (ns : List Int) (r : Nat) : okPages ns ns.length (List.replicate r []) := by
  induction r with
  | zero => simp [okPages]
  | succ r ih => rw [List.replicate_succ]; exact ⟨⟨⟨by simp, fun i y hi => by simp at hi⟩, by simp [lnTo]⟩, by simpa using ih⟩

theorem make_ok {code var : Int} {ps : List Part} (hv : vpaB code var ps = true) (hl : (makeP ps).length ≤ 12) : BkOk code var ps (makeP ps) := by
  obtain ⟨a, ha, h1, h2, h3, h4, t, h5⟩ := gs_ok (ps.map need) (need_range ps) (ps.map need).length (Nat.le_refl _)
  refine ⟨hv, hl, ?_, ?_, ?_⟩
  · unfold makeP pad; simp; omega
  · intro l hl'
    unfold makeP pad pagesOf at hl'
    rw [h5] at hl'
    simp at hl'
    exact hl'
  · unfold makeP pad pagesOf
    rw [List.append_assoc, h1]
    rw [h2]
    refine ⟨pgOk_iv (by omega) (by rw [← h3]; exact h4), ?_⟩
    rw [iv_len]
    have e2 : a + ((ps.map need).length - a) = (ps.map need).length := by omega
    rw [e2]
    exact okPages_rep _ _
end Go.Proofs.Ytpbfbkkalemmiaa
