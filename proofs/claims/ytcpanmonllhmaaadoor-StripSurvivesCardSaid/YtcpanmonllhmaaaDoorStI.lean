/- What Read returns; strip.Read. -/
import Derived.Test.YtcpanmonllhmaaaDoorGStC
import Derived.Test.YtcpanmonllhmaaaDoorGRsP
import Derived.StillTailTactics
import Derived.BigRegion
set_option linter.unusedSimpArgs false
set_option linter.unusedVariables false
namespace Go.Proofs.YtcpanmonllhmaaaDoor
open Go.RowKit

/-- Element i of the data. -/
def dz (d : List F) (i : Nat) : Int := ((d.getD i 0).n : Int)
theorem dz_bd (d : List F) (i : Nat) : 0 ≤ dz d i ∧ dz d i < 32 := by have := (d.getD i 0).lt; unfold dz; omega
def candZ (d : List F) : Int := 1024 * dz d 1 + 32 * dz d 2 + dz d 3
/-- What Read returns. -/
def ReadF (s : List UInt8) (p c g v n k : Int) : Prop :=
  (uprE s ≠ 0 → p = 0 ∧ c = 0 ∧ g = 0 ∧ v = 0 ∧ n = 0 ∧ k = uprE s) ∧
  (uprE s = 0 → ∃ d er kk, DecF (wordL (uprS s)) d er kk ∧ (kk ≠ 0 → p = 0 ∧ c = 0 ∧ g = 0 ∧ v = 0 ∧ n = 0 ∧ k = 25) ∧
    (kk = 0 → (9999 < candZ d → p = 0 ∧ c = 0 ∧ g = 0 ∧ v = 0 ∧ n = 0 ∧ k = 2) ∧ (candZ d ≤ 9999 → p = dz d 0 ∧ c = candZ d ∧ g = dz d 4 ∧ v = dz d 5 ∧ n = er ∧ k = 0)))
theorem read_same {s : List UInt8} {p c g v n k p' c' g' v' n' k' : Int} (h : ReadF s p c g v n k) (h' : ReadF s p' c' g' v' n' k') : p = p' ∧ c = c' ∧ g = g' ∧ v = v' ∧ n = n' ∧ k = k' := by
  by_cases hu : uprE s = 0
  · obtain ⟨d, er, kk, h1, h2, h3⟩ := h.2 hu
    obtain ⟨d', er', kk', h1', h2', h3'⟩ := h'.2 hu
    obtain ⟨rfl, rfl, rfl⟩ := dec_same h1 h1'
    by_cases hk : kk = 0
    · by_cases hc : candZ d ≤ 9999
      · have := (h3 hk).2 hc; have := (h3' hk).2 hc; omega
      · have := (h3 hk).1 (by omega); have := (h3' hk).1 (by omega); omega
    · have := h2 hk; have := h2' hk; omega
  · have := h.1 hu; have := h'.1 hu; omega
theorem read_turn {s : List UInt8} {p c g v n k : Int} (h : ReadF s p c g v n k) : ReadF s.reverse p c g v n k := by
  obtain ⟨h1, h2⟩ := upr_turn s
  unfold ReadF
  rw [h1, h2]
  exact h
def ReadRet (s : List UInt8) (w : World) (e : Ending) (w' : World) : Prop :=
  ∃ p c g v n k, e = .returned (.tuple #[.agg #[.int .i64 p, .int .i64 c, .int .i64 g, .int .i64 v], .int .i64 n, .int .i64 k]) ∧ ReadF s p c g v n k ∧ I64 p ∧ I64 c ∧ I64 g ∧ I64 v ∧ I64 n ∧ I64 k ∧ Ext w w'
theorem dec_k {l : List Int} {d : List F} {er k : Int} (hw : wordB (-1) l = true) (h : DecF l d er k) : (k = 0 ∧ d.length = l.length - 6 ∧ 0 ≤ er ∧ er ≤ 6) ∨ (k = 25 ∧ d = [] ∧ er = 0) := by
  rcases h.2 hw with ⟨cw, n, h1, h2, h3, h4⟩ | ⟨h1, h2, h3, h4⟩
  · have hn : n ≤ 6 := by have := h1.near; omega
    exact .inl ⟨h4, by rw [h2, List.length_take, h1.len]; omega, by omega, by omega⟩
  · exact .inr ⟨h4, h2, h3⟩
theorem isD_at {p : Nat} {w : World} {A : Option Addr} {n c : Nat} {d : List F} (h : IsI p w (.slice A n c) (wI d)) (hn : d.length = 6) : ∃ b off, A = some ⟨b, off, none⟩ ∧ n = 6 ∧ ∀ k, k < 6 → w.cell? ⟨b, off + k, none⟩ = some (.int .i64 (dz d k)) := by
  have h6 : n = 6 := by have := h.len; rw [wI_len] at this; omega
  obtain ⟨b, off, rfl, _⟩ := isF_at h (k := 0) (by omega)
  refine ⟨b, off, rfl, h6, fun k hk => ?_⟩
  obtain ⟨b', off', h1, h2⟩ := isF_at h (k := k) (by omega)
  injection h1 with h1
  injection h1 with hb ho
  subst hb; subst ho
  exact h2
set_option maxRecDepth 100000 in
set_option maxHeartbeats 4000000 in
theorem read_any (s : ByteArray) (w : World) (hT : Tabs w) : Calls Tryd.prog 30 #[.string s] w (ReadRet (bl s) w) := by
  have HT : Bx (Tabs w) := ⟨hT⟩
  clear hT
  have HE0 : Bx (Ext w (w.alloc (.cells #[.int .i64 0, .int .i64 0, .int .i64 0, .int .i64 0] 26))) := ⟨(Ext.refl _).alloc _⟩
  go_enter Tryd.func30, Tryd.ntmps30
  go_wp2_with fail
  refine (upright_any s _).mono ?_
  rintro e w1 ⟨t, k, rfl, hk, ht, hx1⟩
  have hbk := hx1.blk (heap_alloc_new w _)
  have HX : Bx (Ext w w1) := ⟨HE0.out.trans hx1⟩
  have HBT : Bx (bl t = uprS (bl s)) := ⟨ht⟩
  have HK : Bx (k = uprE (bl s)) := ⟨hk⟩
  have HBK : Bx (w1.heap[w.heap.size]? = some (.cells #[.int .i64 0, .int .i64 0, .int .i64 0, .int .i64 0] 26 (0, 0))) := ⟨hbk⟩
  clear hx1 ht hk hbk HE0
  by_cases hu : k = 0
  · subst hu
    have HST : Bx (stripB (bl t) = true) := ⟨by rw [HBT.out]; exact upr_strip HK.out.symm⟩
    go_wp2_with fail
    refine (word_str t _).mono ?_
    rintro e w2 ⟨A2, n2, c2, k2, rfl, hk2, hi2, hx2⟩
    rw [(wrd_yes HST.out).2] at hk2
    rw [(wrd_yes HST.out).1, HBT.out] at hi2
    subst hk2
    have HI : Bx (IsI w2.heap.size w2 (.slice A2 n2 c2) (wordL (uprS (bl s)))) := ⟨hi2⟩
    replace HX : Bx (Ext w w2) := ⟨HX.out.trans hx2⟩
    replace HBK : Bx (w2.heap[w.heap.size]? = some (.cells #[.int .i64 0, .int .i64 0, .int .i64 0, .int .i64 0] 26 (0, 0))) := ⟨hx2.blk HBK.out⟩
    clear hi2 hx2
    go_wp2_with fail
    refine (dec_r _ _ _ (HT.out.ext HX.out) HI.out).mono ?_
    rintro e w3 ⟨A3, n3, c3, d, er, kk, rfl, hi3, hx3, f3, t3⟩
    have HDF : Bx (DecF (wordL (uprS (bl s))) d er kk) := ⟨⟨f3, t3⟩⟩
    have HI3 : Bx (IsI w3.heap.size w3 (.slice A3 n3 c3) (wI d)) := ⟨hi3⟩
    replace HX : Bx (Ext w w3) := ⟨HX.out.trans hx3⟩
    replace HBK : Bx (w3.heap[w.heap.size]? = some (.cells #[.int .i64 0, .int .i64 0, .int .i64 0, .int .i64 0] 26 (0, 0))) := ⟨hx3.blk HBK.out⟩
    have HWW : Bx (wordB (-1) (wordL (uprS (bl s))) = true) := ⟨word_strip (by rw [← HBT.out]; exact HST.out)⟩
    clear hi3 hx3 f3 t3 HI
    have z0 := blk_cell HBK.out (i := 0) rfl
    have z1 := blk_cell HBK.out (i := 1) rfl
    have z2 := blk_cell HBK.out (i := 2) rfl
    have z3 := blk_cell HBK.out (i := 3) rfl
    have f0 := blk_frozen HBK.out 0
    have f1 := blk_frozen HBK.out 1
    have f2 := blk_frozen HBK.out 2
    have f3 := blk_frozen HBK.out 3
    rcases dec_k HWW.out HDF.out with ⟨rfl, hl, her0, her6⟩ | ⟨rfl, hd, he⟩
    · rw [wordL_len] at hl
      obtain ⟨b, off, rfl, rfl, hcd⟩ := isD_at HI3.out hl
      have c0 := hcd 0 (by omega)
      have c1 := hcd 1 (by omega)
      have c2 := hcd 2 (by omega)
      have c3 := hcd 3 (by omega)
      have c4 := hcd 4 (by omega)
      have c5 := hcd 5 (by omega)
      rw [Nat.add_zero] at c0
      clear hcd hl
      obtain ⟨d0l, d0h⟩ := dz_bd d 0
      obtain ⟨d1l, d1h⟩ := dz_bd d 1
      obtain ⟨d2l, d2h⟩ := dz_bd d 2
      obtain ⟨d3l, d3h⟩ := dz_bd d 3
      obtain ⟨d4l, d4h⟩ := dz_bd d 4
      obtain ⟨d5l, d5h⟩ := dz_bd d 5
      have HCZ : Bx ((dz d 1 * 32 + dz d 2) * 32 + dz d 3 = candZ d) := ⟨by unfold candZ; omega⟩
      have HRF : Bx (∀ p c g v n k, (9999 < candZ d → p = 0 ∧ c = 0 ∧ g = 0 ∧ v = 0 ∧ n = 0 ∧ k = 2) → (candZ d ≤ 9999 → p = dz d 0 ∧ c = candZ d ∧ g = dz d 4 ∧ v = dz d 5 ∧ n = er ∧ k = 0) → ReadF (bl s) p c g v n k) := ⟨fun p c g v n k g1 g2 => ⟨fun h => absurd HK.out.symm h, fun _ => ⟨d, er, 0, HDF.out, fun h => absurd rfl h, fun _ => ⟨g1, g2⟩⟩⟩⟩
      generalize dz d 0 = x0 at *
      generalize dz d 1 = x1 at *
      generalize dz d 2 = x2 at *
      generalize dz d 3 = x3 at *
      generalize dz d 4 = x4 at *
      generalize dz d 5 = x5 at *
      generalize candZ d = cz at *
      have e1 : IntKind.i64.wrap (x1 * 32) = x1 * 32 := IntWalk.i64_in _ (by omega)
      have e2 : IntKind.i64.wrap (x1 * 32 + x2) = x1 * 32 + x2 := IntWalk.i64_in _ (by omega)
      have e3 : IntKind.i64.wrap ((x1 * 32 + x2) * 32) = (x1 * 32 + x2) * 32 := IntWalk.i64_in _ (by omega)
      have e4 : IntKind.i64.wrap ((x1 * 32 + x2) * 32 + x3) = cz := by rw [IntWalk.i64_in _ (by omega)]; exact HCZ.out
      have hz1 : cz ≤ 32767 := by have := HCZ.out; omega
      have hz0 : 0 ≤ cz := by have := HCZ.out; omega
      clear HT HI3 HDF HWW HBT HK HST
      go_wp2_with fail
      go_quiet (fail)
      clear e1 e2 e3 e4
      replace HBK : Bx ((w3.drewN nq).heap[w.heap.size]? = some (.cells #[.int .i64 0, .int .i64 0, .int .i64 0, .int .i64 0] 26 (0, 0))) := HBK
      replace HX : Bx (Ext w (w3.drewN nq)) := ⟨HX.out.drewN _⟩
      replace c0 : (w3.drewN nq).cell? ⟨b, off, none⟩ = _ := c0
      replace c4 : (w3.drewN nq).cell? ⟨b, off + 4, none⟩ = _ := c4
      replace c5 : (w3.drewN nq).cell? ⟨b, off + 5, none⟩ = _ := c5
      replace z0 : (w3.drewN nq).cell? ⟨w.heap.size, 0, none⟩ = _ := z0
      replace z1 : (w3.drewN nq).cell? ⟨w.heap.size, 1, none⟩ = _ := z1
      replace z2 : (w3.drewN nq).cell? ⟨w.heap.size, 2, none⟩ = _ := z2
      replace z3 : (w3.drewN nq).cell? ⟨w.heap.size, 3, none⟩ = _ := z3
      replace f0 : (w3.drewN nq).frozen? ⟨w.heap.size, 0, none⟩ = _ := f0
      replace f1 : (w3.drewN nq).frozen? ⟨w.heap.size, 1, none⟩ = _ := f1
      replace f2 : (w3.drewN nq).frozen? ⟨w.heap.size, 2, none⟩ = _ := f2
      replace f3 : (w3.drewN nq).frozen? ⟨w.heap.size, 3, none⟩ = _ := f3
      clear c1 c2 c3
      generalize w3.drewN nq = w4 at *
      clear HCZ
      by_cases hcz : 9999 < cz
      · go_wp2_with fail
        refine bodyPost_ret (v := .tuple #[.agg #[.int .i64 0, .int .i64 0, .int .i64 0, .int .i64 0], .int .i64 0, .int .i64 2]) (by simp [results, Tryd.results30, go_sem, z0, z1, z2, z3]) rfl ⟨0, 0, 0, 0, 0, 2, rfl, HRF.out _ _ _ _ _ _ (fun _ => ⟨rfl, rfl, rfl, rfl, rfl, rfl⟩) (fun h => by omega), by decide, by decide, by decide, by decide, by decide, by decide, ?_⟩
        exact (((HX.out.setCell (Nat.le_refl _) _).setCell (Nat.le_refl _) _).setCell (Nat.le_refl _) _).setCell (Nat.le_refl _) _
      · go_wp2_with fail
        go_region
        go_wp2_with fail
        refine bodyPost_ret (v := .tuple #[.agg #[.int .i64 x0, .int .i64 cz, .int .i64 x4, .int .i64 x5], .int .i64 er, .int .i64 0]) (by simp [results, Tryd.results30, go_sem, z0, z1, z2, z3]) rfl ⟨x0, cz, x4, x5, er, 0, rfl, HRF.out _ _ _ _ _ _ (fun h => by omega) (fun _ => ⟨rfl, rfl, rfl, rfl, rfl, rfl⟩), ⟨by omega, by omega⟩, ⟨by omega, by omega⟩, ⟨by omega, by omega⟩, ⟨by omega, by omega⟩, ⟨by omega, by omega⟩, by decide, ?_⟩
        exact Ext.drew ((((HX.out.setCell (Nat.le_refl _) _).setCell (Nat.le_refl _) _).setCell (Nat.le_refl _) _).setCell (Nat.le_refl _) _)
    · subst hd; subst he
      have HRF : Bx (ReadF (bl s) 0 0 0 0 0 25) := ⟨⟨fun h => absurd HK.out.symm h, fun _ => ⟨[], 0, 25, HDF.out, fun _ => ⟨rfl, rfl, rfl, rfl, rfl, rfl⟩, fun h => by omega⟩⟩⟩
      clear HT HI3 HDF HWW HBT HK HST
      go_wp2_with fail
      refine bodyPost_ret (v := .tuple #[.agg #[.int .i64 0, .int .i64 0, .int .i64 0, .int .i64 0], .int .i64 0, .int .i64 25]) (by simp [results, Tryd.results30, go_sem, z0, z1, z2, z3]) rfl ⟨0, 0, 0, 0, 0, 25, rfl, HRF.out, by decide, by decide, by decide, by decide, by decide, by decide, ?_⟩
      exact (((HX.out.setCell (Nat.le_refl _) _).setCell (Nat.le_refl _) _).setCell (Nat.le_refl _) _).setCell (Nat.le_refl _) _
  · have e1 : (k != 0) = true := bne_iff_ne.2 hu
    have HRF : Bx (ReadF (bl s) 0 0 0 0 0 k) := ⟨⟨fun _ => ⟨rfl, rfl, rfl, rfl, rfl, HK.out⟩, fun h => absurd (HK.out.trans h) hu⟩⟩
    have hk : I64 k := by
      have := HK.out
      unfold uprE at this
      constructor <;> (split at this <;> (try split at this) <;> (try split at this) <;> omega)
    have HKI : Bx (I64 k) := ⟨hk⟩
    have z0 := blk_cell HBK.out (i := 0) rfl
    have z1 := blk_cell HBK.out (i := 1) rfl
    have z2 := blk_cell HBK.out (i := 2) rfl
    have z3 := blk_cell HBK.out (i := 3) rfl
    have f0 := blk_frozen HBK.out 0
    have f1 := blk_frozen HBK.out 1
    have f2 := blk_frozen HBK.out 2
    have f3 := blk_frozen HBK.out 3
    clear HT HBT HK hk
    go_wp2_with fail
    refine bodyPost_ret (v := .tuple #[.agg #[.int .i64 0, .int .i64 0, .int .i64 0, .int .i64 0], .int .i64 0, .int .i64 k]) (by simp [results, Tryd.results30, go_sem, z0, z1, z2, z3]) rfl ⟨0, 0, 0, 0, 0, k, rfl, HRF.out, by decide, by decide, by decide, by decide, by decide, HKI.out, ?_⟩
    exact (((HX.out.setCell (Nat.le_refl _) _).setCell (Nat.le_refl _) _).setCell (Nat.le_refl _) _).setCell (Nat.le_refl _) _
end Go.Proofs.YtcpanmonllhmaaaDoor
