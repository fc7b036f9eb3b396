/- The walk of the law RscodeDecodes. -/
import Derived.Test.YtlabmdekdhjofaaDoorLawRsG
namespace Go.Proofs.YtlabmdekdhjofaaDoor
open Go.RowKit

def DecF (l : List Int) (d : List F) (er k : Int) : Prop :=
  (wordB (-1) l = false → d = [] ∧ er = 0 ∧ k = 2) ∧ (wordB (-1) l = true → (∃ (cw : List F) (n : Nat), Near l cw n ∧ d = cw.take (l.length - 6) ∧ er = n ∧ k = 0) ∨ ((∀ cw n, ¬ Near l cw n) ∧ d = [] ∧ er = 0 ∧ k = 25))
theorem dec_same {l : List Int} {d d' : List F} {er er' k k' : Int} (h : DecF l d er k) (h' : DecF l d' er' k') : d = d' ∧ er = er' ∧ k = k' := by
  rcases Bool.eq_false_or_eq_true (wordB (-1) l) with hb | hb
  · have h15 := (word_mem hb).2.1
    rcases h.2 hb with ⟨c, n, h1, h2, h3, h4⟩ | ⟨h1, h2, h3, h4⟩ <;> rcases h'.2 hb with ⟨c', n', g1, g2, g3, g4⟩ | ⟨g1, g2, g3, g4⟩
    · obtain ⟨rfl, rfl⟩ := near_uniq (by omega) h1 g1
      exact ⟨by rw [h2, g2], by rw [h3, g3], by rw [h4, g4]⟩
    · exact absurd h1 (g1 _ _)
    · exact absurd g1 (h1 _ _)
    · exact ⟨by rw [h2, g2], by rw [h3, g3], by rw [h4, g4]⟩
  · obtain ⟨h2, h3, h4⟩ := h.1 hb
    obtain ⟨g2, g3, g4⟩ := h'.1 hb
    exact ⟨by rw [h2, g2], by rw [h3, g3], by rw [h4, g4]⟩

set_option maxRecDepth 100000 in
set_option maxHeartbeats 4000000 in
theorem walkRscodeDecodes (v0 : Value) (l0 : List Int) (v1 : Value) (l1 : List Int) (w : World) (h0 : IsI w.heap.size w v0 l0) (h1 : IsI w.heap.size w v1 l1) (hT : Tabs w) :
    Calls Tryd.prog 8 #[v0, v1] w fun e w' => e = .returned (.bool true) ∧ Ext w w' := by
  obtain ⟨A, n0, c, rfl, hnc, hc, hnn, HL⟩ := h0.open_
  have H0 := Lib.hid h0
  have H1 := Lib.hid h1
  have HT := Lib.hid hT
  have b2 : 2 ≤ w.heap.size := hT.lt
  clear h0 h1 hT
  by_cases h15 : 15 < n0
  · replace H0 := Lib.hid (H0.out.take (k := 15) (by omega))
    generalize l0.take 15 = l0 at *
    go_enter Tryd.func8, Tryd.ntmps8
    go_upto_region 3 with (fail)
    go_wp2_with fail
    refine (new_any _ l1 _ H1.out).mono ?_
    rintro e w1 ⟨rfl, HT1, HE1⟩
    have hlt1 := HT1.lt
    go_wp2_with fail
    refine (range_any _ 0 5 _ HT1 (by omega) (by omega) (by omega) (by omega)).mono ?_
    rintro e wa ⟨va, rfl, ⟨a, rfl, ha0, ha1⟩, HTa, HXa⟩
    obtain ⟨a, rfl⟩ := Int.eq_ofNat_of_zero_le ha0
    go_wp2_with fail
    refine (range_any _ 0 7 _ HTa (by omega) (by omega) (by omega) (by omega)).mono ?_
    rintro e wb ⟨vb, rfl, ⟨b, rfl, hb0, hb1⟩, HTb, HXb⟩
    obtain ⟨b, rfl⟩ := Int.eq_ofNat_of_zero_le hb0
    go_wp2_with fail
    refine (word_any w.heap.size a b _ HTb (by omega) (by omega)).mono ?_
    rintro e w3 ⟨fd, lx, ord, g, n, cx, Ad, nd, cd, rfl, hfd, hn1, hn9, hnn', hcx1, hcx2, hcd1, hcd2, hod, hox, hlx, hpm, hdm, HT3, HX3⟩
    have hel : (encF fd).length = n := by rw [encF_len]; omega
    have HBN := Lib.hid (hdm.bnd hpm hel)
    have HE3 := Lib.hid (((HXa.trans HXb).trans HX3).fresh HE1 (Nat.le_refl _))
    have hsa := HXa.size
    have hsb := HXb.size
    have hsz3 := HX3.size
    have HOX := Lib.hid hox
    have HLX := Lib.hid hlx
    have hn7 : 7 ≤ n := by omega
    have hn15 : n ≤ 15 := by omega
    have hgb : wb.heap.size ≤ g := (hox.lt g rfl).1
    clear hod hox hlx HXa HXb HX3 HT1 HTa HTb HE1 hpm hdm hel hnn' hfd
    go_wp2_with fail
    refine (one_any _ 12 _ HT3 (by omega) (by omega)).mono ?_
    rintro e w6 ⟨v6, rfl, ⟨b6, rfl⟩, HT6, HX6⟩
    have HO6 := Lib.hid (own_xt HOX.out HX6 (by omega))
    have HE6 := Lib.hid (HX6.fresh HE3.out (Nat.le_refl _))
    have hs6 := HX6.size
    have hs3 := HE3.out.size
    clear HX6 HT3 HOX
    cases b6 with
    | false =>
      have HXI : Hid (IsI w6.heap.size w6 (.slice (some ⟨g, 0, none⟩) n cx) lx) := own_isZ HO6.out (fun x hx => by have := HBN.out x hx; constructor <;> omega) (by rw [HLX.out]; omega)
      clear HO6
      go_wp2_with fail
      refine (dec_r _ l0 _ (HT.out.ext HE6.out) (H0.out.ext HE6.out)).mono ?_
      rintro e x1 ⟨A1, m1, c1, d1, er1, k1, rfl, hi1, hx1, f1, t1⟩
      have HR1 := Lib.hid hi1
      have HF1 := Lib.hid (And.intro f1 t1)
      have HE1 := Lib.hid (Ext.trans HE6.out hx1)
      have HID := Lib.hid (IsI.ext HXI.out hx1)
      clear hi1 f1 t1 hx1
      go_wp2_with fail
      refine (rdecode_any _ l0 _ (H0.out.ext HE1.out)).mono ?_
      rintro e x2 ⟨A2, m2, c2, d2, er2, k2, rfl, hi2, hx2, f2, t2⟩
      obtain ⟨hd, he, hk⟩ := dec_same HF1.out ⟨f2, t2⟩
      subst hd; subst he; subst hk
      have HR2 := Lib.hid hi2
      replace HR1 := Lib.hid (HR1.out.ext hx2)
      replace HE1 := Lib.hid (HE1.out.trans hx2)
      replace HID := Lib.hid (HID.out.ext hx2)
      clear hi2 f2 t2 hx2 HF1
      go_wp2_with fail
      refine (dec_r _ lx _ (HT.out.ext HE1.out) HID.out).mono ?_
      rintro e x3 ⟨A3, m3, c3, d3, er3, k3, rfl, hi3, hx3, f3, t3⟩
      have HR3 := Lib.hid hi3
      have HF3 := Lib.hid (And.intro f3 t3)
      replace HR1 := Lib.hid (HR1.out.ext hx3)
      replace HR2 := Lib.hid (HR2.out.ext hx3)
      replace HE1 := Lib.hid (HE1.out.trans hx3)
      replace HID := Lib.hid (HID.out.ext hx3)
      clear hi3 f3 t3 hx3
      go_wp2_with fail
      refine (rdecode_any _ lx _ HID.out).mono ?_
      rintro e x4 ⟨A4, m4, c4, d4, er4, k4, rfl, hi4, hx4, f4, t4⟩
      obtain ⟨hd, he, hk⟩ := dec_same HF3.out ⟨f4, t4⟩
      subst hd; subst he; subst hk
      have HR4 := Lib.hid hi4
      replace HR1 := Lib.hid (HR1.out.ext hx4)
      replace HR2 := Lib.hid (HR2.out.ext hx4)
      replace HR3 := Lib.hid (HR3.out.ext hx4)
      replace HE1 := Lib.hid (HE1.out.trans hx4)
      clear hi4 f4 t4 hx4 HID HF3
      go_wp2_with fail
      refine (ints_ext _ _ (wI d1) (wI d1) _ HR1.out HR2.out).mono ?_
      rintro e x5 ⟨rfl, hx5⟩
      rw [show decide (wI d1 = wI d1) = true by simp]
      replace HR3 := Lib.hid (HR3.out.ext hx5)
      replace HR4 := Lib.hid (HR4.out.ext hx5)
      replace HE1 := Lib.hid (HE1.out.trans hx5)
      clear hx5
      have q0 : (er1 == er1) = true := by simp
      have q1 : (k1 == k1) = true := by simp
      go_wp2_with fail
      refine (ints_ext _ _ (wI d3) (wI d3) _ HR3.out HR4.out).mono ?_
      rintro e x6 ⟨rfl, hx6⟩
      rw [show decide (wI d3 = wI d3) = true by simp]
      replace HE1 := Lib.hid (HE1.out.trans hx6)
      clear hx6 q0 q1
      have q0 : (er3 == er3) = true := by simp
      have q1 : (k3 == k3) = true := by simp
      go_wp2_with fail
      refine (awake18_any _ (HT.out.ext HE1.out)).mono ?_
      rintro e x7 ⟨rfl, hx7⟩
      go_wp2_with fail
      go_ret
      exact ⟨rfl, HE1.out.trans hx7⟩
    | true =>
      go_wp2_with fail
      refine (next_any _ (n : Int) _ HT6 (by omega)).mono ?_
      rintro e w7 ⟨v7, rfl, ⟨r, rfl, hr0, hr1⟩, HT7, HX7⟩
      obtain ⟨r, rfl⟩ := Int.eq_ofNat_of_zero_le hr0
      replace hr1 : r < n := by omega
      have HE7 := Lib.hid (HX7.fresh HE6.out (Nat.le_refl _))
      have HO7 := Lib.hid (own_xt HO6.out HX7 (by omega))
      have hs7 := HX7.size
      clear HX7
      have HPL : Hid (IsI w.heap.size (w7.alloc (.cells #[.int .i64 (-2), .int .i64 32] 3)) (.slice (some ⟨w7.heap.size, 0, none⟩) 2 2) [-2, 32]) := IsI.lit [-2, 32] 3 (by omega) (by decide) (by decide)
      go_wp2_with fail
      refine (pick_any _ _ [-2, 32] _ (HT7.ext ((Ext.refl _).alloc _)) HPL.out (by simp)).mono ?_
      rintro e w8 ⟨v8, rfl, ⟨y, rfl, hy⟩, HT8, HX8⟩
      have HO8 := Lib.hid (own_xt (HO7.out.alloc _) HX8 (by omega))
      have HE8 := Lib.hid (HX8.fresh (HE7.out.alloc _) (Nat.le_refl _))
      have hyb : -2 ≤ y ∧ y ≤ 32 := by simp at hy; omega
      obtain ⟨z, hz⟩ : ∃ z, lx[r]? = some z := ⟨_, List.getElem?_eq_getElem (by rw [HLX.out]; exact hr1)⟩
      have c1 : w8.cell? ⟨g, r, none⟩ = some (.int .i64 z) := by rw [HO8.out.cellAt r (by omega)]; simp [hz]
      have c2 := HO8.out.frozenAt r
      have HO9 := Lib.hid (own_set (k := r) (x := y) HO8.out)
      have HE9 := Lib.hid (HE8.out.setCell (p := ⟨g, r, none⟩) (by simp; omega) (.int .i64 y))
      obtain ⟨le, hle⟩ : ∃ le, le = lx.set r y := ⟨_, rfl⟩
      rw [← hle] at HO9
      have HDI : Hid (IsI (w8.setCell ⟨g, r, none⟩ (.int .i64 y)).heap.size (w8.setCell ⟨g, r, none⟩ (.int .i64 y)) (.slice (some ⟨g, 0, none⟩) n cx) le) := own_isZ HO9.out (fun x hx => by
        rw [hle] at hx
        rcases List.mem_or_eq_of_mem_set hx with h | h
        · have := HBN.out x h; constructor <;> omega
        · subst h; constructor <;> omega) (by rw [hle, List.length_set, HLX.out]; omega)
      clear hle hy hz HT8 HX8 HT7 HO9 HO8 HO7 HO6 HPL HE8
      go_upto_region 7 with (fail)
      clear c1 c2
      go_wp2_with fail
      refine (dec_r _ l0 _ (HT.out.ext HE9.out) (H0.out.ext HE9.out)).mono ?_
      rintro e x1 ⟨A1, m1, c1, d1, er1, k1, rfl, hi1, hx1, f1, t1⟩
      have HR1 := Lib.hid hi1
      have HF1 := Lib.hid (And.intro f1 t1)
      have HE1 := Lib.hid (Ext.trans HE9.out hx1)
      have HID := Lib.hid (IsI.ext HDI.out hx1)
      clear hi1 f1 t1 hx1
      go_wp2_with fail
      refine (rdecode_any _ l0 _ (H0.out.ext HE1.out)).mono ?_
      rintro e x2 ⟨A2, m2, c2, d2, er2, k2, rfl, hi2, hx2, f2, t2⟩
      obtain ⟨hd, he, hk⟩ := dec_same HF1.out ⟨f2, t2⟩
      subst hd; subst he; subst hk
      have HR2 := Lib.hid hi2
      replace HR1 := Lib.hid (HR1.out.ext hx2)
      replace HE1 := Lib.hid (HE1.out.trans hx2)
      replace HID := Lib.hid (HID.out.ext hx2)
      clear hi2 f2 t2 hx2 HF1
      go_wp2_with fail
      refine (dec_r _ le _ (HT.out.ext HE1.out) HID.out).mono ?_
      rintro e x3 ⟨A3, m3, c3, d3, er3, k3, rfl, hi3, hx3, f3, t3⟩
      have HR3 := Lib.hid hi3
      have HF3 := Lib.hid (And.intro f3 t3)
      replace HR1 := Lib.hid (HR1.out.ext hx3)
      replace HR2 := Lib.hid (HR2.out.ext hx3)
      replace HE1 := Lib.hid (HE1.out.trans hx3)
      replace HID := Lib.hid (HID.out.ext hx3)
      clear hi3 f3 t3 hx3
      go_wp2_with fail
      refine (rdecode_any _ le _ HID.out).mono ?_
      rintro e x4 ⟨A4, m4, c4, d4, er4, k4, rfl, hi4, hx4, f4, t4⟩
      obtain ⟨hd, he, hk⟩ := dec_same HF3.out ⟨f4, t4⟩
      subst hd; subst he; subst hk
      have HR4 := Lib.hid hi4
      replace HR1 := Lib.hid (HR1.out.ext hx4)
      replace HR2 := Lib.hid (HR2.out.ext hx4)
      replace HR3 := Lib.hid (HR3.out.ext hx4)
      replace HE1 := Lib.hid (HE1.out.trans hx4)
      clear hi4 f4 t4 hx4 HID HF3
      go_wp2_with fail
      refine (ints_ext _ _ (wI d1) (wI d1) _ HR1.out HR2.out).mono ?_
      rintro e x5 ⟨rfl, hx5⟩
      rw [show decide (wI d1 = wI d1) = true by simp]
      replace HR3 := Lib.hid (HR3.out.ext hx5)
      replace HR4 := Lib.hid (HR4.out.ext hx5)
      replace HE1 := Lib.hid (HE1.out.trans hx5)
      clear hx5
      have q0 : (er1 == er1) = true := by simp
      have q1 : (k1 == k1) = true := by simp
      go_wp2_with fail
      refine (ints_ext _ _ (wI d3) (wI d3) _ HR3.out HR4.out).mono ?_
      rintro e x6 ⟨rfl, hx6⟩
      rw [show decide (wI d3 = wI d3) = true by simp]
      replace HE1 := Lib.hid (HE1.out.trans hx6)
      clear hx6 q0 q1
      have q0 : (er3 == er3) = true := by simp
      have q1 : (k3 == k3) = true := by simp
      go_wp2_with fail
      refine (awake18_any _ (HT.out.ext HE1.out)).mono ?_
      rintro e x7 ⟨rfl, hx7⟩
      go_wp2_with fail
      go_ret
      exact ⟨rfl, HE1.out.trans hx7⟩
  go_enter Tryd.func8, Tryd.ntmps8
  go_upto_region 3 with (fail)
  go_wp2_with fail
  refine (new_any _ l1 _ H1.out).mono ?_
  rintro e w1 ⟨rfl, HT1, HE1⟩
  have hlt1 := HT1.lt
  go_wp2_with fail
  refine (range_any _ 0 5 _ HT1 (by omega) (by omega) (by omega) (by omega)).mono ?_
  rintro e wa ⟨va, rfl, ⟨a, rfl, ha0, ha1⟩, HTa, HXa⟩
  obtain ⟨a, rfl⟩ := Int.eq_ofNat_of_zero_le ha0
  go_wp2_with fail
  refine (range_any _ 0 7 _ HTa (by omega) (by omega) (by omega) (by omega)).mono ?_
  rintro e wb ⟨vb, rfl, ⟨b, rfl, hb0, hb1⟩, HTb, HXb⟩
  obtain ⟨b, rfl⟩ := Int.eq_ofNat_of_zero_le hb0
  go_wp2_with fail
  refine (word_any w.heap.size a b _ HTb (by omega) (by omega)).mono ?_
  rintro e w3 ⟨fd, lx, ord, g, n, cx, Ad, nd, cd, rfl, hfd, hn1, hn9, hnn', hcx1, hcx2, hcd1, hcd2, hod, hox, hlx, hpm, hdm, HT3, HX3⟩
  have hel : (encF fd).length = n := by rw [encF_len]; omega
  have HBN := Lib.hid (hdm.bnd hpm hel)
  have HE3 := Lib.hid (((HXa.trans HXb).trans HX3).fresh HE1 (Nat.le_refl _))
  have hsa := HXa.size
  have hsb := HXb.size
  have hsz3 := HX3.size
  have HOX := Lib.hid hox
  have HLX := Lib.hid hlx
  have hn7 : 7 ≤ n := by omega
  have hn15 : n ≤ 15 := by omega
  have hgb : wb.heap.size ≤ g := (hox.lt g rfl).1
  clear hod hox hlx HXa HXb HX3 HT1 HTa HTb HE1 hpm hdm hel hnn' hfd
  go_wp2_with fail
  refine (one_any _ 12 _ HT3 (by omega) (by omega)).mono ?_
  rintro e w6 ⟨v6, rfl, ⟨b6, rfl⟩, HT6, HX6⟩
  have HO6 := Lib.hid (own_xt HOX.out HX6 (by omega))
  have HE6 := Lib.hid (HX6.fresh HE3.out (Nat.le_refl _))
  have hs6 := HX6.size
  have hs3 := HE3.out.size
  clear HX6 HT3 HOX
  cases b6 with
  | false =>
    have HXI : Hid (IsI w6.heap.size w6 (.slice (some ⟨g, 0, none⟩) n cx) lx) := own_isZ HO6.out (fun x hx => by have := HBN.out x hx; constructor <;> omega) (by rw [HLX.out]; omega)
    clear HO6
    go_wp2_with fail
    refine (dec_r _ l0 _ (HT.out.ext HE6.out) (H0.out.ext HE6.out)).mono ?_
    rintro e x1 ⟨A1, m1, c1, d1, er1, k1, rfl, hi1, hx1, f1, t1⟩
    have HR1 := Lib.hid hi1
    have HF1 := Lib.hid (And.intro f1 t1)
    have HE1 := Lib.hid (Ext.trans HE6.out hx1)
    have HID := Lib.hid (IsI.ext HXI.out hx1)
    clear hi1 f1 t1 hx1
    go_wp2_with fail
    refine (rdecode_any _ l0 _ (H0.out.ext HE1.out)).mono ?_
    rintro e x2 ⟨A2, m2, c2, d2, er2, k2, rfl, hi2, hx2, f2, t2⟩
    obtain ⟨hd, he, hk⟩ := dec_same HF1.out ⟨f2, t2⟩
    subst hd; subst he; subst hk
    have HR2 := Lib.hid hi2
    replace HR1 := Lib.hid (HR1.out.ext hx2)
    replace HE1 := Lib.hid (HE1.out.trans hx2)
    replace HID := Lib.hid (HID.out.ext hx2)
    clear hi2 f2 t2 hx2 HF1
    go_wp2_with fail
    refine (dec_r _ lx _ (HT.out.ext HE1.out) HID.out).mono ?_
    rintro e x3 ⟨A3, m3, c3, d3, er3, k3, rfl, hi3, hx3, f3, t3⟩
    have HR3 := Lib.hid hi3
    have HF3 := Lib.hid (And.intro f3 t3)
    replace HR1 := Lib.hid (HR1.out.ext hx3)
    replace HR2 := Lib.hid (HR2.out.ext hx3)
    replace HE1 := Lib.hid (HE1.out.trans hx3)
    replace HID := Lib.hid (HID.out.ext hx3)
    clear hi3 f3 t3 hx3
    go_wp2_with fail
    refine (rdecode_any _ lx _ HID.out).mono ?_
    rintro e x4 ⟨A4, m4, c4, d4, er4, k4, rfl, hi4, hx4, f4, t4⟩
    obtain ⟨hd, he, hk⟩ := dec_same HF3.out ⟨f4, t4⟩
    subst hd; subst he; subst hk
    have HR4 := Lib.hid hi4
    replace HR1 := Lib.hid (HR1.out.ext hx4)
    replace HR2 := Lib.hid (HR2.out.ext hx4)
    replace HR3 := Lib.hid (HR3.out.ext hx4)
    replace HE1 := Lib.hid (HE1.out.trans hx4)
    clear hi4 f4 t4 hx4 HID HF3
    go_wp2_with fail
    refine (ints_ext _ _ (wI d1) (wI d1) _ HR1.out HR2.out).mono ?_
    rintro e x5 ⟨rfl, hx5⟩
    rw [show decide (wI d1 = wI d1) = true by simp]
    replace HR3 := Lib.hid (HR3.out.ext hx5)
    replace HR4 := Lib.hid (HR4.out.ext hx5)
    replace HE1 := Lib.hid (HE1.out.trans hx5)
    clear hx5
    have q0 : (er1 == er1) = true := by simp
    have q1 : (k1 == k1) = true := by simp
    go_wp2_with fail
    refine (ints_ext _ _ (wI d3) (wI d3) _ HR3.out HR4.out).mono ?_
    rintro e x6 ⟨rfl, hx6⟩
    rw [show decide (wI d3 = wI d3) = true by simp]
    replace HE1 := Lib.hid (HE1.out.trans hx6)
    clear hx6 q0 q1
    have q0 : (er3 == er3) = true := by simp
    have q1 : (k3 == k3) = true := by simp
    go_wp2_with fail
    refine (awake18_any _ (HT.out.ext HE1.out)).mono ?_
    rintro e x7 ⟨rfl, hx7⟩
    go_wp2_with fail
    go_ret
    exact ⟨rfl, HE1.out.trans hx7⟩
  | true =>
    go_wp2_with fail
    refine (next_any _ (n : Int) _ HT6 (by omega)).mono ?_
    rintro e w7 ⟨v7, rfl, ⟨r, rfl, hr0, hr1⟩, HT7, HX7⟩
    obtain ⟨r, rfl⟩ := Int.eq_ofNat_of_zero_le hr0
    replace hr1 : r < n := by omega
    have HE7 := Lib.hid (HX7.fresh HE6.out (Nat.le_refl _))
    have HO7 := Lib.hid (own_xt HO6.out HX7 (by omega))
    have hs7 := HX7.size
    clear HX7
    have HPL : Hid (IsI w.heap.size (w7.alloc (.cells #[.int .i64 (-2), .int .i64 32] 3)) (.slice (some ⟨w7.heap.size, 0, none⟩) 2 2) [-2, 32]) := IsI.lit [-2, 32] 3 (by omega) (by decide) (by decide)
    go_wp2_with fail
    refine (pick_any _ _ [-2, 32] _ (HT7.ext ((Ext.refl _).alloc _)) HPL.out (by simp)).mono ?_
    rintro e w8 ⟨v8, rfl, ⟨y, rfl, hy⟩, HT8, HX8⟩
    have HO8 := Lib.hid (own_xt (HO7.out.alloc _) HX8 (by omega))
    have HE8 := Lib.hid (HX8.fresh (HE7.out.alloc _) (Nat.le_refl _))
    have hyb : -2 ≤ y ∧ y ≤ 32 := by simp at hy; omega
    obtain ⟨z, hz⟩ : ∃ z, lx[r]? = some z := ⟨_, List.getElem?_eq_getElem (by rw [HLX.out]; exact hr1)⟩
    have c1 : w8.cell? ⟨g, r, none⟩ = some (.int .i64 z) := by rw [HO8.out.cellAt r (by omega)]; simp [hz]
    have c2 := HO8.out.frozenAt r
    have HO9 := Lib.hid (own_set (k := r) (x := y) HO8.out)
    have HE9 := Lib.hid (HE8.out.setCell (p := ⟨g, r, none⟩) (by simp; omega) (.int .i64 y))
    obtain ⟨le, hle⟩ : ∃ le, le = lx.set r y := ⟨_, rfl⟩
    rw [← hle] at HO9
    have HDI : Hid (IsI (w8.setCell ⟨g, r, none⟩ (.int .i64 y)).heap.size (w8.setCell ⟨g, r, none⟩ (.int .i64 y)) (.slice (some ⟨g, 0, none⟩) n cx) le) := own_isZ HO9.out (fun x hx => by
      rw [hle] at hx
      rcases List.mem_or_eq_of_mem_set hx with h | h
      · have := HBN.out x h; constructor <;> omega
      · subst h; constructor <;> omega) (by rw [hle, List.length_set, HLX.out]; omega)
    clear hle hy hz HT8 HX8 HT7 HO9 HO8 HO7 HO6 HPL HE8
    go_upto_region 7 with (fail)
    clear c1 c2
    go_wp2_with fail
    refine (dec_r _ l0 _ (HT.out.ext HE9.out) (H0.out.ext HE9.out)).mono ?_
    rintro e x1 ⟨A1, m1, c1, d1, er1, k1, rfl, hi1, hx1, f1, t1⟩
    have HR1 := Lib.hid hi1
    have HF1 := Lib.hid (And.intro f1 t1)
    have HE1 := Lib.hid (Ext.trans HE9.out hx1)
    have HID := Lib.hid (IsI.ext HDI.out hx1)
    clear hi1 f1 t1 hx1
    go_wp2_with fail
    refine (rdecode_any _ l0 _ (H0.out.ext HE1.out)).mono ?_
    rintro e x2 ⟨A2, m2, c2, d2, er2, k2, rfl, hi2, hx2, f2, t2⟩
    obtain ⟨hd, he, hk⟩ := dec_same HF1.out ⟨f2, t2⟩
    subst hd; subst he; subst hk
    have HR2 := Lib.hid hi2
    replace HR1 := Lib.hid (HR1.out.ext hx2)
    replace HE1 := Lib.hid (HE1.out.trans hx2)
    replace HID := Lib.hid (HID.out.ext hx2)
    clear hi2 f2 t2 hx2 HF1
    go_wp2_with fail
    refine (dec_r _ le _ (HT.out.ext HE1.out) HID.out).mono ?_
    rintro e x3 ⟨A3, m3, c3, d3, er3, k3, rfl, hi3, hx3, f3, t3⟩
    have HR3 := Lib.hid hi3
    have HF3 := Lib.hid (And.intro f3 t3)
    replace HR1 := Lib.hid (HR1.out.ext hx3)
    replace HR2 := Lib.hid (HR2.out.ext hx3)
    replace HE1 := Lib.hid (HE1.out.trans hx3)
    replace HID := Lib.hid (HID.out.ext hx3)
    clear hi3 f3 t3 hx3
    go_wp2_with fail
    refine (rdecode_any _ le _ HID.out).mono ?_
    rintro e x4 ⟨A4, m4, c4, d4, er4, k4, rfl, hi4, hx4, f4, t4⟩
    obtain ⟨hd, he, hk⟩ := dec_same HF3.out ⟨f4, t4⟩
    subst hd; subst he; subst hk
    have HR4 := Lib.hid hi4
    replace HR1 := Lib.hid (HR1.out.ext hx4)
    replace HR2 := Lib.hid (HR2.out.ext hx4)
    replace HR3 := Lib.hid (HR3.out.ext hx4)
    replace HE1 := Lib.hid (HE1.out.trans hx4)
    clear hi4 f4 t4 hx4 HID HF3
    go_wp2_with fail
    refine (ints_ext _ _ (wI d1) (wI d1) _ HR1.out HR2.out).mono ?_
    rintro e x5 ⟨rfl, hx5⟩
    rw [show decide (wI d1 = wI d1) = true by simp]
    replace HR3 := Lib.hid (HR3.out.ext hx5)
    replace HR4 := Lib.hid (HR4.out.ext hx5)
    replace HE1 := Lib.hid (HE1.out.trans hx5)
    clear hx5
    have q0 : (er1 == er1) = true := by simp
    have q1 : (k1 == k1) = true := by simp
    go_wp2_with fail
    refine (ints_ext _ _ (wI d3) (wI d3) _ HR3.out HR4.out).mono ?_
    rintro e x6 ⟨rfl, hx6⟩
    rw [show decide (wI d3 = wI d3) = true by simp]
    replace HE1 := Lib.hid (HE1.out.trans hx6)
    clear hx6 q0 q1
    have q0 : (er3 == er3) = true := by simp
    have q1 : (k3 == k3) = true := by simp
    go_wp2_with fail
    refine (awake18_any _ (HT.out.ext HE1.out)).mono ?_
    rintro e x7 ⟨rfl, hx7⟩
    go_wp2_with fail
    go_ret
    exact ⟨rfl, HE1.out.trans hx7⟩
end Go.Proofs.YtlabmdekdhjofaaDoor
