/- The walk of the law RscodeEncodes. -/
import Derived.Test.YtlabmdekdhjofaaDoorRsU
namespace Go.Proofs.YtlabmdekdhjofaaDoor
open Go.RowKit

theorem own_isZ {w : World} {base n : Nat} {v : Value} {l : List Int} (h : w.ownsRow base 3 1 v n (l.map (Value.int .i64))) (hb : ∀ x ∈ l, I64 x) (hl : l.length ≤ 9223372036854775807) : IsI w.heap.size w v l :=
  IsI.of_own' (p := w.heap.size) (e := 3) h (fun e => by have := (h.lt _ e).2; omega) hb hl
theorem own_isL {w : World} {base n : Nat} {v : Value} {l : List Int} (h : w.ownsRow base 3 1 v n ((encL l).map (Value.int .i64))) : IsI w.heap.size w v (encL l) :=
  own_isZ h (encL_i64 l) (by unfold encL; split <;> rename_i hd
                             · have := data_mem hd; rw [wI_len, encF_len, toF_len]; omega
                             · simp)

set_option maxRecDepth 100000 in
set_option maxHeartbeats 4000000 in
theorem walkRscodeEncodes (v0 : Value) (l0 : List Int) (v1 : Value) (l1 : List Int) (w : World) (h0 : IsI w.heap.size w v0 l0) (h1 : IsI w.heap.size w v1 l1) (hT : Tabs w) :
    Calls Tryd.prog 6 #[v0, v1] w fun e w' => e = .returned (.bool true) ∧ Ext w w' := by
  obtain ⟨A, n0, c, rfl, hnc, hc, hnn, HL⟩ := h0.open_
  have H0 := Lib.hid h0
  have H1 := Lib.hid h1
  have HT := Lib.hid hT
  have b2 : 2 ≤ w.heap.size := hT.lt
  clear h0 h1 hT
  by_cases h20 : 20 < n0
  · go_enter Tryd.func6, Tryd.ntmps6
    go_wp2_with fail
    go_ret
    exact ⟨rfl, Ext.refl _⟩
  go_enter Tryd.func6, Tryd.ntmps6
  go_wp2_with fail
  refine (new_any _ l1 _ H1.out).mono ?_
  rintro e w1 ⟨rfl, HT1, HE1⟩
  have hlt1 := HT1.lt
  go_wp2_with fail
  refine (ints_any _ 10 0 31 _ HT1 (by omega) (by omega) (by omega) (by omega) (by omega) (by omega)).mono ?_
  rintro e w2 ⟨v2, rfl, ⟨ld, ho2, hl2, hb2⟩, HT2, HX2⟩
  obtain ⟨Ad, cd, rfl, hcd1, hcd2⟩ := own_shape ho2
  have HBN := Lib.hid hb2
  have HO2 := Lib.hid ho2
  have HE2 := Lib.hid (HX2.fresh HE1 (Nat.le_refl _))
  replace hl2 : ld.length ≤ 10 := by omega
  obtain ⟨nd, hnd⟩ : ∃ nd, nd = ld.length := ⟨_, rfl⟩
  rw [← hnd] at hcd1 hl2 HO2 ⊢
  have HLD := Lib.hid hnd.symm
  have hs12 := HX2.size
  clear ho2 hb2 HX2 HE1 HT1 hnd
  replace HT2 := Lib.hid HT2
  have hs2 := HE2.out.size
  rcases Nat.eq_zero_or_pos nd with h00 | h00
  · have HDI : Hid (IsI w2.heap.size w2 (.slice Ad nd cd) ld) := own_isZ HO2.out (fun x hx => by have := HBN.out x hx; constructor <;> omega) (by have := HLD.out; omega)
    subst h00
    go_upto_if 28 with (fail)
    have HID := Lib.hid (IsI.ext HDI.out (Ext.refl _))
    go_wp2_with fail
    refine (enc_slice _ l0 _ (HT.out.ext HE2.out) (H0.out.ext HE2.out)).mono ?_
    rintro e x1 ⟨A1, m1, c1, rfl, hm1, hc11, hc12, ho1, hx1⟩
    have HR1 : Hid (IsI x1.heap.size x1 (.slice A1 m1 c1) (encL l0)) := own_isL ho1
    have HE1 := Lib.hid (Ext.trans HE2.out hx1)
    replace HID := Lib.hid (HID.out.ext hx1)
    clear hm1 ho1 hx1
    go_wp2_with fail
    refine (rencode_any _ l0 _ (H0.out.ext HE1.out)).mono ?_
    rintro e x2 ⟨A2, m2, c2, rfl, hm2, hc21, hc22, ho2, hx2⟩
    have HR2 : Hid (IsI x2.heap.size x2 (.slice A2 m2 c2) (encL l0)) := own_isL ho2
    replace HR1 := Lib.hid (HR1.out.ext hx2)
    replace HE1 := Lib.hid (HE1.out.trans hx2)
    replace HID := Lib.hid (HID.out.ext hx2)
    clear hm2 ho2 hx2
    go_wp2_with fail
    refine (enc_slice _ ld _ (HT.out.ext HE1.out) HID.out).mono ?_
    rintro e x3 ⟨A3, m3, c3, rfl, hm3, hc31, hc32, ho3, hx3⟩
    have HR3 : Hid (IsI x3.heap.size x3 (.slice A3 m3 c3) (encL ld)) := own_isL ho3
    replace HR1 := Lib.hid (HR1.out.ext hx3)
    replace HR2 := Lib.hid (HR2.out.ext hx3)
    replace HE1 := Lib.hid (HE1.out.trans hx3)
    replace HID := Lib.hid (HID.out.ext hx3)
    clear hm3 ho3 hx3
    go_wp2_with fail
    refine (rencode_any _ ld _ HID.out).mono ?_
    rintro e x4 ⟨A4, m4, c4, rfl, hm4, hc41, hc42, ho4, hx4⟩
    have HR4 : Hid (IsI x4.heap.size x4 (.slice A4 m4 c4) (encL ld)) := own_isL ho4
    replace HR1 := Lib.hid (HR1.out.ext hx4)
    replace HR2 := Lib.hid (HR2.out.ext hx4)
    replace HR3 := Lib.hid (HR3.out.ext hx4)
    replace HE1 := Lib.hid (HE1.out.trans hx4)
    clear hm4 ho4 hx4 HID
    go_wp2_with fail
    refine (ints_ext _ _ (encL l0) (encL l0) _ HR1.out HR2.out).mono ?_
    rintro e x5 ⟨rfl, hx5⟩
    rw [show decide (encL l0 = encL l0) = true by simp]
    replace HR3 := Lib.hid (HR3.out.ext hx5)
    replace HR4 := Lib.hid (HR4.out.ext hx5)
    replace HE1 := Lib.hid (HE1.out.trans hx5)
    clear hx5
    have q0 : (encE l0 == encE l0) = true := by simp
    go_wp2_with fail
    refine (ints_ext _ _ (encL ld) (encL ld) _ HR3.out HR4.out).mono ?_
    rintro e x6 ⟨rfl, hx6⟩
    rw [show decide (encL ld = encL ld) = true by simp]
    replace HE1 := Lib.hid (HE1.out.trans hx6)
    clear hx6 q0
    have q1 : (encE ld == encE ld) = true := by simp
    go_wp2_with fail
    refine (awake18_any _ (HT.out.ext HE1.out)).mono ?_
    rintro e x7 ⟨rfl, hx7⟩
    go_wp2_with fail
    go_ret
    exact ⟨rfl, HE1.out.trans hx7⟩
  have hg : (0 : Int) < (nd : Int) := by omega
  go_upto_if 28 with (go_at_call 24; refine (one_any _ 8 _ HT2.out (by omega) (by omega)).mono ?_; rintro e w6 ⟨v6, rfl, ⟨b6, rfl⟩, HT6, HX6⟩)
  have HE6 := Lib.hid (HX6.fresh HE2.out (Nat.le_refl _))
  have HO6 := Lib.hid (own_xt HO2.out HX6 (by omega))
  have hs6 := HX6.size
  replace HT6 := Lib.hid HT6
  clear HX6
  cases b6 with
  | false =>
    have HDI : Hid (IsI w6.heap.size w6 (.slice Ad nd cd) ld) := own_isZ HO6.out (fun x hx => by have := HBN.out x hx; constructor <;> omega) (by have := HLD.out; omega)
    have HID := Lib.hid (IsI.ext HDI.out (Ext.refl _))
    go_wp2_with fail
    refine (enc_slice _ l0 _ (HT.out.ext HE6.out) (H0.out.ext HE6.out)).mono ?_
    rintro e x1 ⟨A1, m1, c1, rfl, hm1, hc11, hc12, ho1, hx1⟩
    have HR1 : Hid (IsI x1.heap.size x1 (.slice A1 m1 c1) (encL l0)) := own_isL ho1
    have HE1 := Lib.hid (Ext.trans HE6.out hx1)
    replace HID := Lib.hid (HID.out.ext hx1)
    clear hm1 ho1 hx1
    go_wp2_with fail
    refine (rencode_any _ l0 _ (H0.out.ext HE1.out)).mono ?_
    rintro e x2 ⟨A2, m2, c2, rfl, hm2, hc21, hc22, ho2, hx2⟩
    have HR2 : Hid (IsI x2.heap.size x2 (.slice A2 m2 c2) (encL l0)) := own_isL ho2
    replace HR1 := Lib.hid (HR1.out.ext hx2)
    replace HE1 := Lib.hid (HE1.out.trans hx2)
    replace HID := Lib.hid (HID.out.ext hx2)
    clear hm2 ho2 hx2
    go_wp2_with fail
    refine (enc_slice _ ld _ (HT.out.ext HE1.out) HID.out).mono ?_
    rintro e x3 ⟨A3, m3, c3, rfl, hm3, hc31, hc32, ho3, hx3⟩
    have HR3 : Hid (IsI x3.heap.size x3 (.slice A3 m3 c3) (encL ld)) := own_isL ho3
    replace HR1 := Lib.hid (HR1.out.ext hx3)
    replace HR2 := Lib.hid (HR2.out.ext hx3)
    replace HE1 := Lib.hid (HE1.out.trans hx3)
    replace HID := Lib.hid (HID.out.ext hx3)
    clear hm3 ho3 hx3
    go_wp2_with fail
    refine (rencode_any _ ld _ HID.out).mono ?_
    rintro e x4 ⟨A4, m4, c4, rfl, hm4, hc41, hc42, ho4, hx4⟩
    have HR4 : Hid (IsI x4.heap.size x4 (.slice A4 m4 c4) (encL ld)) := own_isL ho4
    replace HR1 := Lib.hid (HR1.out.ext hx4)
    replace HR2 := Lib.hid (HR2.out.ext hx4)
    replace HR3 := Lib.hid (HR3.out.ext hx4)
    replace HE1 := Lib.hid (HE1.out.trans hx4)
    clear hm4 ho4 hx4 HID
    go_wp2_with fail
    refine (ints_ext _ _ (encL l0) (encL l0) _ HR1.out HR2.out).mono ?_
    rintro e x5 ⟨rfl, hx5⟩
    rw [show decide (encL l0 = encL l0) = true by simp]
    replace HR3 := Lib.hid (HR3.out.ext hx5)
    replace HR4 := Lib.hid (HR4.out.ext hx5)
    replace HE1 := Lib.hid (HE1.out.trans hx5)
    clear hx5
    have q0 : (encE l0 == encE l0) = true := by simp
    go_wp2_with fail
    refine (ints_ext _ _ (encL ld) (encL ld) _ HR3.out HR4.out).mono ?_
    rintro e x6 ⟨rfl, hx6⟩
    rw [show decide (encL ld = encL ld) = true by simp]
    replace HE1 := Lib.hid (HE1.out.trans hx6)
    clear hx6 q0
    have q1 : (encE ld == encE ld) = true := by simp
    go_wp2_with fail
    refine (awake18_any _ (HT.out.ext HE1.out)).mono ?_
    rintro e x7 ⟨rfl, hx7⟩
    go_wp2_with fail
    go_ret
    exact ⟨rfl, HE1.out.trans hx7⟩
  | true =>
    obtain ⟨g, rfl⟩ : ∃ g, Ad = some ⟨g, 0, none⟩ := by
      rcases HO6.out.2 with ⟨e, h0⟩ | ⟨g', cap', cur, e, _⟩
      · omega
      · injection e with e1; exact ⟨g', e1⟩
    go_wp2_with fail
    refine (next_any _ (nd : Int) _ HT6.out (by omega)).mono ?_
    rintro e w7 ⟨v7, rfl, ⟨r, rfl, hr0, hr1⟩, HT7, HX7⟩
    obtain ⟨r, rfl⟩ := Int.eq_ofNat_of_zero_le hr0
    replace hr1 : r < nd := by omega
    have hg1 : w1.heap.size ≤ g := (HO6.out.lt g rfl).1
    have HE7 := Lib.hid (HX7.fresh HE6.out (Nat.le_refl _))
    have HO7 := Lib.hid (own_xt HO6.out HX7 (by omega))
    have hs7 := HX7.size
    clear HX7
    have HPL : Hid (IsI w.heap.size (w7.alloc (.cells #[.int .i64 (-1), .int .i64 32, .int .i64 31] 3)) (.slice (some ⟨w7.heap.size, 0, none⟩) 3 3) [-1, 32, 31]) := IsI.lit [-1, 32, 31] 3 (by omega) (by decide) (by decide)
    go_wp2_with fail
    refine (pick_any _ _ [-1, 32, 31] _ (HT7.ext ((Ext.refl _).alloc _)) HPL.out (by simp)).mono ?_
    rintro e w8 ⟨v8, rfl, ⟨y, rfl, hy⟩, HT8, HX8⟩
    have HO8 := Lib.hid (own_xt (HO7.out.alloc _) HX8 (by omega))
    have HE8 := Lib.hid (HX8.fresh (HE7.out.alloc _) (Nat.le_refl _))
    have hyb : -1 ≤ y ∧ y ≤ 32 := by simp at hy; omega
    obtain ⟨z, hz⟩ : ∃ z, ld[r]? = some z := ⟨_, List.getElem?_eq_getElem (by rw [HLD.out]; exact hr1)⟩
    have c1 : w8.cell? ⟨g, r, none⟩ = some (.int .i64 z) := by rw [HO8.out.cellAt r (by omega)]; simp [hz]
    have c2 := HO8.out.frozenAt r
    have HO9 := Lib.hid (own_set (k := r) (x := y) HO8.out)
    have HE9 := Lib.hid (HE8.out.setCell (p := ⟨g, r, none⟩) (by simp; omega) (.int .i64 y))
    obtain ⟨le, hle⟩ : ∃ le, le = ld.set r y := ⟨_, rfl⟩
    rw [← hle] at HO9
    have HDI : Hid (IsI (w8.setCell ⟨g, r, none⟩ (.int .i64 y)).heap.size (w8.setCell ⟨g, r, none⟩ (.int .i64 y)) (.slice (some ⟨g, 0, none⟩) nd cd) le) := own_isZ HO9.out (fun x hx => by
      rw [hle] at hx
      rcases List.mem_or_eq_of_mem_set hx with h | h
      · have := HBN.out x h; constructor <;> omega
      · subst h; constructor <;> omega) (by rw [hle, List.length_set]; have := HLD.out; omega)
    clear hle hy hz HT8 HX8 HT7 HO9 HO8 HO7 HO6 HPL HE8
    go_upto_region 7 with (fail)
    clear c1 c2
    have HID := Lib.hid (IsI.ext HDI.out (Ext.refl _))
    go_wp2_with fail
    refine (enc_slice _ l0 _ (HT.out.ext HE9.out) (H0.out.ext HE9.out)).mono ?_
    rintro e x1 ⟨A1, m1, c1, rfl, hm1, hc11, hc12, ho1, hx1⟩
    have HR1 : Hid (IsI x1.heap.size x1 (.slice A1 m1 c1) (encL l0)) := own_isL ho1
    have HE1 := Lib.hid (Ext.trans HE9.out hx1)
    replace HID := Lib.hid (HID.out.ext hx1)
    clear hm1 ho1 hx1
    go_wp2_with fail
    refine (rencode_any _ l0 _ (H0.out.ext HE1.out)).mono ?_
    rintro e x2 ⟨A2, m2, c2, rfl, hm2, hc21, hc22, ho2, hx2⟩
    have HR2 : Hid (IsI x2.heap.size x2 (.slice A2 m2 c2) (encL l0)) := own_isL ho2
    replace HR1 := Lib.hid (HR1.out.ext hx2)
    replace HE1 := Lib.hid (HE1.out.trans hx2)
    replace HID := Lib.hid (HID.out.ext hx2)
    clear hm2 ho2 hx2
    go_wp2_with fail
    refine (enc_slice _ le _ (HT.out.ext HE1.out) HID.out).mono ?_
    rintro e x3 ⟨A3, m3, c3, rfl, hm3, hc31, hc32, ho3, hx3⟩
    have HR3 : Hid (IsI x3.heap.size x3 (.slice A3 m3 c3) (encL le)) := own_isL ho3
    replace HR1 := Lib.hid (HR1.out.ext hx3)
    replace HR2 := Lib.hid (HR2.out.ext hx3)
    replace HE1 := Lib.hid (HE1.out.trans hx3)
    replace HID := Lib.hid (HID.out.ext hx3)
    clear hm3 ho3 hx3
    go_wp2_with fail
    refine (rencode_any _ le _ HID.out).mono ?_
    rintro e x4 ⟨A4, m4, c4, rfl, hm4, hc41, hc42, ho4, hx4⟩
    have HR4 : Hid (IsI x4.heap.size x4 (.slice A4 m4 c4) (encL le)) := own_isL ho4
    replace HR1 := Lib.hid (HR1.out.ext hx4)
    replace HR2 := Lib.hid (HR2.out.ext hx4)
    replace HR3 := Lib.hid (HR3.out.ext hx4)
    replace HE1 := Lib.hid (HE1.out.trans hx4)
    clear hm4 ho4 hx4 HID
    go_wp2_with fail
    refine (ints_ext _ _ (encL l0) (encL l0) _ HR1.out HR2.out).mono ?_
    rintro e x5 ⟨rfl, hx5⟩
    rw [show decide (encL l0 = encL l0) = true by simp]
    replace HR3 := Lib.hid (HR3.out.ext hx5)
    replace HR4 := Lib.hid (HR4.out.ext hx5)
    replace HE1 := Lib.hid (HE1.out.trans hx5)
    clear hx5
    have q0 : (encE l0 == encE l0) = true := by simp
    go_wp2_with fail
    refine (ints_ext _ _ (encL le) (encL le) _ HR3.out HR4.out).mono ?_
    rintro e x6 ⟨rfl, hx6⟩
    rw [show decide (encL le = encL le) = true by simp]
    replace HE1 := Lib.hid (HE1.out.trans hx6)
    clear hx6 q0
    have q1 : (encE le == encE le) = true := by simp
    go_wp2_with fail
    refine (awake18_any _ (HT.out.ext HE1.out)).mono ?_
    rintro e x7 ⟨rfl, hx7⟩
    go_wp2_with fail
    go_ret
    exact ⟨rfl, HE1.out.trans hx7⟩
end Go.Proofs.YtlabmdekdhjofaaDoor
