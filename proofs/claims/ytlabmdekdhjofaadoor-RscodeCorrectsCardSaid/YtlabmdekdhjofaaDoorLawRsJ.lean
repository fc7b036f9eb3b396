/- The walk of the law RscodeCorrects. -/
import Derived.Test.YtlabmdekdhjofaaDoorRsU
namespace Go.Proofs.YtlabmdekdhjofaaDoor
open Go.RowKit

set_option maxRecDepth 100000 in
set_option maxHeartbeats 4000000 in
theorem walkRscodeCorrects (v0 : Value) (l0 : List Int) (a1 a2 : Int) (w : World) (h0 : IsI w.heap.size w v0 l0) (i1 : I64 a1) (i2 : I64 a2) (hT : Tabs w) :
    Calls Tryd.prog 9 #[v0, .int .i64 a1, .int .i64 a2] w fun e w' => e = .returned (.bool true) ∧ Ext w w' := by
  obtain ⟨a11, a12⟩ := i1
  obtain ⟨a21, a22⟩ := i2
  have H0 := Lib.hid h0
  have HT := Lib.hid hT
  have b2 : 2 ≤ w.heap.size := hT.lt
  clear h0 hT
  go_enter Tryd.func9, Tryd.ntmps9
  go_wp2_with fail
  refine (cut_any a1 4 _ (by omega) (by omega) (by omega)).mono ?_
  rintro e w1 ⟨rfl, rfl⟩
  have c1 := cutZ_lo a1 4
  have c2 := cutZ_hi a1 4 (by omega)
  obtain ⟨a, ha⟩ := Int.eq_ofNat_of_zero_le c1
  rw [ha] at c2 ⊢
  clear ha c1
  go_wp2_with fail
  refine (cut_any a2 (7 - 2 * (a : Int)) _ (by omega) (by omega) (by omega)).mono ?_
  rintro e w1 ⟨rfl, rfl⟩
  have c1 := cutZ_lo a2 (7 - 2 * (a : Int))
  have c3 := cutZ_hi a2 (7 - 2 * (a : Int)) (by omega)
  obtain ⟨b, hb⟩ := Int.eq_ofNat_of_zero_le c1
  rw [hb] at c3 ⊢
  clear hb c1
  go_wp2_with fail
  refine (new_any _ l0 _ H0.out).mono ?_
  rintro e w1 ⟨rfl, HT1, HE1⟩
  have hlt1 := HT1.lt
  go_wp2_with fail
  refine (word_any _ a b _ HT1 (by omega) (by omega)).mono ?_
  rintro e w2 ⟨fd, lx, ord, g, n, cx, Ad, nd, cd, rfl, hfd, hn1, hn9, hnn, hcx1, hcx2, hcd1, hcd2, hod, hox, hlx, hpm, hdm, HT2, HX2⟩
  have hel : (encF fd).length = n := by rw [encF_len]; omega
  rw [Nat.min_eq_left (by omega)] at hdm
  have HW := Lib.hid (hdm.word hpm hel (by omega) (by omega))
  have HN := Lib.hid (hdm.near hpm hel (encF_code _) (by omega) (by omega))
  have HXI : Hid (IsI w2.heap.size w2 (.slice (some ⟨g, 0, none⟩) n cx) lx) := IsI.of_own' (p := w2.heap.size) (e := 3) hox (fun h => by have := (hox.lt _ h).2; omega) (fun x hx => by have := hdm.bnd hpm hel x hx; constructor <;> omega) (by omega)
  have HDI : Hid (IsI w2.heap.size w2 (.slice Ad nd cd) (wI fd)) := by
    have h := IsI.of_own' (p := w2.heap.size) (e := 3) hod (fun h => by have := (hod.lt _ h).2; omega) (wI_i64 _) (by rw [wI_len]; omega)
    exact h
  have HE2 := Lib.hid (HX2.fresh HE1 (Nat.le_refl _))
  have HTK : Hid ((encF fd).take (lx.length - 6) = fd) := by
    show _ = _
    rw [hlx, show n - 6 = fd.length by omega]
    unfold encF
    rw [List.take_left' rfl]
  have hn7 : 7 ≤ n := by omega
  have hn15 : n ≤ 15 := by omega
  clear hod hox hdm HT2 HX2 HE1 HT1 hpm hnn hfd hlx hel
  go_wp2_with fail
  refine (dec_near _ lx (encF fd) a _ (HT.out.ext HE2.out) HXI.out HW.out HN.out).mono ?_
  rintro e w3 ⟨A3, m3, c3', rfl, hi3, hx3⟩
  rw [HTK.out] at hi3
  replace hi3 := Lib.hid hi3
  have HD3 := Lib.hid (HDI.out.ext hx3)
  have HE3 := Lib.hid (HE2.out.trans hx3)
  clear hx3
  go_wp2_with fail
  refine (ints_ext _ _ (wI fd) (wI fd) _ hi3.out HD3.out).mono ?_
  rintro e w4 ⟨rfl, hx4⟩
  rw [show decide (wI fd = wI fd) = true by simp]
  have HE4 := Lib.hid (HE3.out.trans hx4)
  clear hx4
  go_wp2_with fail
  refine (awake18_any _ (HT.out.ext HE4.out)).mono ?_
  rintro e w5 ⟨rfl, hx5⟩
  go_wp2_with fail
  go_ret
  exact ⟨rfl, HE4.out.trans hx5⟩
end Go.Proofs.YtlabmdekdhjofaaDoor
