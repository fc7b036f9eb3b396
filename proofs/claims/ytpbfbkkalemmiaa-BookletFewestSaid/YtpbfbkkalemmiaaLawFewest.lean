/- BookletFewest: the walk of the law. -/
import Derived.Test.YtpbfbkkalemmiaaLawBValid
import Derived.Test.YtpbfbkkalemmiaaFewest
namespace Go.Proofs.Ytpbfbkkalemmiaa
open Go.RowKit

set_option maxRecDepth 100000 in
set_option maxHeartbeats 4000000 in
theorem walkBookletFewest (v0 : Value) (l0 : List Int) (w : World) (h0 : IsI w.heap.size w v0 l0) :
    Calls Try.prog 8 #[v0] w fun e w' => e = .returned (.bool true) ∧ Ext w w' := by
  have H0 := Lib.hid h0
  clear h0
  go_enter Try.func8, Try.ntmps8
  go_wp2_with fail
  refine (new_any _ l0 _ H0.out).mono ?_
  rintro e w1 ⟨rfl, HT1, HE1⟩
  have hlt1 := HT1.lt
  go_wp2_with fail
  refine (long_any _ _ HT1).mono ?_
  rintro e w2 ⟨v2, rfl, ⟨pw, qs, rfl, hO, hv⟩, HT2, HX2⟩
  obtain ⟨A, c, rfl⟩ := hO.form
  have HQ := Lib.hid (hO.isQ hlt1 (vpa_wf hv))
  have HE := Lib.hid ((Ext.refl w2).alloc (.cells #[.int .i64 0, .int .i64 0, .slice A qs.length c] 33))
  have HE2 := Lib.hid ((HX2.fresh HE1 (Nat.le_refl _)).trans HE.out)
  have HB2 := Lib.hid (show QBox (w2.alloc (.cells #[.int .i64 0, .int .i64 0, .slice A qs.length c] 33)) w2.heap.size 0 0 (.slice A qs.length c) from heap_alloc_new w2 _)
  have HT := Lib.hid (HT2.ext HE.out)
  replace HQ := Lib.hid ((HQ.out.ext (RPart.stab _) HE.out))
  have hlt2 := HT2.lt
  replace hv := Lib.hid hv
  clear HT1 HX2 HE1 HT2 hO hlt1 HE
  go_upto_region 3 with (fail)
  generalize hW : w2.alloc (.cells #[.int .i64 0, .int .i64 0, .slice A qs.length c] 33) = W2 at *
  clear hW
  obtain ⟨c0, c1, c2⟩ := HB2.out.cells
  go_wp2_with fail
  refine (shaped_any _ _ _ _ qs _ HT.out HQ.out (by have := (vpa_of hv.out).2.2.2.2.2.1; omega)).mono ?_
  rintro e w5 ⟨v5, rfl, ⟨bv, bs, rfl, hP⟩, HT5, HX5⟩
  obtain ⟨Ab, nb, cb, rfl, _, _, _, HLb⟩ := hP.open_
  have hlt5 := HT5.lt
  replace HX5 := Lib.hid HX5
  replace hP := Lib.hid hP
  replace HB2 := Lib.hid ((HB2.out.xt HX5.out (by omega)))
  replace HQ := Lib.hid ((HQ.out.xt (RPart.stab _) HX5.out))
  replace HE2 := Lib.hid (HX5.out.fresh HE2.out (Nat.le_refl _))
  have E5 := Lib.hid ((Ext.refl w5).alloc (.cells #[.slice Ab nb cb] 38))
  have k5 := Lib.hid (box1 (a := .slice Ab nb cb) rfl (Ext.refl (w5.alloc (.cells #[.slice Ab nb cb] 38))))
  replace HB2 := Lib.hid (HB2.out.ext E5.out)
  replace HQ := Lib.hid ((HQ.out.ext (RPart.stab _) E5.out))
  replace HE2 := Lib.hid (HE2.out.trans E5.out)
  replace hP := Lib.hid ((hP.out.ext (RI.stab _) E5.out))
  have hlt6 : w.heap.size < (w5.alloc (.cells #[.slice Ab nb cb] 38)).heap.size := by simp; omega
  clear c0 c1 c2 HX5 E5 HT5 HT
  go_upto_region 4 with (fail)
  generalize hW : w5.alloc (.cells #[.slice Ab nb cb] 38) = W5 at *
  clear hW
  obtain ⟨c0, c1, c2⟩ := HB2.out.cells
  go_wp2_with fail
  refine (make_any _ _ _ qs _ hlt6 HQ.out).mono ?_
  rintro e w6 ⟨va, pa, ea, rfl, hPa, hEa, ha1, ha2⟩
  obtain ⟨Aa, na, ca, rfl, _, _, _, HLa⟩ := hPa.open_
  have HM := Lib.hid (ha2 hv.out)
  have HE := Lib.hid (hEa.alloc (.cells #[.slice Aa na ca] 38))
  have k6 := Lib.hid (box1 (a := .slice Aa na ca) rfl (Ext.refl (w6.alloc (.cells #[.slice Aa na ca] 38))))
  replace hPa := Lib.hid hPa
  replace hPa := Lib.hid (hPa.out.ext (RI.stab _) ((Ext.refl _).alloc (.cells #[.slice Aa na ca] 38)))
  replace HQ := Lib.hid ((HQ.out.ext (RPart.stab _) HE.out))
  replace HB2 := Lib.hid (HB2.out.ext HE.out)
  replace HE2 := Lib.hid (HE2.out.trans HE.out)
  replace hP := Lib.hid ((hP.out.ext (RI.stab _) HE.out))
  replace k5 := Lib.hid ((HE.out.cell k5.out))
  have hp6 : w.heap.size < (w6.alloc (.cells #[.slice Aa na ca] 38)).heap.size := by have := hEa.size; simp; omega
  clear hEa HE c0 c1 c2 ha1 ha2
  go_upto_region 5 with (fail)
  generalize hW : w6.alloc (.cells #[.slice Aa na ca] 38) = W6 at *
  clear hW
  obtain ⟨c0, c1, c2⟩ := HB2.out.cells
  by_cases hl12 : (makeP qs).length ≤ 12
  · obtain ⟨hpa, rfl⟩ := HM.out.2 hl12
    subst hpa
    have hmk := bk_true (make_ok hv.out hl12)
    have k6' := k6.out
    replace hmk := Lib.hid hmk
    go_wp2_with fail
    refine (valid_any _ _ _ _ qs (makeP qs) _ HQ.out hPa.out).mono ?_
    rintro e x1 ⟨rfl, hx1⟩
    rw [hmk.out]
    replace hx1 := Lib.hid hx1
    replace HQ := Lib.hid ((HQ.out.ext (RPart.stab _) hx1.out))
    replace HB2 := Lib.hid (HB2.out.ext hx1.out)
    replace HE2 := Lib.hid (HE2.out.trans hx1.out)
    replace hP := Lib.hid ((hP.out.ext (RI.stab _) hx1.out))
    replace k5 := Lib.hid ((hx1.out.cell k5.out))
    replace k6 := Lib.hid ((hx1.out.cell k6.out))
    have hs1 := hx1.out.size
    clear c0 c1 c2 k6'
    obtain ⟨c0, c1, c2⟩ := HB2.out.cells
    have k5' := k5.out
    go_wp2_with fail
    refine (valid_any _ _ _ _ qs bs _ HQ.out hP.out).mono ?_
    rintro e x2 ⟨rfl, hx2⟩
    replace hx2 := Lib.hid hx2
    replace HE2 := Lib.hid (HE2.out.trans hx2.out)
    replace k5 := Lib.hid ((hx2.out.cell k5.out))
    replace k6 := Lib.hid ((hx2.out.cell k6.out))
    have hs2 := hx2.out.size
    clear c0 c1 c2 k5'
    have k5' := k5.out
    have k6' := k6.out
    cases hb : bkB 0 0 qs bs with
    | true =>
      have hfew := fewest (bk_of hb)
      have hna : na ≤ nb := by have := HLa.out; have := HLb.out; omega
      clear hfew
      replace hb := Lib.hid hb
      go_wp2_with fail
      refine (awake_any _ (by omega)).mono ?_
      rintro e x3 ⟨rfl, hx3⟩
      go_wp2_with fail
      go_ret
      exact ⟨rfl, HE2.out.trans hx3⟩
    | false =>
      replace hb := Lib.hid hb
      go_wp2_with fail
      refine (awake_any _ (by omega)).mono ?_
      rintro e x3 ⟨rfl, hx3⟩
      go_wp2_with fail
      go_ret
      exact ⟨rfl, HE2.out.trans hx3⟩
  · obtain ⟨hpa, rfl⟩ := HM.out.1 (by omega)
    have k5' := k5.out
    have hb : bkB 0 0 qs bs = false := bk_false fun h => by have := fewest h; omega
    replace hb := Lib.hid hb
    go_wp2_with fail
    refine (valid_any _ _ _ _ qs bs _ HQ.out hP.out).mono ?_
    rintro e x2 ⟨rfl, hx2⟩
    rw [hb.out]
    have hs2 := hx2.size
    replace hx2 := Lib.hid hx2
    clear k5' c0 c1 c2
    go_wp2_with fail
    refine (awake_any _ (by omega)).mono ?_
    rintro e x3 ⟨rfl, hx3⟩
    go_wp2_with fail
    go_ret
    exact ⟨rfl, (HE2.out.trans hx2.out).trans hx3⟩
end Go.Proofs.Ytpbfbkkalemmiaa
