/- BookletMakes: the walk of the law. -/
import Derived.Test.YtpbfbkkalemmiaaLawB12
import Derived.Test.YtpbfbkkalemmiaaTapeS
namespace Go.Proofs.Ytpbfbkkalemmiaa
open Go.RowKit

theorem make_same {code var : Int} {ps : List Part} {pgs pgs' : List (List Int)} {er er' : Int}
    (h1 : vpaB code var ps = false → pgs = [] ∧ er = 1) (h2 : vpaB code var ps = true → (12 < (makeP ps).length → pgs = [] ∧ er = 3) ∧ ((makeP ps).length ≤ 12 → pgs = makeP ps ∧ er = 0))
    (h1' : vpaB code var ps = false → pgs' = [] ∧ er' = 1) (h2' : vpaB code var ps = true → (12 < (makeP ps).length → pgs' = [] ∧ er' = 3) ∧ ((makeP ps).length ≤ 12 → pgs' = makeP ps ∧ er' = 0)) : pgs = pgs' ∧ er = er' := by
  cases hv : vpaB code var ps with
  | false => exact ⟨(h1 hv).1.trans (h1' hv).1.symm, (h1 hv).2.trans (h1' hv).2.symm⟩
  | true =>
    by_cases hl : 12 < (makeP ps).length
    · exact ⟨((h2 hv).1 hl).1.trans ((h2' hv).1 hl).1.symm, ((h2 hv).1 hl).2.trans ((h2' hv).1 hl).2.symm⟩
    · exact ⟨((h2 hv).2 (by omega)).1.trans ((h2' hv).2 (by omega)).1.symm, ((h2 hv).2 (by omega)).2.trans ((h2' hv).2 (by omega)).2.symm⟩

/-- Two calls of Make, one of the program and one of the reference, leave the same. -/
theorem box1 {w w1 : World} {o : Obj} {a : Value} {t : TypeId} (ho : o = .cells #[a] t) (h : Ext (w.alloc o) w1) : w1.cell? ⟨w.heap.size, 0, none⟩ = some a := by
  subst ho; exact blk_cell (h.blk (heap_alloc_new w _)) (i := 0) rfl

set_option maxRecDepth 100000 in
set_option maxHeartbeats 4000000 in
theorem walkBookletMakes (v0 : Value) (l0 : List Int) (w : World) (h0 : IsI w.heap.size w v0 l0) :
    Calls Try.prog 4 #[v0] w fun e w' => e = .returned (.bool true) ∧ Ext w w' := by
  have H0 := Lib.hid h0
  clear h0
  go_enter Try.func4, Try.ntmps4
  go_wp2_with fail
  refine (new_any _ l0 _ H0.out).mono ?_
  rintro e w1 ⟨rfl, HT1, HE1⟩
  have hlt1 := HT1.lt
  go_wp2_with fail
  refine (loosePaper_any _ _ _ HT1 (by omega) (by omega)).mono ?_
  rintro e w2 ⟨v2, rfl, ⟨code, var, pv, ps, rfl, _, _, hO, _, hwf⟩, HT2, HX2⟩
  obtain ⟨A, c, rfl⟩ := hO.form
  have HQ := Lib.hid (hO.isQ hlt1 hwf)
  have HE2 := Lib.hid ((HX2.fresh HE1 (Nat.le_refl _)).alloc (.cells #[.int .i64 code, .int .i64 var, .slice A ps.length c] 33))
  have HB2 := Lib.hid (show QBox (w2.alloc (.cells #[.int .i64 code, .int .i64 var, .slice A ps.length c] 33)) w2.heap.size code var (.slice A ps.length c) from heap_alloc_new w2 _)
  replace HQ := Lib.hid (HQ.out.ext (RPart.stab _) ((Ext.refl w2).alloc (.cells #[.int .i64 code, .int .i64 var, .slice A ps.length c] 33)))
  have HT := Lib.hid (HT2.ext ((Ext.refl w2).alloc (.cells #[.int .i64 code, .int .i64 var, .slice A ps.length c] 33)))
  have hlt2 := HT2.lt
  clear HT1 HX2 HE1 HT2 hO hwf hlt1
  go_wp2_with fail
  generalize hW : w2.alloc (.cells #[.int .i64 code, .int .i64 var, .slice A ps.length c] 33) = W2 at *
  clear hW
  refine (long_any _ _ HT.out).mono ?_
  rintro e w3 ⟨v3, rfl, ⟨pw, qs, rfl, hO3, hv3⟩, HT3, HX3⟩
  obtain ⟨A3, c3, rfl⟩ := hO3.form
  have hltW : w.heap.size < W2.heap.size := HT.out.lt
  have HQ3 := Lib.hid (hO3.isQ hltW (vpa_wf hv3))
  replace HX3 := Lib.hid HX3
  replace HQ := Lib.hid ((HQ.out.xt (RPart.stab _) HX3.out))
  replace HB2 := Lib.hid ((HB2.out.xt HX3.out (by omega)))
  replace HE2 := Lib.hid (HX3.out.fresh HE2.out (Nat.le_refl _))
  have HE3 := Lib.hid ((Ext.refl w3).alloc (.cells #[.int .i64 0, .int .i64 0, .slice A3 qs.length c3] 33))
  have HB3 := Lib.hid (show QBox (w3.alloc (.cells #[.int .i64 0, .int .i64 0, .slice A3 qs.length c3] 33)) w3.heap.size 0 0 (.slice A3 qs.length c3) from heap_alloc_new w3 _)
  replace HQ := Lib.hid ((HQ.out.ext (RPart.stab _) HE3.out))
  replace HQ3 := Lib.hid ((HQ3.out.ext (RPart.stab _) HE3.out))
  replace HB2 := Lib.hid (HB2.out.ext HE3.out)
  replace HE2 := Lib.hid (HE2.out.trans HE3.out)
  have hp := HT3.lt
  have hp3 : w.heap.size < (w3.alloc (.cells #[.int .i64 0, .int .i64 0, .slice A3 qs.length c3] 33)).heap.size := by simp; omega
  clear HT HX3 hO3 hv3 HT3 HE3 hltW hp
  obtain ⟨b0, b1, b2⟩ := HB2.out.cells
  go_wp2_with fail
  generalize hW : w3.alloc (.cells #[.int .i64 0, .int .i64 0, .slice A3 qs.length c3] 33) = W3 at *
  clear hW
  refine (make_any _ _ _ ps _ hp3 HQ.out).mono ?_
  rintro e w4 ⟨va, pa, ea, rfl, hPa, hEa, ha1, ha2⟩
  obtain ⟨Aa, na, ca, rfl, _, _, _, _⟩ := hPa.open_
  replace hPa := Lib.hid hPa
  replace ha1 := Lib.hid ha1
  replace ha2 := Lib.hid ha2
  have HE := Lib.hid (hEa.alloc (.cells #[.slice Aa na ca] 38))
  have ka := Lib.hid (box1 (a := .slice Aa na ca) rfl (Ext.refl (w4.alloc (.cells #[.slice Aa na ca] 38))))
  replace hPa := Lib.hid (hPa.out.ext (RI.stab _) ((Ext.refl _).alloc (.cells #[.slice Aa na ca] 38)))
  replace HQ := Lib.hid ((HQ.out.ext (RPart.stab _) HE.out))
  replace HQ3 := Lib.hid ((HQ3.out.ext (RPart.stab _) HE.out))
  replace HB2 := Lib.hid (HB2.out.ext HE.out)
  replace HB3 := Lib.hid (HB3.out.ext HE.out)
  replace HE2 := Lib.hid (HE2.out.trans HE.out)
  have hp4 : w.heap.size < (w4.alloc (.cells #[.slice Aa na ca] 38)).heap.size := by have := hEa.size; simp; omega
  clear hEa HE b0 b1 b2
  obtain ⟨b0, b1, b2⟩ := HB2.out.cells
  obtain ⟨e0, e1, e2⟩ := HB3.out.cells
  go_upto_region 5 with (fail)
  generalize hW : w4.alloc (.cells #[.slice Aa na ca] 38) = W4 at *
  clear hW
  go_wp2_with fail
  refine (rmake_any _ _ _ ps _ hp4 HQ.out).mono ?_
  rintro e w5 ⟨vb, pb, eb, rfl, hPb, hEb, hb1, hb2⟩
  obtain ⟨Ab, nb, cb, rfl, _, _, _, _⟩ := hPb.open_
  obtain ⟨hpe, rfl⟩ := make_same ha1.out ha2.out hb1 hb2
  subst hpe
  have HE := Lib.hid (hEb.alloc (.cells #[.slice Ab nb cb] 38))
  have kb := Lib.hid (box1 (a := .slice Ab nb cb) rfl (Ext.refl (w5.alloc (.cells #[.slice Ab nb cb] 38))))
  replace hPb := Lib.hid (hPb.ext (RI.stab _) ((Ext.refl _).alloc (.cells #[.slice Ab nb cb] 38)))
  replace HQ3 := Lib.hid ((HQ3.out.ext (RPart.stab _) HE.out))
  replace HB3 := Lib.hid (HB3.out.ext HE.out)
  replace HE2 := Lib.hid (HE2.out.trans HE.out)
  replace hPa := Lib.hid ((hPa.out.ext (RI.stab _) HE.out))
  replace ka := Lib.hid ((HE.out.cell ka.out))
  have hp5 : w.heap.size < (w5.alloc (.cells #[.slice Ab nb cb] 38)).heap.size := by have := hEb.size; simp; omega
  clear hEb HE b0 b1 b2 e0 e1 e2 HB2 HQ ha1 ha2 hb1 hb2
  obtain ⟨e0, e1, e2⟩ := HB3.out.cells
  go_upto_region 6 with (fail)
  generalize hW : w5.alloc (.cells #[.slice Ab nb cb] 38) = W5 at *
  clear hW
  go_wp2_with fail
  refine (make_any _ _ _ qs _ hp5 HQ3.out).mono ?_
  rintro e w6 ⟨vc, pc, ec, rfl, hPc, hEc, hc1, hc2⟩
  obtain ⟨Ac, nc, cc, rfl, _, _, _, _⟩ := hPc.open_
  replace hPc := Lib.hid hPc
  replace hc1 := Lib.hid hc1
  replace hc2 := Lib.hid hc2
  have HE := Lib.hid (hEc.alloc (.cells #[.slice Ac nc cc] 38))
  have kc := Lib.hid (box1 (a := .slice Ac nc cc) rfl (Ext.refl (w6.alloc (.cells #[.slice Ac nc cc] 38))))
  replace hPc := Lib.hid (hPc.out.ext (RI.stab _) ((Ext.refl _).alloc (.cells #[.slice Ac nc cc] 38)))
  replace HQ3 := Lib.hid ((HQ3.out.ext (RPart.stab _) HE.out))
  replace HB3 := Lib.hid (HB3.out.ext HE.out)
  replace HE2 := Lib.hid (HE2.out.trans HE.out)
  replace hPa := Lib.hid ((hPa.out.ext (RI.stab _) HE.out))
  replace ka := Lib.hid ((HE.out.cell ka.out))
  replace hPb := Lib.hid ((hPb.out.ext (RI.stab _) HE.out))
  replace kb := Lib.hid ((HE.out.cell kb.out))
  have hp6 : w.heap.size < (w6.alloc (.cells #[.slice Ac nc cc] 38)).heap.size := by have := hEc.size; simp; omega
  clear hEc HE e0 e1 e2
  obtain ⟨e0, e1, e2⟩ := HB3.out.cells
  go_upto_region 7 with (fail)
  generalize hW : w6.alloc (.cells #[.slice Ac nc cc] 38) = W6 at *
  clear hW
  go_wp2_with fail
  refine (rmake_any _ _ _ qs _ hp6 HQ3.out).mono ?_
  rintro e w7 ⟨vd, pd, ed, rfl, hPd, hEd, hd1, hd2⟩
  obtain ⟨Ad, nd, cd, rfl, _, _, _, _⟩ := hPd.open_
  obtain ⟨hpe, rfl⟩ := make_same hc1.out hc2.out hd1 hd2
  subst hpe
  have HE := Lib.hid (hEd.alloc (.cells #[.slice Ad nd cd] 38))
  have kd := Lib.hid (box1 (a := .slice Ad nd cd) rfl (Ext.refl (w7.alloc (.cells #[.slice Ad nd cd] 38))))
  replace hPd := Lib.hid (hPd.ext (RI.stab _) ((Ext.refl _).alloc (.cells #[.slice Ad nd cd] 38)))
  replace HE2 := Lib.hid (HE2.out.trans HE.out)
  replace hPa := Lib.hid ((hPa.out.ext (RI.stab _) HE.out))
  replace ka := Lib.hid ((HE.out.cell ka.out))
  replace hPb := Lib.hid ((hPb.out.ext (RI.stab _) HE.out))
  replace kb := Lib.hid ((HE.out.cell kb.out))
  replace hPc := Lib.hid ((hPc.out.ext (RI.stab _) HE.out))
  replace kc := Lib.hid ((HE.out.cell kc.out))
  have hp7 : w.heap.size < (w7.alloc (.cells #[.slice Ad nd cd] 38)).heap.size := by have := hEd.size; simp; omega
  clear hEd HE e0 e1 e2 HB3 HQ3 hc1 hc2 hd1 hd2
  go_upto_region 8 with (fail)
  generalize hW : w7.alloc (.cells #[.slice Ad nd cd] 38) = W7 at *
  clear hW
  have ka' := ka.out
  have kb' := kb.out
  have kc' := kc.out
  have kd' := kd.out
  go_wp2_with fail
  refine (same_any _ _ pa pa _ hPa.out hPb.out).mono ?_
  rintro e x1 ⟨rfl, hx1⟩
  rw [decide_eq_true rfl]
  replace hx1 := Lib.hid hx1
  replace HE2 := Lib.hid (HE2.out.trans hx1.out)
  replace hPc := Lib.hid ((hPc.out.ext (RI.stab _) hx1.out))
  replace hPd := Lib.hid ((hPd.out.ext (RI.stab _) hx1.out))
  replace kc := Lib.hid ((hx1.out.cell kc.out))
  replace kd := Lib.hid ((hx1.out.cell kd.out))
  have hx1s := hx1.out.size
  clear ka' kb' kc' kd'
  have kc' := kc.out
  have kd' := kd.out
  have hee : (ea == ea) = true := by simp
  have hcc : (ec == ec) = true := by simp
  go_wp2_with fail
  refine (same_any _ _ pc pc _ hPc.out hPd.out).mono ?_
  rintro e x2 ⟨rfl, hx2⟩
  rw [decide_eq_true rfl]
  replace hx2 := Lib.hid hx2
  have hx2s := hx2.out.size
  replace HE2 := Lib.hid (HE2.out.trans hx2.out)
  go_wp2_with fail
  refine (awake_any _ (by omega)).mono ?_
  rintro e x3 ⟨rfl, hx3⟩
  go_wp2_with fail
  go_ret
  exact ⟨rfl, HE2.out.trans hx3⟩
end Go.Proofs.Ytpbfbkkalemmiaa
