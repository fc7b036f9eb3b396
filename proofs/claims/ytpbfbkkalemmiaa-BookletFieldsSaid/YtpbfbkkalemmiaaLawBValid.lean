/- BookletValid: the walk of the law. -/
import Derived.Test.YtpbfbkkalemmiaaLawMakes
import Derived.Test.YtpbfbkkalemmiaaShapedA
namespace Go.Proofs.Ytpbfbkkalemmiaa
open Go.RowKit

set_option maxRecDepth 100000 in
set_option maxHeartbeats 4000000 in
theorem walkBookletValid (v0 : Value) (l0 : List Int) (w : World) (h0 : IsI w.heap.size w v0 l0) :
    Calls Try.prog 6 #[v0] w fun e w' => e = .returned (.bool true) ∧ Ext w w' := by
  have H0 := Lib.hid h0
  clear h0
  go_enter Try.func6, Try.ntmps6
  go_wp2_with fail
  refine (new_any _ l0 _ H0.out).mono ?_
  rintro e w1 ⟨rfl, HT1, HE1⟩
  have hlt1 := HT1.lt
  go_wp2_with fail
  refine (loosePaper_any _ _ _ HT1 (by omega) (by omega)).mono ?_
  rintro e w2 ⟨v2, rfl, ⟨code, var, pv, ps, rfl, _, _, hO, hl12, hwf⟩, HT2, HX2⟩
  obtain ⟨A, c, rfl⟩ := hO.form
  have HQ := Lib.hid (hO.isQ hlt1 hwf)
  have HE := Lib.hid ((Ext.refl w2).alloc (.cells #[.int .i64 code, .int .i64 var, .slice A ps.length c] 33))
  have HE2 := Lib.hid ((HX2.fresh HE1 (Nat.le_refl _)).trans HE.out)
  have HB2 := Lib.hid (show QBox (w2.alloc (.cells #[.int .i64 code, .int .i64 var, .slice A ps.length c] 33)) w2.heap.size code var (.slice A ps.length c) from heap_alloc_new w2 _)
  have HT := Lib.hid (HT2.ext HE.out)
  replace HQ := Lib.hid ((HQ.out.ext (RPart.stab _) HE.out))
  have hlt2 := HT2.lt
  clear HT1 HX2 HE1 HT2 hO hwf hlt1 HE
  go_upto_region 3 with (fail)
  generalize hW : w2.alloc (.cells #[.int .i64 code, .int .i64 var, .slice A ps.length c] 33) = W2 at *
  clear hW
  go_wp2_with fail
  refine (next_any _ _ _ HT.out (by omega)).mono ?_
  rintro e w3 ⟨v3, rfl, ⟨z, rfl, hz1, hz2⟩, HT3, HX3⟩
  replace HX3 := Lib.hid HX3
  replace HT3 := Lib.hid HT3
  replace HQ := Lib.hid ((HQ.out.xt (RPart.stab _) HX3.out))
  replace HB2 := Lib.hid ((HB2.out.xt HX3.out (by omega)))
  replace HE2 := Lib.hid (HX3.out.fresh HE2.out (Nat.le_refl _))
  clear HT HX3
  go_upto_if 12 with (fail)
  go_cut [] (fun wx => ∃ (code var : Int) (A : Option Addr) (n c : Nat) (ps : List Part), Hid (ps.length ≤ 24 ∧ QBox wx w2.heap.size code var (.slice A n c) ∧ IsQ w.heap.size wx (.slice A n c) ps ∧ Tape wx w.heap.size ∧ Ext w wx))
  case first =>
    by_cases hz : z = 0
    · subst hz
      have hlt3 := HT3.out.lt
      go_wp2_with fail
      refine (long_any _ _ HT3.out).mono ?_
      rintro e w4 ⟨v4, rfl, ⟨pw, qs, rfl, hO3, hv3⟩, HT4, HX4⟩
      obtain ⟨A3, c3, rfl⟩ := hO3.form
      replace HB2 := Lib.hid (HB2.out.xt HX4 (by omega))
      replace HE2 := Lib.hid (HX4.fresh HE2.out (Nat.le_refl _))
      have hne := hO3.base_ne (s := 0) HB2.out (by decide)
      obtain ⟨c0, c1, c2⟩ := HB2.out.cells
      have f0 := HB2.out.froz 0
      have f1 := HB2.out.froz 1
      have f2 := HB2.out.froz 2
      replace hO3 := Lib.hid hO3
      replace hv3 := Lib.hid hv3
      replace HT4 := Lib.hid HT4
      replace hne := Lib.hid hne
      clear HX4
      go_wp2_with fail
      go_meet
      refine ⟨0, 0, A3, qs.length, c3, qs, by have := (vpa_of hv3.out).2.2.2.2.2.1; omega, ((HB2.out.set0 0).set1 0).set2 _, ?_, ((HT4.out.setNew (by simp; omega) _).setNew (by simp; omega) _).setNew (by simp; omega) _, ((HE2.out.setCell (by simp; omega) _).setCell (by simp; omega) _).setCell (by simp; omega) _⟩
      refine OwnQ.isQ (base := w3.heap.size) (own_far (own_far (own_far hO3.out.own hne.out _) hne.out _) hne.out _) hlt3 (vpa_wf hv3.out)
    · have hz0 : (z == 0) = false := by simp [hz]
      clear hz
      go_wp2_with fail
      go_meet
      exact ⟨code, var, A, ps.length, c, ps, by omega, HB2.out, HQ.out, HT3.out, HE2.out⟩
  case rest =>
  obtain ⟨code', var', A', n', c', qs, HC⟩ := hcut
  clear HB2 HQ HT3 HE2
  obtain ⟨q1, q2, q3, q4, q5⟩ := HC.out
  obtain ⟨c0, c1, c2⟩ := q2.cells
  replace q1 := Lib.hid q1
  replace q2 := Lib.hid q2
  replace q3 := Lib.hid q3
  replace q4 := Lib.hid q4
  replace q5 := Lib.hid q5
  clear HC
  go_wp2_with fail
  refine (shaped_any _ _ _ _ qs _ q4.out q3.out q1.out).mono ?_
  rintro e w5 ⟨v5, rfl, ⟨bv, bs, rfl, hP⟩, HT5, HX5⟩
  obtain ⟨Ab, nb, cb, rfl, _, _, _, _⟩ := hP.open_
  have hlt5 := HT5.lt
  replace HX5 := Lib.hid HX5
  replace hP := Lib.hid hP
  replace q2 := Lib.hid ((q2.out.xt HX5.out (by omega)))
  replace q3 := Lib.hid ((q3.out.xt (RPart.stab _) HX5.out))
  replace q5 := Lib.hid (HX5.out.fresh q5.out (Nat.le_refl _))
  have E5 := Lib.hid ((Ext.refl w5).alloc (.cells #[.slice Ab nb cb] 38))
  have k5 := Lib.hid (box1 (a := .slice Ab nb cb) rfl (Ext.refl (w5.alloc (.cells #[.slice Ab nb cb] 38))))
  replace q2 := Lib.hid (q2.out.ext E5.out)
  replace q3 := Lib.hid ((q3.out.ext (RPart.stab _) E5.out))
  replace q5 := Lib.hid (q5.out.trans E5.out)
  replace hP := Lib.hid ((hP.out.ext (RI.stab _) E5.out))
  have hlt6 : w.heap.size < (w5.alloc (.cells #[.slice Ab nb cb] 38)).heap.size := by simp; omega
  clear c0 c1 c2 HX5 E5 HT5 q1 q4
  go_upto_region 6 with (fail)
  generalize hW : w5.alloc (.cells #[.slice Ab nb cb] 38) = W5 at *
  clear hW
  obtain ⟨c0, c1, c2⟩ := q2.out.cells
  have hS : W5.drew.cell? ⟨w2.heap.size, 0, none⟩ = some (.int .i64 code') ∧ W5.drew.cell? ⟨w2.heap.size, 1, none⟩ = some (.int .i64 var') ∧ W5.drew.cell? ⟨w2.heap.size, 2, none⟩ = some (.slice A' n' c') ∧ W5.drew.cell? ⟨w5.heap.size, 0, none⟩ = some (.slice Ab nb cb) := ⟨c0, c1, c2, k5.out⟩
  replace hS := Lib.hid hS
  clear c0 c1 c2
  refine wp_region_k 10 (fun w' => w'.cell? ⟨w2.heap.size, 0, none⟩ = some (.int .i64 code') ∧ w'.cell? ⟨w2.heap.size, 1, none⟩ = some (.int .i64 var') ∧ w'.cell? ⟨w2.heap.size, 2, none⟩ = some (.slice A' n' c') ∧ w'.cell? ⟨w5.heap.size, 0, none⟩ = some (.slice Ab nb cb)) (by kernel_rfl) ?_
  refine wpAnyK_take 0 (some 18) (v := ?kv1) rfl rfl (by kernel_rfl) (by kernel_rfl) (by kernel_rfl) (by decide) (by kernel_rfl) (fun _ _ _ h => h) (by rfl) ?ky1 hS.out ?kr1
  case ky1 => ((intro wk hk); (try dsimp only at hk); go_simp; try with_reducible rfl)
  try simp only [Act.put, List.setIfInBounds_toArray, List.set_cons_zero, List.set_cons_succ]
  refine wpAnyK_take 1 (some 19) (v := ?kv2) rfl rfl (by kernel_rfl) (by kernel_rfl) (by kernel_rfl) (by decide) (by kernel_rfl) (fun _ _ _ h => h) (by rfl) ?ky2 hS.out ?kr2
  case ky2 => ((intro wk hk); (try dsimp only at hk); go_simp; try with_reducible rfl)
  try simp only [Act.put, List.setIfInBounds_toArray, List.set_cons_zero, List.set_cons_succ]
  refine wpAnyK_take 3 (some 21) (v := ?kv3) rfl rfl (by kernel_rfl) (by kernel_rfl) (by kernel_rfl) (by decide) (by kernel_rfl) (fun _ _ _ h => h) (by rfl) ?ky3 hS.out ?kr3
  case ky3 => ((intro wk hk); (try dsimp only at hk); go_simp; try with_reducible rfl)
  try simp only [Act.put, List.setIfInBounds_toArray, List.set_cons_zero, List.set_cons_succ]
  refine wpAnyK_take 4 (some 22) (v := ?kv4) rfl rfl (by kernel_rfl) (by kernel_rfl) (by kernel_rfl) (by decide) (by kernel_rfl) (fun _ _ _ h => h) (by rfl) ?ky4 hS.out ?kr4
  case ky4 => ((intro wk hk); (try dsimp only at hk); go_simp; try with_reducible rfl)
  try simp only [Act.put, List.setIfInBounds_toArray, List.set_cons_zero, List.set_cons_succ]
  refine wpAnyK_one 2 (by kernel_rfl) rfl (fun K hK => ?_)
  go_simp
  refine (valid_any _ _ _ _ qs bs _ (q3.out.ext (RPart.stab _) (Ext.refl _).drew) (hP.out.ext (RI.stab _) (Ext.refl _).drew)).mono ?_
  rintro e x1 ⟨rfl, hx1⟩
  have E1 := Lib.hid (Ext.trans (Ext.refl W5).drew hx1)
  replace hS := Lib.hid (show x1.cell? ⟨w2.heap.size, 0, none⟩ = some (.int .i64 code') ∧ x1.cell? ⟨w2.heap.size, 1, none⟩ = some (.int .i64 var') ∧ x1.cell? ⟨w2.heap.size, 2, none⟩ = some (.slice A' n' c') ∧ x1.cell? ⟨w5.heap.size, 0, none⟩ = some (.slice Ab nb cb) from ⟨hx1.cell hS.out.1, hx1.cell hS.out.2.1, hx1.cell hS.out.2.2.1, hx1.cell hS.out.2.2.2⟩)
  clear hx1
  replace q3 := Lib.hid ((q3.out.ext (RPart.stab _) E1.out))
  replace q5 := Lib.hid (q5.out.trans E1.out)
  replace hP := Lib.hid ((hP.out.ext (RI.stab _) E1.out))
  refine hK.out _ _ (fun _ => hS.out) ?_
  clear hK K
  try simp only [Act.put, List.setIfInBounds_toArray, List.set_cons_zero, List.set_cons_succ]
  refine wpAnyK_one 5 (by kernel_rfl) rfl (fun K hK => ?_)
  go_simp
  refine (rvalid_any _ _ _ _ qs bs _ q3.out hP.out).mono ?_
  rintro e x2 ⟨rfl, hx2⟩
  replace hS := Lib.hid (show x2.cell? ⟨w2.heap.size, 0, none⟩ = some (.int .i64 code') ∧ x2.cell? ⟨w2.heap.size, 1, none⟩ = some (.int .i64 var') ∧ x2.cell? ⟨w2.heap.size, 2, none⟩ = some (.slice A' n' c') ∧ x2.cell? ⟨w5.heap.size, 0, none⟩ = some (.slice Ab nb cb) from ⟨hx2.cell hS.out.1, hx2.cell hS.out.2.1, hx2.cell hS.out.2.2.1, hx2.cell hS.out.2.2.2⟩)
  replace q5 := Lib.hid (q5.out.trans hx2)
  have hs2 : 0 < x2.heap.size := by have := E1.out.size; have := hx2.size; omega
  clear hx2 E1
  refine hK.out _ _ (fun _ => hS.out) ?_
  clear hK K
  try simp only [Act.put, List.setIfInBounds_toArray, List.set_cons_zero, List.set_cons_succ]
  refine wpAnyK_take 6 (some 24) (v := ?kv5) rfl rfl (by kernel_rfl) (by kernel_rfl) (by kernel_rfl) (by decide) (by kernel_rfl) (fun _ _ _ h => h) (by rfl) ?ky5 hS.out ?kr5
  case ky5 => ((intro wk hk); (try dsimp only at hk); go_simp; try with_reducible rfl)
  try simp only [Act.put, List.setIfInBounds_toArray, List.set_cons_zero, List.set_cons_succ]
  refine wpAnyK_take 7 (some 25) (v := ?kv6) rfl rfl (by kernel_rfl) (by kernel_rfl) (by kernel_rfl) (by decide) (by kernel_rfl) (fun _ _ _ h => h) (by rfl) ?ky6 hS.out ?kr6
  case ky6 => ((intro wk hk); (try dsimp only at hk); go_simp; try with_reducible rfl)
  try simp only [Act.put, List.setIfInBounds_toArray, List.set_cons_zero, List.set_cons_succ]
  refine wpAnyK_one 8 (by kernel_rfl) rfl (fun K hK => ?_)
  go_simp
  refine (awake_any _ hs2).mono ?_
  rintro e x3 ⟨rfl, hx3⟩
  refine hK.out _ _ (fun _ => ⟨hx3.cell hS.out.1, hx3.cell hS.out.2.1, hx3.cell hS.out.2.2.1, hx3.cell hS.out.2.2.2⟩) ?_
  clear hK K
  try simp only [Act.put, List.setIfInBounds_toArray, List.set_cons_zero, List.set_cons_succ]
  replace hS := Lib.hid (show x3.cell? ⟨w2.heap.size, 0, none⟩ = some (.int .i64 code') ∧ x3.cell? ⟨w2.heap.size, 1, none⟩ = some (.int .i64 var') ∧ x3.cell? ⟨w2.heap.size, 2, none⟩ = some (.slice A' n' c') ∧ x3.cell? ⟨w5.heap.size, 0, none⟩ = some (.slice Ab nb cb) from ⟨hx3.cell hS.out.1, hx3.cell hS.out.2.1, hx3.cell hS.out.2.2.1, hx3.cell hS.out.2.2.2⟩)
  refine wpAnyK_take 9 (some 27) (v := ?kv7) rfl rfl (by kernel_rfl) (by kernel_rfl) (by kernel_rfl) (by decide) (by kernel_rfl) (fun _ _ _ h => h) (by rfl) ?ky7 hS.out ?kr7
  case ky7 => ((intro wk hk); (try dsimp only at hk); go_simp; try with_reducible rfl)
  try simp only [Act.put, List.setIfInBounds_toArray, List.set_cons_zero, List.set_cons_succ]
  refine wpAnyK_one 10 (by kernel_rfl) rfl (fun K hK => ?_)
  go_simp
  refine hK.out _ _ (fun h => absurd rfl h) ?_
  clear hK K
  refine wpAnyK_done (by kernel_rfl) ?_ _
  go_wp2_with fail
  go_ret
  exact ⟨rfl, q5.out.trans hx3⟩
end Go.Proofs.Ytpbfbkkalemmiaa
