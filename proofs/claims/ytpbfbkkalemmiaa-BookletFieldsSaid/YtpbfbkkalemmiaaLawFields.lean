/- BookletFields: the walk of the law. -/
import Derived.Test.YtpbfbkkalemmiaaLawBValid
import Derived.Test.YtpbfbkkalemmiaaRFields
namespace Go.Proofs.Ytpbfbkkalemmiaa
open Go.RowKit

set_option maxRecDepth 100000 in
set_option maxHeartbeats 4000000 in
theorem walkBookletFields (v0 : Value) (l0 : List Int) (a1 : Int) (w : World) (h0 : IsI w.heap.size w v0 l0) (h1 : I64 a1) :
    Calls Try.prog 9 #[v0, .int .i64 a1] w fun e w' => e = .returned (.bool true) ∧ Ext w w' := by
  have H0 := Lib.hid h0
  have H1 := Lib.hid h1
  clear h0 h1
  go_enter Try.func9, Try.ntmps9
  go_wp2_with fail
  refine (new_any _ l0 _ H0.out).mono ?_
  rintro e w1 ⟨rfl, HT1, HE1⟩
  have hlt1 := HT1.lt
  go_wp2_with fail
  refine (loosePaper_any _ _ _ HT1 (by omega) (by omega)).mono ?_
  rintro e w2 ⟨v2, rfl, ⟨code, var, pv, ps, rfl, _, _, hO, hl12, hwf⟩, HT2, HX2⟩
  obtain ⟨A, c, rfl⟩ := hO.form
  have HQ := Lib.hid (hO.isQ hlt1 hwf)
  have HE := Lib.hid ((Ext.refl w2).alloc (.cells #[.int .i64 code, .int .i64 var, .slice A ps.length c] 33))
  have HE2 := Lib.hid ((HX2.fresh HE1 (Nat.le_refl _)).trans HE.out)
  have HB2 := Lib.hid (show QBox (w2.alloc (.cells #[.int .i64 code, .int .i64 var, .slice A ps.length c] 33)) w2.heap.size code var (.slice A ps.length c) from heap_alloc_new w2 _)
  have HT := Lib.hid (HT2.ext HE.out)
  replace HQ := Lib.hid ((HQ.out.ext (RPart.stab _) HE.out))
  have hlt2 := HT2.lt
  clear HT1 HX2 HE1 HT2 hO hwf hlt1 HE
  go_upto_region 3 with (fail)
  generalize hW : w2.alloc (.cells #[.int .i64 code, .int .i64 var, .slice A ps.length c] 33) = W2 at *
  clear hW
  obtain ⟨c0, c1, c2⟩ := HB2.out.cells
  go_wp2_with fail
  refine (shaped_any _ _ _ _ ps _ HT.out HQ.out (by omega)).mono ?_
  rintro e w5 ⟨v5, rfl, ⟨bv, bs, rfl, hP⟩, HT5, HX5⟩
  obtain ⟨Ab, nb, cb, rfl, _, _, _, HLb⟩ := hP.open_
  have hlt5 := HT5.lt
  replace HX5 := Lib.hid HX5
  replace hP := Lib.hid hP
  replace HB2 := Lib.hid ((HB2.out.xt HX5.out (by omega)))
  replace HQ := Lib.hid ((HQ.out.xt (RPart.stab _) HX5.out))
  replace HE2 := Lib.hid (HX5.out.fresh HE2.out (Nat.le_refl _))
  have E5 := Lib.hid ((Ext.refl w5).alloc (.cells #[.slice Ab nb cb] 38))
  have k5 := Lib.hid (box1 (a := .slice Ab nb cb) rfl (Ext.refl (w5.alloc (.cells #[.slice Ab nb cb] 38))))
  replace HB2 := Lib.hid (HB2.out.ext E5.out)
  replace HQ := Lib.hid ((HQ.out.ext (RPart.stab _) E5.out))
  replace HE2 := Lib.hid (HE2.out.trans E5.out)
  replace hP := Lib.hid ((hP.out.ext (RI.stab _) E5.out))
  have hlt6 : w.heap.size < (w5.alloc (.cells #[.slice Ab nb cb] 38)).heap.size := by simp; omega
  clear c0 c1 c2 HX5 E5 HT5 HT
  go_upto_region 4 with (fail)
  generalize hW : w5.alloc (.cells #[.slice Ab nb cb] 38) = W5 at *
  clear hW
  go_wp2_with fail
  refine (cut_any _ _ _ H1.out.1 H1.out.2 (by omega)).mono ?_
  rintro e w' ⟨rfl, rfl⟩
  have hk1 : I64 (cutZ a1 9) := by have := cutZ_lo a1 9; have := cutZ_hi a1 9 (by omega); exact ⟨by omega, by omega⟩
  generalize cutZ a1 9 = a2 at *
  replace hk1 := Lib.hid hk1
  go_wp2_with fail
  go_loopw [1, 9] (fun s1 s9 wr => ∃ (i : Nat) (pg : Int), s1 = .int .i64 pg ∧ s9 = .int .i64 i ∧ i ≤ 2 ∧ Hid (I64 pg ∧ Ext W5 wr)) (fun _ i _ => 2 - (intOf i).toNat)
  case atStart => exact ⟨0, a1, rfl, rfl, by omega, H1.out, Ext.refl _⟩
  case round =>
    obtain ⟨i, pg, rfl, rfl, hi, HR⟩ := hrel
    by_cases hi2 : i < 2
    · have hltr : w.heap.size < wr.heap.size := by have := HR.out.2.size; omega
      obtain ⟨hpg, hE⟩ := HR.out
      replace hpg := Lib.hid hpg
      replace hE := Lib.hid hE
      clear HR
      have HQr := Lib.hid ((HQ.out.ext (RPart.stab _) hE.out).ext (RPart.stab _) (Ext.refl _).drew)
      have HPr := Lib.hid ((hP.out.ext (RI.stab _) hE.out).ext (RI.stab _) (Ext.refl _).drew)
      obtain ⟨c0, c1, c2⟩ := (HB2.out.ext hE.out).cells
      have hS : wr.drew.cell? ⟨w2.heap.size, 0, none⟩ = some (.int .i64 code) ∧ wr.drew.cell? ⟨w2.heap.size, 1, none⟩ = some (.int .i64 var) ∧ wr.drew.cell? ⟨w2.heap.size, 2, none⟩ = some (.slice A ps.length c) ∧ wr.drew.cell? ⟨w5.heap.size, 0, none⟩ = some (.slice Ab nb cb) := ⟨c0, c1, c2, hE.out.cell k5.out⟩
      replace hS := Lib.hid hS
      clear c0 c1 c2
      go_upto_region 8 with (fail)
      refine wp_region_k 9 (fun w' => w'.cell? ⟨w2.heap.size, 0, none⟩ = some (.int .i64 code) ∧ w'.cell? ⟨w2.heap.size, 1, none⟩ = some (.int .i64 var) ∧ w'.cell? ⟨w2.heap.size, 2, none⟩ = some (.slice A ps.length c) ∧ w'.cell? ⟨w5.heap.size, 0, none⟩ = some (.slice Ab nb cb)) (by kernel_rfl) ?_
      refine wpAnyK_take 0 (some 26) (v := ?kv1) rfl rfl (by kernel_rfl) (by kernel_rfl) (by kernel_rfl) (by decide) (by kernel_rfl) (fun _ _ _ h => h) (by rfl) ?ky1 hS.out ?kr1
      case ky1 => ((intro wk hk); (try dsimp only at hk); go_simp; try with_reducible rfl)
      try simp only [Act.put, List.setIfInBounds_toArray, List.set_cons_zero, List.set_cons_succ]
      refine wpAnyK_take 1 (some 27) (v := ?kv2) rfl rfl (by kernel_rfl) (by kernel_rfl) (by kernel_rfl) (by decide) (by kernel_rfl) (fun _ _ _ h => h) (by rfl) ?ky2 hS.out ?kr2
      case ky2 => ((intro wk hk); (try dsimp only at hk); go_simp; try with_reducible rfl)
      try simp only [Act.put, List.setIfInBounds_toArray, List.set_cons_zero, List.set_cons_succ]
      refine wpAnyK_take 2 (some 28) (v := ?kv3) rfl rfl (by kernel_rfl) (by kernel_rfl) (by kernel_rfl) (by decide) (by kernel_rfl) (fun _ _ _ h => h) (by rfl) ?ky3 hS.out ?kr3
      case ky3 => ((intro wk hk); (try dsimp only at hk); go_simp; try with_reducible rfl)
      try simp only [Act.put, List.setIfInBounds_toArray, List.set_cons_zero, List.set_cons_succ]
      refine wpAnyK_take 4 (some 30) (v := ?kv4) rfl rfl (by kernel_rfl) (by kernel_rfl) (by kernel_rfl) (by decide) (by kernel_rfl) (fun _ _ _ h => h) (by rfl) ?ky4 hS.out ?kr4
      case ky4 => ((intro wk hk); (try dsimp only at hk); go_simp; try with_reducible rfl)
      try simp only [Act.put, List.setIfInBounds_toArray, List.set_cons_zero, List.set_cons_succ]
      refine wpAnyK_take 5 (some 31) (v := ?kv5) rfl rfl (by kernel_rfl) (by kernel_rfl) (by kernel_rfl) (by decide) (by kernel_rfl) (fun _ _ _ h => h) (by rfl) ?ky5 hS.out ?kr5
      case ky5 => ((intro wk hk); (try dsimp only at hk); go_simp; try with_reducible rfl)
      try simp only [Act.put, List.setIfInBounds_toArray, List.set_cons_zero, List.set_cons_succ]
      refine wpAnyK_take 6 (some 32) (v := ?kv6) rfl rfl (by kernel_rfl) (by kernel_rfl) (by kernel_rfl) (by decide) (by kernel_rfl) (fun _ _ _ h => h) (by rfl) ?ky6 hS.out ?kr6
      case ky6 => ((intro wk hk); (try dsimp only at hk); go_simp; try with_reducible rfl)
      try simp only [Act.put, List.setIfInBounds_toArray, List.set_cons_zero, List.set_cons_succ]
      refine wpAnyK_one 3 (by kernel_rfl) rfl (fun K hK => ?_)
      go_simp
      refine (fields_any _ _ _ _ _ ps bs wr.drew hltr HQr.out HPr.out hpg.out).mono ?_
      rintro e x1 ⟨vx, rfl, hFx, hx1⟩
      obtain ⟨Ax, nx, cx, rfl, hncx, hcx, hnnx, HLx⟩ := hFx.open_
      replace hS := Lib.hid (show x1.cell? ⟨w2.heap.size, 0, none⟩ = some (.int .i64 code) ∧ x1.cell? ⟨w2.heap.size, 1, none⟩ = some (.int .i64 var) ∧ x1.cell? ⟨w2.heap.size, 2, none⟩ = some (.slice A ps.length c) ∧ x1.cell? ⟨w5.heap.size, 0, none⟩ = some (.slice Ab nb cb) from ⟨hx1.cell hS.out.1, hx1.cell hS.out.2.1, hx1.cell hS.out.2.2.1, hx1.cell hS.out.2.2.2⟩)
      replace hFx := Lib.hid hFx
      replace hE := Lib.hid ((hE.out.drew).trans hx1)
      replace HQr := Lib.hid ((HQr.out.ext (RPart.stab _) hx1))
      replace HPr := Lib.hid ((HPr.out.ext (RI.stab _) hx1))
      have hltx : w.heap.size < x1.heap.size := Nat.lt_of_lt_of_le hltr hx1.size
      clear hx1
      refine hK.out _ _ (fun _ => hS.out) ?_
      clear hK K
      try simp only [Act.put, List.setIfInBounds_toArray, List.set_cons_zero, List.set_cons_succ]
      refine wpAnyK_one 7 (by kernel_rfl) rfl (fun K hK => ?_)
      go_simp
      refine (rfields_any _ _ _ _ _ ps bs _ hltx HQr.out HPr.out hpg.out).mono ?_
      rintro e x2 ⟨vy, rfl, hFy, hx2⟩
      obtain ⟨Ay, ny, cy, rfl, hncy, hcy, hnny, HLy⟩ := hFy.open_
      obtain rfl : nx = ny := by rw [← HLx.out, ← HLy.out]
      replace hS := Lib.hid (show x2.cell? ⟨w2.heap.size, 0, none⟩ = some (.int .i64 code) ∧ x2.cell? ⟨w2.heap.size, 1, none⟩ = some (.int .i64 var) ∧ x2.cell? ⟨w2.heap.size, 2, none⟩ = some (.slice A ps.length c) ∧ x2.cell? ⟨w5.heap.size, 0, none⟩ = some (.slice Ab nb cb) from ⟨hx2.cell hS.out.1, hx2.cell hS.out.2.1, hx2.cell hS.out.2.2.1, hx2.cell hS.out.2.2.2⟩)
      replace hFy := Lib.hid hFy
      replace hE := Lib.hid (hE.out.trans hx2)
      replace hFx := Lib.hid ((hFx.out.ext (RFld.stab _) hx2))
      clear hx2
      refine hK.out _ _ (fun _ => hS.out) ?_
      clear hK K
      try simp only [Act.put, List.setIfInBounds_toArray, List.set_cons_zero, List.set_cons_succ]
      refine wpAnyK_one 8 (by kernel_rfl) rfl (fun K hK => ?_)
      go_simp
      refine hK.out _ _ (fun _ => hS.out) ?_
      clear hK K
      try simp only [Act.put, List.setIfInBounds_toArray, List.set_cons_zero, List.set_cons_succ]
      refine wpAnyK_one 9 (by kernel_rfl) rfl (fun K hK => ?_)
      go_simp
      refine hK.out _ _ (fun h => absurd rfl h) ?_
      clear hK K
      refine wpAnyK_done (by kernel_rfl) ?_ _
      clear hS HQr HPr
      have hc1 : ((nx : Int) != nx) = false := by simp
      obtain ⟨wi, rfl⟩ : ∃ wi : World, wi = x2 := ⟨_, rfl⟩
      go_wp2_with fail
      go_loopw [12] (fun s12 wr => ∃ (k m : Nat), s12 = .int .i64 k ∧ k ≤ nx ∧ wr = wi.drewN m) (fun i _ => nx - (intOf i).toNat)
      case atStart => exact ⟨0, 0, rfl, by omega, rfl⟩
      case round =>
        obtain ⟨k2, m, rfl, hk2, rfl⟩ := hrel
        by_cases hkx : k2 < nx
        · obtain ⟨b1, o1, cs1, z1, rfl, _⟩ := hFx.out.at_ hkx
          obtain ⟨b2, o2, cs2, z2, rfl, _⟩ := hFy.out.at_ hkx
          obtain ⟨q, cx0, cx1, HX, _, _⟩ := hFx.out.fld hkx
          obtain ⟨q', cy0, cy1, HY, _, _⟩ := hFy.out.fld hkx
          obtain rfl : q = q' := by have h1 := HX.out; have h2 := HY.out; rw [h2] at h1; exact (Option.some.inj h1).symm
          have ef := eqFld_self q.part q.opt
          have gf := guardFld
          have hb0 : (0 : Int) ≤ (k2 : Int) := Int.natCast_nonneg _
          have hb1 : (k2 : Int) < (nx : Int) := by omega
          have hS : (wi.drewN m).drew.cell? ⟨b1, o1 + k2 * 2, none⟩ = some (.int .i64 q.part) ∧ (wi.drewN m).drew.cell? ⟨b1, o1 + k2 * 2 + 1, none⟩ = some (.int .i64 q.opt) ∧ (wi.drewN m).drew.cell? ⟨b2, o2 + k2 * 2, none⟩ = some (.int .i64 q.part) ∧ (wi.drewN m).drew.cell? ⟨b2, o2 + k2 * 2 + 1, none⟩ = some (.int .i64 q.opt) := ⟨cx0, cx1, cy0, cy1⟩
          replace hS := Lib.hid hS
          go_wp2_with fail
          refine wp_region_k 99 (fun w' => w'.cell? ⟨b1, o1 + k2 * 2, none⟩ = some (.int .i64 q.part) ∧ w'.cell? ⟨b1, o1 + k2 * 2 + 1, none⟩ = some (.int .i64 q.opt) ∧ w'.cell? ⟨b2, o2 + k2 * 2, none⟩ = some (.int .i64 q.part) ∧ w'.cell? ⟨b2, o2 + k2 * 2 + 1, none⟩ = some (.int .i64 q.opt)) (by kernel_rfl) ?_
          refine wpAnyK_take 0 (some 45) (v := ?kv7) rfl rfl (by kernel_rfl) (by kernel_rfl) (by kernel_rfl) (by decide) (by kernel_rfl) (fun _ _ _ h => h) (by rfl) ?ky7 hS.out ?kr7
          case ky7 => ((intro wk hk); (try dsimp only at hk); go_simp; try with_reducible rfl)
          try simp only [Act.put, List.setIfInBounds_toArray, List.set_cons_zero, List.set_cons_succ]
          refine wpAnyK_take 1 (some 46) (v := ?kv8) rfl rfl (by kernel_rfl) (by kernel_rfl) (by kernel_rfl) (by decide) (by kernel_rfl) (fun _ _ _ h => h) (by rfl) ?ky8 hS.out ?kr8
          case ky8 => ((intro wk hk); (try dsimp only at hk); go_simp; try with_reducible rfl)
          try simp only [Act.put, List.setIfInBounds_toArray, List.set_cons_zero, List.set_cons_succ]
          refine wpAnyK_take 2 (some 47) (v := ?kv9) rfl rfl (by kernel_rfl) (by kernel_rfl) (by kernel_rfl) (by decide) (by kernel_rfl) (fun _ _ _ h => h) (by rfl) ?ky9 hS.out ?kr9
          case ky9 => ((intro wk hk); (try dsimp only at hk); go_simp; try with_reducible rfl)
          try simp only [Act.put, List.setIfInBounds_toArray, List.set_cons_zero, List.set_cons_succ]
          refine wpAnyK_take 3 (some 48) (v := ?kv10) rfl rfl (by kernel_rfl) (by kernel_rfl) (by kernel_rfl) (by decide) (by kernel_rfl) (fun _ _ _ h => h) (by rfl) ?ky10 hS.out ?kr10
          case ky10 => ((intro wk hk); (try dsimp only at hk); go_simp; try with_reducible rfl)
          try simp only [Act.put, List.setIfInBounds_toArray, List.set_cons_zero, List.set_cons_succ]
          refine wpAnyK_take 4 (some 49) (v := ?kv11) rfl rfl (by kernel_rfl) (by kernel_rfl) (by kernel_rfl) (by decide) (by kernel_rfl) (fun _ _ _ h => h) (by rfl) ?ky11 hS.out ?kr11
          case ky11 => ((intro wk hk); (try dsimp only at hk); go_simp; try with_reducible rfl)
          try simp only [Act.put, List.setIfInBounds_toArray, List.set_cons_zero, List.set_cons_succ]
          refine wpAnyK_take 5 (some 50) (v := ?kv12) rfl rfl (by kernel_rfl) (by kernel_rfl) (by kernel_rfl) (by decide) (by kernel_rfl) (fun _ _ _ h => h) (by rfl) ?ky12 hS.out ?kr12
          case ky12 => ((intro wk hk); (try dsimp only at hk); go_simp; try with_reducible rfl)
          try simp only [Act.put, List.setIfInBounds_toArray, List.set_cons_zero, List.set_cons_succ]
          refine wpAnyK_take 6 (some 51) (v := ?kv13) rfl rfl (by kernel_rfl) (by kernel_rfl) (by kernel_rfl) (by decide) (by kernel_rfl) (fun _ _ _ h => h) (by rfl) ?ky13 hS.out ?kr13
          case ky13 => ((intro wk hk); (try dsimp only at hk); go_simp; try with_reducible rfl)
          try simp only [Act.put, List.setIfInBounds_toArray, List.set_cons_zero, List.set_cons_succ]
          refine wpAnyK_take 7 (some 52) (v := ?kv14) rfl rfl (by kernel_rfl) (by kernel_rfl) (by kernel_rfl) (by decide) (by kernel_rfl) (fun _ _ _ h => h) (by rfl) ?ky14 hS.out ?kr14
          case ky14 => ((intro wk hk); (try dsimp only at hk); go_simp; try with_reducible rfl)
          try simp only [Act.put, List.setIfInBounds_toArray, List.set_cons_zero, List.set_cons_succ]
          refine wpAnyK_take 8 (some 53) (v := ?kv15) rfl rfl (by kernel_rfl) (by kernel_rfl) (by kernel_rfl) (by decide) (by kernel_rfl) (fun _ _ _ h => h) (by rfl) ?ky15 hS.out ?kr15
          case ky15 => ((intro wk hk); (try dsimp only at hk); go_simp; try with_reducible rfl)
          try simp only [Act.put, List.setIfInBounds_toArray, List.set_cons_zero, List.set_cons_succ]
          refine wpAnyK_done (by kernel_rfl) ?_ _
          clear ef gf hS
          go_wp2_with fail
          go_roundw
          case rel => exact ⟨k2 + 1, m + 1, by go_num, by omega, rfl⟩
          case measure => simp [intOf]; omega
        · go_wp2_with fail
          go_roundw
          case rel => exact ⟨i + 1, a2, rfl, by go_num, by omega, hk1.out, hE.out.drewN _⟩
          case measure => simp [intOf]; omega
    · go_wp2_with fail
      refine (awake_any _ (by have := HR.out.2.size; omega)).mono ?_
      rintro e x5 ⟨rfl, hx5⟩
      go_wp2_with fail
      go_ret
      exact ⟨rfl, (HE2.out.trans HR.out.2).trans hx5⟩
end Go.Proofs.Ytpbfbkkalemmiaa
