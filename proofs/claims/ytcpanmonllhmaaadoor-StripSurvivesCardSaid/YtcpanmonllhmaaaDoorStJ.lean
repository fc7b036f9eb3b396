/- The reference's Read. -/
import Derived.Test.YtcpanmonllhmaaaDoorStI
import Derived.Test.YtcpanmonllhmaaaDoorGOrd
set_option linter.unusedSimpArgs false
set_option linter.unusedVariables false
namespace Go.Proofs.YtcpanmonllhmaaaDoor
open Go.RowKit

set_option maxRecDepth 100000 in
set_option maxHeartbeats 4000000 in
theorem rread_any (s : ByteArray) (w : World) : Calls Tryd.prog 31 #[.string s] w (ReadRet (bl s) w) := by
  have HE0 : Bx (Ext w (w.alloc (.cells #[.int .i64 0, .int .i64 0, .int .i64 0, .int .i64 0] 26))) := ⟨(Ext.refl _).alloc _⟩
  go_enter Tryd.func31, Tryd.ntmps31
  go_wp2_with fail
  refine (rupright_any s _).mono ?_
  rintro e w1 ⟨t, k, rfl, hk, ht, hx1⟩
  have hbk := hx1.blk (heap_alloc_new w _)
  have HX : Bx (Ext w w1) := ⟨HE0.out.trans hx1⟩
  have HBT : Bx (bl t = uprS (bl s)) := ⟨ht⟩
  have HK : Bx (k = uprE (bl s)) := ⟨hk⟩
  have HBK : Bx (w1.heap[w.heap.size]? = some (.cells #[.int .i64 0, .int .i64 0, .int .i64 0, .int .i64 0] 26 (0, 0))) := ⟨hbk⟩
  clear hx1 ht hk hbk HE0
  by_cases hu : k = 0
  · subst hu
    have HST : Bx (stripB (bl t) = true) := ⟨by rw [HBT.out]; exact upr_strip HK.out.symm⟩
    go_wp2_with fail
    refine (rword_any t _).mono ?_
    rintro e w2 ⟨A2, n2, c2, k2, rfl, hk2, hi2, hx2⟩
    rw [(wrd_yes HST.out).2] at hk2
    rw [(wrd_yes HST.out).1, HBT.out] at hi2
    subst hk2
    have HI : Bx (IsI w2.heap.size w2 (.slice A2 n2 c2) (wordL (uprS (bl s)))) := ⟨hi2⟩
    replace HX : Bx (Ext w w2) := ⟨HX.out.trans hx2⟩
    replace HBK : Bx (w2.heap[w.heap.size]? = some (.cells #[.int .i64 0, .int .i64 0, .int .i64 0, .int .i64 0] 26 (0, 0))) := ⟨hx2.blk HBK.out⟩
    clear hi2 hx2
    go_wp2_with fail
    refine (rdecode_any _ _ _ HI.out).mono ?_
    rintro e w3 ⟨A3, n3, c3, d, er, kk, rfl, hi3, hx3, f3, t3⟩
    have HDF : Bx (DecF (wordL (uprS (bl s))) d er kk) := ⟨⟨f3, t3⟩⟩
    have HI3 : Bx (IsI w3.heap.size w3 (.slice A3 n3 c3) (wI d)) := ⟨hi3⟩
    replace HX : Bx (Ext w w3) := ⟨HX.out.trans hx3⟩
    replace HBK : Bx (w3.heap[w.heap.size]? = some (.cells #[.int .i64 0, .int .i64 0, .int .i64 0, .int .i64 0] 26 (0, 0))) := ⟨hx3.blk HBK.out⟩
    have HWW : Bx (wordB (-1) (wordL (uprS (bl s))) = true) := ⟨word_strip (by rw [← HBT.out]; exact HST.out)⟩
    clear hi3 hx3 f3 t3 HI
    have z0 := blk_cell HBK.out (i := 0) rfl
    have z1 := blk_cell HBK.out (i := 1) rfl
    have z2 := blk_cell HBK.out (i := 2) rfl
    have z3 := blk_cell HBK.out (i := 3) rfl
    have f0 := blk_frozen HBK.out 0
    have f1 := blk_frozen HBK.out 1
    have f2 := blk_frozen HBK.out 2
    have f3 := blk_frozen HBK.out 3
    rcases dec_k HWW.out HDF.out with ⟨rfl, hl, her0, her6⟩ | ⟨rfl, hd, he⟩
    · rw [wordL_len] at hl
      obtain ⟨b, off, rfl, rfl, hcd⟩ := isD_at HI3.out hl
      have c0 := hcd 0 (by omega)
      have c1 := hcd 1 (by omega)
      have c2 := hcd 2 (by omega)
      have c3 := hcd 3 (by omega)
      have c4 := hcd 4 (by omega)
      have c5 := hcd 5 (by omega)
      rw [Nat.add_zero] at c0
      clear hcd hl
      obtain ⟨d0l, d0h⟩ := dz_bd d 0
      obtain ⟨d1l, d1h⟩ := dz_bd d 1
      obtain ⟨d2l, d2h⟩ := dz_bd d 2
      obtain ⟨d3l, d3h⟩ := dz_bd d 3
      obtain ⟨d4l, d4h⟩ := dz_bd d 4
      obtain ⟨d5l, d5h⟩ := dz_bd d 5
      have HCZ : Bx (1024 * dz d 1 + 32 * dz d 2 + dz d 3 = candZ d) := ⟨rfl⟩
      have HRF : Bx (∀ p c g v n k, (9999 < candZ d → p = 0 ∧ c = 0 ∧ g = 0 ∧ v = 0 ∧ n = 0 ∧ k = 2) → (candZ d ≤ 9999 → p = dz d 0 ∧ c = candZ d ∧ g = dz d 4 ∧ v = dz d 5 ∧ n = er ∧ k = 0) → ReadF (bl s) p c g v n k) := ⟨fun p c g v n k g1 g2 => ⟨fun h => absurd HK.out.symm h, fun _ => ⟨d, er, 0, HDF.out, fun h => absurd rfl h, fun _ => ⟨g1, g2⟩⟩⟩⟩
      generalize dz d 0 = x0 at *
      generalize dz d 1 = x1 at *
      generalize dz d 2 = x2 at *
      generalize dz d 3 = x3 at *
      generalize dz d 4 = x4 at *
      generalize dz d 5 = x5 at *
      generalize candZ d = cz at *
      have e1 : IntKind.i64.wrap (1024 * x1) = 1024 * x1 := IntWalk.i64_in _ (by omega)
      have e2 : IntKind.i64.wrap (32 * x2) = 32 * x2 := IntWalk.i64_in _ (by omega)
      have e3 : IntKind.i64.wrap (1024 * x1 + 32 * x2) = 1024 * x1 + 32 * x2 := IntWalk.i64_in _ (by omega)
      have e4 : IntKind.i64.wrap (1024 * x1 + 32 * x2 + x3) = cz := by rw [IntWalk.i64_in _ (by omega)]; exact HCZ.out
      have hz1 : cz ≤ 32767 := by have := HCZ.out; omega
      have hz0 : 0 ≤ cz := by have := HCZ.out; omega
      clear HI3 HDF HWW HBT HK HST
      have hS : w3.drew.cell? ⟨b, off, none⟩ = some (.int .i64 x0) ∧ w3.drew.cell? ⟨b, off + 1, none⟩ = some (.int .i64 x1) ∧ w3.drew.cell? ⟨b, off + 2, none⟩ = some (.int .i64 x2) ∧ w3.drew.cell? ⟨b, off + 3, none⟩ = some (.int .i64 x3) ∧ w3.drew.cell? ⟨b, off + 4, none⟩ = some (.int .i64 x4) ∧ w3.drew.cell? ⟨b, off + 5, none⟩ = some (.int .i64 x5) := ⟨c0, c1, c2, c3, c4, c5⟩
      replace hS := Lib.hid hS
      clear c0 c1 c2 c3 c4 c5 z0 z1 z2 z3 f0 f1 f2 f3
      go_upto_region 8 with (fail)
      refine wp_region_k 24 (fun w' => w'.cell? ⟨b, off, none⟩ = some (.int .i64 x0) ∧ w'.cell? ⟨b, off + 1, none⟩ = some (.int .i64 x1) ∧ w'.cell? ⟨b, off + 2, none⟩ = some (.int .i64 x2) ∧ w'.cell? ⟨b, off + 3, none⟩ = some (.int .i64 x3) ∧ w'.cell? ⟨b, off + 4, none⟩ = some (.int .i64 x4) ∧ w'.cell? ⟨b, off + 5, none⟩ = some (.int .i64 x5)) (by kernel_rfl) ?_
      refine wpAnyK_take 0 (some 37) (v := ?kv1) rfl rfl (by kernel_rfl) (by kernel_rfl) (by kernel_rfl) (by decide) (by kernel_rfl) (fun _ _ _ h => h) (by rfl) ?ky1 hS.out ?kr1
      case ky1 => ((intro wk hk); (try dsimp only at hk); go_simp; try with_reducible rfl)
      try simp only [Act.put, List.setIfInBounds_toArray, List.set_cons_zero, List.set_cons_succ]
      refine wpAnyK_take 1 (some 38) (v := ?kv2) rfl rfl (by kernel_rfl) (by kernel_rfl) (by kernel_rfl) (by decide) (by kernel_rfl) (fun _ _ _ h => h) (by rfl) ?ky2 hS.out ?kr2
      case ky2 => ((intro wk hk); (try dsimp only at hk); go_simp; try with_reducible rfl)
      try simp only [Act.put, List.setIfInBounds_toArray, List.set_cons_zero, List.set_cons_succ]
      refine wpAnyK_take 2 (some 39) (v := ?kv3) rfl rfl (by kernel_rfl) (by kernel_rfl) (by kernel_rfl) (by decide) (by kernel_rfl) (fun _ _ _ h => h) (by rfl) ?ky3 hS.out ?kr3
      case ky3 => ((intro wk hk); (try dsimp only at hk); go_simp; try with_reducible rfl)
      try simp only [Act.put, List.setIfInBounds_toArray, List.set_cons_zero, List.set_cons_succ]
      refine wpAnyK_take 3 (some 40) (v := ?kv4) rfl rfl (by kernel_rfl) (by kernel_rfl) (by kernel_rfl) (by decide) (by kernel_rfl) (fun _ _ _ h => h) (by rfl) ?ky4 hS.out ?kr4
      case ky4 => ((intro wk hk); (try dsimp only at hk); go_simp; try with_reducible rfl)
      try simp only [Act.put, List.setIfInBounds_toArray, List.set_cons_zero, List.set_cons_succ]
      refine wpAnyK_take 4 (some 41) (v := ?kv5) rfl rfl (by kernel_rfl) (by kernel_rfl) (by kernel_rfl) (by decide) (by kernel_rfl) (fun _ _ _ h => h) (by rfl) ?ky5 hS.out ?kr5
      case ky5 => ((intro wk hk); (try dsimp only at hk); go_simp; try with_reducible rfl)
      try simp only [Act.put, List.setIfInBounds_toArray, List.set_cons_zero, List.set_cons_succ]
      refine wpAnyK_take 5 (some 42) (v := ?kv6) rfl rfl (by kernel_rfl) (by kernel_rfl) (by kernel_rfl) (by decide) (by kernel_rfl) (fun _ _ _ h => h) (by rfl) ?ky6 hS.out ?kr6
      case ky6 => ((intro wk hk); (try dsimp only at hk); go_simp; try with_reducible rfl)
      try simp only [Act.put, List.setIfInBounds_toArray, List.set_cons_zero, List.set_cons_succ]
      refine wpAnyK_take 6 (some 43) (v := ?kv7) rfl rfl (by kernel_rfl) (by kernel_rfl) (by kernel_rfl) (by decide) (by kernel_rfl) (fun _ _ _ h => h) (by rfl) ?ky7 hS.out ?kr7
      case ky7 => ((intro wk hk); (try dsimp only at hk); go_simp; try with_reducible rfl)
      try simp only [Act.put, List.setIfInBounds_toArray, List.set_cons_zero, List.set_cons_succ]
      refine wpAnyK_take 7 (some 44) (v := ?kv8) rfl rfl (by kernel_rfl) (by kernel_rfl) (by kernel_rfl) (by decide) (by kernel_rfl) (fun _ _ _ h => h) (by rfl) ?ky8 hS.out ?kr8
      case ky8 => ((intro wk hk); (try dsimp only at hk); go_simp; try with_reducible rfl)
      try simp only [Act.put, List.setIfInBounds_toArray, List.set_cons_zero, List.set_cons_succ]
      refine wpAnyK_take 8 (some 45) (v := ?kv9) rfl rfl (by kernel_rfl) (by kernel_rfl) (by kernel_rfl) (by decide) (by kernel_rfl) (fun _ _ _ h => h) (by rfl) ?ky9 hS.out ?kr9
      case ky9 => ((intro wk hk); (try dsimp only at hk); go_simp; try with_reducible rfl)
      try simp only [Act.put, List.setIfInBounds_toArray, List.set_cons_zero, List.set_cons_succ]
      refine wpAnyK_take 9 (some 46) (v := ?kv10) rfl rfl (by kernel_rfl) (by kernel_rfl) (by kernel_rfl) (by decide) (by kernel_rfl) (fun _ _ _ h => h) (by rfl) ?ky10 hS.out ?kr10
      case ky10 => ((intro wk hk); (try dsimp only at hk); go_simp; try with_reducible rfl)
      try simp only [Act.put, List.setIfInBounds_toArray, List.set_cons_zero, List.set_cons_succ]
      refine wpAnyK_take 10 (some 47) (v := ?kv11) rfl rfl (by kernel_rfl) (by kernel_rfl) (by kernel_rfl) (by decide) (by kernel_rfl) (fun _ _ _ h => h) (by rfl) ?ky11 hS.out ?kr11
      case ky11 => ((intro wk hk); (try dsimp only at hk); go_simp; try with_reducible rfl)
      try simp only [Act.put, List.setIfInBounds_toArray, List.set_cons_zero, List.set_cons_succ]
      refine wpAnyK_take 11 (some 48) (v := ?kv12) rfl rfl (by kernel_rfl) (by kernel_rfl) (by kernel_rfl) (by decide) (by kernel_rfl) (fun _ _ _ h => h) (by rfl) ?ky12 hS.out ?kr12
      case ky12 => ((intro wk hk); (try dsimp only at hk); go_simp; try with_reducible rfl)
      try simp only [Act.put, List.setIfInBounds_toArray, List.set_cons_zero, List.set_cons_succ]
      refine wpAnyK_take 12 (some 49) (v := ?kv13) rfl rfl (by kernel_rfl) (by kernel_rfl) (by kernel_rfl) (by decide) (by kernel_rfl) (fun _ _ _ h => h) (by rfl) ?ky13 hS.out ?kr13
      case ky13 => ((intro wk hk); (try dsimp only at hk); go_simp; try with_reducible rfl)
      try simp only [Act.put, List.setIfInBounds_toArray, List.set_cons_zero, List.set_cons_succ]
      refine wpAnyK_take 13 (some 50) (v := ?kv14) rfl rfl (by kernel_rfl) (by kernel_rfl) (by kernel_rfl) (by decide) (by kernel_rfl) (fun _ _ _ h => h) (by rfl) ?ky14 hS.out ?kr14
      case ky14 => ((intro wk hk); (try dsimp only at hk); go_simp; try with_reducible rfl)
      try simp only [Act.put, List.setIfInBounds_toArray, List.set_cons_zero, List.set_cons_succ]
      refine wpAnyK_take 14 (some 51) (v := ?kv15) rfl rfl (by kernel_rfl) (by kernel_rfl) (by kernel_rfl) (by decide) (by kernel_rfl) (fun _ _ _ h => h) (by rfl) ?ky15 hS.out ?kr15
      case ky15 => ((intro wk hk); (try dsimp only at hk); go_simp; try with_reducible rfl)
      try simp only [Act.put, List.setIfInBounds_toArray, List.set_cons_zero, List.set_cons_succ]
      refine wpAnyK_take 15 (some 52) (v := ?kv16) rfl rfl (by kernel_rfl) (by kernel_rfl) (by kernel_rfl) (by decide) (by kernel_rfl) (fun _ _ _ h => h) (by rfl) ?ky16 hS.out ?kr16
      case ky16 => ((intro wk hk); (try dsimp only at hk); go_simp; try with_reducible rfl)
      try simp only [Act.put, List.setIfInBounds_toArray, List.set_cons_zero, List.set_cons_succ]
      refine wpAnyK_take 16 (some 53) (v := ?kv17) rfl rfl (by kernel_rfl) (by kernel_rfl) (by kernel_rfl) (by decide) (by kernel_rfl) (fun _ _ _ h => h) (by rfl) ?ky17 hS.out ?kr17
      case ky17 => ((intro wk hk); (try dsimp only at hk); go_simp; try with_reducible rfl)
      try simp only [Act.put, List.setIfInBounds_toArray, List.set_cons_zero, List.set_cons_succ]
      refine wpAnyK_take 17 (some 54) (v := ?kv18) rfl rfl (by kernel_rfl) (by kernel_rfl) (by kernel_rfl) (by decide) (by kernel_rfl) (fun _ _ _ h => h) (by rfl) ?ky18 hS.out ?kr18
      case ky18 => ((intro wk hk); (try dsimp only at hk); go_simp; try with_reducible rfl)
      try simp only [Act.put, List.setIfInBounds_toArray, List.set_cons_zero, List.set_cons_succ]
      refine wpAnyK_take 18 (some 55) (v := ?kv19) rfl rfl (by kernel_rfl) (by kernel_rfl) (by kernel_rfl) (by decide) (by kernel_rfl) (fun _ _ _ h => h) (by rfl) ?ky19 hS.out ?kr19
      case ky19 => ((intro wk hk); (try dsimp only at hk); go_simp; try with_reducible rfl)
      try simp only [Act.put, List.setIfInBounds_toArray, List.set_cons_zero, List.set_cons_succ]
      refine wpAnyK_take 19 (some 56) (v := ?kv20) rfl rfl (by kernel_rfl) (by kernel_rfl) (by kernel_rfl) (by decide) (by kernel_rfl) (fun _ _ _ h => h) (by rfl) ?ky20 hS.out ?kr20
      case ky20 => ((intro wk hk); (try dsimp only at hk); go_simp; try with_reducible rfl)
      try simp only [Act.put, List.setIfInBounds_toArray, List.set_cons_zero, List.set_cons_succ]
      refine wpAnyK_take 20 (some 57) (v := ?kv21) rfl rfl (by kernel_rfl) (by kernel_rfl) (by kernel_rfl) (by decide) (by kernel_rfl) (fun _ _ _ h => h) (by rfl) ?ky21 hS.out ?kr21
      case ky21 => ((intro wk hk); (try dsimp only at hk); go_simp; try with_reducible rfl)
      try simp only [Act.put, List.setIfInBounds_toArray, List.set_cons_zero, List.set_cons_succ]
      refine wpAnyK_take 21 (some 58) (v := ?kv22) rfl rfl (by kernel_rfl) (by kernel_rfl) (by kernel_rfl) (by decide) (by kernel_rfl) (fun _ _ _ h => h) (by rfl) ?ky22 hS.out ?kr22
      case ky22 => ((intro wk hk); (try dsimp only at hk); go_simp; try with_reducible rfl)
      try simp only [Act.put, List.setIfInBounds_toArray, List.set_cons_zero, List.set_cons_succ]
      refine wpAnyK_take 22 (some 59) (v := ?kv23) rfl rfl (by kernel_rfl) (by kernel_rfl) (by kernel_rfl) (by decide) (by kernel_rfl) (fun _ _ _ h => h) (by rfl) ?ky23 hS.out ?kr23
      case ky23 => ((intro wk hk); (try dsimp only at hk); go_simp; try with_reducible rfl)
      try simp only [Act.put, List.setIfInBounds_toArray, List.set_cons_zero, List.set_cons_succ]
      refine wpAnyK_one 23 (by kernel_rfl) rfl (fun K hK => ?_)
      go_simp
      refine hK.out _ _ (fun _ => ⟨((Ext.refl w3).alloc _).drew.cell hS.out.1, ((Ext.refl w3).alloc _).drew.cell hS.out.2.1, ((Ext.refl w3).alloc _).drew.cell hS.out.2.2.1, ((Ext.refl w3).alloc _).drew.cell hS.out.2.2.2.1, ((Ext.refl w3).alloc _).drew.cell hS.out.2.2.2.2.1, ((Ext.refl w3).alloc _).drew.cell hS.out.2.2.2.2.2⟩) ?_
      clear hK K
      try simp only [Act.put, List.setIfInBounds_toArray, List.set_cons_zero, List.set_cons_succ]
      clear hS
      refine wpAnyK_one 24 (by kernel_rfl) rfl (fun K hK => ?_)
      go_simp
      refine hK.out _ _ (fun h => absurd rfl h) ?_
      clear hK K
      refine wpAnyK_done (by kernel_rfl) ?_ _
      clear e1 e2 e3 e4 HCZ
      generalize hw4 : (w3.alloc (.cells #[.int .i64 x0, .int .i64 cz, .int .i64 x4, .int .i64 x5] 26)).drew = w4
      have hg := heap_alloc_new w3 (.cells #[.int .i64 x0, .int .i64 cz, .int .i64 x4, .int .i64 x5] 26)
      have hx4 : Ext w3 w4 := by rw [← hw4]; exact ((Ext.refl _).alloc _).drew
      have hg4 : w4.heap[w3.heap.size]? = some (.cells #[.int .i64 x0, .int .i64 cz, .int .i64 x4, .int .i64 x5] 26 (0, 0)) := by rw [← hw4]; exact hg
      replace HX : Bx (Ext w w4) := ⟨HX.out.trans hx4⟩
      replace HBK : Bx (w4.heap[w.heap.size]? = some (.cells #[.int .i64 0, .int .i64 0, .int .i64 0, .int .i64 0] 26 (0, 0))) := ⟨hx4.blk HBK.out⟩
      have y0 := blk_cell hg4 (i := 0) rfl
      have y1 := blk_cell hg4 (i := 1) rfl
      have y2 := blk_cell hg4 (i := 2) rfl
      have y3 := blk_cell hg4 (i := 3) rfl
      have HG4 : Bx (w4.heap[w3.heap.size]? = some (.cells #[.int .i64 x0, .int .i64 cz, .int .i64 x4, .int .i64 x5] 26 (0, 0))) := ⟨hg4⟩
      clear hw4 hg hx4 hg4
      go_wp2_with fail
      refine (rstvalid_any x0 cz x4 x5 _).mono ?_
      rintro e w5 ⟨rfl, hx5⟩
      replace HX : Bx (Ext w w5) := ⟨HX.out.trans hx5⟩
      replace HBK : Bx (w5.heap[w.heap.size]? = some (.cells #[.int .i64 0, .int .i64 0, .int .i64 0, .int .i64 0] 26 (0, 0))) := ⟨hx5.blk HBK.out⟩
      replace y0 := hx5.cell y0
      replace y1 := hx5.cell y1
      replace y2 := hx5.cell y2
      replace y3 := hx5.cell y3
      clear hx5 HG4
      have z0 := blk_cell HBK.out (i := 0) rfl
      have z1 := blk_cell HBK.out (i := 1) rfl
      have z2 := blk_cell HBK.out (i := 2) rfl
      have z3 := blk_cell HBK.out (i := 3) rfl
      have f0 := blk_frozen HBK.out 0
      have f1 := blk_frozen HBK.out 1
      have f2 := blk_frozen HBK.out 2
      have f3 := blk_frozen HBK.out 3
      by_cases hcz : 9999 < cz
      · have hb : labB x0 cz x4 x5 = false := by unfold labB; exact decide_eq_false (by omega)
        rw [hb]
        go_wp2_with fail
        refine bodyPost_ret (v := .tuple #[.agg #[.int .i64 0, .int .i64 0, .int .i64 0, .int .i64 0], .int .i64 0, .int .i64 2]) (by simp [results, Tryd.results31, go_sem, z0, z1, z2, z3]) rfl ⟨0, 0, 0, 0, 0, 2, rfl, HRF.out _ _ _ _ _ _ (fun _ => ⟨rfl, rfl, rfl, rfl, rfl, rfl⟩) (fun h => by omega), by decide, by decide, by decide, by decide, by decide, by decide, ?_⟩
        exact (((HX.out.setCell (Nat.le_refl _) _).setCell (Nat.le_refl _) _).setCell (Nat.le_refl _) _).setCell (Nat.le_refl _) _
      · have hb : labB x0 cz x4 x5 = true := labB_iff.2 (by omega)
        rw [hb]
        go_wp2_with fail
        refine bodyPost_ret (v := .tuple #[.agg #[.int .i64 x0, .int .i64 cz, .int .i64 x4, .int .i64 x5], .int .i64 er, .int .i64 0]) (by simp [results, Tryd.results31, go_sem, z0, z1, z2, z3]) rfl ⟨x0, cz, x4, x5, er, 0, rfl, HRF.out _ _ _ _ _ _ (fun h => by omega) (fun _ => ⟨rfl, rfl, rfl, rfl, rfl, rfl⟩), ⟨by omega, by omega⟩, ⟨by omega, by omega⟩, ⟨by omega, by omega⟩, ⟨by omega, by omega⟩, ⟨by omega, by omega⟩, by decide, ?_⟩
        exact (((HX.out.setCell (Nat.le_refl _) _).setCell (Nat.le_refl _) _).setCell (Nat.le_refl _) _).setCell (Nat.le_refl _) _
    · subst hd; subst he
      have HRF : Bx (ReadF (bl s) 0 0 0 0 0 25) := ⟨⟨fun h => absurd HK.out.symm h, fun _ => ⟨[], 0, 25, HDF.out, fun _ => ⟨rfl, rfl, rfl, rfl, rfl, rfl⟩, fun h => by omega⟩⟩⟩
      clear HI3 HDF HWW HBT HK HST
      go_wp2_with fail
      refine bodyPost_ret (v := .tuple #[.agg #[.int .i64 0, .int .i64 0, .int .i64 0, .int .i64 0], .int .i64 0, .int .i64 25]) (by simp [results, Tryd.results31, go_sem, z0, z1, z2, z3]) rfl ⟨0, 0, 0, 0, 0, 25, rfl, HRF.out, by decide, by decide, by decide, by decide, by decide, by decide, ?_⟩
      exact (((HX.out.setCell (Nat.le_refl _) _).setCell (Nat.le_refl _) _).setCell (Nat.le_refl _) _).setCell (Nat.le_refl _) _
  · have e1 : (k != 0) = true := bne_iff_ne.2 hu
    have HRF : Bx (ReadF (bl s) 0 0 0 0 0 k) := ⟨⟨fun _ => ⟨rfl, rfl, rfl, rfl, rfl, HK.out⟩, fun h => absurd (HK.out.trans h) hu⟩⟩
    have hk : I64 k := by
      have := HK.out
      unfold uprE at this
      constructor <;> (split at this <;> (try split at this) <;> (try split at this) <;> omega)
    have HKI : Bx (I64 k) := ⟨hk⟩
    have z0 := blk_cell HBK.out (i := 0) rfl
    have z1 := blk_cell HBK.out (i := 1) rfl
    have z2 := blk_cell HBK.out (i := 2) rfl
    have z3 := blk_cell HBK.out (i := 3) rfl
    have f0 := blk_frozen HBK.out 0
    have f1 := blk_frozen HBK.out 1
    have f2 := blk_frozen HBK.out 2
    have f3 := blk_frozen HBK.out 3
    clear HBT HK hk
    go_wp2_with fail
    refine bodyPost_ret (v := .tuple #[.agg #[.int .i64 0, .int .i64 0, .int .i64 0, .int .i64 0], .int .i64 0, .int .i64 k]) (by simp [results, Tryd.results31, go_sem, z0, z1, z2, z3]) rfl ⟨0, 0, 0, 0, 0, k, rfl, HRF.out, by decide, by decide, by decide, by decide, by decide, HKI.out, ?_⟩
    exact (((HX.out.setCell (Nat.le_refl _) _).setCell (Nat.le_refl _) _).setCell (Nat.le_refl _) _).setCell (Nat.le_refl _) _
end Go.Proofs.YtcpanmonllhmaaaDoor
