/- The walk of the law StripApart. -/
import Derived.Test.YtcpanmonllhmaaaDoorLawStA
import Derived.Laws.StructEq
set_option linter.unusedSimpArgs false
set_option linter.unusedVariables false
namespace Go.Proofs.YtcpanmonllhmaaaDoor
open Go.RowKit

theorem lab_apart {a b c d a' b' c' d' : Int} (h : labB a b c d = true) (h' : labB a' b' c' d' = true) (hne : ¬ (a = a' ∧ b = b' ∧ c = c' ∧ d = d')) : 7 ≤ distZ (wI (labW a b c d)) (wI (labW a' b' c' d')) := by
  refine enc_apart (by rw [toF_len, toF_len]; rfl) (by rw [toF_len]; unfold symL; simp) fun e => hne ?_
  have h1 : symL a b c d = symL a' b' c' d' := by rw [← labW_wI h, ← labW_wI h', e]
  unfold symL at h1
  simp only [List.cons.injEq, and_true] at h1
  have := labB_iff.1 h
  have := labB_iff.1 h'
  omega
theorem diffs_same : ∀ c : List F, F.diffs c c = []
  | [] => rfl
  | x :: c => by unfold F.diffs; rw [if_pos rfl]; exact diffs_same c
theorem dist_self (c : List F) : distZ (wI c) (wI c) = 0 := by
  rw [dist_diffs rfl, diffs_same]; rfl
theorem wrd_draw (a b c d : Int) : wrdS (drawL (labW a b c d)) = wI (labW a b c d) ∧ wrdE (drawL (labW a b c d)) = 0 := by
  have hl := labW_len a b c d
  obtain ⟨h1, h2⟩ := wrd_yes (draw_strip hl)
  exact ⟨by rw [h1, word_draw hl], h2⟩
theorem upr_flip (a b c d : Int) : uprS (drawL (labW a b c d)).reverse = drawL (labW a b c d) ∧ uprE (drawL (labW a b c d)).reverse = 0 := by
  have hl := labW_len a b c d
  obtain ⟨h1, h2⟩ := upr_up (draw_strip hl) (draw_mark hl)
  obtain ⟨h3, h4⟩ := upr_turn (drawL (labW a b c d))
  exact ⟨by rw [h3, h1], by rw [h4, h2]⟩
theorem eqLab (a b c d a' b' c' d' : Int) (w : World) : (Op.equalIn 10000 26 (.agg #[.int .i64 a, .int .i64 b, .int .i64 c, .int .i64 d]) (.agg #[.int .i64 a', .int .i64 b', .int .i64 c', .int .i64 d'])).run Tryd.prog w = .ok (decide (a = a' ∧ b = b' ∧ c = c' ∧ d = d')) w := by
  have u3 := Tryd.underlying3
  have a3 := Tryd.isAgg3
  have z3 := Tryd.sizeOf3
  have hS : Tryd.prog.underlying 26 = some (.struct (Tryd.prog.fieldsOf 26)) := by kernel_rfl
  have hp : Tryd.prog.stoodInHeld 26 = false := by kernel_rfl
  rw [show (10000 : Nat) = 9999 + 1 from rfl, run_equalIn_agg w 9999 26 _ _ hS hp]
  simp only [Program.fieldsOf, Tryd.underlying26]
  go_simp
  by_cases h1 : a = a' <;> by_cases h2 : b = b' <;> by_cases h3 : c = c' <;> by_cases h4 : d = d' <;> simp [h1, h2, h3, h4]
theorem guardLab : Tryd.prog.eqGuardType Tryd.prog.depth 26 = false := by kernel_rfl
set_option maxRecDepth 100000 in
set_option maxHeartbeats 4000000 in
theorem walkStripApart (v0 : Value) (l0 : List Int) (w : World) (h0 : IsI w.heap.size w v0 l0) (hT : Tabs w) :
    Calls Tryd.prog 11 #[v0] w fun e w' => e = .returned (.bool true) ∧ Ext w w' := by
  obtain ⟨A0, n0, c0, rfl, -⟩ := h0.open_
  have H0 : Bx (IsI w.heap.size w (.slice A0 n0 c0) l0) := ⟨h0⟩
  have HT : Bx (Tabs w) := ⟨hT⟩
  clear h0 hT
  go_enter Tryd.func11, Tryd.ntmps11
  go_wp2_with fail
  refine (new_any _ l0 _ H0.out).mono ?_
  rintro e w1 ⟨rfl, HT1, HE1⟩
  have hp1 := HT1.lt
  go_wp2_with fail
  refine (label_any _ 0 _ HT1 (by omega) (by omega)).mono ?_
  rintro e w2 ⟨v2, rfl, ⟨a, b, c, d, rfl, _, _, _, _, hlb⟩, HT2, HX2⟩
  have HLB : Bx (labB a b c d = true) := ⟨hlb rfl⟩
  go_wp2_with fail
  refine (label_any _ 0 _ HT2 (by omega) (by omega)).mono ?_
  rintro e w3 ⟨v3, rfl, ⟨a3, b3, c3, d3, rfl, _, _, _, _, hlb3⟩, HT3, HX3⟩
  have HLB3 : Bx (labB a3 b3 c3 d3 = true) := ⟨hlb3 rfl⟩
  have HE3 : Bx (Ext w w3 ∧ Tape w3 w.heap.size) := ⟨⟨(HX2.trans HX3).fresh HE1 (Nat.le_refl _), HT3⟩⟩
  have hs3 : w.heap.size < w3.heap.size := HT3.lt
  clear HT1 HE1 HT2 HX2 HT3 HX3 hlb hlb3
  obtain ⟨w4, hw4⟩ : ∃ w4, w4 = (w3.alloc (.cells #[.int .i64 a, .int .i64 b, .int .i64 c, .int .i64 d] 26)).alloc (.cells #[.int .i64 a3, .int .i64 b3, .int .i64 c3, .int .i64 d3] 26) := ⟨_, rfl⟩
  have hx4 : Ext w3 w4 := by rw [hw4]; exact ((Ext.refl _).alloc _).alloc _
  have hl4 : LabBlk w4 w3.heap.size a b c d := by rw [hw4]; exact (LabBlk.new w3 a b c d).ext ((Ext.refl _).alloc _)
  have hm4 : LabBlk w4 (w3.heap.size + 1) a3 b3 c3 d3 := by rw [hw4]; have := LabBlk.new (w3.alloc (.cells #[.int .i64 a, .int .i64 b, .int .i64 c, .int .i64 d] 26)) a3 b3 c3 d3; simpa using this
  have HE4 : Bx (Ext w w4 ∧ Tape w4 w.heap.size) := ⟨⟨HE3.out.1.trans hx4, HE3.out.2.ext hx4⟩⟩
  have HL4 : Bx (LabBlk w4 w3.heap.size a b c d ∧ LabBlk w4 (w3.heap.size + 1) a3 b3 c3 d3) := ⟨⟨hl4, hm4⟩⟩
  clear hx4 hl4 hm4 HE3
  go_wp2_with fail
  rw [← hw4]
  clear hw4
  refine (next_any _ 2 _ HE4.out.2 (by omega)).mono ?_
  rintro e w5 ⟨v5, rfl, ⟨r, rfl, hr1, hr2⟩, HT5, HX5⟩
  have HE5 : Bx (Ext w w5 ∧ Tape w5 w.heap.size) := ⟨⟨HX5.fresh HE4.out.1 (Nat.le_refl _), HT5⟩⟩
  have HL5 : Bx (LabBlk w5 w3.heap.size a b c d ∧ LabBlk w5 (w3.heap.size + 1) a3 b3 c3 d3) := ⟨⟨HL4.out.1.xt HX5 (by omega), HL4.out.2.xt HX5 (by omega)⟩⟩
  clear HT5 HX5 HE4 HL4
  go_upto_if 25 with (fail)
  go_cut [] (fun wx => ∃ (wo : World) (a' b' c' d' : Int), wo = wx ∧ Bx (LabBlk wx w3.heap.size a b c d ∧ LabBlk wx (w3.heap.size + 1) a' b' c' d' ∧ labB a' b' c' d' = true ∧ Ext w wx))
  case first =>
    by_cases hr : r = 0
    · subst hr
      obtain ⟨x0, x1, x2, x3⟩ := HL5.out.1.cells
      obtain ⟨y0, y1, y2, y3⟩ := HL5.out.2.cells
      have f0 := blk_frozen HL5.out.2 0
      have f1 := blk_frozen HL5.out.2 1
      have f2 := blk_frozen HL5.out.2 2
      have f3 := blk_frozen HL5.out.2 3
      obtain ⟨w6, hw6⟩ : ∃ w6, w6 = (((w5.setCell ⟨w3.heap.size + 1, 0, none⟩ (.int .i64 a)).setCell ⟨w3.heap.size + 1, 1, none⟩ (.int .i64 b)).setCell ⟨w3.heap.size + 1, 2, none⟩ (.int .i64 c)).setCell ⟨w3.heap.size + 1, 3, none⟩ (.int .i64 d) := ⟨_, rfl⟩
      have hm6 : LabBlk w6 (w3.heap.size + 1) a b c d := by
        rw [hw6]
        exact blk_set (i := 3) (blk_set (i := 2) (blk_set (i := 1) (blk_set (i := 0) HL5.out.2 _) _) _) _
      have hl6 : LabBlk w6 w3.heap.size a b c d := by
        rw [hw6]
        unfold LabBlk
        rw [Below.heap_setCell _ _ _ _ (by simp), Below.heap_setCell _ _ _ _ (by simp), Below.heap_setCell _ _ _ _ (by simp), Below.heap_setCell _ _ _ _ (by simp)]
        exact HL5.out.1
      have HE6 : Bx (Ext w w6 ∧ Tape w6 w.heap.size) := ⟨by
        rw [hw6]
        exact ⟨(((HE5.out.1.setCell (by simp; omega) _).setCell (by simp; omega) _).setCell (by simp; omega) _).setCell (by simp; omega) _, (((HE5.out.2.setNew (by simp; omega) _).setNew (by simp; omega) _).setNew (by simp; omega) _).setNew (by simp; omega) _⟩⟩
      have HL6 : Bx (LabBlk w6 w3.heap.size a b c d ∧ LabBlk w6 (w3.heap.size + 1) a b c d) := ⟨⟨hl6, hm6⟩⟩
      clear hl6 hm6 HE5 HL5
      go_wp2_with fail
      rw [← hw6]
      clear hw6 x0 x1 x2 x3 y0 y1 y2 y3 f0 f1 f2 f3
      refine (next_any _ 32 _ HE6.out.2 (by omega)).mono ?_
      rintro e w7 ⟨v7, rfl, ⟨x, rfl, hx1, hx2⟩, HT7, HX7⟩
      have hm7 := HL6.out.2.xt HX7 (by omega)
      have y2 := blk_cell hm7 (i := 2) rfl
      have f2 := blk_frozen hm7 2
      have HF : Bx (LabBlk (w7.setCell ⟨w3.heap.size + 1, 2, none⟩ (.int .i64 x)) w3.heap.size a b c d ∧ LabBlk (w7.setCell ⟨w3.heap.size + 1, 2, none⟩ (.int .i64 x)) (w3.heap.size + 1) a b x d ∧ labB a b x d = true ∧ Ext w (w7.setCell ⟨w3.heap.size + 1, 2, none⟩ (.int .i64 x))) := ⟨by
        refine ⟨?_, blk_set (i := 2) hm7 _, ?_, (HX7.fresh HE6.out.1 (Nat.le_refl _)).setCell (by simp; omega) _⟩
        · unfold LabBlk
          rw [Below.heap_setCell _ _ _ _ (by simp)]
          exact HL6.out.1.xt HX7 (by omega)
        · have := labB_iff.1 HLB.out
          exact labB_iff.2 (by omega)⟩
      clear HT7 HX7 hm7 HL6 HE6
      go_wp2_with fail
      go_meet
      exact ⟨_, a, b, x, d, rfl, HF⟩
    · have q1 : (r == 0) = false := beq_eq_false_iff_ne.2 hr
      go_wp2_with fail
      go_meet
      exact ⟨_, a3, b3, c3, d3, rfl, ⟨⟨HL5.out.1, HL5.out.2, HLB3.out, HE5.out.1⟩⟩⟩
  case rest =>
  obtain ⟨w6, a', b', c', d', rfl, HC⟩ := hcut
  clear HL5 HE5 HLB3
  have HB' : Bx (labB a' b' c' d' = true) := ⟨HC.out.2.2.1⟩
  obtain ⟨x0, x1, x2, x3⟩ := HC.out.1.cells
  go_wp2_with fail
  refine (draw_any a b c d _ (HT.out.ext HC.out.2.2.2)).mono ?_
  rintro e w7 ⟨t7, k7, rfl, hk7, ht7, hx7⟩
  rw [(sym_yes HLB.out).2] at hk7
  rw [drw_yes HLB.out] at ht7
  subst hk7
  have H7 : Bx (bl t7 = drawL (labW a b c d)) := ⟨ht7⟩
  have HC7 : Bx (LabBlk w7 w3.heap.size a b c d ∧ LabBlk w7 (w3.heap.size + 1) a' b' c' d' ∧ Ext w w7) := ⟨⟨HC.out.1.ext hx7, HC.out.2.1.ext hx7, HC.out.2.2.2.trans hx7⟩⟩
  clear x0 x1 x2 x3 ht7 hx7 HC
  obtain ⟨x0, x1, x2, x3⟩ := HC7.out.2.1.cells
  go_wp2_with fail
  refine (draw_any a' b' c' d' _ (HT.out.ext HC7.out.2.2)).mono ?_
  rintro e w8 ⟨t8, k8, rfl, hk8, ht8, hx8⟩
  rw [(sym_yes HB'.out).2] at hk8
  rw [drw_yes HB'.out] at ht8
  subst hk8
  have H8 : Bx (bl t8 = drawL (labW a' b' c' d')) := ⟨ht8⟩
  have HC8 : Bx (LabBlk w8 w3.heap.size a b c d ∧ LabBlk w8 (w3.heap.size + 1) a' b' c' d' ∧ Ext w w8) := ⟨⟨HC7.out.1.ext hx8, HC7.out.2.1.ext hx8, HC7.out.2.2.trans hx8⟩⟩
  clear x0 x1 x2 x3 ht8 hx8 HC7
  go_wp2_with fail
  refine (word_str t7 _).mono ?_
  rintro e w9 ⟨A9, n9, c9, k9, rfl, hk9, hi9, hx9⟩
  rw [H7.out, (wrd_draw a b c d).2] at hk9
  rw [H7.out, (wrd_draw a b c d).1] at hi9
  subst hk9
  obtain rfl : n9 = 12 := by have := hi9.len; rw [wI_len, labW_len] at this; omega
  have H9 : Bx (IsI w9.heap.size w9 (.slice A9 12 c9) (wI (labW a b c d))) := ⟨hi9⟩
  have HC9 : Bx (LabBlk w9 w3.heap.size a b c d ∧ LabBlk w9 (w3.heap.size + 1) a' b' c' d' ∧ Ext w w9) := ⟨⟨HC8.out.1.ext hx9, HC8.out.2.1.ext hx9, HC8.out.2.2.trans hx9⟩⟩
  clear hi9 hx9 HC8
  go_wp2_with fail
  refine (word_str t8 _).mono ?_
  rintro e w10 ⟨A10, n10, c10, k10, rfl, hk10, hi10, hx10⟩
  rw [H8.out, (wrd_draw a' b' c' d').2] at hk10
  rw [H8.out, (wrd_draw a' b' c' d').1] at hi10
  subst hk10
  obtain rfl : n10 = 12 := by have := hi10.len; rw [wI_len, labW_len] at this; omega
  have H10 : Bx (IsI w9.heap.size w10 (.slice A9 12 c9) (wI (labW a b c d)) ∧ IsI w10.heap.size w10 (.slice A10 12 c10) (wI (labW a' b' c' d'))) := ⟨⟨H9.out.ext hx10, hi10⟩⟩
  have HC10 : Bx (LabBlk w10 w3.heap.size a b c d ∧ LabBlk w10 (w3.heap.size + 1) a' b' c' d' ∧ Ext w w10) := ⟨⟨HC9.out.1.ext hx10, HC9.out.2.1.ext hx10, HC9.out.2.2.trans hx10⟩⟩
  clear hi10 hx10 HC9 H9 H8
  go_wp2_with fail
  refine (dist_ext _ _ _ _ _ H10.out.1 H10.out.2 (by rw [wI_len, labW_len]; omega)).mono ?_
  rintro e w11 ⟨rfl, hx11⟩
  obtain ⟨dd, hdd⟩ : ∃ dd, dd = distZ (wI (labW a b c d)) (wI (labW a' b' c' d')) := ⟨_, rfl⟩
  rw [← hdd]
  have HD : Bx (dd = distZ (wI (labW a b c d)) (wI (labW a' b' c' d'))) := ⟨hdd⟩
  have HC11 : Bx (LabBlk w11 w3.heap.size a b c d ∧ LabBlk w11 (w3.heap.size + 1) a' b' c' d' ∧ Ext w w11) := ⟨⟨HC10.out.1.ext hx11, HC10.out.2.1.ext hx11, HC10.out.2.2.trans hx11⟩⟩
  have hz7 : t7.size ≤ 74 := by rw [← bl_len, H7.out, drawL_len (labW_len _ _ _ _)]; omega
  clear hx11 HC10 H10 hdd
  go_wp2_with fail
  refine (flip_any t7 _ (by omega)).mono ?_
  rintro e w12 ⟨t12, rfl, ht12, hx12⟩
  rw [H7.out] at ht12
  have H12 : Bx (bl t12 = (drawL (labW a b c d)).reverse) := ⟨ht12⟩
  have HC12 : Bx (LabBlk w12 w3.heap.size a b c d ∧ LabBlk w12 (w3.heap.size + 1) a' b' c' d' ∧ Ext w w12) := ⟨⟨HC11.out.1.ext hx12, HC11.out.2.1.ext hx12, HC11.out.2.2.trans hx12⟩⟩
  clear ht12 hx12 HC11
  go_wp2_with fail
  refine (upright_any t12 _).mono ?_
  rintro e w13 ⟨t13, k13, rfl, hk13, ht13, hx13⟩
  rw [H12.out, (upr_flip a b c d).2] at hk13
  rw [H12.out, (upr_flip a b c d).1] at ht13
  subst hk13
  obtain rfl : t7 = t13 := bl_inj (by rw [H7.out, ht13])
  have HC13 : Bx (LabBlk w13 w3.heap.size a b c d ∧ LabBlk w13 (w3.heap.size + 1) a' b' c' d' ∧ Ext w w13) := ⟨⟨HC12.out.1.ext hx13, HC12.out.2.1.ext hx13, HC12.out.2.2.trans hx13⟩⟩
  clear ht13 hx13 HC12 H12 H7
  have q1 : (t7.toList == t7.toList) = true := beq_self_eq_true _
  obtain ⟨x0, x1, x2, x3⟩ := HC13.out.1.cells
  obtain ⟨y0, y1, y2, y3⟩ := HC13.out.2.1.cells
  by_cases heq : a = a' ∧ b = b' ∧ c = c' ∧ d = d'
  · obtain ⟨rfl, rfl, rfl, rfl⟩ := heq
    obtain rfl : dd = 0 := by rw [HD.out, dist_self]
    clear HD
    have p0 : (a == a) = true := beq_self_eq_true _
    have p1 : (b == b) = true := beq_self_eq_true _
    have p2 : (c == c) = true := beq_self_eq_true _
    have p3 : (d == d) = true := beq_self_eq_true _
    go_wp2_with fail
    refine (awake19_any _ (HT.out.ext HC13.out.2.2)).mono ?_
    rintro e w14 ⟨rfl, hx14⟩
    have HE : Bx (Ext w w14) := ⟨HC13.out.2.2.trans hx14⟩
    clear hx14
    go_wp2_with fail
    go_ret
    exact ⟨rfl, HE.out⟩
  · have h7 : 7 ≤ dd := by rw [HD.out]; exact lab_apart HLB.out HB'.out heq
    have e0 : (dd == 0) = false := beq_eq_false_iff_ne.2 (by omega)
    have eL : ∀ W, (Op.equalIn 10000 26 (.agg #[.int .i64 a, .int .i64 b, .int .i64 c, .int .i64 d]) (.agg #[.int .i64 a', .int .i64 b', .int .i64 c', .int .i64 d'])).run Tryd.prog W = .ok false W := fun W => by rw [eqLab, decide_eq_false heq]
    have gL := guardLab
    clear HD
    go_wp2_with fail
    refine (awake19_any _ (HT.out.ext HC13.out.2.2)).mono ?_
    rintro e w14 ⟨rfl, hx14⟩
    have HE : Bx (Ext w w14) := ⟨HC13.out.2.2.trans hx14⟩
    clear hx14
    go_wp2_with fail
    go_ret
    exact ⟨rfl, HE.out⟩
end Go.Proofs.YtcpanmonllhmaaaDoor
