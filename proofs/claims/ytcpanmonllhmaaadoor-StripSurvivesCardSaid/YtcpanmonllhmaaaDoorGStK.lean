/- The tape's labels; the strip of a label is read as the label; the laws' sanity check. -/
import Derived.Test.YtcpanmonllhmaaaDoorStJ
import Derived.Test.YtcpanmonllhmaaaDoorTapeB
import Derived.Test.YtcpanmonllhmaaaDoorGOrd
set_option linter.unusedSimpArgs false
set_option linter.unusedVariables false
namespace Go.Proofs.YtcpanmonllhmaaaDoor
open Go.RowKit

/-- A label of the tape: valid where nothing is spoilt. -/
def LabV (n : Int) (v : Value) : Prop := ∃ a b c d, v = .agg #[.int .i64 a, .int .i64 b, .int .i64 c, .int .i64 d] ∧ I64 a ∧ I64 b ∧ I64 c ∧ I64 d ∧ (n = 0 → labB a b c d = true)
set_option maxRecDepth 100000 in
set_option maxHeartbeats 1000000 in
theorem label_any (p : Nat) (n : Int) (w : World) (h : Tape w p) (hn : 0 ≤ n) (hn' : n ≤ 1000000000) :
    Calls Tryd.prog 13 #[.pointer (some ⟨p, 0, none⟩), .int .i64 n] w (TRet p w fun v _ => LabV n v) := by
  have hlt := h.lt
  have HT0 := Lib.hid (h.ext ((Ext.refl _).alloc (.cells #[.int .i64 0, .int .i64 0, .int .i64 0, .int .i64 0] 26)))
  clear h
  go_enter Tryd.func13, Tryd.ntmps13
  go_wp2_with fail
  refine (range_any p _ _ _ HT0.out (by omega) (by omega) (by omega) (by omega)).mono ?_
  rintro e w1 ⟨v1, rfl, ⟨a, rfl, ha1, ha2⟩, HT1, HX1⟩
  go_wp2_with fail
  refine (spoil_any p _ _ _ HT1 ⟨by omega, by omega⟩ hn hn').mono ?_
  rintro e w2 ⟨v2, rfl, ⟨a', rfl, ha', haa⟩, HT2, HX2⟩
  have HAA := Lib.hid haa
  have hs2 : p < w2.heap.size := HT2.lt
  clear haa
  go_wp2_with fail
  refine (pick_any p _ [0, 1, 31, 32, 1023, 1024, 5000, 9998, 9999] _ (HT2.ext ((Ext.refl _).alloc _)) (IsI.lit _ _ hs2 (by decide) (by decide)) (by simp)).mono ?_
  rintro e w3 ⟨v3, rfl, ⟨c, rfl, hc⟩, HT3, HX3⟩
  have hc0 : 0 ≤ c ∧ c ≤ 9999 := by simp at hc; omega
  clear hc
  go_wp2_with fail
  refine (spoil_any p _ _ _ HT3 ⟨by omega, by omega⟩ hn hn').mono ?_
  rintro e w4 ⟨v4, rfl, ⟨c', rfl, hc', hcc⟩, HT4, HX4⟩
  have HCC := Lib.hid hcc
  clear hcc
  go_wp2_with fail
  refine (range_any p _ _ _ HT4 (by omega) (by omega) (by omega) (by omega)).mono ?_
  rintro e w5 ⟨v5, rfl, ⟨g, rfl, hg1, hg2⟩, HT5, HX5⟩
  go_wp2_with fail
  refine (spoil_any p _ _ _ HT5 ⟨by omega, by omega⟩ hn hn').mono ?_
  rintro e w6 ⟨v6, rfl, ⟨g', rfl, hg', hgg⟩, HT6, HX6⟩
  have HGG := Lib.hid hgg
  clear hgg
  go_wp2_with fail
  refine (range_any p _ _ _ HT6 (by omega) (by omega) (by omega) (by omega)).mono ?_
  rintro e w7 ⟨v7, rfl, ⟨v, rfl, hv1, hv2⟩, HT7, HX7⟩
  go_wp2_with fail
  refine (spoil_any p _ _ _ HT7 ⟨by omega, by omega⟩ hn hn').mono ?_
  rintro e w8 ⟨v8, rfl, ⟨v', rfl, hv', hvv⟩, HT8, HX8⟩
  have HVV := Lib.hid hvv
  clear hvv
  have HX := Lib.hid (((((((HX1.trans HX2).trans ((XT.refl _ _).alloc _)).trans HX3).trans HX4).trans HX5).trans HX6).trans (HX7.trans HX8))
  have hbk := HX.out.blk (heap_alloc_new w _) (show w.heap.size ≠ p by omega)
  have c0 := blk_cell hbk (i := 0) rfl
  have c1 := blk_cell hbk (i := 1) rfl
  have c2 := blk_cell hbk (i := 2) rfl
  have c3 := blk_cell hbk (i := 3) rfl
  have f0 := blk_frozen hbk 0
  have f1 := blk_frozen hbk 1
  have f2 := blk_frozen hbk 2
  have f3 := blk_frozen hbk 3
  clear hbk HX1 HX2 HX3 HX4 HX5 HX6 HX7 HX8
  go_wp2_with fail
  refine bodyPost_ret (v := .agg #[.int .i64 a', .int .i64 c', .int .i64 g', .int .i64 v']) (by simp [results, Tryd.results13, go_sem, c0, c1, c2, c3]) rfl ⟨_, rfl, ⟨a', c', g', v', rfl, ha', hc', hg', hv', fun h => ?_⟩, ?_, ?_⟩
  · have := HAA.out h
    have := HCC.out h
    have := HGG.out h
    have := HVV.out h
    exact labB_iff.2 (by omega)
  · exact (((HT8.setNew hlt _).setNew hlt _).setNew hlt _).setNew hlt _
  · exact ((((((XT.refl _ _).alloc _).trans HX.out).setNew (Nat.le_refl _) _).setNew (Nat.le_refl _) _).setNew (Nat.le_refl _) _).setNew (Nat.le_refl _) _

theorem labW_take (p c g v : Int) : (labW p c g v).take 6 = toF (symL p c g v) := by unfold labW encF; rw [List.take_left' (by rw [toF_len]; rfl)]
theorem dz_lab {p c g v : Int} (h : labB p c g v = true) (i : Nat) (x : Int) (hx : (symL p c g v)[i]? = some x) : dz (toF (symL p c g v)) i = x := by
  have h1 : (wI (toF (symL p c g v))).getD i 0 = dz (toF (symL p c g v)) i := wI_get _ _
  rw [labW_wI h, List.getD_eq_getElem?_getD, hx] at h1
  exact h1.symm
/-- The strip of a label is read as the label. -/
theorem read_draw {p c g v : Int} (h : labB p c g v = true) : ReadF (drawL (labW p c g v)) p c g v 0 0 := by
  have hl := labW_len p c g v
  obtain ⟨u1, u2⟩ := upr_up (draw_strip hl) (draw_mark hl)
  refine ⟨fun e => absurd u2 e, fun _ => ⟨toF (symL p c g v), 0, 0, ?_, fun e => absurd rfl e, fun _ => ?_⟩⟩
  · rw [u1, word_draw hl]
    refine ⟨fun e => ?_, fun _ => .inl ⟨labW p c g v, 0, near_code (labW_code _ _ _ _), ?_, rfl, rfl⟩⟩
    · rw [word_code (by omega) (by omega)] at e; cases e
    · rw [wI_len, hl, ← labW_take]
  · have hb := labB_iff.1 h
    have h0 := dz_lab h 0 _ rfl
    have h1 := dz_lab h 1 _ rfl
    have h2 := dz_lab h 2 _ rfl
    have h3 := dz_lab h 3 _ rfl
    have h4 := dz_lab h 4 _ rfl
    have h5 := dz_lab h 5 _ rfl
    have hc : candZ (toF (symL p c g v)) = c := by unfold candZ; rw [h1, h2, h3]; omega
    rw [hc, h0, h4, h5]
    exact ⟨fun e => by omega, fun _ => ⟨rfl, rfl, rfl, rfl, rfl, rfl⟩⟩
theorem draw_zero : (drawL (labW 0 0 0 0)).take 8 = [49, 49, 49, 49, 49, 49, 49, 48] := by
  have h := labW_take 0 0 0 0
  have h0 : ∃ r, labW 0 0 0 0 = 0 :: r := by
    match hm : labW 0 0 0 0 with
    | [] => rw [hm] at h; simp [toF, symL] at h
    | a :: r =>
      rw [hm] at h
      have h1 : (a :: r)[0]? = some (0 : F) := by
        have : ((a :: r).take 6)[0]? = some (0 : F) := by rw [h]; decide
        simpa using this
      simp at h1
      exact ⟨r, by rw [h1]⟩
  obtain ⟨r, hr⟩ := h0
  rw [hr]
  rfl
set_option maxRecDepth 100000 in
set_option maxHeartbeats 2000000 in
theorem awake19_any (w : World) (hT : Tabs w) : Calls Tryd.prog 19 #[] w fun e w' => e = .returned (.bool true) ∧ Ext w w' := by
  have HT : Bx (Tabs w) := ⟨hT⟩
  clear hT
  have hb : labB 3 9999 2 1 = true := by decide
  have hb0 : labB 0 0 0 0 = true := by decide
  have HD1 : Bx (drwS 3 9999 2 1 = drawL (labW 3 9999 2 1) ∧ symE 3 9999 2 1 = 0) := ⟨drw_yes hb, (sym_yes hb).2⟩
  have HD0 : Bx (drwS 0 0 0 0 = drawL (labW 0 0 0 0) ∧ symE 0 0 0 0 = 0) := ⟨drw_yes hb0, (sym_yes hb0).2⟩
  have HR : Bx (ReadF (drawL (labW 3 9999 2 1)).reverse 3 9999 2 1 0 0) := ⟨read_turn (read_draw hb)⟩
  clear hb hb0
  go_enter Tryd.func19, Tryd.ntmps19
  go_wp2_with fail
  obtain ⟨w0, hw0⟩ : ∃ w0, w0 = w.alloc (.cells #[.int .i64 3, .int .i64 9999, .int .i64 2, .int .i64 1] 26) := ⟨_, rfl⟩
  have hx0 : Ext w w0 := by rw [hw0]; exact (Ext.refl _).alloc _
  have hbk : w0.heap[w.heap.size]? = some (.cells #[.int .i64 3, .int .i64 9999, .int .i64 2, .int .i64 1] 26 (0, 0)) := by rw [hw0]; exact heap_alloc_new w _
  rw [← hw0]
  clear hw0
  refine (draw_any 3 9999 2 1 _ (HT.out.ext hx0)).mono ?_
  rintro e w1 ⟨t1, k1, rfl, hk1, ht1, hx1⟩
  rw [HD1.out.2] at hk1
  rw [HD1.out.1] at ht1
  subst hk1
  have hz1 : t1.size = 74 := by rw [← bl_len, ht1, drawL_len (labW_len _ _ _ _)]
  have HX1 : Bx (Ext w w1) := ⟨hx0.trans hx1⟩
  replace hbk := hx1.blk hbk
  have HB1 : Bx (w1.heap[w.heap.size]? = some (.cells #[.int .i64 3, .int .i64 9999, .int .i64 2, .int .i64 1] 26 (0, 0))) := ⟨hbk⟩
  have HT1 : Bx (bl t1 = drawL (labW 3 9999 2 1)) := ⟨ht1⟩
  have l1 : ((t1.size : Int) == 74) = true := by rw [hz1]; rfl
  clear hx0 hx1 hbk ht1 HD1
  go_wp2_with fail
  refine (flip_any t1 _ (by omega)).mono ?_
  rintro e w2 ⟨t2, rfl, ht2, hx2⟩
  rw [HT1.out] at ht2
  have HX2 : Bx (Ext w w2) := ⟨HX1.out.trans hx2⟩
  have HB2 : Bx (w2.heap[w.heap.size]? = some (.cells #[.int .i64 3, .int .i64 9999, .int .i64 2, .int .i64 1] 26 (0, 0))) := ⟨hx2.blk HB1.out⟩
  have HT2 : Bx (bl t2 = (drawL (labW 3 9999 2 1)).reverse) := ⟨ht2⟩
  clear hx2 ht2 HX1 HB1 hz1
  go_wp2_with fail
  refine (read_any t2 _ (HT.out.ext HX2.out)).mono ?_
  rintro e w3 ⟨p, c, g, v, n, k, rfl, hr, _, _, _, _, _, _, hx3⟩
  rw [HT2.out] at hr
  obtain ⟨rfl, rfl, rfl, rfl, rfl, rfl⟩ := read_same hr HR.out
  have HX3 : Bx (Ext w w3) := ⟨HX2.out.trans hx3⟩
  have HB3 : Bx (w3.heap[w.heap.size]? = some (.cells #[.int .i64 3, .int .i64 9999, .int .i64 2, .int .i64 1] 26 (0, 0))) := ⟨hx3.blk HB2.out⟩
  clear hx3 hr HX2 HB2 HR
  obtain ⟨w4, hw4⟩ : ∃ w4, w4 = w3.alloc (.cells #[.int .i64 3, .int .i64 9999, .int .i64 2, .int .i64 1] 26) := ⟨_, rfl⟩
  have hx4 : Ext w3 w4 := by rw [hw4]; exact (Ext.refl _).alloc _
  have hb4 : w4.heap[w3.heap.size]? = some (.cells #[.int .i64 3, .int .i64 9999, .int .i64 2, .int .i64 1] 26 (0, 0)) := by rw [hw4]; exact heap_alloc_new w3 _
  have HX4 : Bx (Ext w w4) := ⟨HX3.out.trans hx4⟩
  have HB4 : Bx (w4.heap[w3.heap.size]? = some (.cells #[.int .i64 3, .int .i64 9999, .int .i64 2, .int .i64 1] 26 (0, 0))) := ⟨hb4⟩
  have HB5 : Bx (w4.heap[w.heap.size]? = some (.cells #[.int .i64 3, .int .i64 9999, .int .i64 2, .int .i64 1] 26 (0, 0))) := ⟨hx4.blk HB3.out⟩
  clear hx4 hb4 HB3 HX3
  go_wp2_with fail
  rw [← hw4]
  clear hw4
  refine (draw_any 0 0 0 0 _ (HT.out.ext HX4.out)).mono ?_
  rintro e w5 ⟨t5, k5, rfl, hk5, ht5, hx5⟩
  rw [HD0.out.2] at hk5
  rw [HD0.out.1] at ht5
  subst hk5
  have hz5 : t5.size = 74 := by rw [← bl_len, ht5, drawL_len (labW_len _ _ _ _)]
  have l5 : ((t5.size : Int) == 74) = true := by rw [hz5]; rfl
  have h5 : 74 ≤ t5.size := by omega
  have HC5 : Bx (((t5.extract 0 8).toList == [49, 49, 49, 49, 49, 49, 49, 48]) = true) := ⟨by
    rw [bl_toList, bl_to, ht5, draw_zero]; rfl⟩
  have HX5 : Bx (Ext w w5) := ⟨HX4.out.trans hx5⟩
  have q1 := hx5.blk HB4.out
  have q2 := hx5.blk HB5.out
  have x0 := blk_cell q1 (i := 0) rfl
  have x1 := blk_cell q1 (i := 1) rfl
  have x2 := blk_cell q1 (i := 2) rfl
  have x3 := blk_cell q1 (i := 3) rfl
  have y0 := blk_cell q2 (i := 0) rfl
  have y1 := blk_cell q2 (i := 1) rfl
  have y2 := blk_cell q2 (i := 2) rfl
  have y3 := blk_cell q2 (i := 3) rfl
  clear hx5 ht5 q1 q2 HB4 HB5 HX4 HD0 hz5
  go_wp2_with fail
  go_ret
  exact ⟨ret_bool HC5.out, HX5.out⟩
end Go.Proofs.YtcpanmonllhmaaaDoor
/- Change and Damage; the laws' damaged and noise. -/
namespace Go.Proofs.YtcpanmonllhmaaaDoor
open Go.RowKit

/-- The module that Change lays. -/
def chgB (b : UInt8) (how : Int) : UInt8 := if how = 1 then 63 else if b = 48 then 49 else 48
def chgL (l : List UInt8) (k : Int) (how : Int) : List UInt8 := if 0 ≤ k ∧ k < l.length then l.set k.toNat (chgB (l.getD k.toNat 0) how) else l
theorem chgL_len (l : List UInt8) (k how : Int) : (chgL l k how).length = l.length := by unfold chgL; split <;> simp
theorem chgL_in {l : List UInt8} {k : Nat} {x : UInt8} (how : Int) (h : l[k]? = some x) : chgL l (k : Int) how = l.take k ++ [chgB x how] ++ l.drop (k + 1) := by
  have hk := (List.getElem?_eq_some_iff.1 h).1
  unfold chgL
  rw [if_pos (by omega), Int.toNat_natCast, List.getD_eq_getElem?_getD, h, Option.getD_some, List.set_eq_take_append_cons_drop, if_pos hk]
  simp
theorem chgL_out {l : List UInt8} {k : Int} (how : Int) (h : ¬ (0 ≤ k ∧ k < l.length)) : chgL l k how = l := by unfold chgL; rw [if_neg h]
theorem bl_chg {s : ByteArray} {k : Nat} (hk : k < s.size) (b : UInt8) : bl (s.extract 0 k ++ ⟨#[b]⟩ ++ s.extract (k + 1) s.size) = (bl s).take k ++ [b] ++ (bl s).drop (k + 1) := by
  rw [bl_app, bl_app, bl_to, bl_from]; rfl
set_option maxRecDepth 100000 in
set_option maxHeartbeats 2000000 in
theorem change_any (s : ByteArray) (at_ how : Int) (w : World) (hs : s.size ≤ 1000000) :
    Calls Tryd.prog 35 #[.string s, .int .i64 at_, .int .i64 how] w fun e w' => ∃ t, e = .returned (.string t) ∧ bl t = chgL (bl s) at_ how ∧ Ext w w' := by
  by_cases h0 : 0 ≤ at_
  · obtain ⟨k, rfl⟩ := Int.eq_ofNat_of_zero_le h0
    clear h0
    by_cases hk : k < s.size
    · have HC : Bx (chgL (bl s) (k : Int) how = (bl s).take k ++ [chgB s[k] how] ++ (bl s).drop (k + 1)) := ⟨chgL_in how (bl_at hk)⟩
      have e1 : IntKind.i64.wrap ((k : Int) + 1) = (k : Int) + 1 := IntWalk.i64_in _ (by omega)
      have e2 : ((k : Int) + 1).toNat = k + 1 := by omega
      have s1 : (s.extract 0 k).size ≤ 1000000 := by rw [← bl_len, bl_to, List.length_take, bl_len]; omega
      have s2 : (s.extract (k + 1) s.size).size ≤ 1000000 := by rw [← bl_len, bl_from, List.length_drop, bl_len]; omega
      have d1 : decide ((k : Int) < 0) = false := by simp
      have d2 : decide ((s.size : Int) ≤ (k : Int)) = false := by simp; omega
      have d3 : (0 : Int) ≤ (k : Int) + 1 := by omega
      have d4 : (k : Int) + 1 ≤ (s.size : Int) := by omega
      by_cases hh : how = 1
      · subst hh
        have HB : Bx (chgB s[k] 1 = 63) := ⟨rfl⟩
        by_cases h48 : (s[k].toNat : Int) = 48
        · go_enter Tryd.func35, Tryd.ntmps35
          go_wp2_with fail
          go_quiet (fail)
          go_wp2_with fail
          go_ret
          exact ⟨_, rfl, by rw [bl_chg hk, HC.out, HB.out], (Ext.refl _).drewN _⟩
        · go_enter Tryd.func35, Tryd.ntmps35
          go_wp2_with fail
          go_quiet (fail)
          go_wp2_with fail
          go_ret
          exact ⟨_, rfl, by rw [bl_chg hk, HC.out, HB.out], (Ext.refl _).drewN _⟩
      · have q1 : (how == 1) = false := beq_eq_false_iff_ne.2 hh
        by_cases h48 : (s[k].toNat : Int) = 48
        · have HB : Bx (chgB s[k] how = 49) := ⟨by unfold chgB; rw [if_neg hh, if_pos (UInt8.toNat_inj.1 (show s[k].toNat = (48 : UInt8).toNat by simp; omega))]⟩
          clear hh
          go_enter Tryd.func35, Tryd.ntmps35
          go_wp2_with fail
          go_quiet (fail)
          go_wp2_with fail
          go_ret
          exact ⟨_, rfl, by rw [bl_chg hk, HC.out, HB.out], (Ext.refl _).drewN _⟩
        · have HB : Bx (chgB s[k] how = 48) := ⟨by unfold chgB; rw [if_neg hh, if_neg (fun e => h48 (by rw [e]; rfl))]⟩
          clear hh
          go_enter Tryd.func35, Tryd.ntmps35
          go_wp2_with fail
          go_quiet (fail)
          go_wp2_with fail
          go_ret
          exact ⟨_, rfl, by rw [bl_chg hk, HC.out, HB.out], (Ext.refl _).drewN _⟩
    · have HC : Bx (chgL (bl s) (k : Int) how = bl s) := ⟨chgL_out how (by rw [bl_len]; omega)⟩
      have d1 : decide ((k : Int) < 0) = false := by simp
      have d2 : decide ((s.size : Int) ≤ (k : Int)) = true := by simp; omega
      go_enter Tryd.func35, Tryd.ntmps35
      go_wp2_with fail
      go_ret
      exact ⟨_, rfl, HC.out.symm, Ext.refl _⟩
  · have HC : Bx (chgL (bl s) at_ how = bl s) := ⟨chgL_out how (by rw [bl_len]; omega)⟩
    have d1 : decide (at_ < 0) = true := by simp; omega
    go_enter Tryd.func35, Tryd.ntmps35
    go_wp2_with fail
    go_ret
    exact ⟨_, rfl, HC.out.symm, Ext.refl _⟩
set_option maxRecDepth 100000 in
set_option maxHeartbeats 2000000 in
theorem damage_any (p : Nat) (s : ByteArray) (most : Int) (w : World) (h : Tape w p) (hs : s.size ≤ 1000) (hm : 0 ≤ most) (hm' : most ≤ 1000) :
    Calls Tryd.prog 49 #[.pointer (some ⟨p, 0, none⟩), .string s, .int .i64 most] w (TRet p w fun v _ => ∃ t, v = .string t ∧ t.size ≤ s.size ∧ s.size ≤ t.size) := by
  have H : Bx (Tape w p) := ⟨h⟩
  clear h
  go_enter Tryd.func49, Tryd.ntmps49
  go_wp2_with fail
  refine (range_any p _ _ _ H.out (by omega) (by omega) (by omega) (by omega)).mono ?_
  rintro e w1 ⟨v1, rfl, ⟨r, rfl, hr1, hr2⟩, HT1, HX1⟩
  obtain ⟨r, rfl⟩ := Int.eq_ofNat_of_zero_le hr1
  have HB1 : Bx (Tape w1 p ∧ XT p w w1) := ⟨⟨HT1, HX1⟩⟩
  clear HT1 HX1
  go_wp2_with fail
  go_loopw [1, 7] (fun v i wr => ∃ (k : Nat) (t : ByteArray), i = .int .i64 k ∧ k ≤ r ∧ v = .string t ∧ t.size ≤ s.size ∧ s.size ≤ t.size ∧ Bx (Tape wr p ∧ XT p w wr)) (fun _ i _ => (intOf i).toNat)
  case atStart => exact ⟨r, s, rfl, Nat.le_refl _, rfl, Nat.le_refl _, Nat.le_refl _, HB1⟩
  case round =>
    obtain ⟨k, t, rfl, hk, rfl, ht1, ht2, HB⟩ := hrel
    clear HB1
    by_cases hk0 : 0 < k
    · go_wp2_with fail
      refine (next_any p _ _ HB.out.1 (by omega)).mono ?_
      rintro e w2 ⟨v2, rfl, ⟨a, rfl, ha1, ha2⟩, HT2, HX2⟩
      go_wp2_with fail
      refine (next_any p 2 _ HT2 (by omega)).mono ?_
      rintro e w3 ⟨v3, rfl, ⟨b, rfl, hb1, hb2⟩, HT3, HX3⟩
      go_wp2_with fail
      refine (change_any t a b _ (by omega)).mono ?_
      rintro e w4 ⟨t4, rfl, ht4, hx4⟩
      have hz : t4.size = t.size := by rw [← bl_len, ht4, chgL_len, bl_len]
      have hz1 : t4.size ≤ s.size := by omega
      have hz2 : s.size ≤ t4.size := by omega
      have HB4 : Bx (Tape w4 p ∧ XT p w w4) := ⟨⟨HT3.ext hx4, ((HB.out.2.trans HX2).trans HX3).ext hx4⟩⟩
      clear hz ht4 hx4 HT3 HX3 HT2 HX2 HB
      go_wp2_with fail
      go_roundw
      case rel => exact ⟨k - 1, t4, by congr; omega, by omega, rfl, hz1, hz2, HB4⟩
      case measure => simp [intOf]; omega
    · obtain rfl : k = 0 := by omega
      go_wp2_with fail
      go_ret
      exact ⟨_, rfl, ⟨t, rfl, ht1, ht2⟩, HB.out.1, HB.out.2⟩
end Go.Proofs.YtcpanmonllhmaaaDoor
/- The laws' damaged and noise: some strings. -/
namespace Go.Proofs.YtcpanmonllhmaaaDoor
open Go.RowKit

theorem blk3 {w : World} {g : Nat} {t : TypeId} {a b c : ByteArray} {r : Nat} (h : w.heap[g]? = some (.cells #[.string a, .string b, .string c] t (0, 0))) (hr : r < 3) (ha : a.size ≤ 1) (hb : b.size ≤ 1) (hc : c.size ≤ 1) :
    ∃ s : ByteArray, w.cell? ⟨g, r, none⟩ = some (.string s) ∧ s.size ≤ 1 := by
  match r, hr with
  | 0, _ => exact ⟨a, blk_cell h rfl, ha⟩
  | 1, _ => exact ⟨b, blk_cell h rfl, hb⟩
  | 2, _ => exact ⟨c, blk_cell h rfl, hc⟩
set_option maxRecDepth 100000 in
set_option maxHeartbeats 4000000 in
theorem damaged_any (p : Nat) (most : Int) (w : World) (h : Tape w p) (hm : 0 ≤ most) (hm' : most ≤ 1000) :
    Calls Tryd.prog 24 #[.pointer (some ⟨p, 0, none⟩), .int .i64 most] w (TRet p w fun v _ => ∃ t, v = .string t ∧ t.size ≤ 75) := by
  have H : Bx (Tape w p) := ⟨h⟩
  clear h
  go_enter Tryd.func24, Tryd.ntmps24
  go_wp2_with fail
  refine (label_any p 0 _ H.out (by omega) (by omega)).mono ?_
  rintro e w1 ⟨v1, rfl, ⟨a, b, c, d, rfl, _, _, _, _, hl⟩, HT1, HX1⟩
  have HLB : Bx (labB a b c d = true) := ⟨hl rfl⟩
  clear hl
  go_wp2_with fail
  refine (rdraw_any a b c d _).mono ?_
  rintro e w2 ⟨t2, k2, rfl, hk2, ht2, hx2⟩
  have hz2 : t2.size = 74 := by rw [← bl_len, ht2, drw_yes HLB.out, drawL_len (labW_len _ _ _ _)]
  have HB2 : Bx (Tape w2 p ∧ XT p w w2) := ⟨⟨HT1.ext hx2, HX1.ext hx2⟩⟩
  have q2 : t2.size ≤ 74 := by omega
  have q2' : 74 ≤ t2.size := by omega
  clear hk2 ht2 hx2 HT1 HX1 HLB hz2
  go_wp2_with fail
  refine (damage_any p t2 most _ HB2.out.1 (by omega) hm hm').mono ?_
  rintro e w3 ⟨v3, rfl, ⟨t3, rfl, h31, h32⟩, HT3, HX3⟩
  have HB3 : Bx (Tape w3 p ∧ XT p w w3) := ⟨⟨HT3, HB2.out.2.trans HX3⟩⟩
  have q3 : t3.size ≤ 74 := by omega
  have q3' : 74 ≤ t3.size := by omega
  clear HT3 HX3 h31 h32 HB2
  go_wp2_with fail
  refine (next_any p 2 _ HB3.out.1 (by omega)).mono ?_
  rintro e w4 ⟨v4, rfl, ⟨r, rfl, hr1, hr2⟩, HT4, HX4⟩
  have HB4 : Bx (Tape w4 p ∧ XT p w w4) := ⟨⟨HT4, HB3.out.2.trans HX4⟩⟩
  clear HT4 HX4 HB3
  go_upto_if 19 with (fail)
  go_cut [5] (fun x wx => ∃ t, x = .string t ∧ t.size ≤ 74 ∧ 74 ≤ t.size ∧ Bx (Tape wx p ∧ XT p w wx))
  case first =>
    by_cases hr : r = 1
    · subst hr
      go_wp2_with fail
      refine (rflip_any t3 _ (by omega)).mono ?_
      rintro e w5 ⟨t5, rfl, ht5, hx5⟩
      have hz5 : t5.size = t3.size := by rw [← bl_len, ht5, List.length_reverse, bl_len]
      have HB5 : Bx (Tape w5 p ∧ XT p w w5) := ⟨⟨HB4.out.1.ext hx5, HB4.out.2.ext hx5⟩⟩
      clear ht5 hx5
      go_wp2_with fail
      go_meet
      exact ⟨t5, rfl, by omega, by omega, HB5⟩
    · have q1 : (r == 1) = false := beq_eq_false_iff_ne.2 hr
      go_wp2_with fail
      go_meet
      exact ⟨t3, rfl, by omega, by omega, HB4⟩
  case rest =>
  obtain ⟨t, rfl, hz1, hz2, HB⟩ := hcut
  clear HB4
  go_wp2_with fail
  refine (one_any p 12 _ HB.out.1 (by omega) (by omega)).mono ?_
  rintro e w6 ⟨v6, rfl, ⟨b6, rfl⟩, HT6, HX6⟩
  have HB6 : Bx (Tape w6 p ∧ XT p w w6) := ⟨⟨HT6, HB.out.2.trans HX6⟩⟩
  clear HT6 HX6 HB
  cases b6 with
  | false =>
    go_wp2_with fail
    go_ret
    exact ⟨_, rfl, ⟨t, rfl, by omega⟩, HB6.out.1, HB6.out.2⟩
  | true =>
    go_upto_region 6 with (fail)
    refine wp_region_k 10 (fun _ => True) (by kernel_rfl) ?_
    refine wpAnyK_take 0 (some 24) (v := ?kv1) rfl rfl (by kernel_rfl) (by kernel_rfl) (by kernel_rfl) (by decide) (by kernel_rfl) (fun _ _ _ h => h) (by rfl) ?ky1 trivial ?kr1
    case ky1 => ((intro wk hk); (try dsimp only at hk); go_simp; try with_reducible rfl)
    try simp only [Act.put, List.setIfInBounds_toArray, List.set_cons_zero, List.set_cons_succ]
    refine wpAnyK_take 1 (some 25) (v := ?kv2) rfl rfl (by kernel_rfl) (by kernel_rfl) (by kernel_rfl) (by decide) (by kernel_rfl) (fun _ _ _ h => h) (by rfl) ?ky2 trivial ?kr2
    case ky2 => ((intro wk hk); (try dsimp only at hk); go_simp; try with_reducible rfl)
    try simp only [Act.put, List.setIfInBounds_toArray, List.set_cons_zero, List.set_cons_succ]
    refine wpAnyK_take 5 (some 29) (v := ?kv3) rfl rfl (by kernel_rfl) (by kernel_rfl) (by kernel_rfl) (by decide) (by kernel_rfl) (fun _ _ _ h => h) (by rfl) ?ky3 trivial ?kr3
    case ky3 => ((intro wk hk); (try dsimp only at hk); go_simp; try with_reducible rfl)
    try simp only [Act.put, List.setIfInBounds_toArray, List.set_cons_zero, List.set_cons_succ]
    refine wpAnyK_two 2 4 (by kernel_rfl) rfl rfl (fun K hK => ?_) (fun K hK => ?_)
    · go_simp
      refine (next_any p 2 _ (HB6.out.1.ext (Ext.refl _).drew) (by omega)).mono ?_
      rintro e w7 ⟨v7, rfl, ⟨x, rfl, hx1, hx2⟩, HT7, HX7⟩
      obtain ⟨x, rfl⟩ := Int.eq_ofNat_of_zero_le hx1
      have HB7 : Bx (Tape w7 p ∧ XT p w w7) := ⟨⟨HT7, (HB6.out.2.drew).trans HX7⟩⟩
      have hxs : (x : Int) ≤ (t.size : Int) := by omega
      have hxz : (t.extract x t.size).size ≤ 74 := by rw [← bl_len, bl_from, List.length_drop, bl_len]; omega
      clear HT7 HX7
      refine hK.out _ _ (fun _ => trivial) ?_
      clear hK K
      try simp only [Act.put, List.setIfInBounds_toArray, List.set_cons_zero, List.set_cons_succ]
      refine wpAnyK_take 3 (some 27) (v := ?kv4) rfl rfl (by kernel_rfl) (by kernel_rfl) (by kernel_rfl) (by decide) (by kernel_rfl) (fun _ _ _ h => h) (by rfl) ?ky4 trivial ?kr4
      case ky4 => ((intro wk hk); (try dsimp only at hk); go_simp; try with_reducible rfl)
      try simp only [Act.put, List.setIfInBounds_toArray, List.set_cons_zero, List.set_cons_succ]
      refine wpAnyK_two 4 6 (by kernel_rfl) rfl rfl (fun K hK => ?_) (fun K hK => ?_)
      · go_simp
        refine hK.out _ _ (fun _ => trivial) ?_
        clear hK K
        try simp only [Act.put, List.setIfInBounds_toArray, List.set_cons_zero, List.set_cons_succ]
        refine wpAnyK_one 6 (by kernel_rfl) rfl (fun K hK => ?_)
        go_simp
        refine (next_any p 3 _ (HB7.out.1.ext ((Ext.refl _).alloc _)) (by omega)).mono ?_
        rintro e w8 ⟨v8, rfl, ⟨y, rfl, hy1, hy2⟩, HT8, HX8⟩
        obtain ⟨y, rfl⟩ := Int.eq_ofNat_of_zero_le hy1
        have HB8 : Bx (Tape w8 p ∧ XT p w w8) := ⟨⟨HT8, (HB7.out.2.alloc _).trans HX8⟩⟩
        have hys : (y : Int) < 3 := by omega
        have hb8 := HX8.blk (heap_alloc_new w7 (.cells #[.string ⟨#[]⟩, .string ⟨#[48]⟩, .string ⟨#[50]⟩] 9)) (show w7.heap.size ≠ p by have := HB7.out.1.lt; omega)
        clear HT8 HX8
        refine hK.out _ _ (fun _ => trivial) ?_
        clear hK K
        try simp only [Act.put, List.setIfInBounds_toArray, List.set_cons_zero, List.set_cons_succ]
        obtain ⟨sy, hcy, hsy⟩ := blk3 (r := y) hb8 (by omega) (by decide) (by decide) (by decide)
        have hbig : ¬ 9223372036854775807 < t.size - x + sy.size := by omega
        refine wpAnyK_take 7 (some 31) (v := ?kv5) rfl rfl (by kernel_rfl) (by kernel_rfl) (by kernel_rfl) (by decide) (by kernel_rfl) (fun _ _ _ h => h) (by rfl) ?ky5 trivial ?kr5
        case ky5 => ((intro wk hk); (try dsimp only at hk); go_simp; try with_reducible rfl)
        try simp only [Act.put, List.setIfInBounds_toArray, List.set_cons_zero, List.set_cons_succ]
        refine wpAnyK_one 8 (by kernel_rfl) rfl (fun K hK => ?_)
        go_simp
        refine hK.out _ _ (fun _ => trivial) ?_
        clear hK K
        try simp only [Act.put, List.setIfInBounds_toArray, List.set_cons_zero, List.set_cons_succ]
        refine wpAnyK_one 9 (by kernel_rfl) rfl (fun K hK => ?_)
        go_simp
        refine hK.out _ _ (fun _ => trivial) ?_
        clear hK K
        try simp only [Act.put, List.setIfInBounds_toArray, List.set_cons_zero, List.set_cons_succ]
        refine wpAnyK_one 10 (by kernel_rfl) rfl (fun K hK => ?_)
        go_simp
        refine hK.out _ _ (fun h => absurd rfl h) ?_
        clear hK K
        refine wpAnyK_done (by kernel_rfl) ?_ _
        go_wp2_with fail
        go_ret
        exact ⟨_, rfl, ⟨_, rfl, by rw [ByteArray.size_append]; omega⟩, HB8.out.1, HB8.out.2⟩
      · go_simp
        refine (next_any p 3 _ (HB7.out.1) (by omega)).mono ?_
        rintro e w8 ⟨v8, rfl, ⟨y, rfl, hy1, hy2⟩, HT8, HX8⟩
        obtain ⟨y, rfl⟩ := Int.eq_ofNat_of_zero_le hy1
        have HB8 : Bx (Tape w8 p ∧ XT p w w8) := ⟨⟨HT8, (HB7.out.2).trans HX8⟩⟩
        have hys : (y : Int) < 3 := by omega
        clear HT8 HX8
        refine hK.out _ _ (fun _ => trivial) ?_
        clear hK K
        try simp only [Act.put, List.setIfInBounds_toArray, List.set_cons_zero, List.set_cons_succ]
        refine wpAnyK_one 4 (by kernel_rfl) rfl (fun K hK => ?_)
        go_simp
        have hb8 := heap_alloc_new w8 (.cells #[.string ⟨#[]⟩, .string ⟨#[48]⟩, .string ⟨#[50]⟩] 9)
        refine hK.out _ _ (fun _ => trivial) ?_
        clear hK K
        try simp only [Act.put, List.setIfInBounds_toArray, List.set_cons_zero, List.set_cons_succ]
        obtain ⟨sy, hcy, hsy⟩ := blk3 (r := y) hb8 (by omega) (by decide) (by decide) (by decide)
        have hbig : ¬ 9223372036854775807 < t.size - x + sy.size := by omega
        refine wpAnyK_take 7 (some 31) (v := ?kv6) rfl rfl (by kernel_rfl) (by kernel_rfl) (by kernel_rfl) (by decide) (by kernel_rfl) (fun _ _ _ h => h) (by rfl) ?ky6 trivial ?kr6
        case ky6 => ((intro wk hk); (try dsimp only at hk); go_simp; try with_reducible rfl)
        try simp only [Act.put, List.setIfInBounds_toArray, List.set_cons_zero, List.set_cons_succ]
        refine wpAnyK_one 8 (by kernel_rfl) rfl (fun K hK => ?_)
        go_simp
        refine hK.out _ _ (fun _ => trivial) ?_
        clear hK K
        try simp only [Act.put, List.setIfInBounds_toArray, List.set_cons_zero, List.set_cons_succ]
        refine wpAnyK_one 9 (by kernel_rfl) rfl (fun K hK => ?_)
        go_simp
        refine hK.out _ _ (fun _ => trivial) ?_
        clear hK K
        try simp only [Act.put, List.setIfInBounds_toArray, List.set_cons_zero, List.set_cons_succ]
        refine wpAnyK_one 10 (by kernel_rfl) rfl (fun K hK => ?_)
        go_simp
        refine hK.out _ _ (fun h => absurd rfl h) ?_
        clear hK K
        refine wpAnyK_done (by kernel_rfl) ?_ _
        go_wp2_with fail
        go_ret
        exact ⟨_, rfl, ⟨_, rfl, by rw [ByteArray.size_append]; omega⟩, HB8.out.1.ext ((Ext.refl _).alloc _), HB8.out.2.alloc _⟩
    · go_simp
      refine hK.out _ _ (fun _ => trivial) ?_
      clear hK K
      try simp only [Act.put, List.setIfInBounds_toArray, List.set_cons_zero, List.set_cons_succ]
      refine wpAnyK_one 2 (by kernel_rfl) rfl (fun K hK => ?_)
      go_simp
      refine (next_any p 2 _ (HB6.out.1.ext (((Ext.refl _).alloc _).drew)) (by omega)).mono ?_
      rintro e w7 ⟨v7, rfl, ⟨x, rfl, hx1, hx2⟩, HT7, HX7⟩
      obtain ⟨x, rfl⟩ := Int.eq_ofNat_of_zero_le hx1
      have HB7 : Bx (Tape w7 p ∧ XT p w w7) := ⟨⟨HT7, ((HB6.out.2.alloc _).drew).trans HX7⟩⟩
      have hxs : (x : Int) ≤ (t.size : Int) := by omega
      have hxz : (t.extract x t.size).size ≤ 74 := by rw [← bl_len, bl_from, List.length_drop, bl_len]; omega
      have hb7 := HX7.blk (w := (w6.alloc (.cells #[.string ⟨#[]⟩, .string ⟨#[48]⟩, .string ⟨#[50]⟩] 9)).drew) (heap_alloc_new w6 (.cells #[.string ⟨#[]⟩, .string ⟨#[48]⟩, .string ⟨#[50]⟩] 9)) (show w6.heap.size ≠ p by have := HB6.out.1.lt; omega)
      clear HT7 HX7
      refine hK.out _ _ (fun _ => trivial) ?_
      clear hK K
      try simp only [Act.put, List.setIfInBounds_toArray, List.set_cons_zero, List.set_cons_succ]
      refine wpAnyK_take 3 (some 27) (v := ?kv7) rfl rfl (by kernel_rfl) (by kernel_rfl) (by kernel_rfl) (by decide) (by kernel_rfl) (fun _ _ _ h => h) (by rfl) ?ky7 trivial ?kr7
      case ky7 => ((intro wk hk); (try dsimp only at hk); go_simp; try with_reducible rfl)
      try simp only [Act.put, List.setIfInBounds_toArray, List.set_cons_zero, List.set_cons_succ]
      refine wpAnyK_one 6 (by kernel_rfl) rfl (fun K hK => ?_)
      go_simp
      refine (next_any p 3 _ (HB7.out.1) (by omega)).mono ?_
      rintro e w8 ⟨v8, rfl, ⟨y, rfl, hy1, hy2⟩, HT8, HX8⟩
      obtain ⟨y, rfl⟩ := Int.eq_ofNat_of_zero_le hy1
      have HB8 : Bx (Tape w8 p ∧ XT p w w8) := ⟨⟨HT8, (HB7.out.2).trans HX8⟩⟩
      have hys : (y : Int) < 3 := by omega
      have hb8 := HX8.blk hb7 (show w6.heap.size ≠ p by have := HB6.out.1.lt; omega)
      clear HT8 HX8
      refine hK.out _ _ (fun _ => trivial) ?_
      clear hK K
      try simp only [Act.put, List.setIfInBounds_toArray, List.set_cons_zero, List.set_cons_succ]
      obtain ⟨sy, hcy, hsy⟩ := blk3 (r := y) hb8 (by omega) (by decide) (by decide) (by decide)
      have hbig : ¬ 9223372036854775807 < t.size - x + sy.size := by omega
      refine wpAnyK_take 7 (some 31) (v := ?kv8) rfl rfl (by kernel_rfl) (by kernel_rfl) (by kernel_rfl) (by decide) (by kernel_rfl) (fun _ _ _ h => h) (by rfl) ?ky8 trivial ?kr8
      case ky8 => ((intro wk hk); (try dsimp only at hk); go_simp; try with_reducible rfl)
      try simp only [Act.put, List.setIfInBounds_toArray, List.set_cons_zero, List.set_cons_succ]
      refine wpAnyK_one 8 (by kernel_rfl) rfl (fun K hK => ?_)
      go_simp
      refine hK.out _ _ (fun _ => trivial) ?_
      clear hK K
      try simp only [Act.put, List.setIfInBounds_toArray, List.set_cons_zero, List.set_cons_succ]
      refine wpAnyK_one 9 (by kernel_rfl) rfl (fun K hK => ?_)
      go_simp
      refine hK.out _ _ (fun _ => trivial) ?_
      clear hK K
      try simp only [Act.put, List.setIfInBounds_toArray, List.set_cons_zero, List.set_cons_succ]
      refine wpAnyK_one 10 (by kernel_rfl) rfl (fun K hK => ?_)
      go_simp
      refine hK.out _ _ (fun h => absurd rfl h) ?_
      clear hK K
      refine wpAnyK_done (by kernel_rfl) ?_ _
      go_wp2_with fail
      go_ret
      exact ⟨_, rfl, ⟨_, rfl, by rw [ByteArray.size_append]; omega⟩, HB8.out.1, HB8.out.2⟩
theorem blk5 {w : World} {g : Nat} {t : TypeId} {a b c d e : ByteArray} {r : Nat} (h : w.heap[g]? = some (.cells #[.string a, .string b, .string c, .string d, .string e] t (0, 0))) (hr : r < 5) (ha : a.size ≤ 1) (hb : b.size ≤ 1) (hc : c.size ≤ 1) (hd : d.size ≤ 1) (he : e.size ≤ 1) :
    ∃ s : ByteArray, w.cell? ⟨g, r, none⟩ = some (.string s) ∧ s.size ≤ 1 := by
  match r, hr with
  | 0, _ => exact ⟨a, blk_cell h rfl, ha⟩
  | 1, _ => exact ⟨b, blk_cell h rfl, hb⟩
  | 2, _ => exact ⟨c, blk_cell h rfl, hc⟩
  | 3, _ => exact ⟨d, blk_cell h rfl, hd⟩
  | 4, _ => exact ⟨e, blk_cell h rfl, he⟩
set_option maxRecDepth 100000 in
set_option maxHeartbeats 2000000 in
theorem noise_any (p : Nat) (w : World) (h : Tape w p) :
    Calls Tryd.prog 25 #[.pointer (some ⟨p, 0, none⟩)] w (TRet p w fun v _ => ∃ t, v = .string t ∧ t.size ≤ 74) := by
  have H : Bx (Tape w p ∧ XT p w w) := ⟨⟨h, XT.refl _ _⟩⟩
  clear h
  go_enter Tryd.func25, Tryd.ntmps25
  go_wp2_with fail
  go_loopw [3, 4] (fun v i wr => ∃ (k : Nat) (t : ByteArray), i = .int .i64 k ∧ k ≤ 74 ∧ v = .string t ∧ t.size ≤ k ∧ Bx (Tape wr p ∧ XT p w wr)) (fun _ i _ => 74 - (intOf i).toNat)
  case atStart => exact ⟨0, _, rfl, by omega, rfl, Nat.le_refl _, H⟩
  case round =>
    obtain ⟨k, t, rfl, hk, rfl, hz, HB⟩ := hrel
    clear H
    by_cases hlt : k < 74
    · go_wp2_with fail
      refine (next_any p 5 _ (HB.out.1.ext ((Ext.refl _).alloc _)) (by omega)).mono ?_
      rintro e w2 ⟨v2, rfl, ⟨x, rfl, hx1, hx2⟩, HT2, HX2⟩
      obtain ⟨x, rfl⟩ := Int.eq_ofNat_of_zero_le hx1
      have hxs : (x : Int) < 5 := by omega
      have hb2 := HX2.blk (heap_alloc_new wr (.cells #[.string ⟨#[48]⟩, .string ⟨#[49]⟩, .string ⟨#[49]⟩, .string ⟨#[48]⟩, .string ⟨#[63]⟩] 9)) (show wr.heap.size ≠ p by have := HB.out.1.lt; omega)
      obtain ⟨sy, hcy, hsy⟩ := blk5 (r := x) hb2 (by omega) (by decide) (by decide) (by decide) (by decide) (by decide)
      have HB2 : Bx (Tape w2 p ∧ XT p w w2) := ⟨⟨HT2, (HB.out.2.alloc _).trans HX2⟩⟩
      clear HT2 HX2 hb2
      go_wp2_with fail
      go_roundw
      case rel => exact ⟨k + 1, _, by go_num, by omega, rfl, by rw [ByteArray.size_append]; omega, HB2⟩
      case measure => simp [intOf]; omega
    · obtain rfl : k = 74 := by omega
      go_wp2_with fail
      go_ret
      exact ⟨_, rfl, ⟨t, rfl, hz⟩, HB.out.1, HB.out.2⟩
end Go.Proofs.YtcpanmonllhmaaaDoor
