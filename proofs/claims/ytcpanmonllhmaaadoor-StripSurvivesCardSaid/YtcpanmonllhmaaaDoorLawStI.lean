/- The walk of the law StripSurvives. -/
import Derived.Test.YtcpanmonllhmaaaDoorLawStH
import Derived.Test.YtcpanmonllhmaaaDoorSurP
set_option linter.unusedSimpArgs false
set_option linter.unusedVariables false
namespace Go.Proofs.YtcpanmonllhmaaaDoor
open Go.RowKit

set_option maxRecDepth 100000 in
set_option maxHeartbeats 8000000 in
theorem walkStripSurvives (v0 : Value) (l0 : List Int) (er era : Int) (down : Bool) (w : World) (h0 : IsI w.heap.size w v0 l0) (her : I64 er) (hera : I64 era) (hT : Tabs w) :
    Calls Tryd.prog 9 #[v0, .int .i64 er, .int .i64 era, .bool down] w fun e w' => e = .returned (.bool true) ∧ Ext w w' := by
  obtain ⟨A0, n0, c0, rfl, -⟩ := h0.open_
  have H0 : Bx (IsI w.heap.size w (.slice A0 n0 c0) l0) := ⟨h0⟩
  have HT : Bx (Tabs w) := ⟨hT⟩
  clear h0 hT
  go_enter Tryd.func9, Tryd.ntmps9
  go_wp2_with fail
  refine (new_any _ l0 _ H0.out).mono ?_
  rintro e w1 ⟨rfl, HT1, HE1⟩
  have hp1 := HT1.lt
  go_wp2_with fail
  refine (label_any _ 0 _ HT1 (by omega) (by omega)).mono ?_
  rintro e w2 ⟨v2, rfl, ⟨a, b, c, d, rfl, _, _, _, _, hlb⟩, HT2, HX2⟩
  have HLB : Bx (labB a b c d = true) := ⟨hlb rfl⟩
  have hs2 := HT2.lt
  obtain ⟨w3, hw3⟩ : ∃ w3, w3 = w2.alloc (.cells #[.int .i64 a, .int .i64 b, .int .i64 c, .int .i64 d] 26) := ⟨_, rfl⟩
  have hx3 : Ext w2 w3 := by rw [hw3]; exact (Ext.refl _).alloc _
  have hl3 : LabBlk w3 w2.heap.size a b c d := by rw [hw3]; exact LabBlk.new w2 a b c d
  have H3 : Bx (Ext w w3 ∧ Tape w3 w.heap.size ∧ LabBlk w3 w2.heap.size a b c d) := ⟨⟨(HX2.fresh HE1 (Nat.le_refl _)).trans hx3, HT2.ext hx3, hl3⟩⟩
  clear HT1 HE1 HT2 HX2 hlb hx3 hl3
  go_wp2_with fail
  rw [← hw3]
  clear hw3
  refine (draw_any a b c d _ (HT.out.ext H3.out.1)).mono ?_
  rintro e w4 ⟨t4, k4, rfl, hk4, ht4, hx4⟩
  rw [(sym_yes HLB.out).2] at hk4
  rw [drw_yes HLB.out] at ht4
  subst hk4
  have hz4 : t4.size = 74 := by rw [← bl_len, ht4, drawL_len (labW_len _ _ _ _)]
  have q4 : ((t4.size : Int) != 74) = false := by rw [hz4]; rfl
  have H4 : Bx (Ext w w4 ∧ Tape w4 w.heap.size ∧ LabBlk w4 w2.heap.size a b c d) := ⟨⟨H3.out.1.trans hx4, H3.out.2.1.ext hx4, H3.out.2.2.ext hx4⟩⟩
  have hcl := labW_len a b c d
  have HM : Bx (Mid (labW a b c d) 0 (bl t4)) := ⟨by rw [ht4]; exact Mid.zero hcl⟩
  clear ht4 hx4 hz4 H3 hcl
  go_wp2_with fail
  refine (cut_any er 4 _ her.1 her.2 (by omega)).mono ?_
  rintro e w5 ⟨rfl, rfl⟩
  have hx1 := cutZ_lo er 4
  have hx2 := cutZ_hi er 4 (by omega)
  generalize cutZ er 4 = x at *
  obtain ⟨x, rfl⟩ := Int.eq_ofNat_of_zero_le hx1
  go_wp2_with fail
  refine (cut_any era _ _ hera.1 hera.2 (by omega)).mono ?_
  rintro e w5 ⟨rfl, rfl⟩
  have hy1 := cutZ_lo era (7 - 2 * (x : Int))
  have hy2 := cutZ_hi era (7 - 2 * (x : Int)) (by omega)
  generalize cutZ era (7 - 2 * (x : Int)) = y at *
  obtain ⟨y, rfl⟩ := Int.eq_ofNat_of_zero_le hy1
  have h6 : 2 * x + y ≤ 6 := by omega
  clear her hera hx1 hy1
  go_wp2_with fail
  go_loopw [11, 13] (fun s i wr => ∃ (k : Nat) (t : ByteArray), i = .int .i64 k ∧ k ≤ 3 ∧ s = .string t ∧ t.size ≤ 74 ∧ Bx (Mid (labW a b c d) k (bl t)) ∧ Bx (Ext w wr ∧ Tape wr w.heap.size ∧ LabBlk wr w2.heap.size a b c d)) (fun _ i _ => 3 - (intOf i).toNat)
  case atStart => exact ⟨0, t4, rfl, by omega, rfl, by rw [← bl_len, (strip_iff.1 HM.out.strip).1]; omega, HM, H4⟩
  case round =>
    obtain ⟨k, t, rfl, hk, rfl, hzt, HMk, HW⟩ := hrel
    clear HM H4
    by_cases hlt : k < 3
    · go_wp2_with fail
      refine (next_any _ 7 _ HW.out.2.1 (by omega)).mono ?_
      rintro e u1 ⟨v1, rfl, ⟨r1, rfl, hr1, hr1'⟩, HT1, HX1⟩
      obtain ⟨r1, rfl⟩ := Int.eq_ofNat_of_zero_le hr1
      go_wp2_with fail
      refine (next_any _ 2 _ HT1 (by omega)).mono ?_
      rintro e u2 ⟨v2, rfl, ⟨g1, rfl, hg1, hg1'⟩, HT2, HX2⟩
      have HU2 : Bx (Ext w u2 ∧ Tape u2 w.heap.size ∧ LabBlk u2 w2.heap.size a b c d) := ⟨⟨(HX1.trans HX2).fresh HW.out.1 (Nat.le_refl _), HT2, (HW.out.2.2.xt HX1 (by omega)).xt HX2 (by omega)⟩⟩
      clear HT1 HX1 HT2 HX2 HW
      go_wp2_with fail
      refine (change_any t (r1 : Int) g1 _ (by omega)).mono ?_
      rintro e u3 ⟨t3, rfl, ht3, hx3⟩
      have HC3 : Bx (bl t3 = chgL (bl t) (r1 : Int) g1) := ⟨ht3⟩
      have hz3 : t3.size ≤ 74 := by rw [← bl_len, ht3, chgL_len, bl_len]; omega
      have HU3 : Bx (Ext w u3 ∧ Tape u3 w.heap.size ∧ LabBlk u3 w2.heap.size a b c d) := ⟨⟨HU2.out.1.trans hx3, HU2.out.2.1.ext hx3, HU2.out.2.2.ext hx3⟩⟩
      clear ht3 hx3 HU2
      go_wp2_with fail
      refine (next_any _ 7 _ HU3.out.2.1 (by omega)).mono ?_
      rintro e u4 ⟨v4, rfl, ⟨r2, rfl, hr2, hr2'⟩, HT4, HX4⟩
      obtain ⟨r2, rfl⟩ := Int.eq_ofNat_of_zero_le hr2
      go_wp2_with fail
      refine (next_any _ 2 _ HT4 (by omega)).mono ?_
      rintro e u5 ⟨v5, rfl, ⟨g2, rfl, hg2, hg2'⟩, HT5, HX5⟩
      have HU5 : Bx (Ext w u5 ∧ Tape u5 w.heap.size ∧ LabBlk u5 w2.heap.size a b c d) := ⟨⟨(HX4.trans HX5).fresh HU3.out.1 (Nat.le_refl _), HT5, (HU3.out.2.2.xt HX4 (by omega)).xt HX5 (by omega)⟩⟩
      clear HT4 HX4 HT5 HX5 HU3
      go_wp2_with fail
      refine (change_any t3 _ g2 _ (by omega)).mono ?_
      rintro e u6 ⟨t6, rfl, ht6, hx6⟩
      have hz6 : t6.size ≤ 74 := by rw [← bl_len, ht6, chgL_len, bl_len]; omega
      have HM6 : Bx (Mid (labW a b c d) (k + 1) (bl t6)) := ⟨by
        rw [ht6, HC3.out, show (67 : Int) + (r2 : Int) = ((67 + r2 : Nat) : Int) by omega]
        exact HMk.out.step (by omega) (by omega)⟩
      have HU6 : Bx (Ext w u6 ∧ Tape u6 w.heap.size ∧ LabBlk u6 w2.heap.size a b c d) := ⟨⟨HU5.out.1.trans hx6, HU5.out.2.1.ext hx6, HU5.out.2.2.ext hx6⟩⟩
      clear ht6 hx6 HU5 HC3 HMk
      go_wp2_with fail
      go_roundw
      case rel => exact ⟨k + 1, t6, by go_num, by omega, rfl, hz6, HM6, HU6⟩
      case measure => simp [intOf]; omega
    · obtain rfl : k = 3 := by omega
      go_wp2_with fail
      refine (order_any _ 12 _ HW.out.2.1 (by omega)).mono ?_
      rintro e u1 ⟨v1, rfl, ⟨ord, ho1, hperm⟩, HT1, HX1⟩
      have hol : ord.length = 12 := by rw [hperm.length_eq]; simp [upTo]
      obtain ⟨Ao, co, hv1, -⟩ := own_shape ho1
      rw [hol] at hv1 ho1
      subst hv1
      have HPM : Bx (ord.Perm (upTo 12)) := ⟨hperm⟩
      have hws : w.heap.size < wr.heap.size := HW.out.2.1.lt
      have HOR : IsI w.heap.size u1 (.slice Ao 12 co) ord := IsI.of_own ho1 hws (fun z hz => by have := upTo_mem (hperm.mem_iff.1 hz); constructor <;> omega) (by omega)
      have HU1 : Bx (Ext w u1 ∧ Tape u1 w.heap.size ∧ LabBlk u1 w2.heap.size a b c d ∧ IsI w.heap.size u1 (.slice Ao 12 co) ord) := ⟨⟨HX1.fresh HW.out.1 (Nat.le_refl _), HT1, HW.out.2.2.xt HX1 (by omega), HOR⟩⟩
      have HD0 : Bx (Dmg (labW a b c d) ord x 0 (bl t)) := ⟨Dmg.zero hperm HMk.out⟩
      clear HT1 HX1 HW HMk hperm ho1 HOR hol hws
      go_wp2_with fail
      go_loopw [11, 15, 16, 17, 18] (fun s i _ _ _ wr => ∃ (k : Nat) (tt : ByteArray), i = .int .i64 k ∧ k ≤ x + y ∧ s = .string tt ∧ tt.size ≤ 74 ∧ Bx (Dmg (labW a b c d) ord x k (bl tt)) ∧ Bx (Ext w wr ∧ Tape wr w.heap.size ∧ LabBlk wr w2.heap.size a b c d ∧ IsI w.heap.size wr (.slice Ao 12 co) ord)) (fun _ i _ _ _ _ => x + y - (intOf i).toNat)
      case atStart => exact ⟨0, t, rfl, by omega, rfl, hzt, HD0, HU1⟩
      case round =>
        obtain ⟨i, ti, rfl, hi, rfl, hzi, HD, HWi⟩ := hrel
        clear HD0 HU1
        by_cases hixy : i < x + y
        · obtain ⟨bo, oo, z, rfl, hcz, HZ, -, -⟩ := HWi.out.2.2.2.at_ (k := i) (by omega)
          have hz12 := upTo_mem (HPM.out.mem_iff.1 (List.mem_of_getElem? HZ.out))
          obtain ⟨o, rfl⟩ := Int.eq_ofNat_of_zero_le hz12.1
          have ho12 : o < 12 := by omega
          have HOI : Bx (ord[i]? = some (o : Int)) := ⟨HZ.out⟩
          have hdi : decide ((i : Int) < (x : Int) + (y : Int)) = true := by simp; omega
          clear hz12 HZ
          go_wp2_with fail
          refine (next_any _ 5 _ HWi.out.2.1 (by omega)).mono ?_
          rintro e u2 ⟨v2, rfl, ⟨f, rfl, hf1, hf2⟩, HT2, HX2⟩
          obtain ⟨f, rfl⟩ := Int.eq_ofNat_of_zero_le hf1
          have hf5 : f < 5 := by omega
          have HU2 : Bx (Ext w u2 ∧ Tape u2 w.heap.size ∧ LabBlk u2 w2.heap.size a b c d ∧ IsI w.heap.size u2 (.slice (some ⟨bo, oo, none⟩) 12 co) ord) := ⟨⟨HX2.fresh HWi.out.1 (Nat.le_refl _), HT2, HWi.out.2.2.1.xt HX2 (by omega), HWi.out.2.2.2.xt HX2⟩⟩
          have HI0 : Bx (Inn (labW a b c d) ord x i o f 0 (bl ti)) := ⟨HD.out.begin HOI.out⟩
          clear HT2 HX2 HWi HD hcz
          go_wp2_with fail
          go_loopw [11, 18] (fun s i' wr => ∃ (m : Nat) (tt : ByteArray), i' = .int .i64 m ∧ m ≤ 5 ∧ s = .string tt ∧ tt.size ≤ 74 ∧ Bx (Inn (labW a b c d) ord x i o f m (bl tt)) ∧ Bx (Ext w wr ∧ Tape wr w.heap.size ∧ LabBlk wr w2.heap.size a b c d ∧ IsI w.heap.size wr (.slice (some ⟨bo, oo, none⟩) 12 co) ord)) (fun _ i' _ => 5 - (intOf i').toNat)
          case atStart => exact ⟨0, ti, rfl, by omega, rfl, hzi, HI0, HU2⟩
          case round =>
            obtain ⟨m, tt, rfl, hm, rfl, hzm, HIn, HWm⟩ := hrel
            clear HI0 HU2
            by_cases hm5 : m < 5
            · by_cases hmf : m = f
              · subst hmf
                have qf : ((m : Int) != (m : Int)) = false := by simp
                by_cases hix : i < x
                · go_wp2_with fail
                  refine (change_any tt _ 0 _ (by omega)).mono ?_
                  rintro e u9 ⟨t9, rfl, ht9, hx9⟩
                  have hz9 : t9.size ≤ 74 := by rw [← bl_len, ht9, chgL_len, bl_len]; omega
                  have HI9 : Bx (Inn (labW a b c d) ord x i o m (m + 1) (bl t9)) := ⟨by
                    rw [ht9, show (7 : Int) + 5 * (o : Int) + (m : Int) = ((pos o m : Nat) : Int) by unfold pos; omega]
                    exact HIn.out.chg HPM.out HOI.out hm5 (fun h => by omega) (fun h => by omega)⟩
                  have HU9 : Bx (Ext w u9 ∧ Tape u9 w.heap.size ∧ LabBlk u9 w2.heap.size a b c d ∧ IsI w.heap.size u9 (.slice (some ⟨bo, oo, none⟩) 12 co) ord) := ⟨⟨HWm.out.1.trans hx9, HWm.out.2.1.ext hx9, HWm.out.2.2.1.ext hx9, HWm.out.2.2.2.ext hx9⟩⟩
                  clear ht9 hx9 HWm HIn
                  go_wp2_with fail
                  go_roundw
                  case rel => exact ⟨m + 1, t9, by go_num, by omega, rfl, hz9, HI9, HU9⟩
                  case measure => simp [intOf]; omega
                · go_wp2_with fail
                  refine (change_any tt _ 1 _ (by omega)).mono ?_
                  rintro e u9 ⟨t9, rfl, ht9, hx9⟩
                  have hz9 : t9.size ≤ 74 := by rw [← bl_len, ht9, chgL_len, bl_len]; omega
                  have HI9 : Bx (Inn (labW a b c d) ord x i o m (m + 1) (bl t9)) := ⟨by
                    rw [ht9, show (7 : Int) + 5 * (o : Int) + (m : Int) = ((pos o m : Nat) : Int) by unfold pos; omega]
                    exact HIn.out.chg HPM.out HOI.out hm5 (fun h => by omega) (fun h => by omega)⟩
                  have HU9 : Bx (Ext w u9 ∧ Tape u9 w.heap.size ∧ LabBlk u9 w2.heap.size a b c d ∧ IsI w.heap.size u9 (.slice (some ⟨bo, oo, none⟩) 12 co) ord) := ⟨⟨HWm.out.1.trans hx9, HWm.out.2.1.ext hx9, HWm.out.2.2.1.ext hx9, HWm.out.2.2.2.ext hx9⟩⟩
                  clear ht9 hx9 HWm HIn
                  go_wp2_with fail
                  go_roundw
                  case rel => exact ⟨m + 1, t9, by go_num, by omega, rfl, hz9, HI9, HU9⟩
                  case measure => simp [intOf]; omega
              · have qf : ((m : Int) != (f : Int)) = true := by simp; omega
                go_wp2_with fail
                refine (next_any _ 2 _ HWm.out.2.1 (by omega)).mono ?_
                rintro e u5 ⟨v5, rfl, ⟨r5, rfl, hr5, hr5'⟩, HT5, HX5⟩
                have HU5 : Bx (Ext w u5 ∧ Tape u5 w.heap.size ∧ LabBlk u5 w2.heap.size a b c d ∧ IsI w.heap.size u5 (.slice (some ⟨bo, oo, none⟩) 12 co) ord) := ⟨⟨HX5.fresh HWm.out.1 (Nat.le_refl _), HT5, HWm.out.2.2.1.xt HX5 (by omega), HWm.out.2.2.2.xt HX5⟩⟩
                clear HT5 HX5 HWm
                by_cases hr0 : r5 = 0
                · subst hr0
                  have HI9 : Bx (Inn (labW a b c d) ord x i o f (m + 1) (bl tt)) := ⟨HIn.out.skip hmf⟩
                  clear HIn
                  go_wp2_with fail
                  go_roundw
                  case rel => exact ⟨m + 1, tt, by go_num, by omega, rfl, hzm, HI9, HU5⟩
                  case measure => simp [intOf]; omega
                · have qr : (r5 == 0) = false := beq_eq_false_iff_ne.2 hr0
                  by_cases hix : i < x
                  · go_wp2_with fail
                    refine (change_any tt _ 0 _ (by omega)).mono ?_
                    rintro e u9 ⟨t9, rfl, ht9, hx9⟩
                    have hz9 : t9.size ≤ 74 := by rw [← bl_len, ht9, chgL_len, bl_len]; omega
                    have HI9 : Bx (Inn (labW a b c d) ord x i o f (m + 1) (bl t9)) := ⟨by
                      rw [ht9, show (7 : Int) + 5 * (o : Int) + (m : Int) = ((pos o m : Nat) : Int) by unfold pos; omega]
                      exact HIn.out.chg HPM.out HOI.out hm5 (fun h => by omega) (fun h => by omega)⟩
                    have HU9 : Bx (Ext w u9 ∧ Tape u9 w.heap.size ∧ LabBlk u9 w2.heap.size a b c d ∧ IsI w.heap.size u9 (.slice (some ⟨bo, oo, none⟩) 12 co) ord) := ⟨⟨HU5.out.1.trans hx9, HU5.out.2.1.ext hx9, HU5.out.2.2.1.ext hx9, HU5.out.2.2.2.ext hx9⟩⟩
                    clear ht9 hx9 HU5 HIn
                    go_wp2_with fail
                    go_roundw
                    case rel => exact ⟨m + 1, t9, by go_num, by omega, rfl, hz9, HI9, HU9⟩
                    case measure => simp [intOf]; omega
                  · go_wp2_with fail
                    refine (change_any tt _ 1 _ (by omega)).mono ?_
                    rintro e u9 ⟨t9, rfl, ht9, hx9⟩
                    have hz9 : t9.size ≤ 74 := by rw [← bl_len, ht9, chgL_len, bl_len]; omega
                    have HI9 : Bx (Inn (labW a b c d) ord x i o f (m + 1) (bl t9)) := ⟨by
                      rw [ht9, show (7 : Int) + 5 * (o : Int) + (m : Int) = ((pos o m : Nat) : Int) by unfold pos; omega]
                      exact HIn.out.chg HPM.out HOI.out hm5 (fun h => by omega) (fun h => by omega)⟩
                    have HU9 : Bx (Ext w u9 ∧ Tape u9 w.heap.size ∧ LabBlk u9 w2.heap.size a b c d ∧ IsI w.heap.size u9 (.slice (some ⟨bo, oo, none⟩) 12 co) ord) := ⟨⟨HU5.out.1.trans hx9, HU5.out.2.1.ext hx9, HU5.out.2.2.1.ext hx9, HU5.out.2.2.2.ext hx9⟩⟩
                    clear ht9 hx9 HU5 HIn
                    go_wp2_with fail
                    go_roundw
                    case rel => exact ⟨m + 1, t9, by go_num, by omega, rfl, hz9, HI9, HU9⟩
                    case measure => simp [intOf]; omega
            · obtain rfl : m = 5 := by omega
              have HD5 : Bx (Dmg (labW a b c d) ord x (i + 1) (bl tt)) := ⟨HIn.out.fin HOI.out hf5⟩
              clear HIn
              go_wp2_with fail
              go_roundw
              case rel => exact ⟨i + 1, tt, by go_num, by omega, rfl, hzm, HD5, HWm⟩
              case measure => simp [intOf]; omega
        · obtain rfl : i = x + y := by omega
          have HRD : Bx (ReadF (bl ti) a b c d (x : Int) 0) := ⟨HD.out.read HPM.out HLB.out h6⟩
          have hdi : decide (((x + y : Nat) : Int) < (x : Int) + (y : Int)) = false := by simp
          clear HD
          cases down with
          | false =>
            go_wp2_with fail
            refine (read_any _ _ (HT.out.ext HWi.out.1)).mono ?_
            rintro e w6 ⟨p', c', g', v', n', kk', rfl, hr, _, _, _, _, _, _, hx6⟩
            obtain ⟨rfl, rfl, rfl, rfl, rfl, rfl⟩ := read_same hr HRD.out
            have H6 : Bx (Ext w w6 ∧ LabBlk w6 w2.heap.size p' c' g' v') := ⟨⟨HWi.out.1.trans hx6, HWi.out.2.2.1.ext hx6⟩⟩
            have hc6 : ∀ o, (w6.alloc o).cell? ⟨w2.heap.size, 0, none⟩ = some (.int .i64 p') ∧ (w6.alloc o).cell? ⟨w2.heap.size, 1, none⟩ = some (.int .i64 c') ∧ (w6.alloc o).cell? ⟨w2.heap.size, 2, none⟩ = some (.int .i64 g') ∧ (w6.alloc o).cell? ⟨w2.heap.size, 3, none⟩ = some (.int .i64 v') := fun o => (H6.out.2.ext ((Ext.refl _).alloc o)).cells
            have k0 := fun o => (hc6 o).1
            have k1 := fun o => (hc6 o).2.1
            have k2 := fun o => (hc6 o).2.2.1
            have k3 := fun o => (hc6 o).2.2.2
            obtain ⟨w7, hw7⟩ : ∃ w7, w7 = w6.alloc (.cells #[.int .i64 p', .int .i64 c', .int .i64 g', .int .i64 v'] 26) := ⟨_, rfl⟩
            have H7 : Bx (Ext w w7) := ⟨by rw [hw7]; exact H6.out.1.alloc _⟩
            have eL : ∀ W, (Op.equalIn 10000 26 (.agg #[.int .i64 p', .int .i64 c', .int .i64 g', .int .i64 v']) (.agg #[.int .i64 p', .int .i64 c', .int .i64 g', .int .i64 v'])).run Tryd.prog W = .ok true W := fun W => by rw [eqLab]; simp
            have gL := guardLab
            have q1 : ((x : Int) == (x : Int)) = true := beq_self_eq_true _
            clear hr hx6 HRD hc6 HWi HLB HPM
            go_wp2_with fail
            rw [← hw7]
            refine (awake19_any _ (HT.out.ext H7.out)).mono ?_
            rintro e w8 ⟨rfl, hx8⟩
            have H8 : Bx (Ext w w8) := ⟨H7.out.trans hx8⟩
            clear hx8 hw7
            go_wp2_with fail
            go_ret
            exact ⟨rfl, H8.out⟩
          | true =>
            go_wp2_with fail
            refine (flip_any ti _ (by omega)).mono ?_
            rintro e w5 ⟨tf, rfl, htf, hx5⟩
            have HRT : Bx (ReadF (bl tf) a b c d (x : Int) 0) := ⟨by rw [htf]; exact read_turn HRD.out⟩
            have HF5 : Bx (Ext w w5 ∧ LabBlk w5 w2.heap.size a b c d) := ⟨⟨HWi.out.1.trans hx5, HWi.out.2.2.1.ext hx5⟩⟩
            clear htf hx5
            go_wp2_with fail
            refine (read_any _ _ (HT.out.ext HF5.out.1)).mono ?_
            rintro e w6 ⟨p', c', g', v', n', kk', rfl, hr, _, _, _, _, _, _, hx6⟩
            obtain ⟨rfl, rfl, rfl, rfl, rfl, rfl⟩ := read_same hr HRT.out
            have H6 : Bx (Ext w w6 ∧ LabBlk w6 w2.heap.size p' c' g' v') := ⟨⟨HF5.out.1.trans hx6, HF5.out.2.ext hx6⟩⟩
            have hc6 : ∀ o, (w6.alloc o).cell? ⟨w2.heap.size, 0, none⟩ = some (.int .i64 p') ∧ (w6.alloc o).cell? ⟨w2.heap.size, 1, none⟩ = some (.int .i64 c') ∧ (w6.alloc o).cell? ⟨w2.heap.size, 2, none⟩ = some (.int .i64 g') ∧ (w6.alloc o).cell? ⟨w2.heap.size, 3, none⟩ = some (.int .i64 v') := fun o => (H6.out.2.ext ((Ext.refl _).alloc o)).cells
            have k0 := fun o => (hc6 o).1
            have k1 := fun o => (hc6 o).2.1
            have k2 := fun o => (hc6 o).2.2.1
            have k3 := fun o => (hc6 o).2.2.2
            obtain ⟨w7, hw7⟩ : ∃ w7, w7 = w6.alloc (.cells #[.int .i64 p', .int .i64 c', .int .i64 g', .int .i64 v'] 26) := ⟨_, rfl⟩
            have H7 : Bx (Ext w w7) := ⟨by rw [hw7]; exact H6.out.1.alloc _⟩
            have eL : ∀ W, (Op.equalIn 10000 26 (.agg #[.int .i64 p', .int .i64 c', .int .i64 g', .int .i64 v']) (.agg #[.int .i64 p', .int .i64 c', .int .i64 g', .int .i64 v'])).run Tryd.prog W = .ok true W := fun W => by rw [eqLab]; simp
            have gL := guardLab
            have q1 : ((x : Int) == (x : Int)) = true := beq_self_eq_true _
            clear hr hx6 HRD HRT hc6 HWi HF5 HLB HPM
            go_wp2_with fail
            rw [← hw7]
            refine (awake19_any _ (HT.out.ext H7.out)).mono ?_
            rintro e w8 ⟨rfl, hx8⟩
            have H8 : Bx (Ext w w8) := ⟨H7.out.trans hx8⟩
            clear hx8 hw7
            go_wp2_with fail
            go_ret
            exact ⟨rfl, H8.out⟩
end Go.Proofs.YtcpanmonllhmaaaDoor
