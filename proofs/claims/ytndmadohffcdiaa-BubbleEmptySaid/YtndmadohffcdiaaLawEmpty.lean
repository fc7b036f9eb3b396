/- BubbleEmpty: the walk of the law. -/
import Derived.Test.YtndmadohffcdiaaBubD
import Derived.Test.YtndmadohffcdiaaBubE
import Derived.Test.YtndmadohffcdiaaBaseB
namespace Go.Proofs.Ytndmadohffcdiaa
open Go.RowKit

set_option maxHeartbeats 4000000 in
theorem walkBubbleEmpty (v0 : Value) (l0 : List Int) (w : World) (h0 : IsI w.heap.size w v0 l0) :
    Calls Try.prog 7 #[v0] w fun e w' => e = .returned (.bool true) ∧ Ext w w' := by
  have H0 := Lib.hid h0
  clear h0
  go_enter Try.func7, Try.ntmps7
  go_wp2_with fail
  refine (new_any _ l0 _ H0.out).mono ?_
  rintro e w1 ⟨rfl, HT1, HE1⟩
  go_wp2_with fail
  refine (threshold_any _ _ _ HT1 (by omega) (by omega)).mono ?_
  rintro e w2 ⟨v2, rfl, ⟨d, f, ld, rfl, _, _, _, hthr⟩, HT2, HX2⟩
  obtain ⟨hd1, hd2, hf1, hf2, hl1, hl2⟩ := hthr rfl
  have HE2 := HX2.fresh HE1 (Nat.le_refl _)
  have hlt : w.heap.size < w2.heap.size := HT2.lt
  clear HT1 HE1 HX2 hthr
  go_wp2_with fail
  refine (values_any _ _ (HT2.ext ((Ext.refl _).alloc _))).mono ?_
  rintro e w3 ⟨v3, rfl, ⟨l, hown, hln2, hln5, hval⟩, HT3, HX3⟩
  have HB3 := HX3.blk (heap_alloc_new w2 _) (show w2.heap.size ≠ w.heap.size by omega)
  have HE3 := HX3.fresh (HE2.alloc _) (Nat.le_refl _)
  have hI3 := IsI.own2 (p := w.heap.size) hown (by simp; omega) hval (by omega)
  have HC := Lib.hid (chosen (d := d) (f := f) (ld := ld) (by omega) hf1 hf2 hl1 (by omega) hln2 hln5 hval)
  have HVAL := Lib.hid hval
  obtain ⟨A, n, c, rfl, hnc, hc, hnn, HL⟩ := hI3.open_
  have hn2 : 2 ≤ n := by have := HL.out; omega
  have hn5 : n ≤ 5 := by have := HL.out; omega
  have h0 : l ≠ [] := by rintro rfl; simp at hln2
  have HN0 := Lib.hid h0
  obtain ⟨c0, c1, c2⟩ := cell3 HB3
  have HI3 := Lib.hid hI3
  have HE3' := Lib.hid HE3
  have HB3' := Lib.hid HB3
  clear hown HT2 HX3 HE2 HT3 hln2 hln5 hval hI3 HE3 HB3 h0
  go_wp2_with fail
  refine (judge_any _ _ _ _ l _ HI3.out).mono ?_
  rintro e w4 ⟨rfl, hx4⟩
  rw [HC.out.1]
  have HI4 := Lib.hid (HI3.out.ext hx4)
  have HE4 := Lib.hid (HE3'.out.trans hx4)
  have d0 := hx4.cell c0
  have d1 := hx4.cell c1
  have HB4 := Lib.hid (hx4.blk HB3'.out)
  clear hx4 c0 c1 c2 HI3 HE3' HB3'
  obtain ⟨b, off, x0, rfl, _, _⟩ := HI4.out.at_ (show 0 < n by omega)
  generalize hjv : judgeV d f ld l = jv
  have HJ := Lib.hid hjv
  clear hjv
  go_wp2_with fail
  go_loopw [8, 9, 10, 11] (fun s8 s9 s10 i wr => ∃ (k fa da q : Nat) (m : Int), k ≤ n ∧ fa ≤ k ∧ da ≤ k ∧ i = .int .i64 k ∧ s8 = .int .i64 fa ∧ s9 = .int .i64 da ∧ s10 = .int .i64 m ∧ Hid (fa = drkTo l f k) ∧ Hid (da = drkTo l d k) ∧ Hid (m = mxTo l k) ∧ wr = w4.drewN q) (fun _ _ _ i _ => n - (intOf i).toNat)
  case atStart => exact ⟨0, 0, 0, 0, 0, Nat.zero_le _, Nat.le_refl _, Nat.le_refl _, rfl, rfl, rfl, rfl, by simp [Hid, drkTo], by simp [Hid, drkTo], by simp [Hid, mxTo], rfl⟩
  case round =>
    obtain ⟨k, fa, da, q, m, hk, hfa, hda, rfl, rfl, rfl, rfl, HFA, HDA, HM, rfl⟩ := hrel
    by_cases hlt : k < n
    · obtain ⟨x, hcx, HX, hx1, hx2⟩ := HI4.out.cell_ hlt
      by_cases hxf : f ≤ x
      · by_cases hxd : d ≤ x
        · skip
          go_wp2_with fail
          all_goals
            go_quiet (fail)
            go_wp2_with fail
            go_quiet (fail)
            go_wp2_with fail
            go_roundw
            case rel => exact ⟨k + 1, fa + 1, da + 1, _, _, by omega, by omega, by omega, by go_num, by go_num, by go_num, rfl, drkTo_hit HFA.out HX.out (by omega), drkTo_hit HDA.out HX.out (by omega), (by show _ = mxTo l (k + 1); rw [← mxTo_succ HM.out HX.out]; omega), rfl⟩
            case measure => simp [intOf]; omega
        · skip
          go_wp2_with fail
          all_goals
            go_quiet (fail)
            go_wp2_with fail
            go_quiet (fail)
            go_wp2_with fail
            go_roundw
            case rel => exact ⟨k + 1, fa + 1, da, _, _, by omega, by omega, by omega, by go_num, by go_num, by go_num, rfl, drkTo_hit HFA.out HX.out (by omega), drkTo_miss HDA.out HX.out (by omega), (by show _ = mxTo l (k + 1); rw [← mxTo_succ HM.out HX.out]; omega), rfl⟩
            case measure => simp [intOf]; omega
      · skip
        go_wp2_with fail
        all_goals
          go_quiet (fail)
          go_wp2_with fail
          go_quiet (fail)
          go_wp2_with fail
          go_roundw
          case rel => exact ⟨k + 1, fa, da, _, _, by omega, by omega, by omega, by go_num, by go_num, by go_num, rfl, drkTo_miss HFA.out HX.out (by omega), drkTo_miss HDA.out HX.out (by omega), (by show _ = mxTo l (k + 1); rw [← mxTo_succ HM.out HX.out]; omega), rfl⟩
          case measure => simp [intOf]; omega
    · obtain rfl : k = n := by omega
      have HFD := Lib.hid (drk_of HL.out HFA.out)
      have HDD := Lib.hid (drk_of HL.out HDA.out)
      have HMM := Lib.hid (HM.out.trans (mxTo_all HL.out HN0.out HVAL.out))
      have hmono : da ≤ fa := by have := drk_mono l hf2; have := HFD.out; have := HDD.out; omega
      have hcase := HC.out.2
      rw [HJ.out, ← HFD.out, ← HDD.out, HL.out] at hcase
      clear HFA HDA HM
      rcases hcase with ⟨j, hj, hje, hjm, hfa0⟩ | ⟨hje, hda0⟩ | ⟨hje, hda2, hfa0⟩
      · subst hje
        obtain ⟨y, hcy, HY, hy1, hy2⟩ := HI4.out.cell_ hj
        obtain rfl : y = m := by have := HY.out; rw [hjm] at this; rw [HMM.out]; exact (Option.some.inj this).symm
        clear hjm HY
        have e1 : ((j : Int) == -2) = false := beq_eq_false_iff_ne.2 (by omega)
        have e2 : ((j : Int) == -1) = false := beq_eq_false_iff_ne.2 (by omega)
        have e4 : decide ((j : Int) < 0) = false := by simp
        have e5 : ((fa : Int) == 0) = false := beq_eq_false_iff_ne.2 (by omega)
        rcases (show da = 0 ∨ da = 1 ∨ 2 ≤ da by omega) with h | h | h
        all_goals
          go_wp2_with (go_at_call 14; refine (awake_any _).mono ?_; rintro e x5 ⟨rfl, hx5⟩)
          go_ret
          exact ⟨rfl, (HE4.out.drewN _).trans hx5⟩
      · subst hje
        subst hda0
        go_wp2_with (go_at_call 14; refine (awake_any _).mono ?_; rintro e x5 ⟨rfl, hx5⟩)
        all_goals
          go_ret
          exact ⟨rfl, (HE4.out.drewN _).trans hx5⟩
      · subst hje
        go_wp2_with (go_at_call 14; refine (awake_any _).mono ?_; rintro e x5 ⟨rfl, hx5⟩)
        go_ret
        exact ⟨rfl, (HE4.out.drewN _).trans hx5⟩
end Go.Proofs.Ytndmadohffcdiaa
