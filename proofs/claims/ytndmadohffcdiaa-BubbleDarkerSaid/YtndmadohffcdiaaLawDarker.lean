/- BubbleDarker: the walk of the law. -/
import Derived.Test.YtndmadohffcdiaaBubD
import Derived.Test.YtndmadohffcdiaaBubF
import Derived.Test.YtndmadohffcdiaaBaseB
namespace Go.Proofs.Ytndmadohffcdiaa
open Go.RowKit

theorem valB_iff {x : Int} : valB x = true ↔ 0 ≤ x ∧ x ≤ 9 := by simp [valB]
theorem all_set {p : Int → Bool} {l : List Int} {k : Nat} {x : Int} (h : l.all p = true) (hx : p x = true) : (l.set k x).all p = true := by
  rw [List.all_eq_true] at *
  intro y hy
  rcases List.mem_or_eq_of_mem_set hy with hy | rfl
  · exact h y hy
  · exact hx

set_option maxHeartbeats 4000000 in
set_option maxRecDepth 100000 in
theorem walkBubbleDarker (v0 : Value) (l0 : List Int) (a1 a2 a3 : Int) (w : World) (h0 : IsI w.heap.size w v0 l0) (i1 : I64 a1) (i2 : I64 a2) (i3 : I64 a3) :
    Calls Try.prog 6 #[v0, .int .i64 a1, .int .i64 a2, .int .i64 a3] w fun e w' => e = .returned (.bool true) ∧ Ext w w' := by
  obtain ⟨a11, a12⟩ := i1
  obtain ⟨a21, a22⟩ := i2
  obtain ⟨a31, a32⟩ := i3
  have H0 := Lib.hid h0
  clear h0
  go_enter Try.func6, Try.ntmps6
  go_wp2_with fail
  refine (new_any _ l0 _ H0.out).mono ?_
  rintro e w1 ⟨rfl, HT1, HE1⟩
  go_wp2_with fail
  refine (threshold_any _ _ _ HT1 (by omega) (by omega)).mono ?_
  rintro e w2 ⟨v2, rfl, ⟨d, f, ld, rfl, _, _, _, hthr⟩, HT2, HX2⟩
  obtain ⟨hd1, hd2, hf1, hf2, hl1, hl2⟩ := hthr rfl
  have HE2 := HX2.fresh HE1 (Nat.le_refl _)
  have hlt : w.heap.size < w2.heap.size := HT2.lt
  clear HT1 HE1 HX2 hthr
  go_wp2_with fail
  refine (values_any _ _ (HT2.ext ((Ext.refl _).alloc _))).mono ?_
  rintro e w3 ⟨v3, rfl, ⟨l, hown, hln2, hln5, hval⟩, HT3, HX3⟩
  have HB3 := HX3.blk (heap_alloc_new w2 _) (show w2.heap.size ≠ w.heap.size by omega)
  have HE3 := HX3.fresh (HE2.alloc _) (Nat.le_refl _)
  have hI3 := IsI.own2 (p := w.heap.size) hown (by simp; omega) hval (by omega)
  have HC := Lib.hid (chosen (d := d) (f := f) (ld := ld) (by omega) hf1 hf2 hl1 (by omega) hln2 hln5 hval)
  have HVAL := Lib.hid hval
  replace hown := own_base hown (base' := w2.heap.size + 1) (by simp)
  obtain ⟨g, c, hv, hg1, hg2⟩ := own_form hown (by omega)
  subst hv
  generalize hn : l.length = n at *
  have HL := Lib.hid hn
  have HO3 := Lib.hid hown
  obtain ⟨c0, c1, c2⟩ := cell3 HB3
  have HI3 := Lib.hid hI3
  have HE3' := Lib.hid HE3
  have HB3' := Lib.hid HB3
  clear hn hown HT2 HX3 HE2 HT3 hval hI3 HE3 HB3
  go_wp2_with fail
  refine (judge_any _ _ _ _ l _ HI3.out).mono ?_
  rintro e w4 ⟨rfl, hx4⟩
  rw [HC.out.1]
  have HO4 := Lib.hid (own_ext HO3.out hx4)
  have HE4 := Lib.hid (HE3'.out.trans hx4)
  have HB4 := Lib.hid (hx4.blk HB3'.out)
  clear hx4 c0 c1 c2 HI3 HE3' HB3' HO3
  generalize hjv : judgeV d f ld l = jv
  have HJ := Lib.hid hjv
  have hcase := HC.out.2
  rw [hjv] at hcase
  clear hjv
  rcases hcase with ⟨j, hj, hje, hjm, hfa0⟩ | ⟨hje, hda0⟩ | ⟨hje, hda2, hfa0⟩
  · subst hje
    have HM := Lib.hid hjm
    have hvm := val_of HVAL.out hjm
    have hcj : w4.cell? ⟨g, j, none⟩ = some (.int .i64 (mval l)) := by
      rw [HO4.out.cellAt j (by omega)]; simp [hjm]
    have hfj := HO4.out.frozenAt j
    clear hjm hfa0
    have b1 := cutZ_lo a1 9
    have b2 := cutZ_hi a1 9 (by omega)
    have hwr : IntKind.i64.wrap (mval l + cutZ a1 9) = mval l + cutZ a1 9 := IntWalk.i64_in _ (by omega)
    go_upto_region 9 with (fail)
    go_cut [] (fun wx => ∃ y : Int, mval l ≤ y ∧ y ≤ 9 ∧ Hid (wx.ownsRow (w2.heap.size + 1) 3 1 (.slice (some ⟨g, 0, none⟩) n c) n ((l.set j y).map (Value.int .i64)) ∧ Ext w wx ∧ wx.heap[w2.heap.size]? = some (.cells #[.int .i64 d, .int .i64 f, .int .i64 ld] 23 (0, 0))))
    case first =>
      go_region_with (go_at_call 11; refine (cut_any _ _ _ (by assumption) (by assumption) (by omega)).mono ?_; rintro e w' ⟨rfl, rfl⟩)
      all_goals go_wp2_with fail
      all_goals
        go_meet
        exact ⟨_, by omega, by omega, own_set HO4.out, (HE4.out.setCell (by show w.heap.size ≤ g; omega) _).drew, (Below.heap_setCell _ _ _ _ (by show w2.heap.size ≠ g; omega)).trans HB4.out⟩
    case rest =>
    obtain ⟨y, hy1, hy2, HR⟩ := hcut
    clear HO4 HE4 HB4 hcj hfj hwr
    have HV1 := Lib.hid (all_set (k := j) HVAL.out (valB_iff.2 (show 0 ≤ y ∧ y ≤ 9 by omega)))
    have HS0 := Lib.hid ((sel_iff (by omega) hf1 hf2 hl1 (by omega) (by have := HL.out; omega) (by have := HL.out; omega) HVAL.out j).1 HJ.out)
    have HS1 := Lib.hid (HS0.out.darker HM.out hy1)
    have HC1 := Lib.hid (chosen (d := d) (f := f) (ld := ld) (l := l.set j y) (by omega) hf1 hf2 hl1 (by omega) (by have := HL.out; simp; omega) (by have := HL.out; simp; omega) HV1.out)
    have HJ1 := Lib.hid ((sel_iff (by omega) hf1 hf2 hl1 (by omega) (by have := HL.out; simp; omega) (by have := HL.out; simp; omega) HV1.out j).2 HS1.out)
    generalize hL1 : l.set j y = L1 at *
    have HL1 : Hid (L1.length = n) := by have := HL.out; rw [← hL1]; show _ = _; simp; exact this
    clear hL1
    obtain ⟨c0, c1, c2⟩ := cell3 HR.out.2.2
    go_wp2_with fail
    refine (judge_any _ _ _ _ L1 _ (IsI.own2 (p := w.heap.size) HR.out.1 (by omega) HV1.out (by have := HL1.out; omega))).mono ?_
    rintro e w5 ⟨rfl, hx5⟩
    rw [HC1.out.1, HJ1.out]
    have HO5 := Lib.hid (own_ext HR.out.1 hx5)
    have HE5 := Lib.hid (HR.out.2.1.trans hx5)
    have HB5 := Lib.hid (hx5.blk HR.out.2.2)
    clear HR hx5 c0 c1 c2
    have b3 := cutZ_lo a2 n
    have b4 := cutZ_hi a2 n (by omega)
    go_upto_region 12 with (go_at_call 11; refine (cut_any _ _ _ (by assumption) (by assumption) (by omega)).mono ?_; rintro e w' ⟨rfl, rfl⟩)
    obtain ⟨q, hq⟩ := Int.eq_ofNat_of_zero_le b3
    rw [hq] at b4 ⊢
    clear b3 hq
    have hqn : q < n := by omega
    by_cases hqj : q = j
    · subst hqj
      obtain ⟨c0, c1, c2⟩ := cell3 HB5.out
      go_wp2_with fail
      refine (judge_any _ _ _ _ L1 _ (IsI.own2 (p := w.heap.size) HO5.out (by omega) HV1.out (by have := HL1.out; omega))).mono ?_
      rintro e w6 ⟨rfl, hx6⟩
      rw [HC1.out.1, HJ1.out]
      go_wp2_with (go_at_call 14; refine (awake_any _).mono ?_; rintro e x5 ⟨rfl, hx5⟩)
      go_ret
      exact ⟨rfl, (HE5.out.trans hx6).trans hx5⟩
    · have hd3 : ((q : Int) != (j : Int)) = true := by simp; omega
      have HQJ := Lib.hid hqj
      clear hqj
      obtain ⟨z, hz⟩ : ∃ z, L1[q]? = some z := ⟨_, List.getElem?_eq_getElem (by have := HL1.out; omega)⟩
      have HZ := Lib.hid hz
      have hvz := val_of HV1.out hz
      have hcz : w5.cell? ⟨g, q, none⟩ = some (.int .i64 z) := by
        rw [HO5.out.cellAt q (by omega)]; simp [hz]
      have hfz := HO5.out.frozenAt q
      clear hz
      have b5 := cutZ_lo a3 9
      have b6 := cutZ_hi a3 9 (by omega)
      have hwr : IntKind.i64.wrap (z - cutZ a3 9) = z - cutZ a3 9 := IntWalk.i64_in _ (by omega)
      go_upto_region 13 with (fail)
      go_cut [] (fun wx => ∃ y : Int, 0 ≤ y ∧ y ≤ z ∧ Hid (wx.ownsRow (w2.heap.size + 1) 3 1 (.slice (some ⟨g, 0, none⟩) n c) n ((L1.set q y).map (Value.int .i64)) ∧ Ext w wx ∧ wx.heap[w2.heap.size]? = some (.cells #[.int .i64 d, .int .i64 f, .int .i64 ld] 23 (0, 0))))
      case first =>
        go_region_with (go_at_call 11; refine (cut_any _ _ _ (by assumption) (by assumption) (by omega)).mono ?_; rintro e w' ⟨rfl, rfl⟩)
        all_goals go_wp2_with fail
        all_goals
          go_meet
          exact ⟨_, by omega, by omega, own_set HO5.out, (HE5.out.setCell (by show w.heap.size ≤ g; omega) _).drew, (Below.heap_setCell _ _ _ _ (by show w2.heap.size ≠ g; omega)).trans HB5.out⟩
      case rest =>
      obtain ⟨y', hy1', hy2', HR⟩ := hcut
      have HV2 := Lib.hid (all_set (k := q) HV1.out (valB_iff.2 (show 0 ≤ y' ∧ y' ≤ 9 by omega)))
      have HS2 := Lib.hid (HS1.out.lighter HQJ.out HZ.out hy2')
      have HC2 := Lib.hid (chosen (d := d) (f := f) (ld := ld) (l := L1.set q y') (by omega) hf1 hf2 hl1 (by omega) (by have := HL1.out; simp; omega) (by have := HL1.out; simp; omega) HV2.out)
      have HJ2 := Lib.hid ((sel_iff (by omega) hf1 hf2 hl1 (by omega) (by have := HL1.out; simp; omega) (by have := HL1.out; simp; omega) HV2.out j).2 HS2.out)
      generalize hL2 : L1.set q y' = L2 at *
      have HL2 : Hid (L2.length = n) := by have := HL1.out; rw [← hL2]; show _ = _; simp; exact this
      clear hL2
      obtain ⟨c0, c1, c2⟩ := cell3 HR.out.2.2
      clear hcz hfz hwr
      go_wp2_with fail
      refine (judge_any _ _ _ _ L2 _ (IsI.own2 (p := w.heap.size) HR.out.1 (by omega) HV2.out (by have := HL2.out; omega))).mono ?_
      rintro e w6 ⟨rfl, hx6⟩
      rw [HC2.out.1, HJ2.out]
      go_wp2_with (go_at_call 14; refine (awake_any _).mono ?_; rintro e x5 ⟨rfl, hx5⟩)
      go_ret
      exact ⟨rfl, (HR.out.2.1.trans hx6).trans hx5⟩
  · subst hje
    go_wp2_with (go_at_call 14; refine (awake_any _).mono ?_; rintro e x5 ⟨rfl, hx5⟩)
    go_ret
    exact ⟨rfl, HE4.out.trans hx5⟩
  · subst hje
    go_wp2_with (go_at_call 14; refine (awake_any _).mono ?_; rintro e x5 ⟨rfl, hx5⟩)
    go_ret
    exact ⟨rfl, HE4.out.trans hx5⟩
end Go.Proofs.Ytndmadohffcdiaa
