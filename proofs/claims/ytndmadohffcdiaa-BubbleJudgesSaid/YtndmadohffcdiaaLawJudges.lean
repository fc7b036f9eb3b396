/- BubbleJudges: the walk of the law. -/
import Derived.Test.YtndmadohffcdiaaBubD
import Derived.Test.YtndmadohffcdiaaBaseB
namespace Go.Proofs.Ytndmadohffcdiaa
open Go.RowKit

set_option maxHeartbeats 4000000 in
theorem walkBubbleJudges (v0 : Value) (l0 : List Int) (v1 : Value) (l1 : List Int) (w : World) (h0 : IsI w.heap.size w v0 l0) (h1 : IsI w.heap.size w v1 l1) :
    Calls Try.prog 4 #[v0, v1] w fun e w' => e = .returned (.bool true) ∧ Ext w w' := by
  obtain ⟨A1, n1, c1, rfl, hnc1, hc1, hnn1, HL1⟩ := h1.open_
  have H0 := Lib.hid h0
  have H1 := Lib.hid h1
  clear h0 h1
  go_enter Try.func4, Try.ntmps4
  go_wp2_with fail
  refine (new_any _ l0 _ H0.out).mono ?_
  rintro e w1 ⟨rfl, HT1, HE1⟩
  go_wp2_with fail
  refine (threshold_any _ _ _ HT1 (by omega) (by omega)).mono ?_
  rintro e w2 ⟨v2, rfl, ⟨d, f, ld, rfl, hd, hf, hld, _⟩, HT2, HX2⟩
  have HE2 := HX2.fresh HE1 (Nat.le_refl _)
  have hlt : w.heap.size < w2.heap.size := HT2.lt
  clear HT1 HE1 HX2
  go_wp2_with fail
  refine (ints_any _ _ _ _ _ (HT2.ext ((Ext.refl _).alloc _)) (by omega) (by omega) (by omega) (by omega) (by omega) (by omega)).mono ?_
  rintro e w3 ⟨v3, rfl, ⟨l, hown, hl1, hl2⟩, HT3, HX3⟩
  have HB3 := Lib.hid (HX3.blk (heap_alloc_new w2 _) (show w2.heap.size ≠ w.heap.size by omega))
  have HE3 := Lib.hid (HX3.fresh (HE2.alloc _) (Nat.le_refl _))
  have HO3 := Lib.hid hown
  have hl3 : l.length ≤ 6 := by omega
  have HI3 := Lib.hid (IsI.of_own (p := w.heap.size) hown (by simp; omega) (fun x hx => by have := hl2 x hx; exact ⟨by omega, by omega⟩) (by omega))
  have HM3 : Hid (∀ x ∈ l, I64 x) := fun x hx => by have := hl2 x hx; exact ⟨by omega, by omega⟩
  have HT3' := Lib.hid HT3
  clear hown hl1 hl2 HT2 HX3 HE2 HT3
  obtain ⟨A3, n3, c3, rfl, hnc3, hc3, hnn3, HL3⟩ := HI3.out.open_
  go_upto_region 4 with (fail)
  go_cut [28] (fun s28 wx => ∃ b : Bool, s28 = .bool b ∧ Hid ((b = true → 0 < n3) ∧ Tape wx w.heap.size ∧ XT w.heap.size w3 wx))
  case first =>
    by_cases hn : 0 < n3
    · go_wp2_with fail
      refine (one_any _ _ _ HT3'.out (by omega) (by omega)).mono ?_
      rintro e w4 ⟨v4, rfl, ⟨b, rfl⟩, HT4, HX4⟩
      go_wp2_with fail
      go_meet
      exact ⟨b, rfl, fun _ => hn, HT4, HX4⟩
    · go_wp2_with fail
      go_meet
      exact ⟨false, rfl, (fun h => (by cases h)), HT3'.out, XT.refl _ _⟩
  case rest =>
  obtain ⟨b, rfl, HR⟩ := hcut
  have HB4 := Lib.hid (HR.out.2.2.blk HB3.out (show w2.heap.size ≠ w.heap.size by omega))
  have HE4 := Lib.hid (HR.out.2.2.fresh HE3.out (Nat.le_refl _))
  have HI4 := Lib.hid (HI3.out.xt HR.out.2.2)
  have HO4 := Lib.hid (own_xt HO3.out HR.out.2.2 (by simp; omega))
  clear HB3 HE3 HI3 HO3 HT3'
  go_upto_if 28 with (fail)
  go_cut [] (fun wx => ∃ lt : List Int, Hid (IsI w.heap.size wx (.slice A3 n3 c3) lt ∧ wx.heap[w2.heap.size]? = some (.cells #[.int .i64 d, .int .i64 f, .int .i64 ld] 23 (0, 0)) ∧ Ext w wx))
  case first =>
    cases b
    · go_wp2_with fail
      go_meet
      exact ⟨l, HI4.out, HB4.out, HE4.out⟩
    · have hn : 0 < n3 := HR.out.1 rfl
      obtain ⟨g, cap, hv, hg1, hg2⟩ := own_form HO4.out (by have := HL3.out; omega)
      injection hv with hA hL hC
      subst hA
      subst hC
      clear hL
      simp at hg1
      go_wp2_with fail
      refine (next_any _ _ _ HR.out.2.1 (by omega)).mono ?_
      rintro e w5 ⟨v5, rfl, ⟨r, rfl, hr0, hr1⟩, HT5, HX5⟩
      obtain ⟨k, rfl⟩ := Int.eq_ofNat_of_zero_le hr0
      have hk : k < n3 := by omega
      go_wp2_with fail
      have hs5 : w.heap.size < w5.heap.size := HT5.lt
      refine (pick_any _ _ [-1, 10] _ (HT5.ext ((Ext.refl _).alloc _)) (IsI.litg _ _ _ rfl hs5 (by decide) (by decide)) (by simp)).mono ?_
      rintro e w6 ⟨v6, rfl, ⟨x, rfl, hx⟩, HT6, HX6⟩
      have hxi : I64 x := (by decide : ∀ y ∈ ([-1, 10] : List Int), I64 y) x hx
      have HX := HX5.trans ((Ext.xt ((Ext.refl _).alloc _)).trans HX6)
      have hO6 : w6.ownsRow (w2.heap.size + 1) 3 1 (.slice (some ⟨g, 0, none⟩) n3 c3) n3 (l.map (Value.int .i64)) := by
        have h := own_xt HO4.out HX (by simp; omega); rw [show l.length = n3 from HL3.out] at h; simpa using h
      have HB6 := Lib.hid (HX.blk HB4.out (show w2.heap.size ≠ w.heap.size by omega))
      have HE6 := Lib.hid (HX.fresh HE4.out (Nat.le_refl _))
      obtain ⟨y, hcy⟩ : ∃ y, w6.cell? ⟨g, k, none⟩ = some y := by
        have := hO6.cellAt k (by omega)
        exact ⟨_, this.trans (List.getElem?_eq_getElem (by have := HL3.out; simp; omega))⟩
      have hfy := hO6.frozenAt k
      have HS := Lib.hid (own_set (k := k) (x := x) hO6)
      have hgs : Hid (Ext w (w6.setCell ⟨g, k, none⟩ (.int .i64 x)) ∧ (w6.setCell ⟨g, k, none⟩ (.int .i64 x)).heap[w2.heap.size]? = some (.cells #[.int .i64 d, .int .i64 f, .int .i64 ld] 23 (0, 0))) :=
        ⟨HE6.out.setCell (by show w.heap.size ≤ g; omega) _, (Below.heap_setCell _ _ _ _ (by show w2.heap.size ≠ g; omega)).trans HB6.out⟩
      clear hx HX HX5 HX6 HT5 HT6 HR HO4 HI4 HB4 HE4 hO6 HB6 HE6
      go_wp2_with fail
      go_meet
      refine ⟨l.set k x, IsI.of_own (base := w2.heap.size + 1) (e := 3) (n := n3) (by simpa using HS.out) (by omega) ?_ (by have := HL3.out; simp; omega), hgs.out.2, hgs.out.1⟩
      intro y hy
      rcases List.mem_or_eq_of_mem_set hy with hy | rfl
      · exact HM3.out y hy
      · exact hxi
  case rest =>
  obtain ⟨lt, HR'⟩ := hcut
  clear HR HB4 HE4 HI4 HO4
  have HV := Lib.hid (H1.out.ext HR'.out.2.2)
  obtain ⟨k0, k1, k2⟩ := cell3 HR'.out.2.1
  by_cases h20 : 20 < n1
  · go_wp2_with fail
    go_ret
    exact ⟨rfl, HR'.out.2.2⟩
  go_wp2_with fail
  refine (judge_any _ _ _ _ lt _ HR'.out.1).mono ?_
  rintro e x1 ⟨rfl, hx1⟩
  have HI1 := Lib.hid (HR'.out.1.ext hx1)
  have HV1 := Lib.hid (HV.out.ext hx1)
  have HE1 := Lib.hid (HR'.out.2.2.trans hx1)
  have c0 := hx1.cell k0
  have c1' := hx1.cell k1
  have c2 := hx1.cell k2
  clear k0 k1 k2 HR' HV hx1
  go_wp2_with fail
  refine (rjudge_any _ _ _ _ lt _ HI1.out).mono ?_
  rintro e x2 ⟨rfl, hx2⟩
  have HV2 := Lib.hid (HV1.out.ext hx2)
  have HE2 := Lib.hid (HE1.out.trans hx2)
  have k0 := hx2.cell c0
  have k1 := hx2.cell c1'
  have k2 := hx2.cell c2
  clear c0 c1' c2 HI1 HV1 HE1 hx2
  go_wp2_with fail
  refine (judge_any _ _ _ _ l1 _ HV2.out).mono ?_
  rintro e x3 ⟨rfl, hx3⟩
  have HV3 := Lib.hid (HV2.out.ext hx3)
  have HE3 := Lib.hid (HE2.out.trans hx3)
  have c0 := hx3.cell k0
  have c1' := hx3.cell k1
  have c2 := hx3.cell k2
  clear k0 k1 k2 HV2 HE2 hx3
  go_wp2_with fail
  refine (rjudge_any _ _ _ _ l1 _ HV3.out).mono ?_
  rintro e x4 ⟨rfl, hx4⟩
  have HE4 := Lib.hid (HE3.out.trans hx4)
  clear c0 c1' c2 HV3 HE3 hx4
  go_wp2_with (go_at_call 14; refine (awake_any _).mono ?_; rintro e x5 ⟨rfl, hx5⟩)
  go_ret
  exact ⟨rfl, HE4.out.trans hx5⟩
end Go.Proofs.Ytndmadohffcdiaa
