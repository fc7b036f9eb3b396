/- The walk of the law StripDraws. -/
import Derived.Test.YtcpanmonllhmaaaDoorLawStA
namespace Go.Proofs.YtcpanmonllhmaaaDoor
open Go.RowKit

set_option maxRecDepth 100000 in
set_option maxHeartbeats 4000000 in
theorem walkStripDraws (v0 : Value) (l0 : List Int) (s : ByteArray) (w : World) (h0 : IsI w.heap.size w v0 l0) (hs : s.size ≤ 140737488351232) (hT : Tabs w) :
    Calls Tryd.prog 4 #[v0, .string s] w fun e w' => e = .returned (.bool true) ∧ Ext w w' := by
  obtain ⟨A0, n0, c0, rfl, -⟩ := h0.open_
  have H0 : Bx (IsI w.heap.size w (.slice A0 n0 c0) l0) := ⟨h0⟩
  have HT : Bx (Tabs w) := ⟨hT⟩
  clear h0 hT
  go_enter Tryd.func4, Tryd.ntmps4
  go_wp2_with fail
  refine (new_any _ l0 _ H0.out).mono ?_
  rintro e w1 ⟨rfl, HT1, HE1⟩
  go_wp2_with fail
  refine (label_any _ 6 _ HT1 (by omega) (by omega)).mono ?_
  rintro e w2 ⟨v2, rfl, ⟨a, b, c, d, rfl, _, _, _, _, hlb⟩, HT2, HX2⟩
  have HE2 : Bx (Ext w w2) := ⟨HX2.fresh HE1 (Nat.le_refl _)⟩
  clear HT2 HX2 HT1 HE1 hlb
  obtain ⟨w3, hw3⟩ : ∃ w3, w3 = w2.alloc (.cells #[.int .i64 a, .int .i64 b, .int .i64 c, .int .i64 d] 26) := ⟨_, rfl⟩
  have hx3 : Ext w2 w3 := by rw [hw3]; exact (Ext.refl _).alloc _
  have hl3 : LabBlk w3 w2.heap.size a b c d := by rw [hw3]; exact LabBlk.new w2 a b c d
  have HE3 : Bx (Ext w w3) := ⟨HE2.out.trans hx3⟩
  have HL3 : Bx (LabBlk w3 w2.heap.size a b c d) := ⟨hl3⟩
  clear hx3 hl3 HE2
  go_wp2_with fail
  rw [← hw3]
  clear hw3
  refine (draw_any a b c d _ (HT.out.ext HE3.out)).mono ?_
  rintro e w4 ⟨t4, k4, rfl, hk4, ht4, hx4⟩
  have HE4 : Bx (Ext w w4) := ⟨HE3.out.trans hx4⟩
  have HD : Bx (k4 = symE a b c d ∧ bl t4 = drwS a b c d) := ⟨⟨hk4, ht4⟩⟩
  obtain ⟨x0, x1, x2, x3⟩ := (HL3.out.ext hx4).cells
  clear hx4 hk4 ht4 HE3 HL3
  go_wp2_with fail
  refine (rdraw_any a b c d _).mono ?_
  rintro e w5 ⟨t5, k5, rfl, hk5, ht5, hx5⟩
  obtain rfl : t4 = t5 := bl_inj (by rw [HD.out.2, ht5])
  obtain rfl : k4 = k5 := by rw [HD.out.1, hk5]
  have HE5 : Bx (Ext w w5) := ⟨HE4.out.trans hx5⟩
  clear hx5 hk5 ht5 HE4 x0 x1 x2 x3 HD
  have q1 : (t4.toList == t4.toList) = true := beq_self_eq_true _
  have q2 : (k4 == k4) = true := beq_self_eq_true _
  by_cases h300 : 300 < s.size
  · go_wp2_with fail
    go_ret
    exact ⟨rfl, HE5.out⟩
  · go_wp2_with fail
    refine (flip_any s _ (by omega)).mono ?_
    rintro e w6 ⟨t6, rfl, ht6, hx6⟩
    have HE6 : Bx (Ext w w6) := ⟨HE5.out.trans hx6⟩
    have HF6 : Bx (bl t6 = (bl s).reverse) := ⟨ht6⟩
    clear hx6 ht6 HE5
    go_wp2_with fail
    refine (rflip_any s _ (by omega)).mono ?_
    rintro e w7 ⟨t7, rfl, ht7, hx7⟩
    obtain rfl : t6 = t7 := bl_inj (by rw [HF6.out, ht7])
    have HE7 : Bx (Ext w w7) := ⟨HE6.out.trans hx7⟩
    have q3 : (t6.toList == t6.toList) = true := beq_self_eq_true _
    clear hx7 ht7 HE6
    go_wp2_with fail
    refine (flip_any s _ (by omega)).mono ?_
    rintro e w8 ⟨t8, rfl, ht8, hx8⟩
    have HE8 : Bx (Ext w w8) := ⟨HE7.out.trans hx8⟩
    have hz8 : t8.size ≤ 300 := by rw [← bl_len, ht8, List.length_reverse, bl_len]; omega
    have HF8 : Bx (bl t8 = (bl s).reverse) := ⟨ht8⟩
    clear hx8 ht8 HE7
    go_wp2_with fail
    refine (flip_any t8 _ (by omega)).mono ?_
    rintro e w9 ⟨t9, rfl, ht9, hx9⟩
    obtain rfl : t9 = s := bl_inj (by rw [ht9, HF8.out, List.reverse_reverse])
    have HE9 : Bx (Ext w w9) := ⟨HE8.out.trans hx9⟩
    have q4 : (t9.toList == t9.toList) = true := beq_self_eq_true _
    clear hx9 ht9 HE8
    go_wp2_with fail
    refine (awake19_any _ (HT.out.ext HE9.out)).mono ?_
    rintro e w10 ⟨rfl, hx10⟩
    have HE10 : Bx (Ext w w10) := ⟨HE9.out.trans hx10⟩
    clear hx10
    go_wp2_with fail
    go_ret
    exact ⟨rfl, HE10.out⟩
end Go.Proofs.YtcpanmonllhmaaaDoor
