/- The walk of the law StripTurns. -/
import Derived.Test.YtcpanmonllhmaaaDoorLawStA
set_option linter.unusedSimpArgs false
set_option linter.unusedVariables false
namespace Go.Proofs.YtcpanmonllhmaaaDoor
open Go.RowKit

set_option maxRecDepth 100000 in
set_option maxHeartbeats 4000000 in
theorem walkStripTurns (v0 : Value) (l0 : List Int) (s : ByteArray) (w : World) (h0 : IsI w.heap.size w v0 l0) (hs : s.size ≤ 140737488351232) (hT : Tabs w) :
    Calls Tryd.prog 10 #[v0, .string s] w fun e w' => e = .returned (.bool true) ∧ Ext w w' := by
  obtain ⟨A0, n0, c0, rfl, -⟩ := h0.open_
  have H0 : Bx (IsI w.heap.size w (.slice A0 n0 c0) l0) := ⟨h0⟩
  have HT : Bx (Tabs w) := ⟨hT⟩
  clear h0 hT
  go_enter Tryd.func10, Tryd.ntmps10
  go_wp2_with fail
  refine (new_any _ l0 _ H0.out).mono ?_
  rintro e w1 ⟨rfl, HT1, HE1⟩
  have HB1 : Bx (Tape w1 w.heap.size ∧ Ext w w1) := ⟨⟨HT1, HE1⟩⟩
  clear HT1 HE1
  go_wp2_with fail
  refine (damaged_any _ 20 _ HB1.out.1 (by omega) (by omega)).mono ?_
  rintro e w2 ⟨v2, rfl, ⟨s2, rfl, z2⟩, HT2, HX2⟩
  have HB2 : Bx (Tape w2 w.heap.size ∧ Ext w w2) := ⟨⟨HT2, HX2.fresh HB1.out.2 (Nat.le_refl _)⟩⟩
  clear HT2 HX2 HB1
  go_wp2_with fail
  refine (noise_any _ _ HB2.out.1).mono ?_
  rintro e w3 ⟨v3, rfl, ⟨s3, rfl, z3⟩, HT3, HX3⟩
  have HE : Bx (Ext w w3) := ⟨HX3.fresh HB2.out.2 (Nat.le_refl _)⟩
  clear HT3 HX3 HB2
  have HL0 : Bx ((w3.alloc (.cells #[.string s2, .string s3, .string s] 9)).heap[w3.heap.size]? = some (.cells #[.string s2, .string s3, .string s] 9 (0, 0))) := ⟨heap_alloc_new w3 _⟩
  go_wp2_with fail
  go_loopw [7, 8, 9, 10, 11, 12, 13] (fun i _ _ _ _ _ _ wr => ∃ k : Nat, i = .int .i64 k ∧ k ≤ 3 ∧ Bx (Ext w wr ∧ wr.heap[w3.heap.size]? = some (.cells #[.string s2, .string s3, .string s] 9 (0, 0)))) (fun i _ _ _ _ _ _ _ => 3 - (intOf i).toNat)
  case atStart => exact ⟨0, rfl, by omega, ⟨⟨HE.out.alloc _, HL0.out⟩⟩⟩
  case round =>
    obtain ⟨k, rfl, hk, HB⟩ := hrel
    clear HL0 HE
    by_cases hlt : k < 3
    · obtain ⟨t, hc, hz⟩ : ∃ t : ByteArray, wr.cell? ⟨w3.heap.size, k, none⟩ = some (.string t) ∧ t.size ≤ 140737488351232 := strs_at (l := [s2, s3, s]) HB.out.2 hlt (by intro x hx; simp only [List.mem_cons, List.not_mem_nil, or_false] at hx; rcases hx with rfl | rfl | rfl <;> omega)
      have hki : (k : Int) < 3 := by omega
      go_wp2_with fail
      refine (read_any t _ (HT.out.ext HB.out.1)).mono ?_
      rintro e x1 ⟨p, c, g, v, n, kk, rfl, hr1, _, _, _, _, _, _, hx1⟩
      have HB1 : Bx (Ext w x1 ∧ x1.heap[w3.heap.size]? = some (.cells #[.string s2, .string s3, .string s] 9 (0, 0))) := ⟨⟨HB.out.1.trans hx1, hx1.blk HB.out.2⟩⟩
      have H1 : Bx (ReadF (bl t) p c g v n kk) := ⟨hr1⟩
      replace hc := hx1.cell hc
      clear hr1 hx1 HB
      obtain ⟨x2, hw2⟩ : ∃ x2, x2 = x1.alloc (.cells #[.int .i64 p, .int .i64 c, .int .i64 g, .int .i64 v] 26) := ⟨_, rfl⟩
      have hx2 : Ext x1 x2 := by rw [hw2]; exact (Ext.refl _).alloc _
      have hl2 : LabBlk x2 x1.heap.size p c g v := by rw [hw2]; exact LabBlk.new x1 p c g v
      have HB2 : Bx (Ext w x2 ∧ x2.heap[w3.heap.size]? = some (.cells #[.string s2, .string s3, .string s] 9 (0, 0))) := ⟨⟨HB1.out.1.trans hx2, hx2.blk HB1.out.2⟩⟩
      have HL2 : Bx (LabBlk x2 x1.heap.size p c g v) := ⟨hl2⟩
      replace hc := hx2.cell hc
      have hsz2 : x1.heap.size < x2.heap.size := by rw [hw2]; simp
      rw [hw2] at hc
      clear hx2 hl2 HB1
      go_wp2_with fail
      rw [← hw2]
      clear hw2
      refine (flip_any t _ hz).mono ?_
      rintro e x2b ⟨tf, rfl, htf, hx2b⟩
      have HF : Bx (bl tf = (bl t).reverse) := ⟨htf⟩
      replace HB2 : Bx (Ext w x2b ∧ x2b.heap[w3.heap.size]? = some (.cells #[.string s2, .string s3, .string s] 9 (0, 0))) := ⟨⟨HB2.out.1.trans hx2b, hx2b.blk HB2.out.2⟩⟩
      replace HL2 : Bx (LabBlk x2b x1.heap.size p c g v) := ⟨HL2.out.ext hx2b⟩
      clear htf hx2b
      go_wp2_with fail
      refine (read_any tf _ (HT.out.ext HB2.out.1)).mono ?_
      rintro e x3 ⟨p', c', g', v', n', kk', rfl, hr3, _, _, _, _, _, _, hx3⟩
      rw [HF.out] at hr3
      obtain ⟨rfl, rfl, rfl, rfl, rfl, rfl⟩ := read_same (read_turn H1.out) hr3
      have HB3 : Bx (Ext w x3 ∧ x3.heap[w3.heap.size]? = some (.cells #[.string s2, .string s3, .string s] 9 (0, 0))) := ⟨⟨HB2.out.1.trans hx3, hx3.blk HB2.out.2⟩⟩
      have HL3 : Bx (LabBlk x3 x1.heap.size p c g v) := ⟨HL2.out.ext hx3⟩
      clear hr3 hx3 HB2 HL2 hc H1
      obtain ⟨x4, hw4⟩ : ∃ x4, x4 = x3.alloc (.cells #[.int .i64 p, .int .i64 c, .int .i64 g, .int .i64 v] 26) := ⟨_, rfl⟩
      have hx4 : Ext x3 x4 := by rw [hw4]; exact (Ext.refl _).alloc _
      have hl4 : LabBlk x4 x3.heap.size p c g v := by rw [hw4]; exact LabBlk.new x3 p c g v
      have HB4 : Bx (Ext w x4 ∧ x4.heap[w3.heap.size]? = some (.cells #[.string s2, .string s3, .string s] 9 (0, 0))) := ⟨⟨HB3.out.1.trans hx4, hx4.blk HB3.out.2⟩⟩
      obtain ⟨a0, a1, a2, a3⟩ := (HL3.out.ext hx4).cells
      obtain ⟨b0, b1, b2, b3⟩ := hl4.cells
      rw [hw4] at a0 a1 a2 a3 b0 b1 b2 b3 HB4
      clear hx4 hl4 HB3 HL3 hw4
      have q0 : (p == p) = true := beq_self_eq_true _
      have q1 : (c == c) = true := beq_self_eq_true _
      have q2 : (g == g) = true := beq_self_eq_true _
      have q3 : (v == v) = true := beq_self_eq_true _
      have q4 : (n != n) = false := by simp
      have q5 : (kk != kk) = false := by simp
      go_wp2_with fail
      go_roundw
      case rel => exact ⟨k + 1, by go_num, by omega, HB4⟩
      case measure => simp [intOf]; omega
    · obtain rfl : k = 3 := by omega
      go_wp2_with fail
      refine (awake19_any _ (HT.out.ext HB.out.1)).mono ?_
      rintro e w9 ⟨rfl, hx9⟩
      have HX9 : Bx (Ext w w9) := ⟨HB.out.1.trans hx9⟩
      clear hx9
      go_wp2_with fail
      go_ret
      exact ⟨rfl, HX9.out⟩
end Go.Proofs.YtcpanmonllhmaaaDoor
