/- The walk of the law StripWords. -/
import Derived.Test.YtcpanmonllhmaaaDoorLawStA
namespace Go.Proofs.YtcpanmonllhmaaaDoor
open Go.RowKit

set_option maxRecDepth 100000 in
set_option maxHeartbeats 4000000 in
theorem walkStripWords (v0 : Value) (l0 : List Int) (s : ByteArray) (w : World) (h0 : IsI w.heap.size w v0 l0) (hs : s.size ≤ 140737488351232) (hT : Tabs w) :
    Calls Tryd.prog 6 #[v0, .string s] w fun e w' => e = .returned (.bool true) ∧ Ext w w' := by
  obtain ⟨A0, n0, c0, rfl, -⟩ := h0.open_
  have H0 : Bx (IsI w.heap.size w (.slice A0 n0 c0) l0) := ⟨h0⟩
  have HT : Bx (Tabs w) := ⟨hT⟩
  clear h0 hT
  go_enter Tryd.func6, Tryd.ntmps6
  go_wp2_with fail
  refine (new_any _ l0 _ H0.out).mono ?_
  rintro e w1 ⟨rfl, HT1, HE1⟩
  have HB1 : Bx (Tape w1 w.heap.size ∧ Ext w w1) := ⟨⟨HT1, HE1⟩⟩
  clear HT1 HE1
  go_wp2_with fail
  refine (damaged_any _ 12 _ HB1.out.1 (by omega) (by omega)).mono ?_
  rintro e w2 ⟨v2, rfl, ⟨s2, rfl, z2⟩, HT2, HX2⟩
  have HB2 : Bx (Tape w2 w.heap.size ∧ Ext w w2) := ⟨⟨HT2, HX2.fresh HB1.out.2 (Nat.le_refl _)⟩⟩
  clear HT2 HX2 HB1
  go_wp2_with fail
  refine (noise_any _ _ HB2.out.1).mono ?_
  rintro e w3 ⟨v3, rfl, ⟨s3, rfl, z3⟩, HT3, HX3⟩
  have HE : Bx (Ext w w3) := ⟨HX3.fresh HB2.out.2 (Nat.le_refl _)⟩
  clear HT3 HX3 HB2
  have HL0 : Bx ((w3.alloc (.cells #[.string s2, .string s3, .string s] 9)).heap[w3.heap.size]? = some (.cells #[.string s2, .string s3, .string s] 9 (0, 0))) := ⟨heap_alloc_new w3 _⟩
  go_wp2_with fail
  go_loopw [7, 8, 9, 10, 11] (fun i _ _ _ _ wr => ∃ k : Nat, i = .int .i64 k ∧ k ≤ 3 ∧ Bx (Ext w wr ∧ wr.heap[w3.heap.size]? = some (.cells #[.string s2, .string s3, .string s] 9 (0, 0)))) (fun i _ _ _ _ _ => 3 - (intOf i).toNat)
  case atStart => exact ⟨0, rfl, by omega, ⟨⟨HE.out.alloc _, HL0.out⟩⟩⟩
  case round =>
    obtain ⟨k, rfl, hk, HB⟩ := hrel
    clear HL0 HE
    by_cases hlt : k < 3
    · obtain ⟨t, hc, hz⟩ : ∃ t : ByteArray, wr.cell? ⟨w3.heap.size, k, none⟩ = some (.string t) ∧ t.size ≤ 140737488351232 := strs_at (l := [s2, s3, s]) HB.out.2 hlt (by intro x hx; simp only [List.mem_cons, List.not_mem_nil, or_false] at hx; rcases hx with rfl | rfl | rfl <;> omega)
      have hki : (k : Int) < 3 := by omega
      go_wp2_with fail
      refine (word_str t _).mono ?_
      rintro e x1 ⟨A1, n1, c1, k1, rfl, hk1, hi1, hx1⟩
      have HB1 : Bx (Ext w x1 ∧ x1.heap[w3.heap.size]? = some (.cells #[.string s2, .string s3, .string s] 9 (0, 0))) := ⟨⟨HB.out.1.trans hx1, hx1.blk HB.out.2⟩⟩
      have H1 : Bx (k1 = wrdE (bl t) ∧ IsI x1.heap.size x1 (.slice A1 n1 c1) (wrdS (bl t))) := ⟨⟨hk1, hi1⟩⟩
      replace hc := hx1.cell hc
      clear hk1 hi1 hx1 HB
      go_wp2_with fail
      refine (rword_any t _).mono ?_
      rintro e x2 ⟨A2, n2, c2, k2, rfl, hk2, hi2, hx2⟩
      obtain rfl : k1 = k2 := by rw [H1.out.1, hk2]
      have HB2 : Bx (Ext w x2 ∧ x2.heap[w3.heap.size]? = some (.cells #[.string s2, .string s3, .string s] 9 (0, 0))) := ⟨⟨HB1.out.1.trans hx2, hx2.blk HB1.out.2⟩⟩
      have H2 : Bx (IsI x1.heap.size x2 (.slice A1 n1 c1) (wrdS (bl t)) ∧ IsI x2.heap.size x2 (.slice A2 n2 c2) (wrdS (bl t))) := ⟨⟨H1.out.2.ext hx2, hi2⟩⟩
      clear hk2 hi2 hx2 HB1 H1 hc
      go_wp2_with fail
      refine (ints_self _ _ _ _ H2.out.1 H2.out.2).mono ?_
      rintro e x3 ⟨rfl, hx3⟩
      have HB3 : Bx (Ext w x3 ∧ x3.heap[w3.heap.size]? = some (.cells #[.string s2, .string s3, .string s] 9 (0, 0))) := ⟨⟨HB2.out.1.trans hx3, hx3.blk HB2.out.2⟩⟩
      clear hx3 HB2 H2
      have q2 : (k1 != k1) = false := by simp
      go_wp2_with fail
      go_roundw
      case rel => exact ⟨k + 1, by go_num, by omega, HB3⟩
      case measure => simp [intOf]; omega
    · obtain rfl : k = 3 := by omega
      go_wp2_with fail
      refine (awake19_any _ (HT.out.ext HB.out.1)).mono ?_
      rintro e w9 ⟨rfl, hx9⟩
      have HX9 : Bx (Ext w w9) := ⟨HB.out.1.trans hx9⟩
      clear hx9
      go_wp2_with fail
      go_ret
      exact ⟨rfl, HX9.out⟩
end Go.Proofs.YtcpanmonllhmaaaDoor
