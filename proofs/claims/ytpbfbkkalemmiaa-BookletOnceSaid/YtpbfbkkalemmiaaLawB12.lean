/- awake, the sanity check of the laws on booklets. -/
import Derived.Test.YtpbfbkkalemmiaaLawA12
import Derived.Test.YtpbfbkkalemmiaaMakeV
namespace Go.Proofs.Ytpbfbkkalemmiaa
open Go.RowKit

/-- The paper of the example. -/
def ps0 : List Part := [⟨1, 20, 0, 0, 0, 0⟩, ⟨1, 8, 0, 0, 0, 0⟩, ⟨1, 10, 0, 0, 0, 0⟩]
theorem ps0_valid : vpaB 0 0 ps0 = true := by decide +kernel
theorem ps0_make : makeP ps0 = [[], [0], [1, 2], []] := by decide +kernel
theorem ps0_page : pageOf [[], [0], [1, 2], []] 2 = 2 := by decide +kernel
theorem ps0_wf : ∀ q ∈ ps0, q.wf := by
  intro q hq
  simp [ps0] at hq
  rcases hq with rfl | rfl | rfl <;> (unfold Part.wf I64; simp only; omega)

theorem flat6 (ps : List Part) : ((ps.map Part.cells).flatten).length = ps.length * 6 := by
  induction ps with
  | nil => rfl
  | cons a l ih => simp only [List.map_cons, List.flatten_cons, List.length_append, List.length_cons]; rw [ih]; simp [Part.cells]; omega
/-- A slice literal of parts. -/
theorem IsS.litQ {p : Nat} {w : World} (ps : List Part) (t : TypeId) (cells : Array Value) (hc : cells.toList = (ps.map Part.cells).flatten) (hp : p < w.heap.size) (hw : ∀ q ∈ ps, q.wf) (hl : ps.length ≤ 1000) :
    IsQ p (w.alloc (.cells cells t)) (.slice (some ⟨w.heap.size, 0, none⟩) ps.length ps.length) ps := by
  refine IsS.of_own (e := t) (ps.map Part.cells) ?_ (by decide) (by simp) (base := w.heap.size) ?_ hp ?_
  · intro cs hcs
    obtain ⟨q, _, rfl⟩ := List.mem_map.1 hcs
    rfl
  · rw [← hc]
    exact World.ownsRow_lit w cells ps.length (Nat.le_refl _) (by unfold maxLen; omega) (by rw [← Array.length_toList, hc, flat6])
  · intro k cs q hcs hq
    simp only [List.getElem?_map, Option.map_eq_some_iff] at hcs
    obtain ⟨q', hq', rfl⟩ := hcs
    rw [hq] at hq'
    obtain rfl := Option.some.inj hq'
    exact ⟨rfl, hw _ (List.mem_of_getElem? hq)⟩

set_option maxHeartbeats 4000000 in
theorem awake_any (w : World) (hw : 0 < w.heap.size) : Calls Try.prog 14 #[] w fun e w' => e = .returned (.bool true) ∧ Ext w w' := by
  have HQ0 : Hid (IsQ 0 (w.alloc (.cells #[.int .i64 1, .int .i64 20, .int .i64 0, .int .i64 0, .int .i64 0, .int .i64 0, .int .i64 1, .int .i64 8, .int .i64 0, .int .i64 0, .int .i64 0, .int .i64 0, .int .i64 1, .int .i64 10, .int .i64 0, .int .i64 0, .int .i64 0, .int .i64 0] 23)) (.slice (some ⟨w.heap.size, 0, none⟩) 3 3) ps0) :=
    IsS.litQ ps0 _ _ rfl hw ps0_wf (by decide)
  go_enter Try.func14, Try.ntmps14
  go_wp2_with fail
  refine (make_any 0 0 _ ps0 _ (p := 0) (by simp) (HQ0.out.ext (RPart.stab 0) ((Ext.refl _).alloc _))).mono ?_
  rintro e w1 ⟨v1, pgs, er, rfl, hP, hx1, _, hgood⟩
  obtain ⟨_, hg⟩ := hgood ps0_valid
  obtain ⟨rfl, rfl⟩ := hg (by rw [ps0_make]; decide)
  have HOK := Lib.hid (make_ok (code := 0) (var := 0) ps0_valid (by rw [ps0_make]; decide))
  rw [ps0_make] at hP HOK
  clear hgood hg
  obtain ⟨A, n, c, rfl, hnc, hc, hnn, HL⟩ := hP.open_
  obtain rfl : n = 4 := HL.out.symm
  have HEX := Lib.hid (Ext.trans (((Ext.refl w).alloc _).alloc _) hx1)
  have hwc : w1.cell? ⟨w.heap.size + 1, 0, none⟩ = some (.int .i64 0) ∧ w1.cell? ⟨w.heap.size + 1, 1, none⟩ = some (.int .i64 0) ∧ w1.cell? ⟨w.heap.size + 1, 2, none⟩ = some (.slice (some ⟨w.heap.size, 0, none⟩) 3 3) := ⟨hx1.cell (by simp), hx1.cell (by simp), hx1.cell (by simp)⟩
  obtain ⟨a0, a1, a2⟩ := hwc
  have HQ1 := Lib.hid ((HQ0.out.ext (RPart.stab 0) ((Ext.refl _).alloc _)).ext (RPart.stab 0) hx1)
  obtain ⟨bb, ob, cs0, l0, rfl, _⟩ := hP.at_ (show 0 < 4 by omega)
  obtain ⟨u1, x1, hc1, hI1, H1⟩ := hP.page (show 1 < 4 by omega)
  obtain ⟨u2, x2, hc2, hI2, H2⟩ := hP.page (show 2 < 4 by omega)
  obtain rfl : x1 = [0] := (Option.some.inj H1.out).symm
  obtain rfl : x2 = [1, 2] := (Option.some.inj H2.out).symm
  have HI1 := Lib.hid hI1
  have HI2 := Lib.hid hI2
  have HP := Lib.hid hP
  have hs1 : 0 < w1.heap.size := by have := hx1.size; simp at this; omega
  have hbb : bb < w1.heap.size := lt_of_cell hc1
  have hs2 : w.heap.size + 1 < w1.heap.size := lt_of_cell a0
  have D : Hid (∀ x ∈ ([0] : List Int), I64 x) := by show ∀ x ∈ ([0] : List Int), I64 x; decide
  have D2 : Hid (∀ x ∈ ([1, 2] : List Int), I64 x) := by show ∀ x ∈ ([1, 2] : List Int), I64 x; decide
  clear hI1 hI2 hP hx1 H1 H2
  go_wp2_with fail
  refine (ints_ext _ _ [0] [0] _ (HI1.out.ext (((Ext.refl _).alloc _).alloc _)) (IsI.litg (p := 0) _ _ _ (by simp) (by omega) D.out (by decide))).mono ?_
  rintro e w2 ⟨rfl, hx2⟩
  rw [decide_eq_true (rfl : ([0] : List Int) = [0])]
  have E2 := Lib.hid (Ext.trans (((Ext.refl w1).alloc _).alloc _) hx2)
  have k0 : w2.cell? ⟨w1.heap.size, 0, none⟩ = some (.slice (some ⟨bb, ob, none⟩) 4 c) := hx2.cell (by simp)
  have d2 := E2.out.cell hc2
  have hbb2 : bb < w2.heap.size := lt_of_cell d2
  have K0 := Lib.hid k0
  have hk2 : w1.heap.size < w2.heap.size := lt_of_cell k0
  clear hx2 hc1 hc2
  go_wp2_with fail
  refine (ints_ext _ _ [1, 2] [1, 2] _ (p := 0) ?h1 (IsI.litg (p := 0) _ _ _ rfl (by omega) D2.out (by decide))).mono ?_
  case h1 => exact (HI2.out.ext E2.out).ext ((Ext.refl _).alloc _)
  rintro e w3 ⟨rfl, hx3⟩
  rw [decide_eq_true (rfl : ([1, 2] : List Int) = [1, 2])]
  have E3 := Lib.hid (Ext.trans (E2.out.alloc _) hx3)
  have k3 := hx3.cell (((Ext.refl _).alloc _).cell K0.out)
  have b0 := E3.out.cell a0
  have b1 := E3.out.cell a1
  have b2 := E3.out.cell a2
  have K3 := Lib.hid k3
  clear hx3 k0 d2 a0 a1 a2
  go_wp2_with fail
  refine (bkvalid_any 0 0 _ _ ps0 [[], [0], [1, 2], []] _ (p := 0) (HQ1.out.ext (RPart.stab 0) E3.out) (HP.out.ext (RI.stab 0) E3.out)).mono ?_
  rintro e w4 ⟨rfl, hx4⟩
  rw [bk_true HOK.out]
  have HE4 := Lib.hid ((HEX.out.trans E3.out).trans hx4)
  have HP4 := Lib.hid ((HP.out.ext (RI.stab 0) E3.out).ext (RI.stab 0) hx4)
  have k4 := hx4.cell K3.out
  clear hx4 k3 b0 b1 b2
  go_wp2_with fail
  refine (pageOf_any _ [[], [0], [1, 2], []] 2 _ HP4.out).mono ?_
  rintro e w5 ⟨rfl, hx5⟩
  rw [ps0_page]
  go_wp2_with fail
  go_ret
  exact ⟨rfl, HE4.out.trans hx5⟩
end Go.Proofs.Ytpbfbkkalemmiaa
