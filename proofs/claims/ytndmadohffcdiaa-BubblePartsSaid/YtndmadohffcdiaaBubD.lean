/- The law's own helpers: values, awake; the tape's Order. -/
import Derived.Test.YtndmadohffcdiaaBubC
import Derived.Test.YtndmadohffcdiaaTapeB
namespace Go.Proofs.Ytndmadohffcdiaa
open Go.RowKit

/-- Two to five values from 0 to 9, in a row of the call's own. -/
def ValsV (w : World) (base : Nat) (v : Value) : Prop :=
  ∃ l : List Int, w.ownsRow base 3 1 v l.length (l.map (Value.int .i64)) ∧ 2 ≤ l.length ∧ l.length ≤ 5 ∧ l.all valB = true

theorem IsI.own2 {p base e n : Nat} {w : World} {v : Value} {l : List Int} (h : w.ownsRow base e 1 v n (l.map (Value.int .i64))) (hp : p < base) (hv : l.all valB = true) (hl : l.length ≤ 1000) : IsI p w v l :=
  IsI.of_own h hp (fun x hx => by have := List.all_eq_true.1 hv x hx; simp [valB] at this; exact ⟨by omega, by omega⟩) (by omega)

set_option maxHeartbeats 1000000 in
theorem values_any (p : Nat) (w : World) (h : Tape w p) :
    Calls Try.prog 23 #[.pointer (some ⟨p, 0, none⟩)] w (TRet p w fun v w' => ValsV w' w.heap.size v) := by
  have hlt := h.lt
  have H := Lib.hid h
  clear h
  obtain ⟨i0, hi0, hz0, hz1, hz2⟩ := info_parts Try.infoI
  go_enter Try.func23, Try.ntmps23
  go_wp2_with fail
  refine (next_any p _ _ H.out (by omega)).mono ?_
  rintro e w1 ⟨v1, rfl, ⟨a, rfl, ha1, ha2⟩, HT1, HX1⟩
  go_wp2_with fail
  refine (next_any p _ _ HT1 (by omega)).mono ?_
  rintro e w2 ⟨v2, rfl, ⟨b, rfl, hb1, hb2⟩, HT2, HX2⟩
  go_wp2_with fail
  have HT3 := HT2.ext ((Ext.refl _).alloc (.cells #[.int .i64 a, .int .i64 b] 3))
  have HX := Lib.hid (HX1.trans HX2)
  have hsz := HX.out.size
  clear HT1 HX1 HX2
  refine (ints_any p _ _ _ _ HT3 (by omega) (by omega) (by omega) (by omega) (by omega) (by omega)).mono ?_
  rintro e w4 ⟨v4, rfl, ⟨l, hown, hl1, hl2⟩, HT4, HX4⟩
  have hown0 : w4.ownsRow w.heap.size 3 1 (.slice (some ⟨w2.heap.size, 0, none⟩) 2 2) 2 [.int .i64 a, .int .i64 b] :=
    own_xt (World.ownsRow_lit w2 #[.int .i64 a, .int .i64 b] 2 hsz (by unfold maxLen; omega) rfl) HX4 hlt
  have HO := Lib.hid hown0
  have HI := Lib.hid (IsI.of_own hown (show p < _ by simp; omega) (fun x hx => by have := hl2 x hx; exact ⟨by omega, by omega⟩) (by omega))
  have HL2 := Lib.hid hl2
  clear hown0 hown hl2
  obtain ⟨A, n, c, rfl, hnc, hc, hnn, HL⟩ := HI.out.open_
  have hn3 : n ≤ 3 := by have := HL.out; omega
  go_wp2_with (at_builtin; refine wpList_cat _ rfl (.tmp 9) (.tmp 11) 28 rfl w.heap.size 3 i0 _ 8 Try.underlying28 hi0 hz0 hz1 hz2 rfl _ _ _ rfl HO.out p A n c l rfl HI.out (by omega) (by omega) (by have := HX4.size; simp at this; omega) ?_; intro v' w5 hown' hg)
  go_ret
  refine ⟨_, rfl, ⟨a :: b :: l, ?_, ?_, ?_, ?_⟩, ?_, ?_⟩
  · have e : 2 + n = (a :: b :: l).length := by have := HL.out; simp; omega
    rw [← e]; simpa using hown'
  · simp
  · have := HL.out; simp; omega
  · rw [List.all_eq_true]
    intro x hx
    simp only [List.mem_cons] at hx
    rcases hx with rfl | rfl | hx
    · simp [valB]; omega
    · simp [valB]; omega
    · have := HL2.out x hx; simp [valB]; omega
  · exact HT4.grown hg (fun k hk => by have := own_ge HO.out k hk; omega)
  · exact XT.grown ((HX.out.alloc _).trans HX4) hg (own_ge HO.out)

set_option maxHeartbeats 1000000 in
theorem awake_any (w : World) : Calls Try.prog 14 #[] w fun e w' => e = .returned (.bool true) ∧ Ext w w' := by
  have j1 : judgeV 6 3 2 [0, 4, 1] = 1 ∧ judgeE 6 3 2 [0, 4, 1] = 0 := by decide +kernel
  have j2 : judgeV 6 3 2 [0, 4, 3] = -1 ∧ judgeE 6 3 2 [0, 4, 3] = 0 := by decide +kernel
  have j3 : judgeV 6 3 2 [7, 8, 0] = -2 ∧ judgeE 6 3 2 [7, 8, 0] = 0 := by decide +kernel
  have j4 : judgeV 6 3 2 [7, 9, 0] = 1 ∧ judgeE 6 3 2 [7, 9, 0] = 0 := by decide +kernel
  have J1 := Lib.hid j1
  have J2 := Lib.hid j2
  have J3 := Lib.hid j3
  have J4 := Lib.hid j4
  clear j1 j2 j3 j4
  have d : ∀ l ∈ ([[0, 4, 1], [0, 4, 3], [7, 8, 0], [7, 9, 0]] : List (List Int)), ∀ x ∈ l, I64 x := by decide +kernel
  have D := Lib.hid d
  clear d
  go_enter Try.func14, Try.ntmps14
  go_wp2_with fail
  refine (judge_any 6 3 2 _ [0, 4, 1] _ (p := w.heap.size) (IsI.litg _ _ _ (by simp) (by simp) (D.out _ (by simp)) (by decide))).mono ?_
  rintro e w1 ⟨rfl, hx1⟩
  rw [J1.out.1, J1.out.2]
  have HE1 := Lib.hid (Ext.trans (((Ext.refl w).alloc _).alloc _) hx1)
  have c0 := hx1.cell (a := ⟨w.heap.size, 0, none⟩) (v := .int .i64 6) (by simp)
  have c1 := hx1.cell (a := ⟨w.heap.size, 1, none⟩) (v := .int .i64 3) (by simp)
  have c2 := hx1.cell (a := ⟨w.heap.size, 2, none⟩) (v := .int .i64 2) (by simp)
  have hs1 : w.heap.size < w1.heap.size := by have := hx1.size; simp at this; omega
  clear hx1
  go_wp2_with fail
  refine (judge_any 6 3 2 _ [0, 4, 3] _ (p := w.heap.size) (IsI.litg _ _ _ rfl hs1 (D.out _ (by simp)) (by decide))).mono ?_
  rintro e w2 ⟨rfl, hx2⟩
  rw [J2.out.1, J2.out.2]
  have HE2 := Lib.hid (Ext.trans (HE1.out.alloc _) hx2)
  have d0 := hx2.cell (((Ext.refl _).alloc _).cell c0)
  have d1 := hx2.cell (((Ext.refl _).alloc _).cell c1)
  have d2 := hx2.cell (((Ext.refl _).alloc _).cell c2)
  have hs2 : w.heap.size < w2.heap.size := by have := hx2.size; simp at this; omega
  clear hx2 c0 c1 c2 HE1
  go_wp2_with fail
  refine (judge_any 6 3 2 _ [7, 8, 0] _ (p := w.heap.size) (IsI.litg _ _ _ rfl hs2 (D.out _ (by simp)) (by decide))).mono ?_
  rintro e w3 ⟨rfl, hx3⟩
  rw [J3.out.1, J3.out.2]
  have HE3 := Lib.hid (Ext.trans (HE2.out.alloc _) hx3)
  have c0 := hx3.cell (((Ext.refl _).alloc _).cell d0)
  have c1 := hx3.cell (((Ext.refl _).alloc _).cell d1)
  have c2 := hx3.cell (((Ext.refl _).alloc _).cell d2)
  have hs3 : w.heap.size < w3.heap.size := by have := hx3.size; simp at this; omega
  clear hx3 d0 d1 d2 HE2
  go_wp2_with fail
  refine (judge_any 6 3 2 _ [7, 9, 0] _ (p := w.heap.size) (IsI.litg _ _ _ rfl hs3 (D.out _ (by simp)) (by decide))).mono ?_
  rintro e w4 ⟨rfl, hx4⟩
  rw [J4.out.1, J4.out.2]
  have HE4 := Lib.hid (Ext.trans (HE3.out.alloc _) hx4)
  clear hx4 c0 c1 c2 HE3
  go_wp2_with fail
  go_ret
  exact ⟨rfl, HE4.out⟩
end Go.Proofs.Ytndmadohffcdiaa
