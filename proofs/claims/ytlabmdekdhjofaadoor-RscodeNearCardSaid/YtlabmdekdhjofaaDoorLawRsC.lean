/- The walk of the law RscodeField. -/
import Derived.Test.YtlabmdekdhjofaaDoorAwake18
namespace Go.Proofs.YtlabmdekdhjofaaDoor
open Go.RowKit

/-- An element out of a byte. -/
def u8F (a : Int) : F := F.mk (a.toNat % 32) (Nat.mod_lt _ (by decide))
theorem u8F_n {a : Int} (h0 : 0 ≤ a) : a.tmod 32 = ((u8F a).n : Int) := by
  rw [Int.tmod_eq_emod_of_nonneg h0]
  unfold u8F
  rw [F.n_mk]
  omega
theorem n_beq (a b : F) : (((a.n : Int)) == ((b.n : Int))) = (a == b) := by
  by_cases h : a = b
  · subst h; simp
  · have : a.n ≠ b.n := fun e => h (F.ext e)
    rw [beq_eq_false_iff_ne.2 h, beq_eq_false_iff_ne.2 (by omega)]
theorem n_self {a b : F} (h : a = b) : (((a.n : Int)) == ((b.n : Int))) = true := by rw [h]; exact beq_self_eq_true _
theorem mul_zero_iff (x y : F) : (x * y == 0) = (x == 0 || y == 0) := by
  by_cases hx : x = 0
  · subst hx; rw [F.zero_mul]; simp
  · by_cases hy : y = 0
    · subst hy; rw [F.mul_zero]; simp
    · have : x * y ≠ 0 := fun e => (F.mul_eq_zero _ _ e).elim hx hy
      rw [beq_eq_false_iff_ne.2 hx, beq_eq_false_iff_ne.2 hy, beq_eq_false_iff_ne.2 this]; rfl

theorem mul_F1 (a : F) (w : World) (hT : Tabs w) :
    Calls Tryd.prog 15 #[.int .i64 (a.n : Int), .int .i64 1] w fun e w' => e = .returned (.int .i64 ((a * 1).n : Int)) ∧ ∃ n, w' = w.drewN n := mul_F a 1 w hT
set_option maxRecDepth 100000 in
set_option maxHeartbeats 4000000 in
theorem walkRscodeField (a b c : Int) (w : World) (ha : 0 ≤ a ∧ a ≤ 255) (hb : 0 ≤ b ∧ b ≤ 255) (hc : 0 ≤ c ∧ c ≤ 255) (hT : Tabs w) :
    Calls Tryd.prog 5 #[.int .u8 a, .int .u8 b, .int .u8 c] w fun e w' => e = .returned (.bool true) ∧ Ext w w' := by
  obtain ⟨a1, a2⟩ := ha
  obtain ⟨b1, b2⟩ := hb
  obtain ⟨c1, c2⟩ := hc
  have HT := Lib.hid hT
  have HT0 := Lib.hid hT
  clear hT
  have ea := u8F_n a1
  have eb := u8F_n b1
  have ec := u8F_n c1
  generalize u8F a = x at *
  generalize u8F b = y at *
  generalize u8F c = z at *
  have lx := x.lt
  have ly := y.lt
  have lz := z.lt
  have HE : Hid (Ext w w) := Ext.refl w
  have s1 : (((x * y).n : Int) == ((y * x).n : Int)) = true := n_self (F.mul_comm _ _)
  have s2 : (((x * y * z).n : Int) == ((x * (y * z)).n : Int)) = true := n_self (F.mul_assoc _ _ _)
  have s3 : (((x * (y + z)).n : Int) == bits .xor .i64 ((x * y).n : Int) ((x * z).n : Int)) = true := by rw [xor_F]; exact n_self (F.mul_add _ _ _)
  have s4 : (((x * 1).n : Int) == (x.n : Int)) = true := n_self (F.mul_one _)
  have s5 : (((x * y).n : Int) == 0) = (((x.n : Int) == 0) || ((y.n : Int) == 0)) := by rw [n_eq_zero, n_eq_zero, n_eq_zero]; exact mul_zero_iff x y
  by_cases hx : x = 0 <;> by_cases hy : y = 0

  · have zx : ((x.n : Int) == 0) = true := by rw [n_eq_zero]; simp [hx]
    have zy : ((y.n : Int) == 0) = true := by rw [n_eq_zero]; simp [hy]
    have zy' : ((y.n : Int) != 0) = false := by rw [bne, zy]; rfl
    rw [zx, zy] at s5
    clear hx hy
    go_enter Tryd.func5, Tryd.ntmps5
    go_wp2_with fail
    refine (mul_F (x) (y) _ HT.out).mono ?_
    rintro e w1 ⟨rfl, n1, hw1⟩
    replace HE := Lib.hid (HE.out.trans (show Ext _ w1 from by rw [hw1]; exact (Ext.refl _).drewN _))
    replace HT := Lib.hid (HT0.out.ext HE.out)
    clear hw1
    go_wp2_with fail
    refine (mul_F (y) (x) _ HT.out).mono ?_
    rintro e w3 ⟨rfl, n3, hw3⟩
    replace HE := Lib.hid (HE.out.trans (show Ext _ w3 from by rw [hw3]; exact (Ext.refl _).drewN _))
    replace HT := Lib.hid (HT0.out.ext HE.out)
    clear hw3
    go_wp2_with fail
    refine (mul_F (x * y) (z) _ HT.out).mono ?_
    rintro e w4 ⟨rfl, n4, hw4⟩
    replace HE := Lib.hid (HE.out.trans (show Ext _ w4 from by rw [hw4]; exact (Ext.refl _).drewN _))
    replace HT := Lib.hid (HT0.out.ext HE.out)
    clear hw4
    go_wp2_with fail
    refine (mul_F (y) (z) _ HT.out).mono ?_
    rintro e w5 ⟨rfl, n5, hw5⟩
    replace HE := Lib.hid (HE.out.trans (show Ext _ w5 from by rw [hw5]; exact (Ext.refl _).drewN _))
    replace HT := Lib.hid (HT0.out.ext HE.out)
    clear hw5
    go_wp2_with fail
    refine (mul_F (x) (y * z) _ HT.out).mono ?_
    rintro e w6 ⟨rfl, n6, hw6⟩
    replace HE := Lib.hid (HE.out.trans (show Ext _ w6 from by rw [hw6]; exact (Ext.refl _).drewN _))
    replace HT := Lib.hid (HT0.out.ext HE.out)
    clear hw6
    go_wp2_with fail
    rw [xor_F]
    go_wp2_with fail
    refine (mul_F (x) (y + z) _ HT.out).mono ?_
    rintro e w7 ⟨rfl, n7, hw7⟩
    replace HE := Lib.hid (HE.out.trans (show Ext _ w7 from by rw [hw7]; exact (Ext.refl _).drewN _))
    replace HT := Lib.hid (HT0.out.ext HE.out)
    clear hw7
    go_wp2_with fail
    refine (mul_F (x) (z) _ HT.out).mono ?_
    rintro e w8 ⟨rfl, n8, hw8⟩
    replace HE := Lib.hid (HE.out.trans (show Ext _ w8 from by rw [hw8]; exact (Ext.refl _).drewN _))
    replace HT := Lib.hid (HT0.out.ext HE.out)
    clear hw8
    go_wp2_with fail
    go_wp2_with fail
    refine (mul_F1 x _ HT.out).mono ?_
    rintro e w9 ⟨rfl, n9, hw9⟩
    replace HE := Lib.hid (HE.out.trans (show Ext _ w9 from by rw [hw9]; exact (Ext.refl _).drewN _))
    replace HT := Lib.hid (HT0.out.ext HE.out)
    clear hw9
    go_wp2_with fail
    refine (awake18_any _ HT.out).mono ?_
    rintro e w10 ⟨rfl, hw10⟩
    go_wp2_with fail
    go_ret
    exact ⟨rfl, HE.out.trans hw10⟩
  · have zx : ((x.n : Int) == 0) = true := by rw [n_eq_zero]; simp [hx]
    have zy : ((y.n : Int) == 0) = false := by rw [n_eq_zero]; simp [hy]
    have zy' : ((y.n : Int) != 0) = true := by rw [bne, zy]; rfl
    rw [zx, zy] at s5
    have s6 : (((x * y * y.inv).n : Int) != (x.n : Int)) = false := by rw [F.mul_assoc, F.mul_inv y hy, F.mul_one]; simp
    clear hx hy
    go_enter Tryd.func5, Tryd.ntmps5
    go_wp2_with fail
    refine (mul_F (x) (y) _ HT.out).mono ?_
    rintro e w1 ⟨rfl, n1, hw1⟩
    replace HE := Lib.hid (HE.out.trans (show Ext _ w1 from by rw [hw1]; exact (Ext.refl _).drewN _))
    replace HT := Lib.hid (HT0.out.ext HE.out)
    clear hw1
    go_wp2_with fail
    refine (inverse_F y _ HT.out).mono ?_
    rintro e y1 ⟨rfl, hy1⟩
    replace hy1 := hy1.symm
    subst hy1
    go_wp2_with fail
    refine (mul_F (x * y) (y.inv) _ HT.out).mono ?_
    rintro e w2 ⟨rfl, n2, hw2⟩
    replace HE := Lib.hid (HE.out.trans (show Ext _ w2 from by rw [hw2]; exact (Ext.refl _).drewN _))
    replace HT := Lib.hid (HT0.out.ext HE.out)
    clear hw2
    go_wp2_with fail
    refine (mul_F (y) (x) _ HT.out).mono ?_
    rintro e w3 ⟨rfl, n3, hw3⟩
    replace HE := Lib.hid (HE.out.trans (show Ext _ w3 from by rw [hw3]; exact (Ext.refl _).drewN _))
    replace HT := Lib.hid (HT0.out.ext HE.out)
    clear hw3
    go_wp2_with fail
    refine (mul_F (x * y) (z) _ HT.out).mono ?_
    rintro e w4 ⟨rfl, n4, hw4⟩
    replace HE := Lib.hid (HE.out.trans (show Ext _ w4 from by rw [hw4]; exact (Ext.refl _).drewN _))
    replace HT := Lib.hid (HT0.out.ext HE.out)
    clear hw4
    go_wp2_with fail
    refine (mul_F (y) (z) _ HT.out).mono ?_
    rintro e w5 ⟨rfl, n5, hw5⟩
    replace HE := Lib.hid (HE.out.trans (show Ext _ w5 from by rw [hw5]; exact (Ext.refl _).drewN _))
    replace HT := Lib.hid (HT0.out.ext HE.out)
    clear hw5
    go_wp2_with fail
    refine (mul_F (x) (y * z) _ HT.out).mono ?_
    rintro e w6 ⟨rfl, n6, hw6⟩
    replace HE := Lib.hid (HE.out.trans (show Ext _ w6 from by rw [hw6]; exact (Ext.refl _).drewN _))
    replace HT := Lib.hid (HT0.out.ext HE.out)
    clear hw6
    go_wp2_with fail
    rw [xor_F]
    go_wp2_with fail
    refine (mul_F (x) (y + z) _ HT.out).mono ?_
    rintro e w7 ⟨rfl, n7, hw7⟩
    replace HE := Lib.hid (HE.out.trans (show Ext _ w7 from by rw [hw7]; exact (Ext.refl _).drewN _))
    replace HT := Lib.hid (HT0.out.ext HE.out)
    clear hw7
    go_wp2_with fail
    refine (mul_F (x) (z) _ HT.out).mono ?_
    rintro e w8 ⟨rfl, n8, hw8⟩
    replace HE := Lib.hid (HE.out.trans (show Ext _ w8 from by rw [hw8]; exact (Ext.refl _).drewN _))
    replace HT := Lib.hid (HT0.out.ext HE.out)
    clear hw8
    go_wp2_with fail
    go_wp2_with fail
    refine (mul_F1 x _ HT.out).mono ?_
    rintro e w9 ⟨rfl, n9, hw9⟩
    replace HE := Lib.hid (HE.out.trans (show Ext _ w9 from by rw [hw9]; exact (Ext.refl _).drewN _))
    replace HT := Lib.hid (HT0.out.ext HE.out)
    clear hw9
    go_wp2_with fail
    refine (awake18_any _ HT.out).mono ?_
    rintro e w10 ⟨rfl, hw10⟩
    go_wp2_with fail
    go_ret
    exact ⟨rfl, HE.out.trans hw10⟩
  · have zx : ((x.n : Int) == 0) = false := by rw [n_eq_zero]; simp [hx]
    have zy : ((y.n : Int) == 0) = true := by rw [n_eq_zero]; simp [hy]
    have zy' : ((y.n : Int) != 0) = false := by rw [bne, zy]; rfl
    rw [zx, zy] at s5
    clear hx hy
    go_enter Tryd.func5, Tryd.ntmps5
    go_wp2_with fail
    refine (mul_F (x) (y) _ HT.out).mono ?_
    rintro e w1 ⟨rfl, n1, hw1⟩
    replace HE := Lib.hid (HE.out.trans (show Ext _ w1 from by rw [hw1]; exact (Ext.refl _).drewN _))
    replace HT := Lib.hid (HT0.out.ext HE.out)
    clear hw1
    go_wp2_with fail
    refine (mul_F (y) (x) _ HT.out).mono ?_
    rintro e w3 ⟨rfl, n3, hw3⟩
    replace HE := Lib.hid (HE.out.trans (show Ext _ w3 from by rw [hw3]; exact (Ext.refl _).drewN _))
    replace HT := Lib.hid (HT0.out.ext HE.out)
    clear hw3
    go_wp2_with fail
    refine (mul_F (x * y) (z) _ HT.out).mono ?_
    rintro e w4 ⟨rfl, n4, hw4⟩
    replace HE := Lib.hid (HE.out.trans (show Ext _ w4 from by rw [hw4]; exact (Ext.refl _).drewN _))
    replace HT := Lib.hid (HT0.out.ext HE.out)
    clear hw4
    go_wp2_with fail
    refine (mul_F (y) (z) _ HT.out).mono ?_
    rintro e w5 ⟨rfl, n5, hw5⟩
    replace HE := Lib.hid (HE.out.trans (show Ext _ w5 from by rw [hw5]; exact (Ext.refl _).drewN _))
    replace HT := Lib.hid (HT0.out.ext HE.out)
    clear hw5
    go_wp2_with fail
    refine (mul_F (x) (y * z) _ HT.out).mono ?_
    rintro e w6 ⟨rfl, n6, hw6⟩
    replace HE := Lib.hid (HE.out.trans (show Ext _ w6 from by rw [hw6]; exact (Ext.refl _).drewN _))
    replace HT := Lib.hid (HT0.out.ext HE.out)
    clear hw6
    go_wp2_with fail
    rw [xor_F]
    go_wp2_with fail
    refine (mul_F (x) (y + z) _ HT.out).mono ?_
    rintro e w7 ⟨rfl, n7, hw7⟩
    replace HE := Lib.hid (HE.out.trans (show Ext _ w7 from by rw [hw7]; exact (Ext.refl _).drewN _))
    replace HT := Lib.hid (HT0.out.ext HE.out)
    clear hw7
    go_wp2_with fail
    refine (mul_F (x) (z) _ HT.out).mono ?_
    rintro e w8 ⟨rfl, n8, hw8⟩
    replace HE := Lib.hid (HE.out.trans (show Ext _ w8 from by rw [hw8]; exact (Ext.refl _).drewN _))
    replace HT := Lib.hid (HT0.out.ext HE.out)
    clear hw8
    go_wp2_with fail
    go_wp2_with fail
    refine (mul_F1 x _ HT.out).mono ?_
    rintro e w9 ⟨rfl, n9, hw9⟩
    replace HE := Lib.hid (HE.out.trans (show Ext _ w9 from by rw [hw9]; exact (Ext.refl _).drewN _))
    replace HT := Lib.hid (HT0.out.ext HE.out)
    clear hw9
    go_wp2_with fail
    refine (awake18_any _ HT.out).mono ?_
    rintro e w10 ⟨rfl, hw10⟩
    go_wp2_with fail
    go_ret
    exact ⟨rfl, HE.out.trans hw10⟩
  · have zx : ((x.n : Int) == 0) = false := by rw [n_eq_zero]; simp [hx]
    have zy : ((y.n : Int) == 0) = false := by rw [n_eq_zero]; simp [hy]
    have zy' : ((y.n : Int) != 0) = true := by rw [bne, zy]; rfl
    rw [zx, zy] at s5
    have s6 : (((x * y * y.inv).n : Int) != (x.n : Int)) = false := by rw [F.mul_assoc, F.mul_inv y hy, F.mul_one]; simp
    clear hx hy
    go_enter Tryd.func5, Tryd.ntmps5
    go_wp2_with fail
    refine (mul_F (x) (y) _ HT.out).mono ?_
    rintro e w1 ⟨rfl, n1, hw1⟩
    replace HE := Lib.hid (HE.out.trans (show Ext _ w1 from by rw [hw1]; exact (Ext.refl _).drewN _))
    replace HT := Lib.hid (HT0.out.ext HE.out)
    clear hw1
    go_wp2_with fail
    refine (inverse_F y _ HT.out).mono ?_
    rintro e y1 ⟨rfl, hy1⟩
    replace hy1 := hy1.symm
    subst hy1
    go_wp2_with fail
    refine (mul_F (x * y) (y.inv) _ HT.out).mono ?_
    rintro e w2 ⟨rfl, n2, hw2⟩
    replace HE := Lib.hid (HE.out.trans (show Ext _ w2 from by rw [hw2]; exact (Ext.refl _).drewN _))
    replace HT := Lib.hid (HT0.out.ext HE.out)
    clear hw2
    go_wp2_with fail
    refine (mul_F (y) (x) _ HT.out).mono ?_
    rintro e w3 ⟨rfl, n3, hw3⟩
    replace HE := Lib.hid (HE.out.trans (show Ext _ w3 from by rw [hw3]; exact (Ext.refl _).drewN _))
    replace HT := Lib.hid (HT0.out.ext HE.out)
    clear hw3
    go_wp2_with fail
    refine (mul_F (x * y) (z) _ HT.out).mono ?_
    rintro e w4 ⟨rfl, n4, hw4⟩
    replace HE := Lib.hid (HE.out.trans (show Ext _ w4 from by rw [hw4]; exact (Ext.refl _).drewN _))
    replace HT := Lib.hid (HT0.out.ext HE.out)
    clear hw4
    go_wp2_with fail
    refine (mul_F (y) (z) _ HT.out).mono ?_
    rintro e w5 ⟨rfl, n5, hw5⟩
    replace HE := Lib.hid (HE.out.trans (show Ext _ w5 from by rw [hw5]; exact (Ext.refl _).drewN _))
    replace HT := Lib.hid (HT0.out.ext HE.out)
    clear hw5
    go_wp2_with fail
    refine (mul_F (x) (y * z) _ HT.out).mono ?_
    rintro e w6 ⟨rfl, n6, hw6⟩
    replace HE := Lib.hid (HE.out.trans (show Ext _ w6 from by rw [hw6]; exact (Ext.refl _).drewN _))
    replace HT := Lib.hid (HT0.out.ext HE.out)
    clear hw6
    go_wp2_with fail
    rw [xor_F]
    go_wp2_with fail
    refine (mul_F (x) (y + z) _ HT.out).mono ?_
    rintro e w7 ⟨rfl, n7, hw7⟩
    replace HE := Lib.hid (HE.out.trans (show Ext _ w7 from by rw [hw7]; exact (Ext.refl _).drewN _))
    replace HT := Lib.hid (HT0.out.ext HE.out)
    clear hw7
    go_wp2_with fail
    refine (mul_F (x) (z) _ HT.out).mono ?_
    rintro e w8 ⟨rfl, n8, hw8⟩
    replace HE := Lib.hid (HE.out.trans (show Ext _ w8 from by rw [hw8]; exact (Ext.refl _).drewN _))
    replace HT := Lib.hid (HT0.out.ext HE.out)
    clear hw8
    go_wp2_with fail
    go_wp2_with fail
    refine (mul_F1 x _ HT.out).mono ?_
    rintro e w9 ⟨rfl, n9, hw9⟩
    replace HE := Lib.hid (HE.out.trans (show Ext _ w9 from by rw [hw9]; exact (Ext.refl _).drewN _))
    replace HT := Lib.hid (HT0.out.ext HE.out)
    clear hw9
    go_wp2_with fail
    refine (awake18_any _ HT.out).mono ?_
    rintro e w10 ⟨rfl, hw10⟩
    go_wp2_with fail
    go_ret
    exact ⟨rfl, HE.out.trans hw10⟩
end Go.Proofs.YtlabmdekdhjofaaDoor
