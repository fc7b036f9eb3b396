/- The walks of the laws RscodePowers, RscodeField. -/
import Derived.Test.YtlabmdekdhjofaaDoorAwake18
namespace Go.Proofs.YtlabmdekdhjofaaDoor
open Go.RowKit

theorem cut31 (n : Int) : cutZ n 31 = n % 31 := by unfold cutZ; rw [if_neg (by omega)]
theorem pw_cut (n : Int) : powZ (cutZ n 31) = powZ n := by unfold powZ; rw [cut31, Int.emod_emod_of_dvd _ (Int.dvd_refl 31)]
theorem pw_one : ∀ k : Fin 31, (((k.val : Nat) : Int) == 0) = (powZ ((k.val : Nat) : Int) == 1) := by decide +kernel
theorem pw_mul : ∀ k j : Fin 31, mulZ (powZ ((k.val : Nat) : Int)) (powZ ((j.val : Nat) : Int)) = powZ (((k.val : Nat) : Int) + ((j.val : Nat) : Int)) := by decide +kernel
theorem pw_inv : ∀ k : Fin 31, invZ (powZ ((k.val : Nat) : Int)) = powZ (-((k.val : Nat) : Int)) := by decide +kernel
theorem pw_bd (n : Int) : 0 ≤ powZ n ∧ powZ n < 32 := by
  have h : ∀ k : Fin 31, pwL.getD k.val 0 < 32 := F.pw_lt
  have h0 : 0 ≤ n % 31 := Int.emod_nonneg _ (by decide)
  have h1 : n % 31 < 31 := Int.emod_lt_of_pos _ (by decide)
  have := h ⟨(n % 31).toNat, by omega⟩
  unfold powZ
  simp only at this
  omega

set_option maxRecDepth 100000 in
set_option maxHeartbeats 2000000 in
theorem walkRscodePowers (n m : Int) (w : World) (hn : I64 n) (hm : I64 m) (hT : Tabs w) :
    Calls Tryd.prog 4 #[.int .i64 n, .int .i64 m] w fun e w' => e = .returned (.bool true) ∧ Ext w w' := by
  obtain ⟨n1, n2⟩ := hn
  obtain ⟨m1, m2⟩ := hm
  have HT := Lib.hid hT
  clear hT
  go_enter Tryd.func4, Tryd.ntmps4
  go_wp2_with fail
  refine (cut_any n 31 _ (by omega) (by omega) (by omega)).mono ?_
  rintro e x ⟨rfl, rfl⟩
  go_wp2_with fail
  refine (cut_any m 31 _ (by omega) (by omega) (by omega)).mono ?_
  rintro e x ⟨rfl, rfl⟩
  have c1 := cutZ_lo n 31
  have c2 := cutZ_hi n 31 (by omega)
  have d1 := cutZ_lo m 31
  have d2 := cutZ_hi m 31 (by omega)
  have p2 := pw_cut n
  generalize cutZ n 31 = k at *
  generalize cutZ m 31 = j at *
  obtain ⟨kn, rfl⟩ := Int.eq_ofNat_of_zero_le c1
  obtain ⟨jn, rfl⟩ := Int.eq_ofNat_of_zero_le d1
  have s1 : (powZ n == powZ n) = true := beq_self_eq_true _
  have s2 : (powZ (kn : Int) == powZ n) = true := by rw [p2]; exact beq_self_eq_true _
  have s3 : powZ 31 = 1 := by decide +kernel
  have s5 : (mulZ (powZ (kn : Int)) (powZ (jn : Int)) == powZ ((kn : Int) + (jn : Int))) = true := by rw [beq_iff_eq]; exact pw_mul ⟨kn, by omega⟩ ⟨jn, by omega⟩
  have s6 : (invZ (powZ (kn : Int)) == powZ (-(kn : Int))) = true := by rw [beq_iff_eq]; exact pw_inv ⟨kn, by omega⟩
  have s4 := pw_one ⟨kn, by omega⟩
  simp only at s4
  obtain ⟨b, h0⟩ : ∃ b, ((kn : Int) == 0) = b := ⟨_, rfl⟩
  rw [h0] at s4
  have h1 := s4.symm
  have hbb : (b == b) = true := by cases b <;> rfl
  have q1 := pw_bd (kn : Int)
  have q2 := pw_bd (jn : Int)
  clear s4 p2
  go_wp2_with fail
  refine (power_any n w HT.out (by omega) (by omega)).mono ?_
  rintro e y ⟨rfl, hy⟩
  replace hy := hy.symm
  subst hy
  go_wp2_with fail
  refine (rpower_any n w (by omega) (by omega)).mono ?_
  rintro e x1 ⟨rfl, hx1⟩
  have HT1 := Lib.hid (HT.out.ext hx1)
  replace hx1 := Lib.hid hx1
  go_wp2_with fail
  refine (power_any (kn : Int) x1 HT1.out (by omega) (by omega)).mono ?_
  rintro e y ⟨rfl, hy⟩
  replace hy := hy.symm
  subst hy
  go_wp2_with fail
  refine (power_any n x1 HT1.out (by omega) (by omega)).mono ?_
  rintro e y ⟨rfl, hy⟩
  replace hy := hy.symm
  subst hy
  go_wp2_with fail
  refine (power_any 31 x1 HT1.out (by omega) (by omega)).mono ?_
  rintro e y ⟨rfl, hy⟩
  replace hy := hy.symm
  subst hy
  rw [s3]
  go_wp2_with fail
  refine (power_any (kn : Int) x1 HT1.out (by omega) (by omega)).mono ?_
  rintro e y ⟨rfl, hy⟩
  replace hy := hy.symm
  subst hy
  go_wp2_with fail
  refine (power_any (kn : Int) x1 HT1.out (by omega) (by omega)).mono ?_
  rintro e y ⟨rfl, hy⟩
  replace hy := hy.symm
  subst hy
  go_wp2_with fail
  refine (power_any (jn : Int) x1 HT1.out (by omega) (by omega)).mono ?_
  rintro e y ⟨rfl, hy⟩
  replace hy := hy.symm
  subst hy
  go_wp2_with fail
  refine (mul_any (powZ (kn : Int)) (powZ (jn : Int)) x1 HT1.out (by omega) (by omega) (by omega) (by omega)).mono ?_
  rintro e x2 ⟨rfl, nn, hw2⟩
  have HX2 : Hid (Ext w x2) := by rw [hw2]; exact hx1.out.drewN _
  clear hw2
  have HT2 := Lib.hid (HT.out.ext HX2.out)
  go_wp2_with fail
  refine (power_any ((kn : Int) + (jn : Int)) x2 HT2.out (by omega) (by omega)).mono ?_
  rintro e y ⟨rfl, hy⟩
  replace hy := hy.symm
  subst hy
  go_wp2_with fail
  refine (power_any (kn : Int) x2 HT2.out (by omega) (by omega)).mono ?_
  rintro e y ⟨rfl, hy⟩
  replace hy := hy.symm
  subst hy
  go_wp2_with fail
  refine (inverse_any (powZ (kn : Int)) x2 HT2.out (by omega) (by omega)).mono ?_
  rintro e y ⟨rfl, hy⟩
  replace hy := hy.symm
  subst hy
  go_wp2_with fail
  refine (power_any (-(kn : Int)) x2 HT2.out (by omega) (by omega)).mono ?_
  rintro e y ⟨rfl, hy⟩
  replace hy := hy.symm
  subst hy
  go_wp2_with fail
  refine (awake18_any x2 HT2.out).mono ?_
  rintro e x3 ⟨rfl, hx3⟩
  have HX3 := Lib.hid (HX2.out.trans hx3)
  clear hx3
  go_wp2_with fail
  go_ret
  exact ⟨rfl, HX3.out⟩
end Go.Proofs.YtlabmdekdhjofaaDoor
