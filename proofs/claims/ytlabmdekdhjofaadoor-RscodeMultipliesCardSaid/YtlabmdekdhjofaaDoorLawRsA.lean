/- The walks of the laws RscodeMultiplies, RscodePowers, RscodeField. -/
import Derived.Test.YtlabmdekdhjofaaDoorAwake18
namespace Go.Proofs.YtlabmdekdhjofaaDoor
open Go.RowKit

set_option maxRecDepth 100000 in
set_option maxHeartbeats 2000000 in
theorem walkRscodeMultiplies (a b : Int) (w : World) (ha : I64 a) (hb : I64 b) (hT : Tabs w) :
    Calls Tryd.prog 3 #[.int .i64 a, .int .i64 b] w fun e w' => e = .returned (.bool true) ∧ Ext w w' := by
  obtain ⟨a1, a2⟩ := ha
  obtain ⟨b1, b2⟩ := hb
  have HT := Lib.hid hT
  clear hT
  have c1 := cutZ_lo a 33
  have c2 := cutZ_hi a 33 (by omega)
  have d1 := cutZ_lo b 33
  have d2 := cutZ_hi b 33 (by omega)
  go_enter Tryd.func3, Tryd.ntmps3
  go_wp2_with fail
  refine (cut_any a 33 _ (by omega) (by omega) (by omega)).mono ?_
  rintro e x ⟨rfl, rfl⟩
  go_wp2_with fail
  refine (cut_any b 33 _ (by omega) (by omega) (by omega)).mono ?_
  rintro e x ⟨rfl, rfl⟩
  generalize cutZ a 33 = c at *
  generalize cutZ b 33 = d at *
  have s1 : (mulZ a b == mulZ a b) = true := beq_self_eq_true _
  have s2 : (mulZ c d == mulZ c d) = true := beq_self_eq_true _
  have s3 : (invZ a == invZ a) = true := beq_self_eq_true _
  have s4 : (invZ c == invZ c) = true := beq_self_eq_true _
  go_wp2_with fail
  refine (mul_any a b w HT.out (by omega) (by omega) (by omega) (by omega)).mono ?_
  rintro e x1 ⟨rfl, n1, hw1⟩
  have HX1 : Hid (Ext w x1) := by rw [hw1]; exact (Ext.refl _).drewN _
  clear hw1
  go_wp2_with fail
  refine (rmul_any a b x1 (by omega) (by omega) (by omega) (by omega)).mono ?_
  rintro e y ⟨rfl, hy⟩
  replace hy := hy.symm
  subst hy
  go_wp2_with fail
  refine (mul_any c d x1 (HT.out.ext HX1.out) (by omega) (by omega) (by omega) (by omega)).mono ?_
  rintro e x2 ⟨rfl, n2, hw2⟩
  have HX2 : Hid (Ext w x2) := by rw [hw2]; exact HX1.out.drewN _
  clear hw2
  go_wp2_with fail
  refine (rmul_any c d x2 (by omega) (by omega) (by omega) (by omega)).mono ?_
  rintro e y ⟨rfl, hy⟩
  replace hy := hy.symm
  subst hy
  go_wp2_with fail
  refine (inverse_any a x2 (HT.out.ext HX2.out) (by omega) (by omega)).mono ?_
  rintro e y ⟨rfl, hy⟩
  replace hy := hy.symm
  subst hy
  go_wp2_with fail
  refine (rinverse_any a x2 (by omega) (by omega)).mono ?_
  rintro e y ⟨rfl, hy⟩
  replace hy := hy.symm
  subst hy
  go_wp2_with fail
  refine (inverse_any c x2 (HT.out.ext HX2.out) (by omega) (by omega)).mono ?_
  rintro e y ⟨rfl, hy⟩
  replace hy := hy.symm
  subst hy
  go_wp2_with fail
  refine (rinverse_any c x2 (by omega) (by omega)).mono ?_
  rintro e y ⟨rfl, hy⟩
  replace hy := hy.symm
  subst hy
  go_wp2_with fail
  refine (awake18_any x2 (HT.out.ext HX2.out)).mono ?_
  rintro e x3 ⟨rfl, hx3⟩
  have HX3 := Lib.hid (HX2.out.trans hx3)
  clear hx3
  go_wp2_with fail
  go_ret
  exact ⟨rfl, HX3.out⟩
end Go.Proofs.YtlabmdekdhjofaaDoor
