/- The walk of the law RscodeDistances. -/
import Derived.Test.YtlabmdekdhjofaaDoorAwake18
import Derived.Test.YtlabmdekdhjofaaDoorRsDist
namespace Go.Proofs.YtlabmdekdhjofaaDoor
open Go.RowKit

set_option maxRecDepth 100000 in
set_option maxHeartbeats 4000000 in
theorem walkRscodeDistances (va : Value) (la : List Int) (vb : Value) (lb : List Int) (w : World) (ha : IsI w.heap.size w va la) (hb : IsI w.heap.size w vb lb) (hT : Tabs w) :
    Calls Tryd.prog 13 #[va, vb] w fun e w' => e = .returned (.bool true) ∧ Ext w w' := by
  obtain ⟨A, n, c, rfl, hnc, hc, hnn, HL⟩ := ha.open_
  obtain ⟨B, m, d, rfl, hmd, hd, hmm, HM⟩ := hb.open_
  have HA := Lib.hid ha
  have HB := Lib.hid hb
  have HT := Lib.hid hT
  clear ha hb hT
  by_cases h1 : n ≤ 200
  case neg =>
    go_enter Tryd.func13, Tryd.ntmps13
    go_wp2_with fail
    go_ret
    exact ⟨rfl, Ext.refl _⟩
  by_cases h2 : m ≤ 200
  case neg =>
    go_enter Tryd.func13, Tryd.ntmps13
    go_wp2_with fail
    go_ret
    exact ⟨rfl, Ext.refl _⟩
  go_enter Tryd.func13, Tryd.ntmps13
  go_upto_region 4 with (fail)
  obtain ⟨k, hk, hkn, hkm⟩ : ∃ k : Nat, (if m < n then (m : Int) else (n : Int)) = (k : Int) ∧ k ≤ n ∧ k ≤ m := by
    by_cases h : m < n
    · exact ⟨m, by rw [if_pos h], by omega, by omega⟩
    · exact ⟨n, by rw [if_neg h], by omega, by omega⟩
  rw [hk]
  clear hk
  have e1 : (0 : Int) ≤ (k : Int) := Int.natCast_nonneg _
  have e2 : (k : Int) ≤ (c : Int) := by omega
  have e3 : (k : Int) ≤ (d : Int) := by omega
  have HAk := Lib.hid (HA.out.take hkn)
  have HBk := Lib.hid (HB.out.take hkm)
  have s1 : (distZ la lb == distZ la lb) = true := beq_self_eq_true _
  have s2 : (distZ (la.take k) (lb.take k) == distZ (la.take k) (lb.take k)) = true := beq_self_eq_true _
  have s3 : distZ la la = 0 := distZ_self la
  refine wp_region_k 99 (fun _ => True) (by kernel_rfl) ?_
  refine wpAnyK_take 0 (some 19) (v := ?kv1) rfl rfl (by kernel_rfl) (by kernel_rfl) (by kernel_rfl) (by decide) (by kernel_rfl) (fun _ _ _ h => h) (by rfl) ?ky1 trivial ?kr1
  case ky1 => ((intro wk hk); (try dsimp only at hk); go_simp; try with_reducible rfl)
  try simp only [Act.put, List.setIfInBounds_toArray, List.set_cons_zero, List.set_cons_succ]
  refine wpAnyK_take 1 (some 20) (v := ?kv2) rfl rfl (by kernel_rfl) (by kernel_rfl) (by kernel_rfl) (by decide) (by kernel_rfl) (fun _ _ _ h => h) (by rfl) ?ky2 trivial ?kr2
  case ky2 => ((intro wk hk); (try dsimp only at hk); go_simp; try with_reducible rfl)
  try simp only [Act.put, List.setIfInBounds_toArray, List.set_cons_zero, List.set_cons_succ]
  refine wpAnyK_take 3 (some 22) (v := ?kv3) rfl rfl (by kernel_rfl) (by kernel_rfl) (by kernel_rfl) (by decide) (by kernel_rfl) (fun _ _ _ h => h) (by rfl) ?ky3 trivial ?kr3
  case ky3 => ((intro wk hk); (try dsimp only at hk); go_simp; try with_reducible rfl)
  try simp only [Act.put, List.setIfInBounds_toArray, List.set_cons_zero, List.set_cons_succ]
  refine wpAnyK_take 4 (some 23) (v := ?kv4) rfl rfl (by kernel_rfl) (by kernel_rfl) (by kernel_rfl) (by decide) (by kernel_rfl) (fun _ _ _ h => h) (by rfl) ?ky4 trivial ?kr4
  case ky4 => ((intro wk hk); (try dsimp only at hk); go_simp; try with_reducible rfl)
  try simp only [Act.put, List.setIfInBounds_toArray, List.set_cons_zero, List.set_cons_succ]
  refine wpAnyK_one 2 (by kernel_rfl) rfl (fun K hK => ?_)
  go_simp
  refine (dist_ext _ _ la lb _ (HA.out.ext (Ext.refl w).drew) (HB.out.ext (Ext.refl w).drew) (by rw [HL.out]; omega)).mono ?_
  rintro e x1 ⟨rfl, hx1⟩
  replace hx1 := Lib.hid ((Ext.refl w).drew.trans hx1)
  refine hK.out _ _ (fun _ => trivial) ?_
  clear hK K
  try simp only [Act.put, List.setIfInBounds_toArray, List.set_cons_zero, List.set_cons_succ]
  refine wpAnyK_one 5 (by kernel_rfl) rfl (fun K hK => ?_)
  go_simp
  refine (rdist_ext _ _ la lb _ (HA.out.ext hx1.out) (HB.out.ext hx1.out) (by rw [HL.out]; omega)).mono ?_
  rintro e x2 ⟨rfl, hx2⟩
  replace hx2 := Lib.hid (hx1.out.trans hx2)
  refine hK.out _ _ (fun _ => trivial) ?_
  clear hK K
  try simp only [Act.put, List.setIfInBounds_toArray, List.set_cons_zero, List.set_cons_succ]
  refine wpAnyK_take 6 (some 25) (v := ?kv5) rfl rfl (by kernel_rfl) (by kernel_rfl) (by kernel_rfl) (by decide) (by kernel_rfl) (fun _ _ _ h => h) (by rfl) ?ky5 trivial ?kr5
  case ky5 => ((intro wk hk); (try dsimp only at hk); go_simp; try with_reducible rfl)
  try simp only [Act.put, List.setIfInBounds_toArray, List.set_cons_zero, List.set_cons_succ]
  refine wpAnyK_take 7 (some 26) (v := ?kv6) rfl rfl (by kernel_rfl) (by kernel_rfl) (by kernel_rfl) (by decide) (by kernel_rfl) (fun _ _ _ h => h) (by rfl) ?ky6 trivial ?kr6
  case ky6 => ((intro wk hk); (try dsimp only at hk); go_simp; try with_reducible rfl)
  try simp only [Act.put, List.setIfInBounds_toArray, List.set_cons_zero, List.set_cons_succ]
  refine wpAnyK_take 8 (some 27) (v := ?kv7) rfl rfl (by kernel_rfl) (by kernel_rfl) (by kernel_rfl) (by decide) (by kernel_rfl) (fun _ _ _ h => h) (by rfl) ?ky7 trivial ?kr7
  case ky7 => ((intro wk hk); (try dsimp only at hk); go_simp; try with_reducible rfl)
  try simp only [Act.put, List.setIfInBounds_toArray, List.set_cons_zero, List.set_cons_succ]
  refine wpAnyK_take 9 (some 28) (v := ?kv8) rfl rfl (by kernel_rfl) (by kernel_rfl) (by kernel_rfl) (by decide) (by kernel_rfl) (fun _ _ _ h => h) (by rfl) ?ky8 trivial ?kr8
  case ky8 => ((intro wk hk); (try dsimp only at hk); go_simp; try with_reducible rfl)
  try simp only [Act.put, List.setIfInBounds_toArray, List.set_cons_zero, List.set_cons_succ]
  refine wpAnyK_take 10 (some 29) (v := ?kv9) rfl rfl (by kernel_rfl) (by kernel_rfl) (by kernel_rfl) (by decide) (by kernel_rfl) (fun _ _ _ h => h) (by rfl) ?ky9 trivial ?kr9
  case ky9 => ((intro wk hk); (try dsimp only at hk); go_simp; try with_reducible rfl)
  try simp only [Act.put, List.setIfInBounds_toArray, List.set_cons_zero, List.set_cons_succ]
  refine wpAnyK_take 11 (some 30) (v := ?kv10) rfl rfl (by kernel_rfl) (by kernel_rfl) (by kernel_rfl) (by decide) (by kernel_rfl) (fun _ _ _ h => h) (by rfl) ?ky10 trivial ?kr10
  case ky10 => ((intro wk hk); (try dsimp only at hk); go_simp; try with_reducible rfl)
  try simp only [Act.put, List.setIfInBounds_toArray, List.set_cons_zero, List.set_cons_succ]
  refine wpAnyK_take 12 (some 31) (v := ?kv11) rfl rfl (by kernel_rfl) (by kernel_rfl) (by kernel_rfl) (by decide) (by kernel_rfl) (fun _ _ _ h => h) (by rfl) ?ky11 trivial ?kr11
  case ky11 => ((intro wk hk); (try dsimp only at hk); go_simp; try with_reducible rfl)
  try simp only [Act.put, List.setIfInBounds_toArray, List.set_cons_zero, List.set_cons_succ]
  refine wpAnyK_take 13 (some 32) (v := ?kv12) rfl rfl (by kernel_rfl) (by kernel_rfl) (by kernel_rfl) (by decide) (by kernel_rfl) (fun _ _ _ h => h) (by rfl) ?ky12 trivial ?kr12
  case ky12 => ((intro wk hk); (try dsimp only at hk); go_simp; try with_reducible rfl)
  try simp only [Act.put, List.setIfInBounds_toArray, List.set_cons_zero, List.set_cons_succ]
  refine wpAnyK_take 15 (some 34) (v := ?kv13) rfl rfl (by kernel_rfl) (by kernel_rfl) (by kernel_rfl) (by decide) (by kernel_rfl) (fun _ _ _ h => h) (by rfl) ?ky13 trivial ?kr13
  case ky13 => ((intro wk hk); (try dsimp only at hk); go_simp; try with_reducible rfl)
  try simp only [Act.put, List.setIfInBounds_toArray, List.set_cons_zero, List.set_cons_succ]
  refine wpAnyK_take 16 (some 35) (v := ?kv14) rfl rfl (by kernel_rfl) (by kernel_rfl) (by kernel_rfl) (by decide) (by kernel_rfl) (fun _ _ _ h => h) (by rfl) ?ky14 trivial ?kr14
  case ky14 => ((intro wk hk); (try dsimp only at hk); go_simp; try with_reducible rfl)
  try simp only [Act.put, List.setIfInBounds_toArray, List.set_cons_zero, List.set_cons_succ]
  refine wpAnyK_take 17 (some 36) (v := ?kv15) rfl rfl (by kernel_rfl) (by kernel_rfl) (by kernel_rfl) (by decide) (by kernel_rfl) (fun _ _ _ h => h) (by rfl) ?ky15 trivial ?kr15
  case ky15 => ((intro wk hk); (try dsimp only at hk); go_simp; try with_reducible rfl)
  try simp only [Act.put, List.setIfInBounds_toArray, List.set_cons_zero, List.set_cons_succ]
  refine wpAnyK_take 18 (some 37) (v := ?kv16) rfl rfl (by kernel_rfl) (by kernel_rfl) (by kernel_rfl) (by decide) (by kernel_rfl) (fun _ _ _ h => h) (by rfl) ?ky16 trivial ?kr16
  case ky16 => ((intro wk hk); (try dsimp only at hk); go_simp; try with_reducible rfl)
  try simp only [Act.put, List.setIfInBounds_toArray, List.set_cons_zero, List.set_cons_succ]
  refine wpAnyK_take 19 (some 38) (v := ?kv17) rfl rfl (by kernel_rfl) (by kernel_rfl) (by kernel_rfl) (by decide) (by kernel_rfl) (fun _ _ _ h => h) (by rfl) ?ky17 trivial ?kr17
  case ky17 => ((intro wk hk); (try dsimp only at hk); go_simp; try with_reducible rfl)
  try simp only [Act.put, List.setIfInBounds_toArray, List.set_cons_zero, List.set_cons_succ]
  refine wpAnyK_take 20 (some 39) (v := ?kv18) rfl rfl (by kernel_rfl) (by kernel_rfl) (by kernel_rfl) (by decide) (by kernel_rfl) (fun _ _ _ h => h) (by rfl) ?ky18 trivial ?kr18
  case ky18 => ((intro wk hk); (try dsimp only at hk); go_simp; try with_reducible rfl)
  try simp only [Act.put, List.setIfInBounds_toArray, List.set_cons_zero, List.set_cons_succ]
  refine wpAnyK_one 14 (by kernel_rfl) rfl (fun K hK => ?_)
  go_simp
  refine (dist_ext _ _ (la.take k) (lb.take k) _ (HAk.out.ext hx2.out) (HBk.out.ext hx2.out) (by rw [List.length_take, HL.out]; omega)).mono ?_
  rintro e x3 ⟨rfl, hx3⟩
  replace hx3 := Lib.hid (hx2.out.trans hx3)
  refine hK.out _ _ (fun _ => trivial) ?_
  clear hK K
  try simp only [Act.put, List.setIfInBounds_toArray, List.set_cons_zero, List.set_cons_succ]
  refine wpAnyK_one 21 (by kernel_rfl) rfl (fun K hK => ?_)
  go_simp
  refine (rdist_ext _ _ (la.take k) (lb.take k) _ (HAk.out.ext hx3.out) (HBk.out.ext hx3.out) (by rw [List.length_take, HL.out]; omega)).mono ?_
  rintro e x4 ⟨rfl, hx4⟩
  replace hx4 := Lib.hid (hx3.out.trans hx4)
  refine hK.out _ _ (fun _ => trivial) ?_
  clear hK K
  try simp only [Act.put, List.setIfInBounds_toArray, List.set_cons_zero, List.set_cons_succ]
  refine wpAnyK_take 22 (some 41) (v := ?kv19) rfl rfl (by kernel_rfl) (by kernel_rfl) (by kernel_rfl) (by decide) (by kernel_rfl) (fun _ _ _ h => h) (by rfl) ?ky19 trivial ?kr19
  case ky19 => ((intro wk hk); (try dsimp only at hk); go_simp; try with_reducible rfl)
  try simp only [Act.put, List.setIfInBounds_toArray, List.set_cons_zero, List.set_cons_succ]
  refine wpAnyK_take 23 (some 42) (v := ?kv20) rfl rfl (by kernel_rfl) (by kernel_rfl) (by kernel_rfl) (by decide) (by kernel_rfl) (fun _ _ _ h => h) (by rfl) ?ky20 trivial ?kr20
  case ky20 => ((intro wk hk); (try dsimp only at hk); go_simp; try with_reducible rfl)
  try simp only [Act.put, List.setIfInBounds_toArray, List.set_cons_zero, List.set_cons_succ]
  refine wpAnyK_take 24 (some 43) (v := ?kv21) rfl rfl (by kernel_rfl) (by kernel_rfl) (by kernel_rfl) (by decide) (by kernel_rfl) (fun _ _ _ h => h) (by rfl) ?ky21 trivial ?kr21
  case ky21 => ((intro wk hk); (try dsimp only at hk); go_simp; try with_reducible rfl)
  try simp only [Act.put, List.setIfInBounds_toArray, List.set_cons_zero, List.set_cons_succ]
  refine wpAnyK_take 25 (some 44) (v := ?kv22) rfl rfl (by kernel_rfl) (by kernel_rfl) (by kernel_rfl) (by decide) (by kernel_rfl) (fun _ _ _ h => h) (by rfl) ?ky22 trivial ?kr22
  case ky22 => ((intro wk hk); (try dsimp only at hk); go_simp; try with_reducible rfl)
  try simp only [Act.put, List.setIfInBounds_toArray, List.set_cons_zero, List.set_cons_succ]
  refine wpAnyK_take 26 (some 45) (v := ?kv23) rfl rfl (by kernel_rfl) (by kernel_rfl) (by kernel_rfl) (by decide) (by kernel_rfl) (fun _ _ _ h => h) (by rfl) ?ky23 trivial ?kr23
  case ky23 => ((intro wk hk); (try dsimp only at hk); go_simp; try with_reducible rfl)
  try simp only [Act.put, List.setIfInBounds_toArray, List.set_cons_zero, List.set_cons_succ]
  refine wpAnyK_one 27 (by kernel_rfl) rfl (fun K hK => ?_)
  go_simp
  refine (dist_ext _ _ la la _ (HA.out.ext hx4.out) (HA.out.ext hx4.out) (by rw [HL.out]; omega)).mono ?_
  rintro e x5 ⟨rfl, hx5⟩
  rw [s3]
  replace hx5 := Lib.hid (hx4.out.trans hx5)
  refine hK.out _ _ (fun _ => trivial) ?_
  clear hK K
  try simp only [Act.put, List.setIfInBounds_toArray, List.set_cons_zero, List.set_cons_succ]
  refine wpAnyK_take 28 (some 47) (v := ?kv24) rfl rfl (by kernel_rfl) (by kernel_rfl) (by kernel_rfl) (by decide) (by kernel_rfl) (fun _ _ _ h => h) (by rfl) ?ky24 trivial ?kr24
  case ky24 => ((intro wk hk); (try dsimp only at hk); go_simp; try with_reducible rfl)
  try simp only [Act.put, List.setIfInBounds_toArray, List.set_cons_zero, List.set_cons_succ]
  refine wpAnyK_take 29 (some 48) (v := ?kv25) rfl rfl (by kernel_rfl) (by kernel_rfl) (by kernel_rfl) (by decide) (by kernel_rfl) (fun _ _ _ h => h) (by rfl) ?ky25 trivial ?kr25
  case ky25 => ((intro wk hk); (try dsimp only at hk); go_simp; try with_reducible rfl)
  try simp only [Act.put, List.setIfInBounds_toArray, List.set_cons_zero, List.set_cons_succ]
  refine wpAnyK_take 30 (some 49) (v := ?kv26) rfl rfl (by kernel_rfl) (by kernel_rfl) (by kernel_rfl) (by decide) (by kernel_rfl) (fun _ _ _ h => h) (by rfl) ?ky26 trivial ?kr26
  case ky26 => ((intro wk hk); (try dsimp only at hk); go_simp; try with_reducible rfl)
  try simp only [Act.put, List.setIfInBounds_toArray, List.set_cons_zero, List.set_cons_succ]
  refine wpAnyK_one 31 (by kernel_rfl) rfl (fun K hK => ?_)
  go_simp
  refine (awake18_any _ (HT.out.ext hx5.out)).mono ?_
  rintro e x6 ⟨rfl, hx6⟩
  replace hx6 := Lib.hid (hx5.out.trans hx6)
  refine hK.out _ _ (fun _ => trivial) ?_
  clear hK K
  try simp only [Act.put, List.setIfInBounds_toArray, List.set_cons_zero, List.set_cons_succ]
  refine wpAnyK_take 32 (some 51) (v := ?kv27) rfl rfl (by kernel_rfl) (by kernel_rfl) (by kernel_rfl) (by decide) (by kernel_rfl) (fun _ _ _ h => h) (by rfl) ?ky27 trivial ?kr27
  case ky27 => ((intro wk hk); (try dsimp only at hk); go_simp; try with_reducible rfl)
  try simp only [Act.put, List.setIfInBounds_toArray, List.set_cons_zero, List.set_cons_succ]
  refine wpAnyK_take 33 (some 4) (v := ?kv28) rfl rfl (by kernel_rfl) (by kernel_rfl) (by kernel_rfl) (by decide) (by kernel_rfl) (fun _ _ _ h => h) (by rfl) ?ky28 trivial ?kr28
  case ky28 => ((intro wk hk); (try dsimp only at hk); go_simp; try with_reducible rfl)
  try simp only [Act.put, List.setIfInBounds_toArray, List.set_cons_zero, List.set_cons_succ]
  refine wpAnyK_done (by kernel_rfl) ?_ _
  go_wp2_with fail
  go_ret
  exact ⟨rfl, hx6.out⟩
end Go.Proofs.YtlabmdekdhjofaaDoor
