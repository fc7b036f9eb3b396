/- The walk of the law StripSymbols. -/
import Derived.Test.YtcpanmonllhmaaaDoorGStK
set_option linter.unusedSimpArgs false
set_option linter.unusedVariables false
namespace Go.Proofs.YtcpanmonllhmaaaDoor
open Go.RowKit

def LabBlk (w : World) (g : Nat) (a b c d : Int) : Prop := w.heap[g]? = some (.cells #[.int .i64 a, .int .i64 b, .int .i64 c, .int .i64 d] 26 (0, 0))
theorem LabBlk.cells {w : World} {g : Nat} {a b c d : Int} (h : LabBlk w g a b c d) : w.cell? ⟨g, 0, none⟩ = some (.int .i64 a) ∧ w.cell? ⟨g, 1, none⟩ = some (.int .i64 b) ∧ w.cell? ⟨g, 2, none⟩ = some (.int .i64 c) ∧ w.cell? ⟨g, 3, none⟩ = some (.int .i64 d) :=
  ⟨blk_cell h rfl, blk_cell h rfl, blk_cell h rfl, blk_cell h rfl⟩
theorem LabBlk.new (w : World) (a b c d : Int) : LabBlk (w.alloc (.cells #[.int .i64 a, .int .i64 b, .int .i64 c, .int .i64 d] 26)) w.heap.size a b c d := heap_alloc_new w _
theorem LabBlk.ext {w w' : World} {g : Nat} {a b c d : Int} (h : LabBlk w g a b c d) (hx : Ext w w') : LabBlk w' g a b c d := hx.blk h
theorem LabBlk.xt {w w' : World} {g p : Nat} {a b c d : Int} (h : LabBlk w g a b c d) (hx : XT p w w') (hp : g ≠ p) : LabBlk w' g a b c d := hx.blk h hp
/-- The two labels of StripSymbols. -/
abbrev SS (g1 g2 : Nat) (a b c d a' b' c' d' : Int) (w : World) : Prop :=
  (w.cell? ⟨g1, 0, none⟩ = some (.int .i64 a) ∧ w.cell? ⟨g1, 1, none⟩ = some (.int .i64 b) ∧ w.cell? ⟨g1, 2, none⟩ = some (.int .i64 c) ∧ w.cell? ⟨g1, 3, none⟩ = some (.int .i64 d)) ∧
  (w.cell? ⟨g2, 0, none⟩ = some (.int .i64 a') ∧ w.cell? ⟨g2, 1, none⟩ = some (.int .i64 b') ∧ w.cell? ⟨g2, 2, none⟩ = some (.int .i64 c') ∧ w.cell? ⟨g2, 3, none⟩ = some (.int .i64 d'))
theorem SS.ext {g1 g2 : Nat} {a b c d a' b' c' d' : Int} {w w' : World} (h : SS g1 g2 a b c d a' b' c' d' w) (x : Ext w w') : SS g1 g2 a b c d a' b' c' d' w' :=
  ⟨⟨x.cell h.1.1, x.cell h.1.2.1, x.cell h.1.2.2.1, x.cell h.1.2.2.2⟩, ⟨x.cell h.2.1, x.cell h.2.2.1, x.cell h.2.2.2.1, x.cell h.2.2.2.2⟩⟩
theorem strs_at {w : World} {g : Nat} {t : TypeId} {l : List ByteArray} {k : Nat} (h : w.heap[g]? = some (.cells (l.map Value.string).toArray t (0, 0))) (hk : k < l.length) (hl : ∀ x ∈ l, x.size ≤ 140737488351232) :
    ∃ s : ByteArray, w.cell? ⟨g, k, none⟩ = some (.string s) ∧ s.size ≤ 140737488351232 := by
  refine ⟨l[k], ?_, hl _ (List.getElem_mem hk)⟩
  rw [cell_of_row w g k _ t (0, 0) h]
  simp [hk]
theorem ints_self {p q : Nat} (va vb : Value) (l : List Int) (w : World) (ha : IsI p w va l) (hb : IsI q w vb l) :
    Calls Tryd.prog 16 #[va, vb] w fun e w' => e = .returned (.bool true) ∧ Ext w w' :=
  (ints_ext va vb l l w ha hb).mono fun _ _ ⟨he, hx⟩ => ⟨by rw [he]; simp, hx⟩
theorem stvalid_z (a b c d : Int) (z : Bool) (w : World) (h : labB a b c d = z) : Calls Tryd.prog 17 #[.agg #[.int .i64 a, .int .i64 b, .int .i64 c, .int .i64 d]] w fun e w' => e = .returned (.bool z) ∧ Ext w w' := by
  subst h; exact stvalid_any a b c d w
theorem rstvalid_z (a b c d : Int) (z : Bool) (w : World) (h : labB a b c d = z) : Calls Tryd.prog 18 #[.agg #[.int .i64 a, .int .i64 b, .int .i64 c, .int .i64 d]] w fun e w' => e = .returned (.bool z) ∧ Ext w w' := by
  subst h; exact rstvalid_any a b c d w
set_option maxRecDepth 100000 in
set_option maxHeartbeats 4000000 in
theorem walkStripSymbols (v0 : Value) (l0 : List Int) (a b c d : Int) (w : World) (h0 : IsI w.heap.size w v0 l0) (ha : I64 a) (hb : I64 b) (hc : I64 c) (hd : I64 d) (hT : Tabs w) :
    Calls Tryd.prog 3 #[v0, .int .i64 a, .int .i64 b, .int .i64 c, .int .i64 d] w fun e w' => e = .returned (.bool true) ∧ Ext w w' := by
  obtain ⟨A0, n0, c0, rfl, -⟩ := h0.open_
  have H0 : Bx (IsI w.heap.size w (.slice A0 n0 c0) l0) := ⟨h0⟩
  have HT : Bx (Tabs w) := ⟨hT⟩
  clear h0 hT
  go_enter Tryd.func3, Tryd.ntmps3
  go_wp2_with fail
  refine (new_any _ l0 _ H0.out).mono ?_
  rintro e w1 ⟨rfl, HT1, HE1⟩
  have hp1 := HT1.lt
  have HB1 : Bx (Tape w1 w.heap.size ∧ Ext w w1) := ⟨⟨HT1, HE1⟩⟩
  clear HT1 HE1
  go_wp2_with fail
  refine (label_any _ 6 _ (HB1.out.1.ext ((Ext.refl _).alloc _)) (by omega) (by omega)).mono ?_
  rintro e w2 ⟨v2, rfl, ⟨a', b', c', d', rfl, ha', hb', hc', hd', _⟩, HT2, HX2⟩
  have hs2 := HX2.size
  have HL1 : Bx (LabBlk w2 w1.heap.size a b c d) := ⟨(LabBlk.new w1 a b c d).xt HX2 (by omega)⟩
  have HE2 : Bx (Ext w w2) := ⟨HX2.fresh (HB1.out.2.alloc _) (Nat.le_refl _)⟩
  clear HT2 HX2 HB1
  have hl2 := (HL1.out.ext ((Ext.refl w2).alloc (.cells #[.int .i64 a', .int .i64 b', .int .i64 c', .int .i64 d'] 26))).cells
  obtain ⟨x0, x1, x2, x3⟩ := hl2
  have HS : Bx (SS w1.heap.size w2.heap.size a b c d a' b' c' d' (w2.alloc (.cells #[.int .i64 a', .int .i64 b', .int .i64 c', .int .i64 d'] 26))) := ⟨⟨⟨x0, x1, x2, x3⟩, (LabBlk.new w2 a' b' c' d').cells⟩⟩
  go_wp2_with fail
  refine (symbols_any a b c d _).mono ?_
  rintro e w3 ⟨A3, n3, c3, k3, rfl, hk3, hi3, hx3⟩
  have HE3 : Bx (Ext w w3) := ⟨(HE2.out.alloc _).trans hx3⟩
  have HS3 : Bx (SS w1.heap.size w2.heap.size a b c d a' b' c' d' w3) := ⟨HS.out.ext hx3⟩
  have HI3 : Bx (IsI w3.heap.size w3 (.slice A3 n3 c3) (symS a b c d)) := ⟨hi3⟩
  have HK3 : Bx (k3 = symE a b c d) := ⟨hk3⟩
  clear x0 x1 x2 x3 hi3 hx3 HS HE2 HL1 hk3
  obtain ⟨⟨x0, x1, x2, x3⟩, -⟩ := HS3.out
  go_wp2_with fail
  refine (rsymb_any a b c d _).mono ?_
  rintro e w4 ⟨A4, n4, c4, k4, rfl, hk4, hi4, hx4⟩
  obtain rfl : k3 = k4 := by rw [HK3.out, hk4]
  have HE4 : Bx (Ext w w4) := ⟨HE3.out.trans hx4⟩
  have HS4 : Bx (SS w1.heap.size w2.heap.size a b c d a' b' c' d' w4) := ⟨HS3.out.ext hx4⟩
  replace HI3 : Bx (IsI w3.heap.size w4 (.slice A3 n3 c3) (symS a b c d)) := ⟨HI3.out.ext hx4⟩
  have HI4 : Bx (IsI w4.heap.size w4 (.slice A4 n4 c4) (symS a b c d)) := ⟨hi4⟩
  clear x0 x1 x2 x3 hi4 hx4 HS3 HE3 HK3 hk4
  obtain ⟨-, ⟨x0, x1, x2, x3⟩⟩ := HS4.out
  go_wp2_with fail
  refine (symbols_any a' b' c' d' _).mono ?_
  rintro e w5 ⟨A5, n5, c5, k5, rfl, hk5, hi5, hx5⟩
  have HE5 : Bx (Ext w w5) := ⟨HE4.out.trans hx5⟩
  have HS5 : Bx (SS w1.heap.size w2.heap.size a b c d a' b' c' d' w5) := ⟨HS4.out.ext hx5⟩
  replace HI3 : Bx (IsI w3.heap.size w5 (.slice A3 n3 c3) (symS a b c d)) := ⟨HI3.out.ext hx5⟩
  replace HI4 : Bx (IsI w4.heap.size w5 (.slice A4 n4 c4) (symS a b c d)) := ⟨HI4.out.ext hx5⟩
  have HI5 : Bx (IsI w5.heap.size w5 (.slice A5 n5 c5) (symS a' b' c' d')) := ⟨hi5⟩
  have HK5 : Bx (k5 = symE a' b' c' d') := ⟨hk5⟩
  clear x0 x1 x2 x3 hi5 hx5 HS4 HE4 hk5
  obtain ⟨-, ⟨x0, x1, x2, x3⟩⟩ := HS5.out
  go_wp2_with fail
  refine (rsymb_any a' b' c' d' _).mono ?_
  rintro e w6 ⟨A6, n6, c6, k6, rfl, hk6, hi6, hx6⟩
  obtain rfl : k5 = k6 := by rw [HK5.out, hk6]
  have HE6 : Bx (Ext w w6) := ⟨HE5.out.trans hx6⟩
  have HS6 : Bx (SS w1.heap.size w2.heap.size a b c d a' b' c' d' w6.drew) := ⟨HS5.out.ext hx6.drew⟩
  replace HI3 : Bx (IsI w3.heap.size w6.drew (.slice A3 n3 c3) (symS a b c d)) := ⟨HI3.out.ext hx6.drew⟩
  replace HI4 : Bx (IsI w4.heap.size w6.drew (.slice A4 n4 c4) (symS a b c d)) := ⟨HI4.out.ext hx6.drew⟩
  replace HI5 : Bx (IsI w5.heap.size w6.drew (.slice A5 n5 c5) (symS a' b' c' d')) := ⟨HI5.out.ext hx6.drew⟩
  have HI6 : Bx (IsI w6.heap.size w6.drew (.slice A6 n6 c6) (symS a' b' c' d')) := ⟨hi6.ext (Ext.refl _).drew⟩
  clear x0 x1 x2 x3 hi6 hx6 HS5 HE5 HK5 hk6
  have q1 : (k3 == k3) = true := beq_self_eq_true _
  have q2 : (k5 == k5) = true := beq_self_eq_true _
  go_upto_region 8 with (fail)
  refine wp_region_k 35 (SS w1.heap.size w2.heap.size a b c d a' b' c' d') (by kernel_rfl) ?_
  refine wpAnyK_take 0 (some 51) (v := ?kv1) rfl rfl (by kernel_rfl) (by kernel_rfl) (by kernel_rfl) (by decide) (by kernel_rfl) (fun _ _ _ h => h) (by rfl) ?ky1 HS6.out ?kr1
  case ky1 => ((intro wk hk); (try dsimp only at hk); go_simp; try with_reducible rfl)
  try simp only [Act.put, List.setIfInBounds_toArray, List.set_cons_zero, List.set_cons_succ]
  refine wpAnyK_take 1 (some 52) (v := ?kv2) rfl rfl (by kernel_rfl) (by kernel_rfl) (by kernel_rfl) (by decide) (by kernel_rfl) (fun _ _ _ h => h) (by rfl) ?ky2 HS6.out ?kr2
  case ky2 => ((intro wk hk); (try dsimp only at hk); go_simp; try with_reducible rfl)
  try simp only [Act.put, List.setIfInBounds_toArray, List.set_cons_zero, List.set_cons_succ]
  refine wpAnyK_one 2 (by kernel_rfl) rfl (fun K hK => ?_)
  go_simp
  refine (ints_self _ _ _ _ HI3.out HI4.out).mono ?_
  rintro e x1 ⟨rfl, hx1⟩
  have E1 : Bx (Ext w x1) := ⟨HE6.out.drew.trans hx1⟩
  have S1 : Bx (SS w1.heap.size w2.heap.size a b c d a' b' c' d' x1) := ⟨HS6.out.ext hx1⟩
  replace HI5 : Bx (IsI w5.heap.size x1 (.slice A5 n5 c5) (symS a' b' c' d')) := ⟨HI5.out.ext hx1⟩
  replace HI6 : Bx (IsI w6.heap.size x1 (.slice A6 n6 c6) (symS a' b' c' d')) := ⟨HI6.out.ext hx1⟩
  clear hx1 HE6 HS6 HI3 HI4
  refine hK.out _ _ (fun _ => S1.out) ?_
  clear hK K
  try simp only [Act.put, List.setIfInBounds_toArray, List.set_cons_zero, List.set_cons_succ]
  refine wpAnyK_take 3 (some 54) (v := ?kv3) rfl rfl (by kernel_rfl) (by kernel_rfl) (by kernel_rfl) (by decide) (by kernel_rfl) (fun _ _ _ h => h) (by rfl) ?ky3 S1.out ?kr3
  case ky3 => ((intro wk hk); (try dsimp only at hk); go_simp; try with_reducible rfl)
  try simp only [Act.put, List.setIfInBounds_toArray, List.set_cons_zero, List.set_cons_succ]
  refine wpAnyK_take 4 (some 55) (v := ?kv4) rfl rfl (by kernel_rfl) (by kernel_rfl) (by kernel_rfl) (by decide) (by kernel_rfl) (fun _ _ _ h => h) (by rfl) ?ky4 S1.out ?kr4
  case ky4 => ((intro wk hk); (try dsimp only at hk); go_simp; try with_reducible rfl)
  try simp only [Act.put, List.setIfInBounds_toArray, List.set_cons_zero, List.set_cons_succ]
  refine wpAnyK_take 5 (some 56) (v := ?kv5) rfl rfl (by kernel_rfl) (by kernel_rfl) (by kernel_rfl) (by decide) (by kernel_rfl) (fun _ _ _ h => h) (by rfl) ?ky5 S1.out ?kr5
  case ky5 => ((intro wk hk); (try dsimp only at hk); go_simp; try with_reducible rfl)
  try simp only [Act.put, List.setIfInBounds_toArray, List.set_cons_zero, List.set_cons_succ]
  refine wpAnyK_take 6 (some 57) (v := ?kv6) rfl rfl (by kernel_rfl) (by kernel_rfl) (by kernel_rfl) (by decide) (by kernel_rfl) (fun _ _ _ h => h) (by rfl) ?ky6 S1.out ?kr6
  case ky6 => ((intro wk hk); (try dsimp only at hk); go_simp; try with_reducible rfl)
  try simp only [Act.put, List.setIfInBounds_toArray, List.set_cons_zero, List.set_cons_succ]
  refine wpAnyK_take 7 (some 58) (v := ?kv7) rfl rfl (by kernel_rfl) (by kernel_rfl) (by kernel_rfl) (by decide) (by kernel_rfl) (fun _ _ _ h => h) (by rfl) ?ky7 S1.out ?kr7
  case ky7 => ((intro wk hk); (try dsimp only at hk); go_simp; try with_reducible rfl)
  try simp only [Act.put, List.setIfInBounds_toArray, List.set_cons_zero, List.set_cons_succ]
  refine wpAnyK_take 8 (some 59) (v := ?kv8) rfl rfl (by kernel_rfl) (by kernel_rfl) (by kernel_rfl) (by decide) (by kernel_rfl) (fun _ _ _ h => h) (by rfl) ?ky8 S1.out ?kr8
  case ky8 => ((intro wk hk); (try dsimp only at hk); go_simp; try with_reducible rfl)
  try simp only [Act.put, List.setIfInBounds_toArray, List.set_cons_zero, List.set_cons_succ]
  refine wpAnyK_take 9 (some 60) (v := ?kv9) rfl rfl (by kernel_rfl) (by kernel_rfl) (by kernel_rfl) (by decide) (by kernel_rfl) (fun _ _ _ h => h) (by rfl) ?ky9 S1.out ?kr9
  case ky9 => ((intro wk hk); (try dsimp only at hk); go_simp; try with_reducible rfl)
  try simp only [Act.put, List.setIfInBounds_toArray, List.set_cons_zero, List.set_cons_succ]
  refine wpAnyK_take 10 (some 61) (v := ?kv10) rfl rfl (by kernel_rfl) (by kernel_rfl) (by kernel_rfl) (by decide) (by kernel_rfl) (fun _ _ _ h => h) (by rfl) ?ky10 S1.out ?kr10
  case ky10 => ((intro wk hk); (try dsimp only at hk); go_simp; try with_reducible rfl)
  try simp only [Act.put, List.setIfInBounds_toArray, List.set_cons_zero, List.set_cons_succ]
  refine wpAnyK_one 11 (by kernel_rfl) rfl (fun K hK => ?_)
  go_simp
  refine (ints_self _ _ _ _ HI5.out HI6.out).mono ?_
  rintro e x2 ⟨rfl, hx2⟩
  have E2 : Bx (Ext w x2) := ⟨E1.out.trans hx2⟩
  have S2 : Bx (SS w1.heap.size w2.heap.size a b c d a' b' c' d' x2) := ⟨S1.out.ext hx2⟩
  clear hx2 E1 S1 HI5 HI6
  refine hK.out _ _ (fun _ => S2.out) ?_
  clear hK K
  try simp only [Act.put, List.setIfInBounds_toArray, List.set_cons_zero, List.set_cons_succ]
  refine wpAnyK_take 12 (some 63) (v := ?kv11) rfl rfl (by kernel_rfl) (by kernel_rfl) (by kernel_rfl) (by decide) (by kernel_rfl) (fun _ _ _ h => h) (by rfl) ?ky11 S2.out ?kr11
  case ky11 => ((intro wk hk); (try dsimp only at hk); go_simp; try with_reducible rfl)
  try simp only [Act.put, List.setIfInBounds_toArray, List.set_cons_zero, List.set_cons_succ]
  refine wpAnyK_take 13 (some 64) (v := ?kv12) rfl rfl (by kernel_rfl) (by kernel_rfl) (by kernel_rfl) (by decide) (by kernel_rfl) (fun _ _ _ h => h) (by rfl) ?ky12 S2.out ?kr12
  case ky12 => ((intro wk hk); (try dsimp only at hk); go_simp; try with_reducible rfl)
  try simp only [Act.put, List.setIfInBounds_toArray, List.set_cons_zero, List.set_cons_succ]
  refine wpAnyK_take 14 (some 65) (v := ?kv13) rfl rfl (by kernel_rfl) (by kernel_rfl) (by kernel_rfl) (by decide) (by kernel_rfl) (fun _ _ _ h => h) (by rfl) ?ky13 S2.out ?kr13
  case ky13 => ((intro wk hk); (try dsimp only at hk); go_simp; try with_reducible rfl)
  try simp only [Act.put, List.setIfInBounds_toArray, List.set_cons_zero, List.set_cons_succ]
  refine wpAnyK_take 15 (some 66) (v := ?kv14) rfl rfl (by kernel_rfl) (by kernel_rfl) (by kernel_rfl) (by decide) (by kernel_rfl) (fun _ _ _ h => h) (by rfl) ?ky14 S2.out ?kr14
  case ky14 => ((intro wk hk); (try dsimp only at hk); go_simp; try with_reducible rfl)
  try simp only [Act.put, List.setIfInBounds_toArray, List.set_cons_zero, List.set_cons_succ]
  refine wpAnyK_take 16 (some 67) (v := ?kv15) rfl rfl (by kernel_rfl) (by kernel_rfl) (by kernel_rfl) (by decide) (by kernel_rfl) (fun _ _ _ h => h) (by rfl) ?ky15 S2.out ?kr15
  case ky15 => ((intro wk hk); (try dsimp only at hk); go_simp; try with_reducible rfl)
  try simp only [Act.put, List.setIfInBounds_toArray, List.set_cons_zero, List.set_cons_succ]
  refine wpAnyK_take 17 (some 68) (v := ?kv16) rfl rfl (by kernel_rfl) (by kernel_rfl) (by kernel_rfl) (by decide) (by kernel_rfl) (fun _ _ _ h => h) (by rfl) ?ky16 S2.out ?kr16
  case ky16 => ((intro wk hk); (try dsimp only at hk); go_simp; try with_reducible rfl)
  try simp only [Act.put, List.setIfInBounds_toArray, List.set_cons_zero, List.set_cons_succ]
  refine wpAnyK_take 18 (some 69) (v := ?kv17) rfl rfl (by kernel_rfl) (by kernel_rfl) (by kernel_rfl) (by decide) (by kernel_rfl) (fun _ _ _ h => h) (by rfl) ?ky17 S2.out ?kr17
  case ky17 => ((intro wk hk); (try dsimp only at hk); go_simp; try with_reducible rfl)
  try simp only [Act.put, List.setIfInBounds_toArray, List.set_cons_zero, List.set_cons_succ]
  have q3 : (labB a b c d == labB a b c d) = true := beq_self_eq_true _
  have q4 : (labB a' b' c' d' == labB a' b' c' d') = true := beq_self_eq_true _
  generalize hz1 : labB a b c d = z1 at q3
  generalize hz2 : labB a' b' c' d' = z2 at q4
  have HZ1 : Bx (labB a b c d = z1) := ⟨hz1⟩
  have HZ2 : Bx (labB a' b' c' d' = z2) := ⟨hz2⟩
  clear hz1 hz2
  refine wpAnyK_take 19 (some 70) (v := ?kv18) rfl rfl (by kernel_rfl) (by kernel_rfl) (by kernel_rfl) (by decide) (by kernel_rfl) (fun _ _ _ h => h) (by rfl) ?ky18 S2.out ?kr18
  case ky18 => ((intro wk hk); (try dsimp only at hk); go_simp; try with_reducible rfl)
  try simp only [Act.put, List.setIfInBounds_toArray, List.set_cons_zero, List.set_cons_succ]
  refine wpAnyK_take 21 (some 72) (v := ?kv19) rfl rfl (by kernel_rfl) (by kernel_rfl) (by kernel_rfl) (by decide) (by kernel_rfl) (fun _ _ _ h => h) (by rfl) ?ky19 S2.out ?kr19
  case ky19 => ((intro wk hk); (try dsimp only at hk); go_simp; try with_reducible rfl)
  try simp only [Act.put, List.setIfInBounds_toArray, List.set_cons_zero, List.set_cons_succ]
  refine wpAnyK_one 20 (by kernel_rfl) rfl (fun K hK => ?_)
  go_simp
  refine (stvalid_z a b c d z1 _ HZ1.out).mono ?_
  rintro e x3 ⟨rfl, hx3⟩
  have E3 : Bx (Ext w x3) := ⟨E2.out.trans hx3⟩
  have S3 : Bx (SS w1.heap.size w2.heap.size a b c d a' b' c' d' x3) := ⟨S2.out.ext hx3⟩
  clear hx3 E2 S2
  refine hK.out _ _ (fun _ => S3.out) ?_
  clear hK K
  try simp only [Act.put, List.setIfInBounds_toArray, List.set_cons_zero, List.set_cons_succ]
  refine wpAnyK_one 22 (by kernel_rfl) rfl (fun K hK => ?_)
  go_simp
  refine (rstvalid_z a b c d z1 _ HZ1.out).mono ?_
  rintro e x4 ⟨rfl, hx4⟩
  have E4 : Bx (Ext w x4) := ⟨E3.out.trans hx4⟩
  have S4 : Bx (SS w1.heap.size w2.heap.size a b c d a' b' c' d' x4) := ⟨S3.out.ext hx4⟩
  clear hx4 E3 S3
  refine hK.out _ _ (fun _ => S4.out) ?_
  clear hK K
  try simp only [Act.put, List.setIfInBounds_toArray, List.set_cons_zero, List.set_cons_succ]
  refine wpAnyK_take 23 (some 74) (v := ?kv20) rfl rfl (by kernel_rfl) (by kernel_rfl) (by kernel_rfl) (by decide) (by kernel_rfl) (fun _ _ _ h => h) (by rfl) ?ky20 S4.out ?kr20
  case ky20 => ((intro wk hk); (try dsimp only at hk); go_simp; try with_reducible rfl)
  try simp only [Act.put, List.setIfInBounds_toArray, List.set_cons_zero, List.set_cons_succ]
  refine wpAnyK_take 24 (some 75) (v := ?kv21) rfl rfl (by kernel_rfl) (by kernel_rfl) (by kernel_rfl) (by decide) (by kernel_rfl) (fun _ _ _ h => h) (by rfl) ?ky21 S4.out ?kr21
  case ky21 => ((intro wk hk); (try dsimp only at hk); go_simp; try with_reducible rfl)
  try simp only [Act.put, List.setIfInBounds_toArray, List.set_cons_zero, List.set_cons_succ]
  refine wpAnyK_take 25 (some 76) (v := ?kv22) rfl rfl (by kernel_rfl) (by kernel_rfl) (by kernel_rfl) (by decide) (by kernel_rfl) (fun _ _ _ h => h) (by rfl) ?ky22 S4.out ?kr22
  case ky22 => ((intro wk hk); (try dsimp only at hk); go_simp; try with_reducible rfl)
  try simp only [Act.put, List.setIfInBounds_toArray, List.set_cons_zero, List.set_cons_succ]
  refine wpAnyK_take 26 (some 77) (v := ?kv23) rfl rfl (by kernel_rfl) (by kernel_rfl) (by kernel_rfl) (by decide) (by kernel_rfl) (fun _ _ _ h => h) (by rfl) ?ky23 S4.out ?kr23
  case ky23 => ((intro wk hk); (try dsimp only at hk); go_simp; try with_reducible rfl)
  try simp only [Act.put, List.setIfInBounds_toArray, List.set_cons_zero, List.set_cons_succ]
  refine wpAnyK_take 28 (some 79) (v := ?kv24) rfl rfl (by kernel_rfl) (by kernel_rfl) (by kernel_rfl) (by decide) (by kernel_rfl) (fun _ _ _ h => h) (by rfl) ?ky24 S4.out ?kr24
  case ky24 => ((intro wk hk); (try dsimp only at hk); go_simp; try with_reducible rfl)
  try simp only [Act.put, List.setIfInBounds_toArray, List.set_cons_zero, List.set_cons_succ]
  refine wpAnyK_one 27 (by kernel_rfl) rfl (fun K hK => ?_)
  go_simp
  refine (stvalid_z a' b' c' d' z2 _ HZ2.out).mono ?_
  rintro e x5 ⟨rfl, hx5⟩
  have E5 : Bx (Ext w x5) := ⟨E4.out.trans hx5⟩
  have S5 : Bx (SS w1.heap.size w2.heap.size a b c d a' b' c' d' x5) := ⟨S4.out.ext hx5⟩
  clear hx5 E4 S4
  refine hK.out _ _ (fun _ => S5.out) ?_
  clear hK K
  try simp only [Act.put, List.setIfInBounds_toArray, List.set_cons_zero, List.set_cons_succ]
  refine wpAnyK_one 29 (by kernel_rfl) rfl (fun K hK => ?_)
  go_simp
  refine (rstvalid_z a' b' c' d' z2 _ HZ2.out).mono ?_
  rintro e x6 ⟨rfl, hx6⟩
  have E6 : Bx (Ext w x6) := ⟨E5.out.trans hx6⟩
  have S6 : Bx (SS w1.heap.size w2.heap.size a b c d a' b' c' d' x6) := ⟨S5.out.ext hx6⟩
  clear hx6 E5 S5
  refine hK.out _ _ (fun _ => S6.out) ?_
  clear hK K
  try simp only [Act.put, List.setIfInBounds_toArray, List.set_cons_zero, List.set_cons_succ]
  refine wpAnyK_take 30 (some 81) (v := ?kv25) rfl rfl (by kernel_rfl) (by kernel_rfl) (by kernel_rfl) (by decide) (by kernel_rfl) (fun _ _ _ h => h) (by rfl) ?ky25 S6.out ?kr25
  case ky25 => ((intro wk hk); (try dsimp only at hk); go_simp; try with_reducible rfl)
  try simp only [Act.put, List.setIfInBounds_toArray, List.set_cons_zero, List.set_cons_succ]
  refine wpAnyK_take 31 (some 82) (v := ?kv26) rfl rfl (by kernel_rfl) (by kernel_rfl) (by kernel_rfl) (by decide) (by kernel_rfl) (fun _ _ _ h => h) (by rfl) ?ky26 S6.out ?kr26
  case ky26 => ((intro wk hk); (try dsimp only at hk); go_simp; try with_reducible rfl)
  try simp only [Act.put, List.setIfInBounds_toArray, List.set_cons_zero, List.set_cons_succ]
  refine wpAnyK_take 32 (some 83) (v := ?kv27) rfl rfl (by kernel_rfl) (by kernel_rfl) (by kernel_rfl) (by decide) (by kernel_rfl) (fun _ _ _ h => h) (by rfl) ?ky27 S6.out ?kr27
  case ky27 => ((intro wk hk); (try dsimp only at hk); go_simp; try with_reducible rfl)
  try simp only [Act.put, List.setIfInBounds_toArray, List.set_cons_zero, List.set_cons_succ]
  refine wpAnyK_one 33 (by kernel_rfl) rfl (fun K hK => ?_)
  go_simp
  refine (awake19_any _ (HT.out.ext E6.out)).mono ?_
  rintro e x7 ⟨rfl, hx7⟩
  have E7 : Bx (Ext w x7) := ⟨E6.out.trans hx7⟩
  have S7 : Bx (SS w1.heap.size w2.heap.size a b c d a' b' c' d' x7) := ⟨S6.out.ext hx7⟩
  clear hx7 E6 S6
  refine hK.out _ _ (fun _ => S7.out) ?_
  clear hK K
  try simp only [Act.put, List.setIfInBounds_toArray, List.set_cons_zero, List.set_cons_succ]
  refine wpAnyK_take 34 (some 85) (v := ?kv28) rfl rfl (by kernel_rfl) (by kernel_rfl) (by kernel_rfl) (by decide) (by kernel_rfl) (fun _ _ _ h => h) (by rfl) ?ky28 S7.out ?kr28
  case ky28 => ((intro wk hk); (try dsimp only at hk); go_simp; try with_reducible rfl)
  try simp only [Act.put, List.setIfInBounds_toArray, List.set_cons_zero, List.set_cons_succ]
  refine wpAnyK_one 35 (by kernel_rfl) rfl (fun K hK => ?_)
  go_simp
  refine hK.out _ _ (fun h => absurd rfl h) ?_
  clear hK K
  refine wpAnyK_done (by kernel_rfl) ?_ _
  go_wp2_with fail
  go_ret
  exact ⟨rfl, E7.out⟩
end Go.Proofs.YtcpanmonllhmaaaDoor
