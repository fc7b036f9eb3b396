/- slices.Repeat of one number. -/
import Derived.Test.YtndmadohffcdiaaTape
import Derived.Test.YtndmadohffcdiaaBaseB
import Derived.Laws.CopyOwn
import Derived.Test.YtndmadohffcdiaaOrders
namespace Go.Proofs.Ytndmadohffcdiaa
open Go.RowKit

set_option maxHeartbeats 4000000 in
theorem mul64_one (n : Nat) (w : World) (hn : n ≤ 24) :
    Calls Try.prog 67 #[.int .u64 1, .int .u64 n] w fun e w' => e = .returned (.tuple #[.int .u64 0, .int .u64 n]) ∧ w = w' := by
  have h : n = 0 ∨ n = 1 ∨ n = 2 ∨ n = 3 ∨ n = 4 ∨ n = 5 ∨ n = 6 ∨ n = 7 ∨ n = 8 ∨ n = 9 ∨ n = 10 ∨ n = 11 ∨ n = 12 ∨ n = 13 ∨ n = 14 ∨ n = 15 ∨ n = 16 ∨ n = 17 ∨ n = 18 ∨ n = 19 ∨ n = 20 ∨ n = 21 ∨ n = 22 ∨ n = 23 ∨ n = 24 := by omega
  clear hn
  rcases h with rfl | rfl | rfl | rfl | rfl | rfl | rfl | rfl | rfl | rfl | rfl | rfl | rfl | rfl | rfl | rfl | rfl | rfl | rfl | rfl | rfl | rfl | rfl | rfl | rfl
  all_goals
    go_enter Try.func67, Try.ntmps67
    go_wp2
    go_ret2
    exact ⟨rfl, rfl⟩
theorem mul_one_any (n : Nat) (w : World) (hn : n ≤ 24) :
    Calls Try.prog 63 #[.int .u64 1, .int .u64 n] w fun e w' => e = .returned (.tuple #[.int .u64 0, .int .u64 n]) ∧ w = w' := by
  go_enter Try.func63, Try.ntmps63
  go_wp2_with (go_at_call 67; refine (mul64_one n _ hn).mono ?_; rintro e w' ⟨rfl, rfl⟩)
  go_ret2
  exact ⟨rfl, rfl⟩

/-- The first k of n cells hold x. -/
def rp (x : Int) (n k : Nat) : List Value := List.replicate k (.int .i64 x) ++ List.replicate (n - k) (.int .i64 0)
theorem rp_len {x : Int} {n k : Nat} (h : k ≤ n) : (rp x n k).length = n := by simp [rp]; omega
theorem rp_splice {x : Int} {n k m : Nat} (h : k + m ≤ n) : splice (rp x n k) k (List.replicate m (.int .i64 x)) = rp x n (k + m) := by
  unfold splice rp
  rw [List.take_left' (by simp), List.length_replicate, List.drop_append, List.drop_eq_nil_of_le (by simp), List.length_replicate, List.nil_append, List.drop_replicate, ← List.append_assoc, List.replicate_append_replicate]
  congr 2
  omega
theorem rp_cell {x : Int} {n k j : Nat} (h : j < k) : (rp x n k)[j]? = some (.int .i64 x) := by
  unfold rp; rw [List.getElem?_append_left (by simpa using h)]; simp [h]
theorem made_ints (n : Nat) : madeCells #[.int .i64 0] n = (rp 0 n 0).toArray := by
  apply Array.ext
  · simp [size_madeCells, rp]
  · intro i h1 h2
    simp [madeCells, rp, Nat.mod_one]
theorem rp_zero (x y : Int) (n : Nat) : rp x n 0 = rp y n 0 := by simp [rp]

set_option maxHeartbeats 4000000 in
theorem repeat_any (b o c n : Nat) (x : Int) (w : World) (hn : n ≤ 24) (hc : w.cell? ⟨b, o, none⟩ = some (.int .i64 x)) (hc1 : 1 ≤ c) (hc2 : c ≤ 9223372036854775807) :
    Calls Try.prog 52 #[.slice (some ⟨b, o, none⟩) 1 c, .int .i64 n] w fun e w' => ∃ v, e = .returned v ∧ w'.ownsRow w.heap.size 3 1 v n ((List.replicate n x).map (Value.int .i64)) ∧ Ext w w' := by
  obtain ⟨i0, hi0, hz0, hz1, hz2⟩ := info_parts Try.infoI
  have hsz : (Try.prog.info? 3).map (·.size) = some 1 := by kernel_rfl
  have hmk : (Instr.makeSlice 28 (.int .i64 (n : Int)) (.int .i64 (n : Int))).run Try.prog w = .ok (.slice (some ⟨w.heap.size, 0, none⟩) n n) (w.alloc (.cells (rp x n 0).toArray 3)) := by
    have := run_make (P := Try.prog) w 28 3 i0 _ Try.underlying28 hi0 hz0 .i64 .i64 (n : Int) (n : Int) (by omega) (by omega) (by rw [hz2]; omega) (by omega)
    rw [this, hz1]
    simp only [Int.toNat_natCast, Nat.mul_one, Value.cells]
    rw [made_ints, rp_zero 0 x]
  have hd1 : decide ((n : Int) < 0) = false := by simp
  have hd2 : decide ((9223372036854775807 : Int) < (n : Int)) = false := by simp; omega
  have HC := Lib.hid (Ext.cell ((Ext.refl w).alloc (.cells (rp x n 0).toArray 3)) hc)
  have HG0 := Lib.hid (heap_alloc_new w (.cells (rp x n 0).toArray 3))
  have HE0 := Lib.hid ((Ext.refl w).alloc (.cells (rp x n 0).toArray 3))
  generalize hcur : rp x n 0 = cur at hmk HC HG0 HE0
  have HCU := Lib.hid hcur
  clear hcur hz0
  go_enter Try.func52, Try.ntmps52
  have hm1 : Nat.min 1 n ≤ n := Nat.min_le_right _ _
  have hm2 : Nat.min 1 n ≤ 1 := Nat.min_le_left _ _
  generalize hm : Nat.min 1 n = m at hm1 hm2
  have HM := Lib.hid hm
  clear hm
  go_wp2_with (first
    | (go_at_call 63; refine (mul_one_any n _ hn).mono ?_; rintro e w' ⟨rfl, rfl⟩)
    | (refine wpList_copy_splice rfl (.tmp 31) (.tmp 32) 28 28 rfl 3 Try.underlying28 hsz (some ⟨w.heap.size, 0, none⟩) (some ⟨b, o, none⟩) n n 1 c rfl rfl w.heap.size 0 cur 3 HG0.out (List.replicate m (.int .i64 x)) (by rw [HM.out]; simp) (fun _ => ⟨rfl, _, rfl, fun j v hj => by obtain ⟨h1, h2⟩ := List.getElem?_eq_some_iff.1 hj; simp at h1 h2; subst h2; obtain rfl : j = 0 := (by omega); exact HC.out⟩) (by rw [← HCU.out, rp_len (by omega)]; simp; exact hm1) (by simp [Value.oneCell']) w.heap.size w HE0.out (Nat.le_refl _) ?_; intro w2 hg2 hb2))
  have hg2' : Hid (w2.heap[w.heap.size]? = some (.cells (rp x n m).toArray 3 (0, 0))) := by
    have := hg2.out
    rw [← HCU.out, rp_splice (k := 0) (by omega), Nat.zero_add] at this
    exact this
  have hb2' : Hid (Ext w w2) := hb2
  clear hg2 hb2 HG0 HE0 HC hmk hc
  have hmn : m = n ∨ 0 < m := by have h1 := HM.out; have h2 : Nat.min 1 n = min 1 n := rfl; omega
  go_loopw [8] (fun s8 wr => ∃ k : Nat, s8 = .int .i64 k ∧ k ≤ n ∧ (k = n ∨ 0 < k) ∧ Hid (wr.heap[w.heap.size]? = some (.cells (rp x n k).toArray 3 (0, 0)) ∧ Ext w wr)) (fun i _ => n - (intOf i).toNat)
  case atStart => exact ⟨m, rfl, hm1, hmn, hg2'.out, hb2'.out⟩
  case round =>
    obtain ⟨k, rfl, hk, hk0, HR⟩ := hrel
    clear hg2' hb2'
    by_cases hkn : k < n
    · have hkp : 0 < k := by omega
      clear hk0
      have hd5 : (0 : Int) ≤ (k : Int) := by omega
      have hd6 : (k : Int) ≤ (n : Int) := by omega
      have hd7 : ¬ n = k := by omega
      have hq1 : Nat.min k (n - k) ≤ n - k := Nat.min_le_right _ _
      have hq2 : Nat.min k (n - k) ≤ k := Nat.min_le_left _ _
      have hq3 : 0 < Nat.min k (n - k) := by have : Nat.min k (n - k) = min k (n - k) := rfl; omega
      generalize hq : Nat.min k (n - k) = q at hq1 hq2 hq3
      have HQ := Lib.hid hq
      clear hq
      have hwr : IntKind.i64.wrap ((k : Int) + (q : Int)) = (k : Int) + (q : Int) := IntWalk.i64_in _ (by omega)
      go_wp2_with fail
      have hS : (fun _ : World => True) wr.drew := trivial
      refine wp_region_k 99 (fun _ => True) (by kernel_rfl) ?_
      refine wpAnyK_take 0 (some 38) (v := ?kv1) rfl rfl (by kernel_rfl) (by kernel_rfl) (by kernel_rfl) (by decide) (by kernel_rfl) (fun _ _ _ h => h) (by rfl) ?ky1 trivial ?kr1
      case ky1 => ((intro wk hk); (try dsimp only at hk); go_simp; try with_reducible rfl)
      try simp only [Act.put, List.setIfInBounds_toArray, List.set_cons_zero, List.set_cons_succ]
      refine wpAnyK_take 1 (some 39) (v := ?kv2) rfl rfl (by kernel_rfl) (by kernel_rfl) (by kernel_rfl) (by decide) (by kernel_rfl) (fun _ _ _ h => h) (by rfl) ?ky2 trivial ?kr2
      case ky2 => ((intro wk hk); (try dsimp only at hk); go_simp; try with_reducible rfl)
      try simp only [Act.put, List.setIfInBounds_toArray, List.set_cons_zero, List.set_cons_succ]
      refine wpAnyK_take 2 (some 40) (v := ?kv3) rfl rfl (by kernel_rfl) (by kernel_rfl) (by kernel_rfl) (by decide) (by kernel_rfl) (fun _ _ _ h => h) (by rfl) ?ky3 trivial ?kr3
      case ky3 => ((intro wk hk); (try dsimp only at hk); go_simp; try with_reducible rfl)
      try simp only [Act.put, List.setIfInBounds_toArray, List.set_cons_zero, List.set_cons_succ]
      refine wpAnyK_take 3 (some 41) (v := ?kv4) rfl rfl (by kernel_rfl) (by kernel_rfl) (by kernel_rfl) (by decide) (by kernel_rfl) (fun _ _ _ h => h) (by rfl) ?ky4 trivial ?kr4
      case ky4 => ((intro wk hk); (try dsimp only at hk); go_simp; try with_reducible rfl)
      try simp only [Act.put, List.setIfInBounds_toArray, List.set_cons_zero, List.set_cons_succ]
      refine wpAnyK_take 4 (some 42) (v := ?kv5) rfl rfl (by kernel_rfl) (by kernel_rfl) (by kernel_rfl) (by decide) (by kernel_rfl) (fun _ _ _ h => h) (by rfl) ?ky5 trivial ?kr5
      case ky5 => ((intro wk hk); (try dsimp only at hk); go_simp; try with_reducible rfl)
      try simp only [Act.put, List.setIfInBounds_toArray, List.set_cons_zero, List.set_cons_succ]
      refine wpAnyK_take 5 (some 43) (v := ?kv6) rfl rfl (by kernel_rfl) (by kernel_rfl) (by kernel_rfl) (by decide) (by kernel_rfl) (fun _ _ _ h => h) (by rfl) ?ky6 trivial ?kr6
      case ky6 => ((intro wk hk); (try dsimp only at hk); go_simp; try with_reducible rfl)
      try simp only [Act.put, List.setIfInBounds_toArray, List.set_cons_zero, List.set_cons_succ]
      refine wpAnyK_take 6 (some 44) (v := ?kv7) rfl rfl (by kernel_rfl) (by kernel_rfl) (by kernel_rfl) (by decide) (by kernel_rfl) (fun _ _ _ h => h) (by rfl) ?ky7 trivial ?kr7
      case ky7 => ((intro wk hk); (try dsimp only at hk); go_simp; try with_reducible rfl)
      try simp only [Act.put, List.setIfInBounds_toArray, List.set_cons_zero, List.set_cons_succ]
      refine wpAnyK_one 7 (by kernel_rfl) rfl (fun K hK => ?_)
      refine step_copy_splice rfl (.tmp 41) (.tmp 44) 28 28 rfl 3 Try.underlying28 hsz (some ⟨w.heap.size, k, none⟩) (some ⟨w.heap.size, 0, none⟩) (n - k) (n - k) k n rfl rfl w.heap.size k (rp x n k) 3 HR.out.1 (List.replicate q (.int .i64 x)) (by rw [HQ.out]; simp) (fun _ => ⟨rfl, _, rfl, fun j v hj => ?_⟩) (by rw [rp_len hk]; simp; omega) (by simp [Value.oneCell']) w.heap.size w HR.out.2.drew (Nat.le_refl _) ?_
      · obtain ⟨h1, h2⟩ := List.getElem?_eq_some_iff.1 hj
        simp at h1 h2
        subst h2
        rw [add_some, Nat.zero_add]
        exact (cell_of_row wr.drew w.heap.size j _ 3 (0, 0) HR.out.1).trans (by simpa using rp_cell (x := x) (n := n) (show j < k by omega))
      intro w3 hg3 hb3
      refine hK.out _ _ (fun _ => trivial) ?_
      clear hK K
      try simp only [Act.put, List.setIfInBounds_toArray, List.set_cons_zero, List.set_cons_succ]
      refine wpAnyK_take 8 (some 46) (v := ?kv8) rfl rfl (by kernel_rfl) (by kernel_rfl) (by kernel_rfl) (by decide) (by kernel_rfl) (fun _ _ _ h => h) (by rfl) ?ky8 trivial ?kr8
      case ky8 => ((intro wk hk); (try dsimp only at hk); go_simp; try with_reducible rfl)
      try simp only [Act.put, List.setIfInBounds_toArray, List.set_cons_zero, List.set_cons_succ]
      refine wpAnyK_one 9 (by kernel_rfl) rfl (fun K hK => ?_)
      go_simp
      refine hK.out _ _ (fun _ => trivial) ?_
      clear hK K
      try simp only [Act.put, List.setIfInBounds_toArray, List.set_cons_zero, List.set_cons_succ]
      refine wpAnyK_done (by kernel_rfl) ?_ _
      have HG3 : Hid (w3.heap[w.heap.size]? = some (.cells (rp x n (k + q)).toArray 3 (0, 0))) := by
        have := hg3.out
        rw [rp_splice (by omega)] at this
        exact this
      have HE3 : Hid (Ext w w3) := hb3
      clear hg3 hb3 hwr hS
      go_wp2_with fail
      go_roundw
      case rel => exact ⟨k + q, by simp, by omega, by omega, HG3.out, HE3.out⟩
      case measure => simp [intOf]; omega
    · obtain rfl : k = n := by omega
      go_wp2_with fail
      go_ret
      refine ⟨_, rfl, ⟨by simp, .inr ⟨w.heap.size, k, _, rfl, Nat.le_refl _, HR.out.1, Nat.le_refl _, by unfold maxLen; omega, by simp [rp], ?_⟩⟩, HR.out.2⟩
      simp [rp]
end Go.Proofs.Ytndmadohffcdiaa
