/- The document's Mul of whatever numbers, Inverse, Power. -/
import Derived.Test.YtcpanmonllhmaaaDoorGRsA
import Derived.Laws.Tables
set_option linter.unusedSimpArgs false
set_option linter.unusedVariables false
namespace Go.Proofs.YtcpanmonllhmaaaDoor
open Go.RowKit

set_option maxRecDepth 100000 in
set_option maxHeartbeats 4000000 in
theorem rmul_any (a b : Int) (w : World) (h1 : -9223372036854775808 ≤ a) (h2 : a ≤ 9223372036854775807) (h3 : -9223372036854775808 ≤ b) (h4 : b ≤ 9223372036854775807) :
    Calls Tryd.prog 91 #[.int .i64 a, .int .i64 b] w fun e w' => e = .returned (.int .i64 (mulZ a b)) ∧ w' = w := by
  rcases Bool.eq_false_or_eq_true (elB a) with ca | ca
  · rcases Bool.eq_false_or_eq_true (elB b) with cb | cb
    · unfold elB at ca cb
      simp only [Bool.and_eq_true, decide_eq_true_eq] at ca cb
      obtain ⟨x, rfl⟩ := Int.eq_ofNat_of_zero_le ca.1
      obtain ⟨y, rfl⟩ := Int.eq_ofNat_of_zero_le cb.1
      exact rmul_el x y w (by omega) (by omega)
    · have HZ : Hid (mulZ a b = 0) := by show _ = _; unfold mulZ; rw [cb]; simp
      go_enter Tryd.func91, Tryd.ntmps91
      go_wp2_with fail
      refine (relement_any a _ (by omega) (by omega)).mono ?_
      rintro e w1 ⟨rfl, rfl⟩
      rw [ca]
      go_wp2_with fail
      refine (relement_any b _ (by omega) (by omega)).mono ?_
      rintro e w1 ⟨rfl, rfl⟩
      rw [cb]
      go_wp2_with fail
      go_ret
      exact ⟨ret_int HZ.out.symm, rfl⟩
  · have HZ : Hid (mulZ a b = 0) := by show _ = _; unfold mulZ; rw [ca]; simp
    go_enter Tryd.func91, Tryd.ntmps91
    go_wp2_with (go_at_call 70; refine (relement_any a _ (by omega) (by omega)).mono ?_; rintro e w1 ⟨rfl, rfl⟩; rw [ca])
    go_ret
    exact ⟨ret_int HZ.out.symm, rfl⟩

theorem wpList_built {P : Program} {ops : Array Oper} {rest : List Oper} {o : Oper} {a : Act} {w : World} {Q : Exit → Act → World → Prop} (hg : o.guard = none) (t : TypeId) (parts : Array (Nat × Operand)) (ho : o.op = .build t parts) (cells : Array Value)
    (hb : P.built t (parts.map fun (i, x) => (i, a.eval x)).toList = some cells)
    (h : wpList P ops Q rest (a.put o.dst (.agg cells)) w) : wpList P ops Q (o :: rest) a w :=
  wpList_build hg t parts ho (by rw [hb]; rfl) (by rw [hb]; exact h)

/-- A whole row is stored into a new block. -/
theorem store_new {P : Program} (w : World) (t : TypeId) (z cells : Array Value) (ho : z.size = cells.size) (h1 : cells.all (·.oneCell') = true) :
    ∃ W, (storeCells ⟨w.heap.size, 0, none⟩ cells.toList).run P (w.alloc (.cells z t)) = .ok () W ∧ W.heap[w.heap.size]? = some (.cells cells t (0, 0)) ∧ Ext w W := by
  have hg : (w.alloc (.cells z t)).heap[w.heap.size]? = some (.cells z t (0, 0)) := heap_alloc_new w _
  have hs := run_storeCells_from (P := P) w.heap.size t cells.toList 0 z (w.alloc (.cells z t)) hg (by simp; omega) (fun v hv => (Array.all_eq_true_iff_forall_mem.1 h1) v (by simpa using hv))
  have e : (z.toList.take 0 ++ cells.toList).toArray = cells := by simp
  rw [e] at hs
  refine ⟨_, hs, setRow_heap _ _ _ _ _ _ hg, ?_⟩
  have h := (Ext.refl w).alloc (.cells z t)
  exact ⟨h.os, h.tape, h.output, by simp, fun k hk => by rw [setRow_other _ _ _ _ (by omega)]; exact h.block k hk⟩

theorem inv_uniq : ∀ (a b : Fin 32), mulN a.val b.val = 1 → ((b.val : Nat) : Int) = invZ (a.val : Int) := by decide +kernel
theorem inv_no : ∀ (a : Fin 32), (∀ b : Fin 32, mulN a.val b.val ≠ 1) → invZ (a.val : Int) = 0 := by decide +kernel
theorem mulN_zero (a : Nat) : mulN a 0 = 0 := by unfold mulN; split <;> simp

set_option maxRecDepth 100000 in
set_option maxHeartbeats 4000000 in
theorem rinverse_any (a : Int) (w : World) (h1 : -9223372036854775808 ≤ a) (h2 : a ≤ 9223372036854775807) :
    Calls Tryd.prog 90 #[.int .i64 a] w fun e w' => e = .returned (.int .i64 (invZ a)) ∧ w' = w := by
  go_enter Tryd.func90, Tryd.ntmps90
  go_wp2_with fail
  go_loopw [3] (fun i wr => ∃ (k : Nat), 1 ≤ k ∧ k ≤ 32 ∧ i = .int .i64 k ∧ Hid (∀ j : Nat, 1 ≤ j → j < k → mulZ a j ≠ 1) ∧ wr = w) (fun i _ => 32 - (intOf i).toNat)
  case atStart => exact ⟨1, by omega, by omega, rfl, fun j h1 h2 => by omega, rfl⟩
  case round =>
    obtain ⟨k, hk1, hk, rfl, HK, rfl⟩ := hrel
    by_cases h5 : k < 32
    · by_cases c : mulZ a k = 1
      · have e1 : (mulZ a k == 1) = true := by simp [c]
        have HC := Lib.hid c
        clear c
        go_wp2_with (go_at_call 91; refine (rmul_any a k _ (by omega) (by omega) (by omega) (by omega)).mono ?_; rintro e w1 ⟨rfl, rfl⟩)
        go_ret
        refine ⟨ret_int ?_, rfl⟩
        have h := HC.out
        have hm : (elB a && elB k) = true := by
          unfold mulZ at h
          split at h
          · assumption
          · cases h
        have ea : elB a = true := by simp only [Bool.and_eq_true] at hm; exact hm.1
        unfold elB at ea
        simp only [Bool.and_eq_true, decide_eq_true_eq] at ea
        obtain ⟨x, rfl⟩ := Int.eq_ofNat_of_zero_le ea.1
        rw [mulZ_el x k (by omega) h5] at h
        exact inv_uniq ⟨x, by omega⟩ ⟨k, h5⟩ (by simp only; omega)
      · have e1 : (mulZ a k == 1) = false := by simp [c]
        have HC := Lib.hid c
        clear c
        go_wp2_with (go_at_call 91; refine (rmul_any a k _ (by omega) (by omega) (by omega) (by omega)).mono ?_; rintro e w1 ⟨rfl, rfl⟩)
        go_roundw
        case rel =>
          refine ⟨k + 1, by omega, by omega, by go_num, fun j h1 h2 => ?_, trivial⟩
          by_cases e : j = k
          · subst e; exact HC.out
          · exact HK.out j h1 (by omega)
        case measure => simp [intOf]; omega
    · obtain rfl : k = 32 := by omega
      go_wp2_with fail
      go_ret
      refine ⟨ret_int ?_, rfl⟩
      rcases Bool.eq_false_or_eq_true (elB a) with ca | ca
      · unfold elB at ca
        simp only [Bool.and_eq_true, decide_eq_true_eq] at ca
        obtain ⟨x, rfl⟩ := Int.eq_ofNat_of_zero_le ca.1
        refine (inv_no ⟨x, by omega⟩ fun b hb => ?_).symm
        by_cases e : b.val = 0
        · rw [e, mulN_zero] at hb; cases hb
        · refine HK.out b.val (by omega) b.isLt ?_
          rw [mulZ_el x b.val (by omega) b.isLt]
          simp only at hb
          rw [hb]; rfl
      · unfold invZ; rw [ca]; rfl

set_option maxRecDepth 100000 in
set_option maxHeartbeats 4000000 in
theorem rpower_any (n : Int) (w : World) (h1 : -9223372036854775808 ≤ n) (h2 : n ≤ 9223372036854775807) :
    Calls Tryd.prog 88 #[.int .i64 n] w fun e w' => e = .returned (.int .i64 (powZ n)) ∧ Ext w w' := by
  have h0 : 0 ≤ n % 31 := Int.emod_nonneg _ (by decide)
  have h31 : n % 31 < 31 := Int.emod_lt_of_pos _ (by decide)
  have hb1 : -31 < n.tmod 31 := Int.lt_tmod_of_pos n (by decide)
  have hb2 : n.tmod 31 < 31 := Int.tmod_lt_of_pos n (by decide)
  have HE : Hid (n.tmod 31 = n % 31 ∨ n.tmod 31 + 31 = n % 31) := by
    have := @Int.tmod_eq_emod n 31
    show _ ∨ _
    split at this <;> omega
  obtain ⟨k, hk⟩ : ∃ k : Nat, n % 31 = k := ⟨(n % 31).toNat, by omega⟩
  have hk31 : k < 31 := by omega
  have HP : Hid (((pwL.getD k 0 : Nat) : Int) = powZ n) := by
    show _ = _
    unfold powZ
    rw [hk]; rfl
  obtain ⟨pc, hpc⟩ : ∃ pc, pc = (pwL.map fun (n : Nat) => Value.int .i64 (n : Int)).toArray := ⟨_, rfl⟩
  have hps : pc.size = 31 := by rw [hpc]; rfl
  have hp1 : pc.all (·.oneCell') = true := by rw [hpc]; decide +kernel
  have hpk : pc[k]? = some (.int .i64 ((pwL.getD k 0 : Nat) : Int)) := by
    rw [hpc, List.getElem?_toArray, List.getElem?_map, List.getD_eq_getElem?_getD, List.getElem?_eq_getElem (show k < pwL.length from hk31)]; rfl
  have hzv : ∀ w, (zeroValue 95).run Tryd.prog w = .ok (.agg (List.replicate 31 (Value.int .i64 0)).toArray) w := fun _ => by kernel_rfl
  obtain ⟨z, hz⟩ : ∃ z, z = (List.replicate 31 (Value.int .i64 0)).toArray := ⟨_, rfl⟩
  rw [← hz] at hzv
  have hzs : z.size = 31 := by rw [hz]; simp
  have HPC := Lib.hid hpc
  clear hz hpc
  obtain ⟨W, hst, hWb, hWE⟩ := store_new (P := Tryd.prog) w 95 z pc (by omega) hp1
  have HW := Lib.hid hWE
  have hck := blk_cell hWb hpk
  clear hWE hWb
  by_cases c : n.tmod 31 < 0
  · have e1 : n.tmod 31 + 31 = (k : Int) := by have := HE.out; omega
    clear hk h0 h31
    go_enter Tryd.func88, Tryd.ntmps88
    go_upto_region 4 with (fail)
    refine wp_region_lit ?_
    refine wpList_built rfl 95 _ rfl pc (by rw [HPC.out]; kernel_rfl) ?_
    go_wp2_with fail
    go_ret
    exact ⟨ret_int HP.out, HW.out⟩
  · have e1 : n.tmod 31 = (k : Int) := by have := HE.out; omega
    clear hk h0 h31
    go_enter Tryd.func88, Tryd.ntmps88
    go_upto_region 4 with (fail)
    refine wp_region_lit ?_
    refine wpList_built rfl 95 _ rfl pc (by rw [HPC.out]; kernel_rfl) ?_
    go_wp2_with fail
    go_ret
    exact ⟨ret_int HP.out, HW.out⟩
end Go.Proofs.YtcpanmonllhmaaaDoor
