/- The helpers of the laws on booklets: same, awake. -/
import Derived.Test.YtpbfbkkalemmiaaMake
import Derived.Test.YtpbfbkkalemmiaaRValid
import Derived.Test.YtpbfbkkalemmiaaRPageOf
import Derived.Test.YtpbfbkkalemmiaaInts
namespace Go.Proofs.Ytpbfbkkalemmiaa
open Go.RowKit

set_option maxHeartbeats 1600000 in
theorem same_any (va vb : Value) (a b : List (List Int)) (w : World) {p q : Nat} (ha : IsP p w va a) (hb : IsP q w vb b) :
    Calls Try.prog 20 #[.agg #[va], .agg #[vb]] w fun e w' => e = .returned (.bool (decide (a = b))) ∧ Ext w w' := by
  obtain ⟨A, n, c, rfl, hnc, hc, hnn, HL⟩ := ha.open_
  obtain ⟨B, n', c', rfl, hnc', hc', hnn', HL'⟩ := hb.open_
  have HE : Hid (Ext w ((w.alloc (.cells #[.slice A n c] 38)).alloc (.cells #[.slice B n' c'] 38))) := ((Ext.refl _).alloc _).alloc _
  have HA := Lib.hid (ha.ext (RI.stab p) HE.out)
  have HB := Lib.hid (hb.ext (RI.stab q) HE.out)
  clear ha hb
  by_cases hn : n = n'
  · subst hn
    have HW0 : Hid (∃ W, W = (w.alloc (.cells #[.slice A n c] 38)).alloc (.cells #[.slice B n c'] 38) ∧ W.cell? ⟨w.heap.size, 0, none⟩ = some (.slice A n c) ∧ W.cell? ⟨w.heap.size + 1, 0, none⟩ = some (.slice B n c')) := ⟨_, rfl, by simp, by simp⟩
    go_enter Try.func20, Try.ntmps20
    go_wp2_with fail
    obtain ⟨W, hW, c1, c2⟩ := HW0.out
    rw [← hW] at HE HA HB ⊢
    clear hW HW0
    have C1 := Lib.hid c1
    have C2 := Lib.hid c2
    clear c1 c2
    go_loopw [5] (fun i wr => ∃ (k : Nat), k ≤ n ∧ i = .int .i64 k ∧ Hid (EqTo a b k ∧ Ext W wr)) (fun i _ => n - (intOf i).toNat)
    case atStart => exact ⟨0, Nat.zero_le _, rfl, EqTo.zero _ _, Ext.refl _⟩
    case round =>
      obtain ⟨k, hk, rfl, HK⟩ := hrel
      have d1 := HK.out.2.cell C1.out
      have d2 := HK.out.2.cell C2.out
      by_cases hlt : k < n
      · obtain ⟨b1, o1, cs1, l1, rfl, _⟩ := HA.out.at_ hlt
        obtain ⟨b2, o2, cs2, l2, rfl, _⟩ := HB.out.at_ hlt
        obtain ⟨u, x, hcu, hIu, HX⟩ := (HA.out.ext (RI.stab p) HK.out.2).page hlt
        obtain ⟨v, y, hcv, hIv, HY⟩ := (HB.out.ext (RI.stab q) HK.out.2).page hlt
        have HU := Lib.hid hIu
        have HVV := Lib.hid hIv
        clear hIu hIv
        have hq : ∀ m, Calls Try.prog 32 #[u, v] (wr.drewN m) fun e w' => e = .returned (.bool (decide (x = y))) ∧ ∃ n, w' = (wr.drewN m).drewN n := fun m => ints_eq _ _ x y _ (HU.out.ext ((Ext.refl _).drewN _)) (HVV.out.ext ((Ext.refl _).drewN _))
        by_cases e : x = y
        · have E := Lib.hid e
          rw [decide_eq_true e] at hq
          have HQ := Lib.hid hq
          clear e hq
          go_wp2_with fail
          go_quiet ((go_at_call 32; exact Calls.quiet_of (HQ.out _)))
          go_wp2_with fail
          go_roundw
          case rel => exact ⟨k + 1, by omega, by go_num, HK.out.1.succ HX.out HY.out E.out, HK.out.2.drewN _⟩
          case measure => simp [intOf]; omega
        · have E := Lib.hid e
          rw [decide_eq_false e] at hq
          have HQ := Lib.hid hq
          clear e hq
          go_wp2_with fail
          go_quiet ((go_at_call 32; exact Calls.quiet_of (HQ.out _)))
          go_wp2_with fail
          go_ret
          exact ⟨ret_bool (by have := ne_at HX.out HY.out E.out; simp [this]), (HE.out.trans HK.out.2).drewN _⟩
      · obtain rfl : k = n := by omega
        go_wp2_with fail
        go_ret
        exact ⟨ret_bool (by have := HK.out.1.all HL.out HL'.out; simp [this]), HE.out.trans HK.out.2⟩
  · have e1 : ((n : Int) != (n' : Int)) = true := by simp; omega
    have HN : Hid (a ≠ b) := by rintro rfl; exact hn (HL.out.symm.trans HL'.out)
    clear hn
    go_enter Try.func20, Try.ntmps20
    go_wp2_with fail
    go_ret
    exact ⟨ret_bool (by have := HN.out; simp [this]), HE.out⟩
end Go.Proofs.Ytpbfbkkalemmiaa
