/- The comparison of two lists of ints. -/
import Derived.Test.YtcpanmonllhmaaaDoorBaseC
import Derived.Test.YtcpanmonllhmaaaDoorRows
set_option linter.unusedSimpArgs false
set_option linter.unusedVariables false
namespace Go.Proofs.YtcpanmonllhmaaaDoor
open Go.RowKit

/-- The first k elements of two lists are the same. -/
def EqTo {α : Type} (a b : List α) (k : Nat) : Prop := ∀ j, j < k → a[j]? = b[j]?
section
variable {α : Type} {a b : List α} {k : Nat} {x y : α}
theorem EqTo.zero (a b : List α) : EqTo a b 0 := fun j hj => by omega
theorem EqTo.succ (h : EqTo a b k) (hx : a[k]? = some x) (hy : b[k]? = some y) (e : x = y) : EqTo a b (k + 1) := by
  intro j hj
  by_cases c : j = k
  · subst c; rw [hx, hy, e]
  · exact h j (by omega)
theorem EqTo.all {n : Nat} (h : EqTo a b n) (ha : a.length = n) (hb : b.length = n) : a = b := by
  apply List.ext_getElem?
  intro j
  rcases Nat.lt_or_ge j n with hj | hj
  · exact h j hj
  · rw [List.getElem?_eq_none (by omega), List.getElem?_eq_none (by omega)]
theorem ne_at (hx : a[k]? = some x) (hy : b[k]? = some y) (e : x ≠ y) : a ≠ b := by
  rintro rfl; rw [hx] at hy; exact e (Option.some.inj hy)
end

set_option maxRecDepth 100000 in
set_option maxHeartbeats 800000 in
theorem ints_eq (va vb : Value) (a b : List Int) (w : World) {p q : Nat} (ha : IsI p w va a) (hb : IsI q w vb b) :
    Calls Tryd.prog 16 #[va, vb] w fun e w' => e = .returned (.bool (decide (a = b))) ∧ ∃ m, w' = w.drewN m := by
  obtain ⟨A, n, c, rfl, hnc, hc, hnn, HL⟩ := ha.open_
  obtain ⟨B, n', c', rfl, hnc', hc', hnn', HL'⟩ := hb.open_
  have HA := Lib.hid ha
  have HB := Lib.hid hb
  clear ha hb
  by_cases hn : n = n'
  · subst hn
    go_enter Tryd.func16, Tryd.ntmps16
    go_wp2_with fail
    go_loopw [5] (fun i wr => ∃ (k m : Nat), k ≤ n ∧ i = .int .i64 k ∧ Hid (EqTo a b k) ∧ wr = w.drewN m) (fun i _ => n - (intOf i).toNat)
    case atStart => exact ⟨0, 0, Nat.zero_le _, rfl, EqTo.zero _ _, rfl⟩
    case round =>
      obtain ⟨k, m, hk, rfl, HK, rfl⟩ := hrel
      by_cases hlt : k < n
      · obtain ⟨b1, o1, x, rfl, hcx, HX, hx1, hx2⟩ := HA.out.at_ hlt
        obtain ⟨b2, o2, y, rfl, hcy, HY, hy1, hy2⟩ := HB.out.at_ hlt
        by_cases e : x = y
        · have e1 : (x != y) = false := by simp [e]
          have E := Lib.hid e
          clear e
          go_wp2_with fail
          go_quiet (fail)
          go_wp2_with fail
          go_roundw
          case rel => exact ⟨k + 1, _, by omega, by go_num, HK.out.succ HX.out HY.out E.out, rfl⟩
          case measure => simp [intOf]; omega
        · have e1 : (x != y) = true := by simp [e]
          have E := Lib.hid e
          clear e
          go_wp2_with fail
          go_quiet (fail)
          go_wp2_with fail
          go_ret
          exact ⟨ret_bool (by have := ne_at HX.out HY.out E.out; simp [this]), _, World.drewN_drewN _ _ _⟩
      · obtain rfl : k = n := by omega
        go_wp2_with fail
        go_ret
        exact ⟨ret_bool (by have := HK.out.all HL.out HL'.out; simp [this]), _, rfl⟩
  · have e1 : ((n : Int) != (n' : Int)) = true := by simp; omega
    have HN : Hid (a ≠ b) := by rintro rfl; exact hn (HL.out.symm.trans HL'.out)
    clear hn
    go_enter Tryd.func16, Tryd.ntmps16
    go_wp2_with fail
    go_ret
    exact ⟨ret_bool (by have := HN.out; simp [this]), 0, rfl⟩
theorem ints_ext (va vb : Value) (a b : List Int) (w : World) {p q : Nat} (ha : IsI p w va a) (hb : IsI q w vb b) :
    Calls Tryd.prog 16 #[va, vb] w fun e w' => e = .returned (.bool (decide (a = b))) ∧ Ext w w' :=
  (ints_eq va vb a b w ha hb).mono fun _ _ ⟨he, m, hm⟩ => ⟨he, by rw [hm]; exact (Ext.refl _).drewN _⟩
end Go.Proofs.YtcpanmonllhmaaaDoor
