/- Both Distance functions. -/
import Derived.Test.YtlabmdekdhjofaaDoorInts
namespace Go.Proofs.YtlabmdekdhjofaaDoor
open Go.RowKit

/-- In how many of the first k places two lists differ. -/
def dfTo (a b : List Int) : Nat → Int
  | 0 => 0
  | k + 1 => dfTo a b k + (if a[k]? = b[k]? then 0 else 1)
def distZ (a b : List Int) : Int := if a.length ≠ b.length then -1 else dfTo a b a.length
theorem dfTo_eq {a b : List Int} {k : Nat} {x y : Int} (hx : a[k]? = some x) (hy : b[k]? = some y) (e : x = y) : dfTo a b (k + 1) = dfTo a b k := by
  show dfTo a b k + _ = _
  rw [hx, hy, e, if_pos rfl, Int.add_zero]
theorem dfTo_ne {a b : List Int} {k : Nat} {x y : Int} (hx : a[k]? = some x) (hy : b[k]? = some y) (e : x ≠ y) : dfTo a b (k + 1) = dfTo a b k + 1 := by
  show dfTo a b k + _ = _
  rw [hx, hy, if_neg (fun h => e (Option.some.inj h))]
theorem dfTo_self (a : List Int) (k : Nat) : dfTo a a k = 0 := by
  induction k with
  | zero => rfl
  | succ k ih => show dfTo a a k + _ = 0; rw [ih, if_pos rfl]; rfl
theorem distZ_self (a : List Int) : distZ a a = 0 := by unfold distZ; rw [if_neg (by simp)]; exact dfTo_self a _

set_option maxHeartbeats 1000000 in
theorem dist_any (va vb : Value) (a b : List Int) (w : World) {p q : Nat} (ha : IsI p w va a) (hb : IsI q w vb b) (hal : a.length ≤ 1000000) :
    Calls Tryd.prog 36 #[va, vb] w fun e w' => e = .returned (.int .i64 (distZ a b)) ∧ ∃ m, w' = w.drewN m := by
  obtain ⟨A, n, c, rfl, hnc, hc, hnn, HL⟩ := ha.open_
  obtain ⟨B, n', c', rfl, hnc', hc', hnn', HL'⟩ := hb.open_
  have HA := Lib.hid ha
  have HB := Lib.hid hb
  have hn6 : n ≤ 1000000 := by have := HL.out; omega
  clear ha hb hal
  by_cases hn : n = n'
  · subst hn
    have HD : Hid (distZ a b = dfTo a b n) := by show _ = _; unfold distZ; rw [if_neg (by rw [HL.out, HL'.out]; simp), HL.out]
    go_enter Tryd.func36, Tryd.ntmps36
    go_wp2_with fail
    go_loopw [5, 14] (fun s i wr => ∃ (k m : Nat) (d : Int), k ≤ n ∧ i = .int .i64 k ∧ s = .int .i64 d ∧ 0 ≤ d ∧ d ≤ k ∧ Hid (d = dfTo a b k) ∧ wr = w.drewN m) (fun _ i _ => n - (intOf i).toNat)
    case atStart => exact ⟨0, 0, 0, Nat.zero_le _, rfl, rfl, by omega, by omega, rfl, rfl⟩
    case round =>
      obtain ⟨k, m, d, hk, rfl, rfl, hd0, hd1, HK, rfl⟩ := hrel
      by_cases hlt : k < n
      · obtain ⟨b1, o1, x, rfl, hcx, HX, hx1, hx2⟩ := HA.out.at_ hlt
        obtain ⟨b2, o2, y, rfl, hcy, HY, hy1, hy2⟩ := HB.out.at_ hlt
        by_cases e : x = y
        · have e1 : (x != y) = false := by simp [e]
          have HS := Lib.hid (dfTo_eq HX.out HY.out e)
          clear e
          go_wp2_with fail
          go_quiet (fail)
          go_wp2_with fail
          go_roundw
          case rel => exact ⟨k + 1, _, d, by omega, by go_num, rfl, by omega, by omega, by rw [HS.out]; exact HK.out, rfl⟩
          case measure => simp [intOf]; omega
        · have e1 : (x != y) = true := by simp [e]
          have HS := Lib.hid (dfTo_ne HX.out HY.out e)
          clear e
          go_wp2_with fail
          go_quiet (fail)
          go_wp2_with fail
          go_roundw
          case rel => exact ⟨k + 1, _, d + 1, by omega, by go_num, rfl, by omega, by omega, by rw [HS.out, ← HK.out]; rfl, rfl⟩
          case measure => simp [intOf]; omega
      · obtain rfl : k = n := by omega
        go_wp2_with fail
        go_ret
        exact ⟨ret_int (by rw [HD.out]; exact HK.out), _, rfl⟩
  · have e1 : ((n : Int) != (n' : Int)) = true := by simp; omega
    have HD : Hid (distZ a b = -1) := by show _ = _; unfold distZ; rw [if_pos (by rw [HL.out, HL'.out]; simpa using hn)]
    clear hn
    go_enter Tryd.func36, Tryd.ntmps36
    go_wp2_with fail
    go_ret
    exact ⟨ret_int HD.out.symm, 0, rfl⟩
set_option maxHeartbeats 1000000 in
theorem rdist_any (va vb : Value) (a b : List Int) (w : World) {p q : Nat} (ha : IsI p w va a) (hb : IsI q w vb b) (hal : a.length ≤ 1000000) :
    Calls Tryd.prog 37 #[va, vb] w fun e w' => e = .returned (.int .i64 (distZ a b)) ∧ ∃ m, w' = w.drewN m := by
  obtain ⟨A, n, c, rfl, hnc, hc, hnn, HL⟩ := ha.open_
  obtain ⟨B, n', c', rfl, hnc', hc', hnn', HL'⟩ := hb.open_
  have HA := Lib.hid ha
  have HB := Lib.hid hb
  have hn6 : n ≤ 1000000 := by have := HL.out; omega
  clear ha hb hal
  by_cases hn : n = n'
  · subst hn
    have HD : Hid (distZ a b = dfTo a b n) := by show _ = _; unfold distZ; rw [if_neg (by rw [HL.out, HL'.out]; simp), HL.out]
    go_enter Tryd.func37, Tryd.ntmps37
    go_wp2_with fail
    go_loopw [5, 6] (fun s i wr => ∃ (k m : Nat) (d : Int), k ≤ n ∧ i = .int .i64 k ∧ s = .int .i64 d ∧ 0 ≤ d ∧ d ≤ k ∧ Hid (d = dfTo a b k) ∧ wr = w.drewN m) (fun _ i _ => n - (intOf i).toNat)
    case atStart => exact ⟨0, 0, 0, Nat.zero_le _, rfl, rfl, by omega, by omega, rfl, rfl⟩
    case round =>
      obtain ⟨k, m, d, hk, rfl, rfl, hd0, hd1, HK, rfl⟩ := hrel
      by_cases hlt : k < n
      · obtain ⟨b1, o1, x, rfl, hcx, HX, hx1, hx2⟩ := HA.out.at_ hlt
        obtain ⟨b2, o2, y, rfl, hcy, HY, hy1, hy2⟩ := HB.out.at_ hlt
        by_cases e : x = y
        · have e1 : (x != y) = false := by simp [e]
          have HS := Lib.hid (dfTo_eq HX.out HY.out e)
          clear e
          go_wp2_with fail
          go_quiet (fail)
          go_wp2_with fail
          go_roundw
          case rel => exact ⟨k + 1, _, d, by omega, by go_num, rfl, by omega, by omega, by rw [HS.out]; exact HK.out, rfl⟩
          case measure => simp [intOf]; omega
        · have e1 : (x != y) = true := by simp [e]
          have HS := Lib.hid (dfTo_ne HX.out HY.out e)
          clear e
          go_wp2_with fail
          go_quiet (fail)
          go_wp2_with fail
          go_roundw
          case rel => exact ⟨k + 1, _, d + 1, by omega, by go_num, rfl, by omega, by omega, by rw [HS.out, ← HK.out]; rfl, rfl⟩
          case measure => simp [intOf]; omega
      · obtain rfl : k = n := by omega
        go_wp2_with fail
        go_ret
        exact ⟨ret_int (by rw [HD.out]; exact HK.out), _, rfl⟩
  · have e1 : ((n : Int) != (n' : Int)) = true := by simp; omega
    have HD : Hid (distZ a b = -1) := by show _ = _; unfold distZ; rw [if_pos (by rw [HL.out, HL'.out]; simpa using hn)]
    clear hn
    go_enter Tryd.func37, Tryd.ntmps37
    go_wp2_with fail
    go_ret
    exact ⟨ret_int HD.out.symm, 0, rfl⟩
theorem dist_ext (va vb : Value) (a b : List Int) (w : World) {p q : Nat} (ha : IsI p w va a) (hb : IsI q w vb b) (hal : a.length ≤ 1000000) :
    Calls Tryd.prog 36 #[va, vb] w fun e w' => e = .returned (.int .i64 (distZ a b)) ∧ Ext w w' :=
  (dist_any va vb a b w ha hb hal).mono fun _ _ ⟨he, m, hm⟩ => ⟨he, by rw [hm]; exact (Ext.refl _).drewN _⟩
theorem rdist_ext (va vb : Value) (a b : List Int) (w : World) {p q : Nat} (ha : IsI p w va a) (hb : IsI q w vb b) (hal : a.length ≤ 1000000) :
    Calls Tryd.prog 37 #[va, vb] w fun e w' => e = .returned (.int .i64 (distZ a b)) ∧ Ext w w' :=
  (rdist_any va vb a b w ha hb hal).mono fun _ _ ⟨he, m, hm⟩ => ⟨he, by rw [hm]; exact (Ext.refl _).drewN _⟩
end Go.Proofs.YtlabmdekdhjofaaDoor
