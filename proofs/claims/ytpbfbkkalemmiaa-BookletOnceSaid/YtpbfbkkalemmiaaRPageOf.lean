/- The reference's PageOf. -/
import Derived.Test.YtpbfbkkalemmiaaPageOf
namespace Go.Proofs.Ytpbfbkkalemmiaa
open Go.RowKit

set_option maxHeartbeats 400000 in
theorem has_any (v : Value) (l : List Int) (x : Int) (w : World) {p : Nat} (h : IsI p w v l) :
    Calls Try.prog 44 #[v, .int .i64 x] w fun e w' => e = .returned (.bool (hasB x l)) ∧ w = w' := by
  obtain ⟨A, n, c, rfl, hnc, hc, hnn, HL⟩ := h.open_
  have H := Lib.hid h
  clear h
  go_enter Try.func44, Try.ntmps44
  go_wp2
  go_loop [5] (fun i => ∃ k : Nat, k ≤ n ∧ i = .int .i64 k ∧ Hid (NoneTo (fun y => decide (y = x)) l k)) (fun i => n - (intOf i).toNat)
  case atStart => exact ⟨0, Nat.zero_le _, rfl, NoneTo.zero _ _⟩
  case round =>
    obtain ⟨k, hk, rfl, HK⟩ := hrel
    by_cases hlt : k < n
    · obtain ⟨b, off, y, rfl, hcy, HY, hy1, hy2⟩ := H.out.at_ hlt
      by_cases e : y = x
      · have e1 : (y == x) = true := by simp [e]
        have E := Lib.hid e
        clear e
        go_wp2
        go_ret
        exact ⟨ret_bool (any_hit HY.out (by simp [E.out])), rfl⟩
      · have e1 : (y == x) = false := by simp [e]
        have E := Lib.hid e
        clear e
        go_wp2
        go_round
        case rel => exact ⟨k + 1, by omega, by go_num, HK.out.succ HY.out (by simp; exact E.out)⟩
        case measure => simp [intOf]; omega
    · obtain rfl : k = n := by omega
      go_wp2
      go_ret
      exact ⟨ret_bool (any_miss HL.out HK.out), rfl⟩

set_option maxHeartbeats 800000 in
theorem rpageOf_any (v : Value) (pgs : List (List Int)) (x : Int) (w : World) {p : Nat} (h : IsP p w v pgs) :
    Calls Try.prog 26 #[.agg #[v], .int .i64 x] w fun e w' => e = .returned (.int .i64 (pageOf pgs x)) ∧ Ext w w' := by
  obtain ⟨A, n, c, rfl, hnc, hc', hnn, HL⟩ := h.open_
  have HE : Hid (Ext w (w.alloc (.cells #[.slice A n c] 38))) := (Ext.refl _).alloc _
  have H := Lib.hid (h.ext (RI.stab p) HE.out)
  clear h
  go_enter Try.func26, Try.ntmps26
  go_wp2_with fail
  go_loop [5] (fun i => ∃ k : Nat, k ≤ n ∧ i = .int .i64 k ∧ Hid (NoneTo (hasB x) pgs k)) (fun i => n - (intOf i).toNat)
  case atStart => exact ⟨0, Nat.zero_le _, rfl, NoneTo.zero _ _⟩
  case round =>
    obtain ⟨k, hk, rfl, HK⟩ := hrel
    by_cases hlt : k < n
    · obtain ⟨b, off, cs0, l0, rfl, _⟩ := H.out.at_ hlt
      obtain ⟨u, l, hcu, hIu, HX⟩ := H.out.page hlt
      have HIU := Lib.hid hIu
      clear hIu
      cases hb : hasB x l with
      | true =>
        have HBb := Lib.hid hb
        clear hb
        go_wp2_with fail
        refine (has_any _ l x _ HIU.out).mono ?_
        rintro e w' ⟨rfl, rfl⟩
        rw [HBb.out]
        go_wp2_with fail
        go_ret
        exact ⟨ret_int (idxG_hit HX.out HBb.out HK.out), HE.out⟩
      | false =>
        have HBb := Lib.hid hb
        clear hb
        go_wp2_with fail
        refine (has_any _ l x _ HIU.out).mono ?_
        rintro e w' ⟨rfl, rfl⟩
        rw [HBb.out]
        go_wp2_with fail
        go_round
        case rel => exact ⟨k + 1, by omega, by go_num, HK.out.succ HX.out HBb.out⟩
        case measure => simp [intOf]; omega
    · obtain rfl : k = n := by omega
      go_wp2_with fail
      go_ret
      exact ⟨ret_int (idxG_miss HL.out HK.out), HE.out⟩
end Go.Proofs.Ytpbfbkkalemmiaa
