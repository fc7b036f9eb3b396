/- BookletNeeds: the walk of the law. -/
import Derived.Test.YtpbfbkkalemmiaaLawB12
namespace Go.Proofs.Ytpbfbkkalemmiaa
open Go.RowKit

theorem need6 (k m t o n y : Int) (w : World) : Calls Try.prog 12 #[.agg #[.int .i64 k, .int .i64 m, .int .i64 t, .int .i64 o, .int .i64 n, .int .i64 y]] w fun e w' => e = .returned (.int .i64 (need ⟨k, m, t, o, n, y⟩)) ∧ Ext w w' := need_any ⟨k, m, t, o, n, y⟩ w
theorem rneed6 (k m t o n y : Int) (w : World) : Calls Try.prog 13 #[.agg #[.int .i64 k, .int .i64 m, .int .i64 t, .int .i64 o, .int .i64 n, .int .i64 y]] w fun e w' => e = .returned (.int .i64 (need ⟨k, m, t, o, n, y⟩)) ∧ Ext w w' := rneed_any ⟨k, m, t, o, n, y⟩ w

set_option maxHeartbeats 4000000 in
theorem walkBookletNeeds (kd mo op ky : Int) (w : World) (i0 : I64 kd) (i1 : I64 mo) (i2 : I64 op) (i3 : I64 ky) :
    Calls Try.prog 3 #[.int .i64 kd, .int .i64 mo, .int .i64 op, .int .i64 ky] w fun e w' => e = .returned (.bool true) ∧ Ext w w' := by
  obtain ⟨i01, i02⟩ := i0
  obtain ⟨i11, i12⟩ := i1
  obtain ⟨i21, i22⟩ := i2
  obtain ⟨i31, i32⟩ := i3
  go_enter Try.func3, Try.ntmps3
  go_wp2_with (go_at_call 11; refine (cut_any _ _ _ (by assumption) (by assumption) (by omega)).mono ?_; rintro e w' ⟨rfl, rfl⟩)
  go_region_held3 (fun w' => w'.cell? ⟨w.heap.size, 0, none⟩ = some (.int .i64 kd) ∧ w'.cell? ⟨w.heap.size, 1, none⟩ = some (.int .i64 mo) ∧ w'.cell? ⟨w.heap.size, 2, none⟩ = some (.int .i64 0) ∧ w'.cell? ⟨w.heap.size, 3, none⟩ = some (.int .i64 0) ∧ w'.cell? ⟨w.heap.size, 4, none⟩ = some (.int .i64 op) ∧ w'.cell? ⟨w.heap.size, 5, none⟩ = some (.int .i64 ky) ∧ w'.cell? ⟨w.heap.size + 1, 0, none⟩ = some (.int .i64 1) ∧ w'.cell? ⟨w.heap.size + 1, 1, none⟩ = some (.int .i64 (cutZ mo 43)) ∧ w'.cell? ⟨w.heap.size + 1, 2, none⟩ = some (.int .i64 0) ∧ w'.cell? ⟨w.heap.size + 1, 3, none⟩ = some (.int .i64 0) ∧ w'.cell? ⟨w.heap.size + 1, 4, none⟩ = some (.int .i64 0) ∧ w'.cell? ⟨w.heap.size + 1, 5, none⟩ = some (.int .i64 0) ∧ w'.cell? ⟨w.heap.size + 1 + 1, 0, none⟩ = some (.int .i64 2) ∧ w'.cell? ⟨w.heap.size + 1 + 1, 1, none⟩ = some (.int .i64 1) ∧ w'.cell? ⟨w.heap.size + 1 + 1, 2, none⟩ = some (.int .i64 0) ∧ w'.cell? ⟨w.heap.size + 1 + 1, 3, none⟩ = some (.int .i64 0) ∧ w'.cell? ⟨w.heap.size + 1 + 1, 4, none⟩ = some (.int .i64 (cutZ op 7)) ∧ w'.cell? ⟨w.heap.size + 1 + 1, 5, none⟩ = some (.int .i64 (cutZ ky 6)) ∧ Ext w w' ∧ 0 < w'.heap.size)
    (first
      | (refine ⟨?_, ?_, ?_, ?_, ?_, ?_, ?_, ?_, ?_, ?_, ?_, ?_, ?_, ?_, ?_, ?_, ?_, ?_, ((((Ext.refl _).alloc _).alloc _).alloc _).drew, ?_⟩ <;> simp [go_sem, World.cell?_alloc_past, World.cell?_alloc_new] <;> done)
      | (go_split_ands; refine ⟨?_, ?_, ?_, ?_, ?_, ?_, ?_, ?_, ?_, ?_, ?_, ?_, ?_, ?_, ?_, ?_, ?_, ?_, ?_, ?_⟩ <;> first | exact Ext.cell (by assumption) (by assumption) | exact Ext.trans (by assumption) (by assumption) | exact Nat.lt_of_lt_of_le (by assumption) (Ext.size (by assumption))))
    (first
      | (go_at_call 12; refine (need6 _ _ _ _ _ _ _).mono ?_; rintro e w' ⟨rfl, hx⟩)
      | (go_at_call 13; refine (rneed6 _ _ _ _ _ _ _).mono ?_; rintro e w' ⟨rfl, hx⟩)
      | (go_at_call 14; refine (awake_any _ (by go_split_ands; assumption)).mono ?_; rintro e w' ⟨rfl, hx⟩))
  go_wp2_with fail
  go_ret
  go_split_ands
  exact ⟨rfl, by assumption⟩
end Go.Proofs.Ytpbfbkkalemmiaa
