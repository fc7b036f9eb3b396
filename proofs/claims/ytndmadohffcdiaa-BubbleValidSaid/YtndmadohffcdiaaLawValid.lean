/- BubbleValid: for every three numbers the law returns true. The walk of the law. -/
import Derived.Test.YtndmadohffcdiaaBubD
namespace Go.Proofs.Ytndmadohffcdiaa
open Go.RowKit

set_option maxHeartbeats 1600000 in
theorem walkBubbleValid (d f l : Int) (w : World) (hd : I64 d) (hf : I64 f) (hl : I64 l) :
    Calls Try.prog 3 #[.int .i64 d, .int .i64 f, .int .i64 l] w fun e w' => e = .returned (.bool true) ∧ Ext w w' := by
  obtain ⟨hd1, hd2⟩ := hd
  obtain ⟨hf1, hf2⟩ := hf
  obtain ⟨hl1, hl2⟩ := hl
  have b1 := cutZ_lo d 12
  have b2 := cutZ_hi d 12 (by omega)
  have b3 := cutZ_lo f 12
  have b4 := cutZ_hi f 12 (by omega)
  have b5 := cutZ_lo l 12
  have b6 := cutZ_hi l 12 (by omega)
  go_enter Try.func3, Try.ntmps3
  go_wp2_with (go_at_call 11; refine (cut_any _ _ _ (by assumption) (by assumption) (by omega)).mono ?_; rintro e w' ⟨rfl, rfl⟩)
  go_region_held3 (fun w' => w'.cell? ⟨w.heap.size, 0, none⟩ = some (.int .i64 d) ∧ w'.cell? ⟨w.heap.size, 1, none⟩ = some (.int .i64 f) ∧ w'.cell? ⟨w.heap.size, 2, none⟩ = some (.int .i64 l) ∧
      w'.cell? ⟨w.heap.size + 1, 0, none⟩ = some (.int .i64 (cutZ d 12 - 1)) ∧ w'.cell? ⟨w.heap.size + 1, 1, none⟩ = some (.int .i64 (cutZ f 12 - 1)) ∧ w'.cell? ⟨w.heap.size + 1, 2, none⟩ = some (.int .i64 (cutZ l 12 - 1)) ∧ Ext w w')
    (first
      | (refine ⟨?_, ?_, ?_, ?_, ?_, ?_, (((Ext.refl _).alloc _).alloc _).drew⟩ <;> simp [go_sem, World.cell?_alloc_past, World.cell?_alloc_new] <;> done)
      | (go_split_ands; refine ⟨?_, ?_, ?_, ?_, ?_, ?_, ?_⟩ <;> first | exact Ext.cell (by assumption) (by assumption) | exact Ext.trans (by assumption) (by assumption)))
    (first
      | (go_at_call 12; refine (valid_any _ _ _ _).mono ?_; rintro e w' ⟨rfl, hx⟩)
      | (go_at_call 13; refine (rvalid_any _ _ _ _).mono ?_; rintro e w' ⟨rfl, hx⟩)
      | (go_at_call 14; refine (awake_any _).mono ?_; rintro e w' ⟨rfl, hx⟩))
  go_wp2_with fail
  go_ret
  go_split_ands
  exact ⟨rfl, by assumption⟩
end Go.Proofs.Ytndmadohffcdiaa
