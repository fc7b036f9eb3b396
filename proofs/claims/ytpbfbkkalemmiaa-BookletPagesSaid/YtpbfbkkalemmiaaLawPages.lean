/- BookletPages: the walk of the law. -/
import Derived.Test.YtpbfbkkalemmiaaLawB12
namespace Go.Proofs.Ytpbfbkkalemmiaa
open Go.RowKit

set_option maxHeartbeats 4000000 in
theorem walkBookletPages (v0 : Value) (l0 : List (List Int)) (a1 : Int) (w : World) (h0 : IsP w.heap.size w v0 l0) (i1 : I64 a1) :
    Calls Try.prog 7 #[v0, .int .i64 a1] w fun e w' => e = .returned (.bool true) ∧ Ext w w' := by
  obtain ⟨i11, i12⟩ := i1
  obtain ⟨A, n, c, rfl, hnc, hc, hnn, HL⟩ := h0.open_
  have H := Lib.hid h0
  clear h0
  by_cases h30 : 30 < n
  · go_enter Try.func7, Try.ntmps7
    go_wp2_with fail
    go_ret
    exact ⟨rfl, Ext.refl _⟩
  · go_enter Try.func7, Try.ntmps7
    go_wp2_with (go_at_call 11; refine (cut_any _ _ _ (by assumption) (by assumption) (by omega)).mono ?_; rintro e w' ⟨rfl, rfl⟩)
    go_region_held3 (fun w' => w'.cell? ⟨w.heap.size, 0, none⟩ = some (.slice A n c) ∧ Ext w w' ∧ 0 < w'.heap.size)
      (first
        | (refine ⟨?_, ((Ext.refl _).alloc _).drew, ?_⟩ <;> simp [go_sem, World.cell?_alloc_new] <;> done)
        | (go_split_ands; refine ⟨?_, ?_, ?_⟩ <;> first | exact Ext.cell (by assumption) (by assumption) | exact Ext.trans (by assumption) (by assumption) | exact Nat.lt_of_lt_of_le (by assumption) (Ext.size (by assumption))))
      (first
        | (go_at_call 25; refine (pageOf_any _ l0 _ _ (p := w.heap.size) (H.out.ext (RI.stab _) (by go_split_ands; assumption))).mono ?_; rintro e w' ⟨rfl, hx⟩)
        | (go_at_call 26; refine (rpageOf_any _ l0 _ _ (p := w.heap.size) (H.out.ext (RI.stab _) (by go_split_ands; assumption))).mono ?_; rintro e w' ⟨rfl, hx⟩)
        | (go_at_call 14; refine (awake_any _ (by go_split_ands; assumption)).mono ?_; rintro e w' ⟨rfl, hx⟩))
    go_wp2_with fail
    go_ret
    go_split_ands
    exact ⟨rfl, by assumption⟩
end Go.Proofs.Ytpbfbkkalemmiaa
