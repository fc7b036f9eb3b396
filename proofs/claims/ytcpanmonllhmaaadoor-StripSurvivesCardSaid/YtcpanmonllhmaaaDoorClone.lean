/- slices.Clone of ints: a row of the call's own. -/
import Derived.Test.YtcpanmonllhmaaaDoorTape
import Derived.Test.YtcpanmonllhmaaaDoorInfo
import Derived.Lib.SliceRun
set_option linter.unusedSimpArgs false
set_option linter.unusedVariables false
namespace Go.Proofs.YtcpanmonllhmaaaDoor
open Go.RowKit

set_option maxRecDepth 100000 in
set_option maxHeartbeats 400000 in
theorem clone_own (v : Value) (l : List Int) (w : World) {p : Nat} (h : IsI p w v l) (hl : l.length ≤ 1000) :
    Calls Tryd.prog 62 #[v] w fun e w' => ∃ v', e = .returned v' ∧ w'.ownsRow w.heap.size 3 1 v' l.length (l.map (Value.int .i64)) ∧ Ext w w' := by
  obtain ⟨A, n, c, rfl, hnc, hc, hnn, HL⟩ := h.open_
  have hn : n ≤ 1000 := by have := HL.out; omega
  have H := Lib.hid h
  clear h hl
  obtain ⟨i0, hi0, hz0, hz1, hz2⟩ := info_parts Tryd.infoI
  have q28 : ∀ (w : World) (a : Option Addr) (n c n' c' : Nat), (binOp .eql 22 (.slice a n c) (.slice none n' c')).run Tryd.prog w = .ok (.bool a.isNone) w := fun w a n c n' c' => Lib.run_eql_slice_nil w _ _ a n c n' c' Tryd.underlying22
  rcases A with _ | ⟨b, off, ix⟩
  · go_enter Tryd.func62, Tryd.ntmps62
    go_wp2_with fail
    go_ret
    refine ⟨_, rfl, ?_, Ext.refl _⟩
    have : l = [] := by
      rcases Nat.eq_zero_or_pos n with h0 | h0
      · exact List.eq_nil_of_length_eq_zero (by have := HL.out; omega)
      · obtain ⟨b, off, x, hb, _⟩ := H.out.at_ h0
        cases hb
    rw [this]
    exact World.ownsRow_nil _ _ _ _
  · go_enter Tryd.func62, Tryd.ntmps62
    have HO : Hid ((w.alloc (.cells #[] 3)).ownsRow w.heap.size 3 1 (.slice (some ⟨w.heap.size, 0, none⟩) 0 0) 0 []) := World.ownsRow_lit w #[] 0 (Nat.le_refl _) (by unfold maxLen; omega) rfl
    go_wp2_with (at_builtin; refine wpList_cat _ rfl (.tmp 5) (.tmp 6) 22 rfl w.heap.size 3 i0 _ 8 Tryd.underlying22 hi0 hz0 hz1 hz2 rfl _ 0 [] rfl HO.out p (some ⟨b, off, ix⟩) n c l rfl (H.out.ext ((Ext.refl _).alloc _)) (by omega) (by omega) (by simp) ?_; intro v' w' hown hg)
    go_ret
    refine ⟨_, rfl, by rw [HL.out]; simpa using hown, ?_⟩
    exact Ext.grown ((Ext.refl _).alloc _) hg (fun k hk => by have := own_ge HO.out k hk; omega)
end Go.Proofs.YtcpanmonllhmaaaDoor
