/- slices.Clone and bubble.Split. -/
import Derived.Test.YtndmadohffcdiaaSplitP
import Derived.Test.YtndmadohffcdiaaTape
import Derived.Test.YtndmadohffcdiaaInfo
import Derived.Lib.SliceRun
namespace Go.Proofs.Ytndmadohffcdiaa
open Go.RowKit


set_option maxHeartbeats 400000 in
theorem clone_any (v : Value) (l : List Int) (w : World) {p : Nat} (hp : p < w.heap.size) (h : IsI p w v l) (hl : l.length ≤ 1000) :
    Calls Try.prog 44 #[v] w fun e w' => ∃ v', e = .returned v' ∧ IsI p w' v' l ∧ Ext w w' := by
  obtain ⟨A, n, c, rfl, hnc, hc, hnn, HL⟩ := h.open_
  have hn : n ≤ 1000 := by have := HL.out; omega
  have H := Lib.hid h
  clear h hl
  obtain ⟨i0, hi0, hz0, hz1, hz2⟩ := info_parts Try.infoI
  have q28 : ∀ (w : World) (a : Option Addr) (n c n' c' : Nat), (binOp .eql 28 (.slice a n c) (.slice none n' c')).run Try.prog w = .ok (.bool a.isNone) w := fun w a n c n' c' => Lib.run_eql_slice_nil w _ _ a n c n' c' Try.underlying28
  rcases A with _ | ⟨b, off, ix⟩
  · go_enter Try.func44, Try.ntmps44
    go_wp2_with fail
    go_ret
    refine ⟨_, rfl, ?_, Ext.refl _⟩
    have : l = [] := by
      rcases Nat.eq_zero_or_pos n with h0 | h0
      · exact List.eq_nil_of_length_eq_zero (by have := HL.out; omega)
      · obtain ⟨b, off, x, hb, _⟩ := H.out.at_ h0
        cases hb
    rw [this]
    exact IsI.nil _ _
  · go_enter Try.func44, Try.ntmps44
    have HO : Hid ((w.alloc (.cells #[] 3)).ownsRow w.heap.size 3 1 (.slice (some ⟨w.heap.size, 0, none⟩) 0 0) 0 []) := World.ownsRow_lit w #[] 0 (Nat.le_refl _) (by unfold maxLen; omega) rfl
    go_wp2_with (at_builtin; refine wpList_cat _ rfl (.tmp 5) (.tmp 6) 28 rfl w.heap.size 3 i0 _ 8 Try.underlying28 hi0 hz0 hz1 hz2 rfl _ 0 [] rfl HO.out p (some ⟨b, off, ix⟩) n c l rfl (H.out.ext ((Ext.refl _).alloc _)) (by omega) (by omega) (by simp) ?_; intro v' w' hown hg)
    go_ret
    refine ⟨_, rfl, IsI.of_own (base := w.heap.size) (e := 3) (by simpa using hown) hp (fun x hx => H.out.mem hx) (by have := HL.out; omega), ?_⟩
    exact Ext.grown ((Ext.refl _).alloc _) hg (fun k hk => by have := own_ge HO.out k hk; omega)

/-- What Split returns. -/
def SplitRet (p : Nat) (w : World) (fs : List Fld) (cs : List Int) (e : Ending) (w' : World) : Prop :=
  ∃ (v : Value) (rs : List (List Int)) (er : Int), e = .returned (.tuple #[v, .int .i64 er]) ∧ IsP p w' v rs ∧ Ext w w' ∧
    (fs.length ≠ cs.length → rs = [] ∧ er = 1) ∧ (fs.length = cs.length → rs = runsTo fs cs cs.length ∧ er = 0)
end Go.Proofs.Ytndmadohffcdiaa
