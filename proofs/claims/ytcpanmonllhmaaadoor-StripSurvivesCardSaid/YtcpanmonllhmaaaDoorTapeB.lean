/- More of the tape: Threshold, Ints, Order. -/
import Derived.Test.YtcpanmonllhmaaaDoorTape
set_option linter.unusedSimpArgs false
set_option linter.unusedVariables false
namespace Go.Proofs.YtcpanmonllhmaaaDoor
open Go.RowKit

theorem spoil_any (p : Nat) (x n : Int) (w : World) (h : Tape w p) (hx : I64 x) (hn : 0 ≤ n) (hn' : n ≤ 1000000000) :
    Calls Tryd.prog 39 #[.pointer (some ⟨p, 0, none⟩), .int .i64 x, .int .i64 n] w (TRet p w fun v _ => ∃ y, v = .int .i64 y ∧ I64 y ∧ (n = 0 → y = x)) := by
  have H := Lib.hid h
  have HX0 := Lib.hid hx
  clear h hx
  by_cases h0 : n < 1
  · go_enter Tryd.func39, Tryd.ntmps39
    go_wp2
    go_ret
    exact ⟨_, rfl, ⟨x, rfl, HX0.out, fun _ => rfl⟩, H.out, XT.refl _ _⟩
  · have h1 : 0 < n := by omega
    clear h0
    go_enter Tryd.func39, Tryd.ntmps39
    go_wp2_with (go_at_call 50; refine (one_any _ _ _ H.out (by omega) (by omega)).mono ?_; rintro e w1 ⟨v1, rfl, ⟨b, rfl⟩, HT, HX⟩; cases b)
    · go_wp2_with fail
      go_ret
      exact ⟨_, rfl, ⟨x, rfl, HX0.out, fun _ => rfl⟩, HT, HX⟩
    · go_wp2_with (go_at_call 64; refine (wild_any _ _ HT).mono ?_; rintro e w2 ⟨v2, rfl, ⟨y, rfl, hy⟩, HT2, HX2⟩)
      go_ret
      exact ⟨_, rfl, ⟨y, rfl, hy, fun h => absurd h (by omega)⟩, HT2, HX.trans HX2⟩
/-- A threshold of the tape: three numbers, valid ones where nothing is spoilt. -/
def ThrV (n : Int) (v : Value) : Prop := ∃ d f l, v = .agg #[.int .i64 d, .int .i64 f, .int .i64 l] ∧ I64 d ∧ I64 f ∧ I64 l ∧ (n = 0 → 3 ≤ d ∧ d ≤ 8 ∧ 1 ≤ f ∧ f ≤ d ∧ 1 ≤ l ∧ l ≤ 4)

/-- A new list of the tape: its length, the bounds of its elements. -/
def IntsV (p : Nat) (w : World) (base : Nat) (most lo hi : Int) (v : Value) : Prop :=
  ∃ l : List Int, w.ownsRow base 3 1 v l.length (l.map (Value.int .i64)) ∧ (l.length : Int) ≤ most ∧ (∀ x ∈ l, lo ≤ x ∧ x ≤ max lo hi)

end Go.Proofs.YtcpanmonllhmaaaDoor
