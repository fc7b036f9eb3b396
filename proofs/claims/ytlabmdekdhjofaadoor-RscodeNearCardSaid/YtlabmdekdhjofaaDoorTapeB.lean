/- More of the tape: Threshold, Ints, Order. -/
import Derived.Test.YtlabmdekdhjofaaDoorTape
namespace Go.Proofs.YtlabmdekdhjofaaDoor
open Go.RowKit

/-- A threshold of the tape: three numbers, valid ones where nothing is spoilt. -/
def ThrV (n : Int) (v : Value) : Prop := ∃ d f l, v = .agg #[.int .i64 d, .int .i64 f, .int .i64 l] ∧ I64 d ∧ I64 f ∧ I64 l ∧ (n = 0 → 3 ≤ d ∧ d ≤ 8 ∧ 1 ≤ f ∧ f ≤ d ∧ 1 ≤ l ∧ l ≤ 4)

/-- A new list of the tape: its length, the bounds of its elements. -/
def IntsV (p : Nat) (w : World) (base : Nat) (most lo hi : Int) (v : Value) : Prop :=
  ∃ l : List Int, w.ownsRow base 3 1 v l.length (l.map (Value.int .i64)) ∧ (l.length : Int) ≤ most ∧ (∀ x ∈ l, lo ≤ x ∧ x ≤ max lo hi)

set_option maxHeartbeats 1000000 in
theorem ints_any (p : Nat) (most lo hi : Int) (w : World) (h : Tape w p) (hm : 0 ≤ most) (hm' : most ≤ 1000) (h1 : -1000000000 ≤ lo) (h2 : lo ≤ 1000000000) (h3 : -1000000000 ≤ hi) (h4 : hi ≤ 1000000000) :
    Calls Tryd.prog 23 #[.pointer (some ⟨p, 0, none⟩), .int .i64 most, .int .i64 lo, .int .i64 hi] w (TRet p w fun v w' => IntsV p w' w.heap.size most lo hi v) := by
  have hlt := h.lt
  have H := Lib.hid h
  clear h
  obtain ⟨i0, hi0, hz0, hz1, hz2⟩ := info_parts Tryd.infoI
  go_enter Tryd.func23, Tryd.ntmps23
  go_wp2_with fail
  refine (range_any p _ _ _ H.out (by omega) (by omega) (by omega) (by omega)).mono ?_
  rintro e w1 ⟨v1, rfl, ⟨r, rfl, hr1, hr2⟩, HT1, HX1⟩
  go_wp2_with fail
  go_loopw [9, 10] (fun v i wr => ∃ (k : Nat) (l : List Int), i = .int .i64 k ∧ l.length + (k : Int) ≤ most ∧ Hid (wr.ownsRow w.heap.size 3 1 v l.length (l.map (Value.int .i64)) ∧ (∀ x ∈ l, lo ≤ x ∧ x ≤ max lo hi) ∧ Tape wr p ∧ XT p w wr)) (fun _ i _ => (intOf i).toNat)
  case atStart => exact ⟨r.toNat, [], by congr; omega, by simp; omega, World.ownsRow_nil _ _ _ _, by simp, HT1, HX1⟩
  case round =>
    obtain ⟨k, l, rfl, hk, HR⟩ := hrel
    clear HT1 HX1
    by_cases hk0 : 0 < k
    · go_wp2_with fail
      refine (range_any p _ _ _ HR.out.2.2.1 (by omega) (by omega) (by omega) (by omega)).mono ?_
      rintro e w2 ⟨v2, rfl, ⟨x, rfl, hx1, hx2⟩, HT2, HX2⟩
      go_wp2_with (at_builtin; refine wpList_push _ rfl (.tmp 18) (.tmp 23) 27 rfl w.heap.size 3 i0 _ 8 Tryd.underlying27 hi0 hz0 hz1 hz2 rfl _ _ _ rfl ((own_xt HR.out.1 HX2 hlt).alloc _) _ _ rfl (by simp; rfl) rfl (by omega) (by omega) (by have := HR.out.2.2.2.size; have := HX2.size; simp; omega) ?_; intro v' w3 hown hg)
      go_roundw
      case rel =>
        have hx3 : XT p w w3 := XT.grown ((HR.out.2.2.2.trans HX2).alloc _) hg (own_ge HR.out.1)
        refine ⟨k - 1, l ++ [x], by congr; omega, by simp; omega, by simpa using hown, ?_, ?_, hx3⟩
        · intro y hy
          rcases List.mem_append.1 hy with hy | hy
          · exact HR.out.2.1 y hy
          · simp at hy; omega
        · exact (HT2.ext ((Ext.refl _).alloc _)).grown hg (fun k hk => by have := own_ge HR.out.1 k hk; omega)
      case measure => simp [intOf]; omega
    · go_wp2_with fail
      go_ret
      exact ⟨_, rfl, ⟨l, HR.out.1, by omega, HR.out.2.1⟩, HR.out.2.2.1, HR.out.2.2.2⟩
end Go.Proofs.YtlabmdekdhjofaaDoor
