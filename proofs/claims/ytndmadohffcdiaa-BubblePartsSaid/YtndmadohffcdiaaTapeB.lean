/- More of the tape: Threshold, Ints, Order. -/
import Derived.Test.YtndmadohffcdiaaTape
namespace Go.Proofs.Ytndmadohffcdiaa
open Go.RowKit

theorem spoil_any (p : Nat) (x n : Int) (w : World) (h : Tape w p) (hx : I64 x) (hn : 0 ≤ n) (hn' : n ≤ 1000000000) :
    Calls Try.prog 38 #[.pointer (some ⟨p, 0, none⟩), .int .i64 x, .int .i64 n] w (TRet p w fun v _ => ∃ y, v = .int .i64 y ∧ I64 y ∧ (n = 0 → y = x)) := by
  have H := Lib.hid h
  have HX0 := Lib.hid hx
  clear h hx
  by_cases h0 : n < 1
  · go_enter Try.func38, Try.ntmps38
    go_wp2
    go_ret
    exact ⟨_, rfl, ⟨x, rfl, HX0.out, fun _ => rfl⟩, H.out, XT.refl _ _⟩
  · have h1 : 0 < n := by omega
    clear h0
    go_enter Try.func38, Try.ntmps38
    go_wp2_with (go_at_call 18; refine (one_any _ _ _ H.out (by omega) (by omega)).mono ?_; rintro e w1 ⟨v1, rfl, ⟨b, rfl⟩, HT, HX⟩; cases b)
    · go_wp2_with fail
      go_ret
      exact ⟨_, rfl, ⟨x, rfl, HX0.out, fun _ => rfl⟩, HT, HX⟩
    · go_wp2_with (go_at_call 45; refine (wild_any _ _ HT).mono ?_; rintro e w2 ⟨v2, rfl, ⟨y, rfl, hy⟩, HT2, HX2⟩)
      go_ret
      exact ⟨_, rfl, ⟨y, rfl, hy, fun h => absurd h (by omega)⟩, HT2, HX.trans HX2⟩

/-- A threshold of the tape: three numbers, valid ones where nothing is spoilt. -/
def ThrV (n : Int) (v : Value) : Prop := ∃ d f l, v = .agg #[.int .i64 d, .int .i64 f, .int .i64 l] ∧ I64 d ∧ I64 f ∧ I64 l ∧ (n = 0 → 3 ≤ d ∧ d ≤ 8 ∧ 1 ≤ f ∧ f ≤ d ∧ 1 ≤ l ∧ l ≤ 4)

set_option maxHeartbeats 1000000 in
theorem threshold_any (p : Nat) (n : Int) (w : World) (h : Tape w p) (hn : 0 ≤ n) (hn' : n ≤ 1000000000) :
    Calls Try.prog 16 #[.pointer (some ⟨p, 0, none⟩), .int .i64 n] w (TRet p w fun v _ => ThrV n v) := by
  have hlt := h.lt
  have HT0 := Lib.hid (h.ext ((Ext.refl _).alloc (.cells #[.int .i64 0, .int .i64 0, .int .i64 0] 23)))
  clear h
  go_enter Try.func16, Try.ntmps16
  go_wp2_with fail
  refine (range_any p _ _ _ HT0.out (by omega) (by omega) (by omega) (by omega)).mono ?_
  rintro e w1 ⟨v1, rfl, ⟨d, rfl, hd1, hd2⟩, HT1, HX1⟩
  go_wp2_with fail
  refine (spoil_any p _ _ _ HT1 ⟨by omega, by omega⟩ hn hn').mono ?_
  rintro e w2 ⟨v2, rfl, ⟨d', rfl, hd', hdd⟩, HT2, HX2⟩
  have HDD := Lib.hid hdd
  clear hdd
  go_wp2_with fail
  refine (range_any p _ _ _ HT2 (by omega) (by omega) (by omega) (by omega)).mono ?_
  rintro e w3 ⟨v3, rfl, ⟨f, rfl, hf1, hf2⟩, HT3, HX3⟩
  go_wp2_with fail
  refine (spoil_any p _ _ _ HT3 ⟨by omega, by omega⟩ hn hn').mono ?_
  rintro e w4 ⟨v4, rfl, ⟨f', rfl, hf', hff⟩, HT4, HX4⟩
  have HFF := Lib.hid hff
  clear hff
  go_wp2_with fail
  refine (range_any p _ _ _ HT4 (by omega) (by omega) (by omega) (by omega)).mono ?_
  rintro e w5 ⟨v5, rfl, ⟨l, rfl, hl1, hl2⟩, HT5, HX5⟩
  go_wp2_with fail
  refine (spoil_any p _ _ _ HT5 ⟨by omega, by omega⟩ hn hn').mono ?_
  rintro e w6 ⟨v6, rfl, ⟨l', rfl, hl', hll⟩, HT6, HX6⟩
  have HLL := Lib.hid hll
  clear hll
  have HX := Lib.hid (((((HX1.trans HX2).trans HX3).trans HX4).trans HX5).trans HX6)
  have hbk := HX.out.blk (heap_alloc_new w _) (show w.heap.size ≠ p by omega)
  have c0 := blk_cell hbk (i := 0) rfl
  have c1 := blk_cell hbk (i := 1) rfl
  have c2 := blk_cell hbk (i := 2) rfl
  have f0 := blk_frozen hbk 0
  have f1 := blk_frozen hbk 1
  have f2 := blk_frozen hbk 2
  have HBK := Lib.hid hbk
  clear hbk
  go_wp2_with fail
  refine bodyPost_ret (v := .agg #[.int .i64 d', .int .i64 f', .int .i64 l']) (by simp [results, Try.results16, go_sem, c0, c1, c2]) rfl ⟨_, rfl, ⟨d', f', l', rfl, hd', hf', hl', fun h => ?_⟩, ?_, ?_⟩
  · have := HDD.out h
    have := HFF.out h
    have := HLL.out h
    omega
  · exact ((HT6.setNew hlt _).setNew hlt _).setNew hlt _
  · exact (((((XT.refl _ _).alloc _).trans HX.out).setNew (Nat.le_refl _) _).setNew (Nat.le_refl _) _).setNew (Nat.le_refl _) _


/-- A new list of the tape: its length, the bounds of its elements. -/
def IntsV (p : Nat) (w : World) (base : Nat) (most lo hi : Int) (v : Value) : Prop :=
  ∃ l : List Int, w.ownsRow base 3 1 v l.length (l.map (Value.int .i64)) ∧ (l.length : Int) ≤ most ∧ (∀ x ∈ l, lo ≤ x ∧ x ≤ max lo hi)

set_option maxHeartbeats 1000000 in
theorem ints_any (p : Nat) (most lo hi : Int) (w : World) (h : Tape w p) (hm : 0 ≤ most) (hm' : most ≤ 1000) (h1 : -1000000000 ≤ lo) (h2 : lo ≤ 1000000000) (h3 : -1000000000 ≤ hi) (h4 : hi ≤ 1000000000) :
    Calls Try.prog 17 #[.pointer (some ⟨p, 0, none⟩), .int .i64 most, .int .i64 lo, .int .i64 hi] w (TRet p w fun v w' => IntsV p w' w.heap.size most lo hi v) := by
  have hlt := h.lt
  have H := Lib.hid h
  clear h
  obtain ⟨i0, hi0, hz0, hz1, hz2⟩ := info_parts Try.infoI
  go_enter Try.func17, Try.ntmps17
  go_wp2_with fail
  refine (range_any p _ _ _ H.out (by omega) (by omega) (by omega) (by omega)).mono ?_
  rintro e w1 ⟨v1, rfl, ⟨r, rfl, hr1, hr2⟩, HT1, HX1⟩
  go_wp2_with fail
  go_loopw [9, 10] (fun v i wr => ∃ (k : Nat) (l : List Int), i = .int .i64 k ∧ l.length + (k : Int) ≤ most ∧ Hid (wr.ownsRow w.heap.size 3 1 v l.length (l.map (Value.int .i64)) ∧ (∀ x ∈ l, lo ≤ x ∧ x ≤ max lo hi) ∧ Tape wr p ∧ XT p w wr)) (fun _ i _ => (intOf i).toNat)
  case atStart => exact ⟨r.toNat, [], by congr; omega, by simp; omega, World.ownsRow_nil _ _ _ _, by simp, HT1, HX1⟩
  case round =>
    obtain ⟨k, l, rfl, hk, HR⟩ := hrel
    clear HT1 HX1
    by_cases hk0 : 0 < k
    · go_wp2_with fail
      refine (range_any p _ _ _ HR.out.2.2.1 (by omega) (by omega) (by omega) (by omega)).mono ?_
      rintro e w2 ⟨v2, rfl, ⟨x, rfl, hx1, hx2⟩, HT2, HX2⟩
      go_wp2_with (at_builtin; refine wpList_push _ rfl (.tmp 18) (.tmp 23) 28 rfl w.heap.size 3 i0 _ 8 Try.underlying28 hi0 hz0 hz1 hz2 rfl _ _ _ rfl ((own_xt HR.out.1 HX2 hlt).alloc _) _ _ rfl (by simp; rfl) rfl (by omega) (by omega) (by have := HR.out.2.2.2.size; have := HX2.size; simp; omega) ?_; intro v' w3 hown hg)
      go_roundw
      case rel =>
        have hx3 : XT p w w3 := XT.grown ((HR.out.2.2.2.trans HX2).alloc _) hg (own_ge HR.out.1)
        refine ⟨k - 1, l ++ [x], by congr; omega, by simp; omega, by simpa using hown, ?_, ?_, hx3⟩
        · intro y hy
          rcases List.mem_append.1 hy with hy | hy
          · exact HR.out.2.1 y hy
          · simp at hy; omega
        · exact (HT2.ext ((Ext.refl _).alloc _)).grown hg (fun k hk => by have := own_ge HR.out.1 k hk; omega)
      case measure => simp [intOf]; omega
    · go_wp2_with fail
      go_ret
      exact ⟨_, rfl, ⟨l, HR.out.1, by omega, HR.out.2.1⟩, HR.out.2.2.1, HR.out.2.2.2⟩
end Go.Proofs.Ytndmadohffcdiaa
