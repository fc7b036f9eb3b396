/- Flip of both; count and marked. -/
import Derived.Test.YtcpanmonllhmaaaDoorStA
import Derived.Test.YtcpanmonllhmaaaDoorShelf
import Derived.Lib.BufferRead
set_option linter.unusedSimpArgs false
set_option linter.unusedVariables false
namespace Go.Proofs.YtcpanmonllhmaaaDoor
open Go.RowKit

theorem Tryd.infoU8 : (Tryd.prog.info? 5).map (fun i => (i.zero, i.size, i.bytes)) = some (some (.int .u8 0), 1, 1) := by kernel_rfl
theorem drop_pred {α : Type} {l : List α} {k : Nat} {x : α} (h : l[k]? = some x) : (l.drop k) = x :: l.drop (k + 1) := by
  obtain ⟨hk, rfl⟩ := List.getElem?_eq_some_iff.1 h
  exact List.drop_eq_getElem_cons hk
theorem rev_snoc {l : List UInt8} {k : Nat} {x : UInt8} (h : l[k]? = some x) : (l.drop (k + 1)).reverse ++ [x] = (l.drop k).reverse := by
  rw [drop_pred h, List.reverse_cons]
set_option maxRecDepth 100000 in
set_option maxHeartbeats 1000000 in
theorem flip_any (s : ByteArray) (w : World) (hs : s.size ≤ 140737488351232) :
    Calls Tryd.prog 22 #[.string s] w fun e w' => ∃ t, e = .returned (.string t) ∧ bl t = (bl s).reverse ∧ Ext w w' := by
  have HL := Lib.hid (bl_len s)
  go_enter Tryd.func22, Tryd.ntmps22
  go_wp2_with fail
  go_loopw [4] (fun i wr => ∃ k : Nat, k ≤ s.size ∧ i = .int .i64 ((k : Int) - 1) ∧ Hid (Lib.IsBuilderF 63 5 w.heap.size w.heap.size (Lib.byteCells ((bl s).drop k).reverse) wr) ∧ Hid (Ext w wr)) (fun i _ => ((intOf i) + 1).toNat)
  case atStart => exact ⟨s.size, Nat.le_refl _, rfl, by show Lib.IsBuilderF _ _ _ _ _ _; rw [List.drop_of_length_le (by rw [HL.out]; exact Nat.le_refl _)]; exact Lib.IsBuilderF.of (Lib.fresh_isBuilder _ _ w), (Ext.refl _).alloc _⟩
  case round =>
    obtain ⟨k, hk, rfl, HB, HE⟩ := hrel
    have hsz := HE.out.size
    by_cases h0 : 0 < k
    · obtain ⟨j, rfl⟩ : ∃ j, k = j + 1 := ⟨k - 1, by omega⟩
      have hj : j < s.size := by omega
      have HX := Lib.hid (bl_at hj)
      have e1 : (((j + 1 : Nat) : Int) - 1) = (j : Int) := by omega
      rw [e1]
      clear e1
      go_wp2_with fail
      refine (bWriteByte w.heap.size w.heap.size _ _ _ HB.out (by rw [Lib.byteCells_length, List.length_reverse, List.length_drop, HL.out]; omega) hsz).mono ?_
      rintro e w1 ⟨rfl, h1, b1, k1⟩
      have HB1 : Hid (Lib.IsBuilderF 63 5 w.heap.size w.heap.size (Lib.byteCells ((bl s).drop j).reverse) w1) := by
        show Lib.IsBuilderF _ _ _ _ _ _
        rw [← rev_snoc HX.out, Lib.byteCells_append]
        exact Or.inr h1
      have HE1 : Hid (Ext w w1) := Below.trans HE.out b1
      clear h1 b1 k1 HB HE
      go_wp2_with fail
      go_roundw
      case rel => exact ⟨j, by omega, rfl, HB1, HE1⟩
      case measure => simp [intOf]
    · obtain rfl : k = 0 := by omega
      go_wp2_with fail
      refine (bString w.heap.size w.heap.size _ _ HB.out hsz).mono ?_
      rintro e w1 ⟨rfl, h1, b1, k1⟩
      clear h1 k1
      go_wp2_with fail
      go_ret
      exact ⟨_, rfl, by rw [bl_mk], Below.trans HE.out b1⟩

theorem bytes_str (w : World) {base n : Nat} {v : Value} {l : List UInt8} (h : w.ownsRow base 5 1 v n (Lib.byteCells l)) (hn : n ≤ 1000000) :
    ∃ t, (convert 61 9 v).run Tryd.prog w = .ok (.string t) w ∧ bl t = l := by
  have hn1 : n = l.length := by have := h.1; rw [Lib.byteCells_length] at this; omega
  rcases h.2 with ⟨rfl, hnil⟩ | ⟨g, cap, cur, rfl, hg, hh, hnc, hcm, hcs, htk⟩
  · obtain rfl : l = [] := List.eq_nil_of_length_eq_zero (by omega)
    exact ⟨⟨#[]⟩, Lib.run_convert_nil_bytes w _ _ 5 0 Tryd.underlying61 Tryd.underlying5 Tryd.underlying9, rfl⟩
  · subst hn1
    refine ⟨⟨l.toArray⟩, ?_, bl_mk l⟩
    exact run_convert_bytes_back w _ _ 5 ⟨g, 0, none⟩ cap l Tryd.underlying61 Tryd.underlying5 Tryd.underlying9 (fun j hj => Lib.bytes_of_row hh (by simpa using htk) j hj)
set_option maxRecDepth 100000 in
set_option maxHeartbeats 1000000 in
theorem rflip_any (s : ByteArray) (w : World) (hs : s.size ≤ 1000000) :
    Calls Tryd.prog 23 #[.string s] w fun e w' => ∃ t, e = .returned (.string t) ∧ bl t = (bl s).reverse ∧ Ext w w' := by
  have HL := Lib.hid (bl_len s)
  obtain ⟨i0, hi0, hz0, hz1, hz2⟩ := info_parts Tryd.infoU8
  go_enter Tryd.func23, Tryd.ntmps23
  go_wp2_with fail
  go_loopw [3, 4] (fun v i wr => ∃ k : Nat, k ≤ s.size ∧ i = .int .i64 ((k : Int) - 1) ∧ Hid (wr.ownsRow w.heap.size 5 1 v (s.size - k) (Lib.byteCells ((bl s).drop k).reverse)) ∧ Hid (Ext w wr)) (fun _ i _ => ((intOf i) + 1).toNat)
  case atStart => exact ⟨s.size, Nat.le_refl _, rfl, by show World.ownsRow _ _ _ _ _ _ _; rw [List.drop_of_length_le (by rw [HL.out]; exact Nat.le_refl _), Nat.sub_self]; exact World.ownsRow_nil _ _ _ _, Ext.refl _⟩
  case round =>
    obtain ⟨k, hk, rfl, HO, HE⟩ := hrel
    have hsz := HE.out.size
    by_cases h0 : 0 < k
    · obtain ⟨j, rfl⟩ : ∃ j, k = j + 1 := ⟨k - 1, by omega⟩
      have hj : j < s.size := by omega
      have HX := Lib.hid (bl_at hj)
      have e1 : (((j + 1 : Nat) : Int) - 1) = (j : Int) := by omega
      rw [e1]
      clear e1
      go_wp2_with (at_builtin; refine wpList_push _ rfl (.tmp 12) (.tmp 16) 61 rfl w.heap.size 5 i0 _ 1 Tryd.underlying61 hi0 hz0 hz1 hz2 rfl _ _ _ rfl (HO.out.alloc _) _ _ rfl (blk_cell (heap_alloc_new _ _) rfl) rfl (by omega) (by omega) (by simp; omega) ?_; intro v' w' hown hg)
      go_roundw
      case rel =>
        refine ⟨j, by omega, rfl, ?_, ?_⟩
        · show World.ownsRow _ _ _ _ _ _ _
          rw [← rev_snoc HX.out, Lib.byteCells_append, show s.size - j = s.size - (j + 1) + 1 by omega]
          exact hown
        · exact Ext.grown (HE.out.alloc _) hg (fun q hq => own_ge HO.out q hq)
      case measure => simp [intOf]
    · obtain rfl : k = 0 := by omega
      obtain ⟨t, ht, hb⟩ := bytes_str wr HO.out (by omega)
      have HT := Lib.hid hb
      clear hb
      go_wp2_with fail
      go_ret
      exact ⟨_, rfl, by rw [HT.out, List.drop_zero], HE.out⟩
end Go.Proofs.YtcpanmonllhmaaaDoor
