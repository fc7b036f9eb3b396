/- BubbleMoves: the walk of the law. -/
import Derived.Test.YtndmadohffcdiaaBubD
import Derived.Test.YtndmadohffcdiaaBubG
namespace Go.Proofs.Ytndmadohffcdiaa
open Go.RowKit

theorem moved_snoc {l o : List Int} {k : Nat} {x : Int} (h : o[k]? = some x) : moved l (o.take (k + 1)) = moved l (o.take k) ++ [l.getD x.toNat 0] := by
  rw [take_snoc h]; unfold moved; simp

set_option maxRecDepth 100000 in
set_option maxHeartbeats 4000000 in
theorem walkBubbleMoves (v0 : Value) (l0 : List Int) (w : World) (h0 : IsI w.heap.size w v0 l0) :
    Calls Try.prog 5 #[v0] w fun e w' => e = .returned (.bool true) ∧ Ext w w' := by
  obtain ⟨i0, hi0, hz0, hz1, hz2⟩ := info_parts Try.infoI
  have H0 := Lib.hid h0
  clear h0
  go_enter Try.func5, Try.ntmps5
  go_wp2_with fail
  refine (new_any _ l0 _ H0.out).mono ?_
  rintro e w1 ⟨rfl, HT1, HE1⟩
  go_wp2_with fail
  refine (threshold_any _ _ _ HT1 (by omega) (by omega)).mono ?_
  rintro e w2 ⟨v2, rfl, ⟨d, f, ld, rfl, _, _, _, hthr⟩, HT2, HX2⟩
  obtain ⟨hd1, hd2, hf1, hf2, hl1, hl2⟩ := hthr rfl
  have HE2 := HX2.fresh HE1 (Nat.le_refl _)
  have hlt : w.heap.size < w2.heap.size := HT2.lt
  clear HT1 HE1 HX2 hthr
  go_wp2_with fail
  refine (values_any _ _ (HT2.ext ((Ext.refl _).alloc _))).mono ?_
  rintro e w3 ⟨v3, rfl, ⟨l, hown, hln2, hln5, hval⟩, HT3, HX3⟩
  have HB3 := HX3.blk (heap_alloc_new w2 _) (show w2.heap.size ≠ w.heap.size by omega)
  have HE3 := HX3.fresh (HE2.alloc _) (Nat.le_refl _)
  have hI3 := IsI.own2 (p := w.heap.size) hown (by simp; omega) hval (by omega)
  have HVAL := Lib.hid hval
  obtain ⟨A, n, c, rfl, hnc, hc, hnn, HL⟩ := hI3.open_
  have hn2 : 2 ≤ n := by have := HL.out; omega
  have hn5 : n ≤ 5 := by have := HL.out; omega
  have HI3 := Lib.hid hI3
  have HE3' := Lib.hid HE3
  have HB3' := Lib.hid HB3
  have hs3 : w.heap.size < w3.heap.size := HT3.lt
  clear hown HT2 HX3 HE2 hln2 hln5 hval hI3 HE3 HB3
  go_wp2_with fail
  refine (order_any _ _ _ HT3 (by omega)).mono ?_
  rintro e w4 ⟨v4, rfl, ⟨o, hown4, hperm⟩, HT4, HX4⟩
  have hon : o.length = n := by have := hperm.length_eq; unfold upTo at this; simpa using this
  have hI4 := IsI.of_own (p := w.heap.size) hown4 hs3 (fun x hx => by have := upTo_mem (hperm.mem_iff.1 hx); exact ⟨by omega, by omega⟩) (by omega)
  have HIl := Lib.hid (HI3.out.xt HX4)
  have HB4 := Lib.hid (HX4.blk HB3'.out (show w2.heap.size ≠ w.heap.size by omega))
  have HE4 := Lib.hid (HX4.fresh HE3'.out (Nat.le_refl _))
  have HP := Lib.hid (show o.Perm (upTo l.length) by rw [HL.out]; exact hperm)
  have HMV := Lib.hid (moves (d := d) (f := f) (ld := ld) (by omega) hf1 hf2 hl1 (by omega) (by have := HL.out; omega) (by have := HL.out; omega) HVAL.out HP.out)
  obtain ⟨A4, n4, c4, rfl, hnc4, hc4, hnn4, HL4⟩ := hI4.open_
  obtain rfl : n4 = n := by have := HL4.out; omega
  have HIo := Lib.hid hI4
  obtain ⟨b4, off4, x4, rfl, _, _⟩ := hI4.at_ (show 0 < n4 by omega)
  obtain ⟨b, off, x0, rfl, _, _⟩ := HIl.out.at_ (show 0 < n4 by omega)
  clear hown4 hperm HT3 HT4 HX4 HI3 HE3' HB3' hon hI4
  go_wp2_with fail
  go_loopw [7, 8] (fun v i wr => ∃ (k : Nat), i = .int .i64 k ∧ k ≤ n4 ∧ Hid (wr.ownsRow w4.heap.size 3 1 v k ((moved l (o.take k)).map (Value.int .i64)) ∧ Ext w4 wr)) (fun _ i _ => n4 - (intOf i).toNat)
  case atStart => exact ⟨0, rfl, by omega, by simpa [moved] using World.ownsRow_nil _ _ _ _, Ext.refl _⟩
  case round =>
    obtain ⟨k, rfl, hk, HR⟩ := hrel
    by_cases hkn : k < n4
    · obtain ⟨x, hcx, HX, hx1, hx2⟩ := (HIo.out.ext HR.out.2).cell_ hkn
      obtain ⟨i, hi, hil⟩ := at_nat HP.out HX.out
      subst hi
      have hin : i < n4 := by have := HL.out; omega
      obtain ⟨y, hcy, HY, hy1, hy2⟩ := (HIl.out.ext HR.out.2).cell_ hin
      clear hil
      go_wp2_with (at_builtin; refine wpList_push _ rfl (.tmp 29) (.tmp 37) 28 rfl w4.heap.size 3 i0 _ 8 Try.underlying28 hi0 hz0 hz1 hz2 rfl _ _ _ rfl (HR.out.1.alloc _) _ _ rfl (by simp; rfl) rfl (by omega) (by omega) (by have := HR.out.2.size; simp; omega) ?_; intro v' w5 hown' hg')
      go_roundw
      case rel =>
        refine ⟨k + 1, by go_num, by omega, ?_, Ext.grown (HR.out.2.alloc _) hg' (own_ge HR.out.1)⟩
        rw [moved_snoc HX.out]
        have e : l.getD ((i : Nat) : Int).toNat 0 = y := by simpa using getD_of HY.out
        rw [e]
        simpa using hown'
      case measure => simp [intOf]; omega
    · obtain rfl : k = n4 := by omega
      obtain ⟨hown5, hx5⟩ := HR.out
      rw [take_all HL4.out] at hown5
      have hml : (moved l o).length = k := by unfold moved; simp; exact HL4.out
      have HIm := Lib.hid (IsI.own2 (p := w.heap.size) hown5 (by have := HE4.out.size; have := lt_of_blk HB4.out; omega) (by have hp := moved_perm HP.out; have := HVAL.out; rw [List.all_eq_true] at *; exact fun x hx => this x (hp.mem_iff.1 hx)) (by omega))
      have HIl5 := Lib.hid (HIl.out.ext hx5)
      have HIo5 := Lib.hid (HIo.out.ext hx5)
      have HE5 := Lib.hid (HE4.out.trans hx5)
      have HB5 := Lib.hid (hx5.blk HB4.out)
      obtain ⟨k0, k1, k2⟩ := cell3 HB5.out
      have HMV2 := HMV.out
      clear hown5 hx5 HR HIl HIo HE4 HB4 HMV
      obtain ⟨he1, he2, hcase⟩ := HMV2
      have HC := Lib.hid hcase
      have E1 := Lib.hid he1
      have E2 := Lib.hid he2
      clear he1 he2 hcase
      go_wp2_with fail
      refine (judge_any _ _ _ _ l _ HIl5.out).mono ?_
      rintro e x1 ⟨rfl, hx1⟩
      rw [E1.out]
      have HIm1 := Lib.hid (HIm.out.ext hx1)
      have HIo1 := Lib.hid (HIo5.out.ext hx1)
      have HE1 := Lib.hid (HE5.out.trans hx1)
      have c0 := hx1.cell k0
      have c1 := hx1.cell k1
      have c2 := hx1.cell k2
      clear k0 k1 k2 hx1 HIm HIo5 HE5 HB5 HIl5
      go_wp2_with fail
      refine (judge_any _ _ _ _ (moved l o) _ HIm1.out).mono ?_
      rintro e x2 ⟨rfl, hx2⟩
      rw [E2.out]
      have HIo2 := Lib.hid (HIo1.out.ext hx2)
      have HE2 := Lib.hid (HE1.out.trans hx2)
      clear c0 c1 c2 hx2 HIm1 HIo1 HE1
      rcases HC.out with ⟨i, j, hi, hj, hie, hje, hoj⟩ | ⟨hie, hje⟩ | ⟨hie, hje⟩
      · rw [hie, hje]
        have hi' : i < k := by have := HL.out; omega
        have hj' : j < k := by have := HL.out; omega
        obtain ⟨y, hcy, HY, _, _⟩ := HIo2.out.cell_ hj'
        obtain rfl : y = i := by have := HY.out; rw [hoj] at this; exact (Option.some.inj this).symm
        clear hie hje hoj HY hi hj
        go_wp2_with (go_at_call 14; refine (awake_any _).mono ?_; rintro e x5 ⟨rfl, hx5⟩)
        go_ret
        exact ⟨rfl, HE2.out.trans hx5⟩
      · rw [hie, hje]
        clear hie hje
        go_wp2_with (go_at_call 14; refine (awake_any _).mono ?_; rintro e x5 ⟨rfl, hx5⟩)
        go_ret
        exact ⟨rfl, HE2.out.trans hx5⟩
      · rw [hie, hje]
        clear hie hje
        go_wp2_with (go_at_call 14; refine (awake_any _).mono ?_; rintro e x5 ⟨rfl, hx5⟩)
        go_ret
        exact ⟨rfl, HE2.out.trans hx5⟩
end Go.Proofs.Ytndmadohffcdiaa
