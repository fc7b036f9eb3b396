/- awardingbodyref18: symbols, Syndrome, Codeword. -/
import Derived.Test.YtlabmdekdhjofaaDoorLawRsF
namespace Go.Proofs.YtlabmdekdhjofaaDoor
open Go.RowKit

theorem ev_snoc (x c : F) (l : List F) : F.ev x (l ++ [c]) = F.ev x l * x + c := by
  rw [F.ev_app, show [c].length = 1 from rfl, F.pwr_one]
  congr 1
  show c * F.pwr x 0 + 0 = c
  show c * 1 + 0 = c
  rw [F.mul_one, F.add_zero]
theorem ev_take {x : F} {l : List F} {k : Nat} (h : k < l.length) : F.ev x (l.take (k + 1)) = F.ev x (l.take k) * x + l.getD k 0 := by
  rw [List.take_add_one, F.getD_eq h]
  exact ev_snoc _ _ _

def okTo (f : Int) (l : List Int) (k : Nat) : Prop := ∀ i, i < k → f ≤ l.getD i 0 ∧ l.getD i 0 < 32
theorem okTo_all {f : Int} {l : List Int} {n : Nat} (h : okTo f l n) (hl : l.length = n) (h7 : 7 ≤ n) (h15 : n ≤ 15) : wordB f l = true :=
  mem_word (by omega) (by omega) fun x hx => by
    obtain ⟨i, hi, rfl⟩ := List.getElem_of_mem hx
    have := h i (by omega)
    rw [List.getD_eq_getElem?_getD, List.getElem?_eq_getElem hi] at this
    exact this
theorem word_bad {f x : Int} {l : List Int} {k : Nat} (hx : l[k]? = some x) (h : x < f ∨ 31 < x) : wordB f l = false := by
  rcases Bool.eq_false_or_eq_true (wordB f l) with hb | hb
  · have := (word_mem hb).2.2 x (List.mem_of_getElem? hx)
    omega
  · exact hb
theorem word_len {f : Int} {l : List Int} (h : l.length < 7 ∨ 15 < l.length) : wordB f l = false := by
  rcases Bool.eq_false_or_eq_true (wordB f l) with hb | hb
  · have := word_mem hb
    omega
  · exact hb

set_option maxRecDepth 100000 in
set_option maxHeartbeats 1000000 in
theorem rsymbols_any {p : Nat} (v : Value) (l : List Int) (f : Int) (w : World) (hI : IsI p w v l) (f1 : -10 ≤ f) (f2 : f ≤ 10) :
    Calls Tryd.prog 49 #[v, .int .i64 f] w fun e w' => e = .returned (.bool (wordB f l)) ∧ Ext w w' := by
  obtain ⟨A, n, c, rfl, hnc, hc, hnn, HL⟩ := hI.open_
  have HI := Lib.hid hI
  clear hI
  by_cases h7 : n < 7
  · go_enter Tryd.func49, Tryd.ntmps49
    go_wp2_with fail
    go_ret
    exact ⟨ret_bool (word_len (.inl (by rw [HL.out]; exact h7))).symm, Ext.refl _⟩
  by_cases h15 : 15 < n
  · go_enter Tryd.func49, Tryd.ntmps49
    go_wp2_with fail
    go_ret
    exact ⟨ret_bool (word_len (.inr (by rw [HL.out]; exact h15))).symm, Ext.refl _⟩
  go_enter Tryd.func49, Tryd.ntmps49
  go_wp2_with fail
  go_loopw [5] (fun s5 wr => ∃ (k : Nat), s5 = .int .i64 (k : Int) ∧ k ≤ n ∧ Hid (okTo f l k ∧ Ext w wr)) (fun i _ => n - (intOf i).toNat)
  case atStart => exact ⟨0, rfl, by omega, fun i hi => by omega, Ext.refl _⟩
  case round =>
    obtain ⟨k, rfl, hk, HK⟩ := hrel
    by_cases hkn : k < n
    · obtain ⟨b, off, x, rfl, cx, hx, hx1, hx2⟩ := (HI.out.ext HK.out.2).at_ hkn
      by_cases hlo : x < f
      · go_wp2_with fail
        go_ret
        exact ⟨ret_bool (word_bad hx.out (.inl hlo)).symm, HK.out.2⟩
      by_cases hhi : 31 < x
      · go_wp2_with fail
        go_ret
        exact ⟨ret_bool (word_bad hx.out (.inr hhi)).symm, HK.out.2⟩
      go_wp2_with fail
      go_roundw
      case rel =>
        refine ⟨k + 1, by go_num, by omega, fun i hi => ?_, HK.out.2⟩
        rcases Nat.lt_or_ge i k with h | h
        · exact HK.out.1 i h
        · obtain rfl : i = k := by omega
          rw [List.getD_eq_getElem?_getD, hx.out]
          show f ≤ x ∧ x < 32
          omega
      case measure => simp [intOf]; omega
    · obtain rfl : k = n := by omega
      go_wp2_with fail
      go_ret
      exact ⟨ret_bool (okTo_all HK.out.1 HL.out (by omega) (by omega)).symm, HK.out.2⟩

set_option maxRecDepth 100000 in
set_option maxHeartbeats 1000000 in
theorem rsyn_any {p : Nat} (v : Value) (wd : List F) (j : Nat) (w : World) (hI : IsI p w v (wI wd)) (hj : j ≤ 1000) :
    Calls Tryd.prog 50 #[v, .int .i64 (j : Int)] w fun e w' => e = .returned (.int .i64 ((F.ev (F.gp j) wd).n : Int)) ∧ Ext w w' := by
  obtain ⟨A, n, c, rfl, hnc, hc, hnn, HL0⟩ := hI.open_
  have HL : Hid (wd.length = n) := by have := HL0.out; rw [wI_len] at this; exact this
  have HI := Lib.hid hI
  clear hI HL0
  go_enter Tryd.func50, Tryd.ntmps50
  go_wp2_with fail
  refine (rpower_F j _ (by omega)).mono ?_
  rintro e w1 ⟨rfl, hx1⟩
  replace HI := Lib.hid (HI.out.ext hx1)
  replace hx1 := Lib.hid hx1
  generalize hgx : F.gp j = x
  go_wp2_with fail
  go_loopw [5, 7] (fun s5 s7 wr => ∃ (k : Nat) (y : F), s5 = .int .i64 (y.n : Int) ∧ s7 = .int .i64 (k : Int) ∧ k ≤ n ∧ Hid (y = F.ev x (wd.take k) ∧ Ext w1 wr)) (fun _ i _ => n - (intOf i).toNat)
  case atStart => exact ⟨0, 0, rfl, rfl, by omega, rfl, Ext.refl _⟩
  case round =>
    obtain ⟨k, y, rfl, rfl, hk, HK⟩ := hrel
    by_cases hkn : k < n
    · obtain ⟨b, off, rfl, cx⟩ := isF_at (HI.out.ext HK.out.2) hkn
      have hxor := xor_F (y * x) (wd.getD k 0)
      have HY : Hid (y * x + wd.getD k 0 = F.ev x (wd.take (k + 1))) := by show _ = _; rw [ev_take (by rw [HL.out]; exact hkn), HK.out.1]
      generalize wd.getD k 0 = d at *
      have HQ : Hid (∀ n, Calls Tryd.prog 16 #[.int .i64 (y.n : Int), .int .i64 (x.n : Int)] (wr.drewN n) fun e w' => e = .returned (.int .i64 ((y * x).n : Int)) ∧ ∃ n', w' = (wr.drewN n).drewN n') := fun n => (rmul_F y x _).mono fun _ _ ⟨h1, h2⟩ => ⟨h1, 0, by rw [h2]; rfl⟩
      go_wp2_with fail
      go_quiet ((go_at_call 16; exact Calls.quiet_of (HQ.out _)))
      go_wp2_with fail
      go_roundw
      case rel => exact ⟨k + 1, _, rfl, by go_num, by omega, HY.out, HK.out.2.drewN _⟩
      case measure => simp [intOf]; omega
    · obtain rfl : k = n := by omega
      have HY : Hid (y = F.ev x wd) := by
        have h := HK.out.1
        rw [List.take_of_length_le (by rw [HL.out]; omega)] at h
        exact h
      go_wp2_with fail
      go_ret
      exact ⟨by rw [HY.out, hgx]; rfl, hx1.out.trans HK.out.2⟩

def zeroTo (wd : List F) (k : Nat) : Prop := ∀ j, 1 ≤ j → j ≤ k → F.ev (F.gp j) wd = 0
theorem codeB_of {l : List Int} (hb : wordB 0 l = true) (h : zeroTo (toF l) 6) : codeB l = true := by
  unfold codeB; rw [hb, Bool.true_and]; exact (code_iff _).2 h
theorem codeB_no {l : List Int} {j : Nat} (hb : wordB 0 l = true) (h1 : 1 ≤ j) (h6 : j ≤ 6) (h : F.ev (F.gp j) (toF l) ≠ 0) : codeB l = false := by
  rcases Bool.eq_false_or_eq_true (codeB l) with hc | hc
  · unfold codeB at hc
    rw [hb, Bool.true_and] at hc
    exact absurd ((code_iff _).1 hc j h1 h6) h
  · exact hc

set_option maxRecDepth 100000 in
set_option maxHeartbeats 1000000 in
theorem rcodeword_any {p : Nat} (v : Value) (l : List Int) (w : World) (hI : IsI p w v l) :
    Calls Tryd.prog 33 #[v] w fun e w' => e = .returned (.bool (codeB l)) ∧ Ext w w' := by
  have HI := Lib.hid hI
  clear hI
  rcases Bool.eq_false_or_eq_true (wordB 0 l) with hb | hb
  · have HB := Lib.hid hb
    have HW := Lib.hid (wI_toF (word_mem hb).2.2)
    go_enter Tryd.func33, Tryd.ntmps33
    go_wp2_with fail
    refine (rsymbols_any _ l 0 _ HI.out (by omega) (by omega)).mono ?_
    rintro e w1 ⟨rfl, hx1⟩
    rw [hb]
    replace HI := Lib.hid (HI.out.ext hx1)
    replace hx1 := Lib.hid hx1
    clear hb
    go_wp2_with fail
    go_loopw [3] (fun s3 wr => ∃ (k : Nat), s3 = .int .i64 (k : Int) ∧ 1 ≤ k ∧ k ≤ 7 ∧ Hid (zeroTo (toF l) (k - 1) ∧ Ext w1 wr)) (fun i _ => 7 - (intOf i).toNat)
    case atStart => exact ⟨1, rfl, by omega, by omega, fun j h1 h2 => by omega, Ext.refl _⟩
    case round =>
      obtain ⟨k, rfl, hk1, hk7, HK⟩ := hrel
      by_cases hk : k ≤ 6
      · go_upto_if 14 with (go_at_call 50; refine (rsyn_any _ (toF l) k _ (by rw [HW.out]; exact HI.out.ext HK.out.2) (by omega)).mono ?_; rintro e w2 ⟨rfl, hx2⟩)
        have HX2 := Lib.hid (HK.out.2.trans hx2)
        clear hx2
        by_cases he : F.ev (F.gp k) (toF l) = 0
        · have HZ : Hid (zeroTo (toF l) (k + 1 - 1)) := by
            intro j h1 h2
            rcases Nat.lt_or_ge j k with h | h
            · exact HK.out.1 j h1 (by omega)
            · obtain rfl : j = k := by omega
              exact he
          rw [he]
          have hz0 : ((0 : F).n : Int) = 0 := rfl
          rw [hz0]
          clear he hz0
          go_wp2_with fail
          go_roundw
          case rel => exact ⟨k + 1, by go_num, by omega, by omega, HZ.out, HX2.out⟩
          case measure => simp [intOf]; omega
        · have HC : Hid (codeB l = false) := codeB_no HB.out hk1 hk he
          have hn : (F.ev (F.gp k) (toF l)).n ≠ 0 := fun e => he (F.ext e)
          have hlt := (F.ev (F.gp k) (toF l)).lt
          generalize F.ev (F.gp k) (toF l) = y at *
          clear he
          go_wp2_with fail
          go_ret
          exact ⟨ret_bool HC.out.symm, hx1.out.trans HX2.out⟩
      · have HC : Hid (codeB l = true) := codeB_of HB.out (by rw [show 6 = k - 1 by omega]; exact HK.out.1)
        go_wp2_with fail
        go_ret
        exact ⟨ret_bool HC.out.symm, hx1.out.trans HK.out.2⟩
  · have HF : Hid (codeB l = false) := by show _ = _; unfold codeB; rw [hb]; rfl
    go_enter Tryd.func33, Tryd.ntmps33
    go_wp2_with fail
    refine (rsymbols_any _ l 0 _ HI.out (by omega) (by omega)).mono ?_
    rintro e w1 ⟨rfl, hx1⟩
    rw [hb]
    go_wp2_with fail
    go_ret
    exact ⟨ret_bool HF.out.symm, hx1⟩
end Go.Proofs.YtlabmdekdhjofaaDoor
