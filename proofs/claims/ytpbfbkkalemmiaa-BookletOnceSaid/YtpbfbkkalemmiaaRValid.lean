/- The reference's Valid. -/
import Derived.Test.YtpbfbkkalemmiaaValid
namespace Go.Proofs.Ytpbfbkkalemmiaa
open Go.RowKit

set_option maxHeartbeats 4000000 in
theorem rbkvalid_any (code var : Int) (v vb : Value) (ps : List Part) (pgs : List (List Int)) (w : World) {p : Nat} (h : IsQ p w v ps) (hb : IsP p w vb pgs) :
    Calls Try.prog 24 #[.agg #[.int .i64 code, .int .i64 var, v], .agg #[vb]] w fun e w' => e = .returned (.bool (bkB code var ps pgs)) ∧ Ext w w' := by
  obtain ⟨A, n, c, rfl, hnc, hc, hnn, HL⟩ := h.open_
  obtain ⟨Ab, m, cb, rfl, hmc, hcb, hmm, HM⟩ := hb.open_
  have H := Lib.hid h
  have HB := Lib.hid hb
  clear h hb
  go_enter Try.func24, Try.ntmps24
  go_wp2_with fail
  refine (rvalidPaper_any _ _ _ ps _ ((H.out.ext (RPart.stab p) ((Ext.refl _).alloc _)).ext (RPart.stab p) ((Ext.refl _).alloc _))).mono ?_
  rintro e w1 ⟨rfl, hx1⟩
  have HE1 := Lib.hid (Ext.trans (((Ext.refl w).alloc _).alloc _) hx1)
  have d0 : w1.cell? ⟨w.heap.size + 1, 0, none⟩ = some (.slice Ab m cb) := hx1.cell (by simp)
  have b2 : w1.cell? ⟨w.heap.size, 2, none⟩ = some (.slice A n c) := hx1.cell (by simp)
  have D0 := Lib.hid d0
  have B2 := Lib.hid b2
  have HI1 := Lib.hid (H.out.ext (RPart.stab p) HE1.out)
  have HP1 := Lib.hid (HB.out.ext (RI.stab p) HE1.out)
  clear hx1
  cases hv : vpaB code var ps with
  | false =>
    have HF := Lib.hid (bk_false (fun hk => by have := hk.1; rw [hv] at this; cases this) : bkB code var ps pgs = false)
    clear hv
    go_wp2_with fail
    go_ret
    exact ⟨ret_bool HF.out.symm, HE1.out⟩
  | true =>
  have HV := Lib.hid hv
  have hvp := vpa_of hv
  have hn1 : 1 ≤ n := by have := HL.out; omega
  have hn24 : n ≤ 24 := by have := HL.out; omega
  clear hv hvp
  by_cases hm0 : m < 1
  · have HF := Lib.hid (bk_false (fun hk => by
      have h5 := hk.2.2.2.2
      have : pgs = [] := List.eq_nil_of_length_eq_zero (by have := HM.out; omega)
      rw [this] at h5
      simp [okPages] at h5
      have := HL.out
      omega) : bkB code var ps pgs = false)
    go_wp2_with fail
    go_ret
    exact ⟨ret_bool HF.out.symm, HE1.out⟩
  by_cases hm : m ≤ 12 ∧ m % 4 = 0
  case neg =>
    have HF := Lib.hid (bk_false (fun hk => hm (by have h1 := hk.2.1; have h2 := hk.2.2.1; rw [HM.out] at h1 h2; exact ⟨h1, h2⟩)) : bkB code var ps pgs = false)
    by_cases h12 : 12 < m
    · clear hm
      go_wp2_with fail
      go_ret
      exact ⟨ret_bool HF.out.symm, HE1.out⟩
    · have e4 : ((m : Int) % 4 != 0) = true := by simp; omega
      clear hm
      go_wp2_with fail
      go_ret
      exact ⟨ret_bool HF.out.symm, HE1.out⟩
  case pos =>
  obtain ⟨hm12, hm4⟩ := hm
  have e4 : ((m : Int) % 4 != 0) = false := by simp; omega
  have HM4 := Lib.hid hm4
  have hm1 : 0 < m := by omega
  clear hm4 hm0
  obtain ⟨bb, ob, cs0, l0, rfl, _⟩ := HB.out.at_ hm1
  obtain ⟨u0, l00, hcu0, hIu0, HX0⟩ := HP1.out.page hm1
  obtain ⟨Au0, nu0, cu0, rfl, hnu0, hcu0', hnnu0, HLU0⟩ := hIu0.open_
  simp only [Nat.add_zero] at hcu0
  by_cases hnz : 0 < nu0
  · have HF := Lib.hid (bk_false (fun hk => by have := hk.2.2.2.1 l00 HX0.out; have h2 := HLU0.out; rw [this] at h2; simp at h2; omega) : bkB code var ps pgs = false)
    go_wp2_with fail
    go_ret
    exact ⟨ret_bool HF.out.symm, HE1.out⟩
  have HZ : Hid (∀ l, pgs[0]? = some l → l = []) := fun l hl => by
    rw [HX0.out] at hl
    have := Option.some.inj hl
    subst this
    exact List.eq_nil_of_length_eq_zero (by have := HLU0.out; omega)
  go_wp2_with fail
  clear d0 b2 e4 hcu0 hIu0 hnz
  go_loopw [5, 6] (fun s5 s30 wr => ∃ (i nx : Nat), i ≤ m ∧ nx ≤ n ∧ s30 = .int .i64 i ∧ s5 = .int .i64 nx ∧ Hid (Left code var ps pgs i nx ∧ Ext w1 wr)) (fun _ i _ => m - (intOf i).toNat)
  case atStart => exact ⟨0, 0, by omega, by omega, rfl, rfl, Left.start _ _ _ _, Ext.refl _⟩
  case round =>
    obtain ⟨wo, rfl⟩ : ∃ wo : World, wo = wr := ⟨_, rfl⟩
    obtain ⟨i, nx, hi, hnx, rfl, rfl, HR⟩ := hrel
    have d0 := HR.out.2.cell D0.out
    by_cases hlt : i < m
    · obtain ⟨u, l, hcu, hIu, HX⟩ := (HP1.out.ext (RI.stab p) HR.out.2).page hlt
      obtain ⟨Au, nu, cu, rfl, hnu, hcu', hnnu, HLU⟩ := hIu.open_
      have HIU := Lib.hid hIu
      have HCU := Lib.hid hcu
      clear hIu
      go_wp2_with fail
      clear d0 hcu
      go_loopw [5, 7, 8] (fun s5 s8 s44 wr => ∃ (k : Nat) (ln : Int), k ≤ nu ∧ nx + k ≤ n ∧ 0 ≤ ln ∧ ln ≤ 30 * k ∧ s5 = .int .i64 ((nx : Int) + k) ∧ s8 = .int .i64 ln ∧ s44 = .int .i64 k ∧ Hid (ln = lnTo (ps.map need) nx k ∧ entTo (ps.map need) nx l k ∧ Ext wo wr)) (fun _ _ i _ => nu - (intOf i).toNat)
      case atStart => exact ⟨0, 0, by omega, by omega, by omega, by omega, by simp, rfl, rfl, (lnTo_zero _ _).symm, entTo_zero (by have := HL.out; simp; omega) _, Ext.refl _⟩
      case round =>
        obtain ⟨k, ln, hk, hnk, hln0, hln1, rfl, rfl, rfl, HQ⟩ := hrel
        have HEW := Lib.hid (HR.out.2.trans HQ.out.2.2)
        have b2 := HEW.out.cell B2.out
        have d0 := HEW.out.cell D0.out
        have hcu := HQ.out.2.2.cell HCU.out
        by_cases hklt : k < nu
        · obtain ⟨bu, ou, y, rfl, hcy, HY, hy1, hy2⟩ := (HIU.out.ext HQ.out.2.2).at_ hklt
          by_cases hg : y = (nx : Int) + k ∧ nx + k < n
          · obtain ⟨hye, hnkn⟩ := hg
            subst hye
            obtain ⟨b, off, cs1, q1, rfl, _⟩ := H.out.at_ hnkn
            obtain ⟨q, c0, c1, c2, c3, c4, c5, hw, HXq⟩ := (HI1.out.ext (RPart.stab p) HEW.out).part hnkn
            have hnb := need_bd q
            go_wp2_with fail
            refine (rneed_any q _).mono ?_
            rintro e w2 ⟨rfl, hx2⟩
            clear c0 c1 c2 c3 c4 c5 b2 hcy d0 hcu
            generalize hxq : need q = x at *
            have HXN : Hid ((ps.map need)[nx + k]? = some x) := by have := needs_at HXq.out; rw [hxq] at this; exact this
            clear hxq
            go_wp2_with fail
            go_roundw
            case rel => exact ⟨k + 1, ln + x, by omega, by omega, by omega, by omega, by go_num, rfl, by go_num, by rw [lnTo_succ HXN.out, ← HQ.out.1], entTo_succ HQ.out.2.1 HY.out (by simp) (by have := HL.out; simp; omega), HQ.out.2.2.trans hx2⟩
            case measure => simp [intOf]; omega
          · have HF := Lib.hid (bk_false (HR.out.1.bad HX.out (ent_bad HY.out (by have := HL.out; simp; omega))) : bkB code var ps pgs = false)
            by_cases hnkn : n ≤ nx + k
            · clear hg
              go_wp2_with fail
              go_ret
              exact ⟨ret_bool HF.out.symm, HE1.out.trans HEW.out⟩
            · have e5 : (y != (nx : Int) + k) = true := by simp; omega
              clear hg
              go_wp2_with fail
              go_ret
              exact ⟨ret_bool HF.out.symm, HE1.out.trans HEW.out⟩
        · obtain rfl : k = nu := by omega
          by_cases hln : ln ≤ 30
          · have HOK : Hid (pgOk (ps.map need) nx l) := ⟨by rw [HLU.out]; exact HQ.out.2.1, by rw [HLU.out, ← HQ.out.1]; exact hln⟩
            go_wp2_with fail
            go_roundw
            case rel => exact ⟨i + 1, nx + k, by omega, by omega, by go_num, by go_num, by have := HR.out.1.next HX.out HOK.out; rw [HLU.out] at this; exact this, HEW.out⟩
            case measure => simp [intOf]; omega
          · have HF := Lib.hid (bk_false (HR.out.1.bad HX.out (fun hk => hln (by have := hk.2; rw [HLU.out, ← HQ.out.1] at this; exact this))) : bkB code var ps pgs = false)
            go_wp2_with fail
            go_ret
            exact ⟨ret_bool HF.out.symm, HE1.out.trans HEW.out⟩
    · obtain rfl : i = m := by omega
      have b2 := HR.out.2.cell B2.out
      have HFIN : Hid (decide (nx = n) = bkB code var ps pgs) := by
        show decide (nx = n) = bkB code var ps pgs
        have hl := HR.out.1.fin HM.out
        rw [HL.out] at hl
        by_cases e : nx = n
        · rw [bk_true ⟨HV.out, by rw [HM.out]; exact hm12, by rw [HM.out]; exact HM4.out, HZ.out, hl.2 e⟩]
          simp [e]
        · rw [bk_false (fun hk => e (hl.1 hk.2.2.2.2))]
          simp [e]
      go_wp2_with fail
      go_ret
      exact ⟨ret_bool (by rw [← HFIN.out, Bool.eq_iff_iff]; simp; omega), HE1.out.trans HR.out.2⟩
end Go.Proofs.Ytpbfbkkalemmiaa
