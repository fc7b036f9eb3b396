/- booklet.Valid and the reference's Valid. -/
import Derived.Test.YtpbfbkkalemmiaaValidP
namespace Go.Proofs.Ytpbfbkkalemmiaa
open Go.RowKit

set_option maxHeartbeats 4000000 in
theorem bkvalid_any (code var : Int) (v vb : Value) (ps : List Part) (pgs : List (List Int)) (w : World) {p : Nat} (h : IsQ p w v ps) (hb : IsP p w vb pgs) :
    Calls Try.prog 23 #[.agg #[.int .i64 code, .int .i64 var, v], .agg #[vb]] w fun e w' => e = .returned (.bool (bkB code var ps pgs)) ∧ Ext w w' := by
  obtain ⟨A, n, c, rfl, hnc, hc, hnn, HL⟩ := h.open_
  obtain ⟨Ab, m, cb, rfl, hmc, hcb, hmm, HM⟩ := hb.open_
  have H := Lib.hid h
  have HB := Lib.hid hb
  clear h hb
  go_enter Try.func23, Try.ntmps23
  go_wp2_with fail
  refine (validPaper_any _ _ _ ps _ ((H.out.ext (RPart.stab p) ((Ext.refl _).alloc _)).ext (RPart.stab p) ((Ext.refl _).alloc _))).mono ?_
  rintro e w1 ⟨rfl, hx1⟩
  have HE1 := Lib.hid (Ext.trans (((Ext.refl w).alloc _).alloc _) hx1)
  have d0 : w1.cell? ⟨w.heap.size + 1, 0, none⟩ = some (.slice Ab m cb) := hx1.cell (by simp)
  have b2 : w1.cell? ⟨w.heap.size, 2, none⟩ = some (.slice A n c) := hx1.cell (by simp)
  have D0 := Lib.hid d0
  have B2 := Lib.hid b2
  have HI1 := Lib.hid (H.out.ext (RPart.stab p) HE1.out)
  have HP1 := Lib.hid (HB.out.ext (RI.stab p) HE1.out)
  clear hx1
  cases hv : vpaB code var ps with
  | false =>
    have HF := Lib.hid (bk_false (fun hk => by have := hk.1; rw [hv] at this; cases this) : bkB code var ps pgs = false)
    clear hv
    go_wp2_with fail
    go_ret
    exact ⟨ret_bool HF.out.symm, HE1.out⟩
  | true =>
  have HV := Lib.hid hv
  have hvp := vpa_of hv
  have hn1 : 1 ≤ n := by have := HL.out; omega
  have hn24 : n ≤ 24 := by have := HL.out; omega
  clear hv hvp
  by_cases hm : m ≤ 12 ∧ m % 4 = 0
  case neg =>
    have HF := Lib.hid (bk_false (fun hk => hm (by have h1 := hk.2.1; have h2 := hk.2.2.1; rw [HM.out] at h1 h2; exact ⟨h1, h2⟩)) : bkB code var ps pgs = false)
    by_cases h12 : 12 < m
    · clear hm
      go_wp2_with fail
      go_ret
      exact ⟨ret_bool HF.out.symm, HE1.out⟩
    · have e4 : ((m : Int) % 4 != 0) = true := by simp; omega
      clear hm
      go_wp2_with fail
      go_ret
      exact ⟨ret_bool HF.out.symm, HE1.out⟩
  case pos =>
  obtain ⟨hm12, hm4⟩ := hm
  have e4 : ((m : Int) % 4 != 0) = false := by simp; omega
  have HM4 := Lib.hid hm4
  clear hm4
  go_wp2_with fail
  clear d0 b2 e4
  go_loopw [5, 30] (fun s5 s30 wr => ∃ (i nx : Nat), i ≤ m ∧ nx ≤ n ∧ s30 = .int .i64 i ∧ s5 = .int .i64 nx ∧ Hid (Left code var ps pgs i nx ∧ (0 < i → ∀ l, pgs[0]? = some l → l = []) ∧ Ext w1 wr)) (fun _ i _ => m - (intOf i).toNat)
  case atStart => exact ⟨0, 0, by omega, by omega, rfl, rfl, Left.start _ _ _ _, fun h => absurd h (by omega), Ext.refl _⟩
  case round =>
    obtain ⟨wo, rfl⟩ : ∃ wo : World, wo = wr := ⟨_, rfl⟩
    obtain ⟨i, nx, hi, hnx, rfl, rfl, HR⟩ := hrel
    by_cases hlt : i < m
    · obtain ⟨bb, ob, cs0, l0, rfl, _⟩ := HB.out.at_ hlt
      obtain ⟨u, l, hcu, hIu, HX⟩ := (HP1.out.ext (RI.stab p) HR.out.2.2).page hlt
      obtain ⟨Au, nu, cu, rfl, hnu, hcu', hnnu, HLU⟩ := hIu.open_
      have HIU := Lib.hid hIu
      clear hIu
      by_cases hi0 : i = 0 ∧ 0 < nu
      · obtain ⟨hi00, hnu0⟩ := hi0
        have HF := Lib.hid (bk_false (fun hk => by have := hk.2.2.2.1 l (by rw [← hi00]; exact HX.out); have h2 := HLU.out; rw [this] at h2; simp at h2; omega) : bkB code var ps pgs = false)
        have e0 : ((i : Int) == 0) = true := by simp [hi00]
        clear hi00
        go_wp2_with fail
        go_ret
        exact ⟨ret_bool HF.out.symm, HE1.out.trans HR.out.2.2⟩
      · have H0 : Hid (0 < i + 1 → ∀ l, pgs[0]? = some l → l = []) := fun _ l' hl' => by
          by_cases e : i = 0
          · subst e
            rw [HX.out] at hl'
            have := Option.some.inj hl'
            subst this
            have := HLU.out
            exact List.eq_nil_of_length_eq_zero (by omega)
          · exact HR.out.2.1 (by omega) l' hl'
        have hor : (∃ _h : ((i : Int) == 0) = true, nu < 1) ∨ (∃ _h : ((i : Int) == 0) = false, nu < 10000000000000000000) := by
          by_cases e : i = 0
          · exact .inl ⟨by simp [e], by omega⟩
          · exact .inr ⟨by simp; omega, by omega⟩
        clear hi0
        go_upto_region 7 with (fail)
        go_cut [41] (fun s41 wx => s41 = .bool false ∧ wo = wx)
        case first =>
          rcases hor with ⟨e0, hnu1⟩ | ⟨e0, hnu1⟩
          · go_wp2_with fail
            go_meet
            exact ⟨by simp; omega, rfl⟩
          · go_wp2_with fail
            go_meet
            exact ⟨rfl, rfl⟩
        case rest =>
        obtain ⟨rfl, hwx⟩ := hcut
        subst hwx
        clear hor
        go_wp2_with fail
        go_loopw [5, 8, 44] (fun s5 s8 s44 wr => ∃ (k : Nat) (ln : Int), k ≤ nu ∧ nx + k ≤ n ∧ 0 ≤ ln ∧ ln ≤ 30 * k ∧ s5 = .int .i64 ((nx : Int) + k) ∧ s8 = .int .i64 ln ∧ s44 = .int .i64 k ∧ Hid (ln = lnTo (ps.map need) nx k ∧ entTo (ps.map need) nx l k ∧ Ext wo wr)) (fun _ _ i _ => nu - (intOf i).toNat)
        case atStart => exact ⟨0, 0, by omega, by omega, by omega, by omega, by simp, rfl, rfl, (lnTo_zero _ _).symm, entTo_zero (by have := HL.out; simp; omega) _, Ext.refl _⟩
        case round =>
          obtain ⟨k, ln, hk, hnk, hln0, hln1, rfl, rfl, rfl, HQ⟩ := hrel
          have HEW := Lib.hid (HR.out.2.2.trans HQ.out.2.2)
          have b2 := HEW.out.cell B2.out
          by_cases hklt : k < nu
          · obtain ⟨bu, ou, y, rfl, hcy, HY, hy1, hy2⟩ := (HIU.out.ext HQ.out.2.2).at_ hklt
            by_cases hg : y = (nx : Int) + k ∧ nx + k < n
            · obtain ⟨hye, hnkn⟩ := hg
              subst hye
              obtain ⟨b, off, cs1, q1, rfl, _⟩ := H.out.at_ hnkn
              obtain ⟨q, c0, c1, c2, c3, c4, c5, hw, HXq⟩ := (HI1.out.ext (RPart.stab p) HEW.out).part hnkn
              have hnb := need_bd q
              go_wp2_with fail
              refine (need_any q _).mono ?_
              rintro e w2 ⟨rfl, hx2⟩
              clear c0 c1 c2 c3 c4 c5 b2 hcy
              generalize hxq : need q = x at *
              have HXN : Hid ((ps.map need)[nx + k]? = some x) := by have := needs_at HXq.out; rw [hxq] at this; exact this
              clear hxq
              go_wp2_with fail
              go_roundw
              case rel => exact ⟨k + 1, ln + x, by omega, by omega, by omega, by omega, by go_num, rfl, by go_num, by rw [lnTo_succ HXN.out, ← HQ.out.1], entTo_succ HQ.out.2.1 HY.out (by simp) (by have := HL.out; simp; omega), HQ.out.2.2.trans hx2⟩
              case measure => simp [intOf]; omega
            · have HF := Lib.hid (bk_false (HR.out.1.bad HX.out (ent_bad HY.out (by have := HL.out; simp; omega))) : bkB code var ps pgs = false)
              by_cases hye : y = (nx : Int) + k
              · subst hye
                have hnkn : n ≤ nx + k := by omega
                clear hg
                go_wp2_with fail
                go_ret
                exact ⟨ret_bool HF.out.symm, HE1.out.trans HEW.out⟩
              · have e5 : (y != (nx : Int) + k) = true := by simp; exact hye
                clear hg hye
                go_wp2_with fail
                go_ret
                exact ⟨ret_bool HF.out.symm, HE1.out.trans HEW.out⟩
          · obtain rfl : k = nu := by omega
            by_cases hln : ln ≤ 30
            · have HOK : Hid (pgOk (ps.map need) nx l) := ⟨by rw [HLU.out]; exact HQ.out.2.1, by rw [HLU.out, ← HQ.out.1]; exact hln⟩
              go_wp2_with fail
              go_roundw
              case rel => exact ⟨i + 1, nx + k, by omega, by omega, by go_num, by go_num, by have := HR.out.1.next HX.out HOK.out; rw [HLU.out] at this; exact this, H0.out, HEW.out⟩
              case measure => simp [intOf]; omega
            · have HF := Lib.hid (bk_false (HR.out.1.bad HX.out (fun hk => hln (by have := hk.2; rw [HLU.out, ← HQ.out.1] at this; exact this))) : bkB code var ps pgs = false)
              go_wp2_with fail
              go_ret
              exact ⟨ret_bool HF.out.symm, HE1.out.trans HEW.out⟩
    · obtain rfl : i = m := by omega
      have b2 := HR.out.2.2.cell B2.out
      have HFIN : Hid (decide (nx = n) = bkB code var ps pgs) := by
        show decide (nx = n) = bkB code var ps pgs
        have hl := HR.out.1.fin HM.out
        rw [HL.out] at hl
        by_cases e : nx = n
        · rw [bk_true ⟨HV.out, by rw [HM.out]; exact hm12, by rw [HM.out]; exact HM4.out, fun l hl' => HR.out.2.1 (by have := (List.getElem?_eq_some_iff.1 hl').1; rw [HM.out] at this; omega) l hl', hl.2 e⟩]
          simp [e]
        · rw [bk_false (fun hk => e (hl.1 hk.2.2.2.2))]
          simp [e]
      go_wp2_with fail
      go_ret
      exact ⟨ret_bool (by rw [← HFIN.out, Bool.eq_iff_iff]; simp; omega), HE1.out.trans HR.out.2.2⟩
end Go.Proofs.Ytpbfbkkalemmiaa
