/- booklet.Fields and the reference's Fields. -/
import Derived.Test.YtpbfbkkalemmiaaFieldsP
import Derived.Test.YtpbfbkkalemmiaaValid
import Derived.Test.YtpbfbkkalemmiaaRValid
namespace Go.Proofs.Ytpbfbkkalemmiaa
open Go.RowKit

theorem boxPB {w w1 : World} {o o' : Obj} {a b c d : Value} {t t' : TypeId} (ho : o = .cells #[a, b, c] t) (ho' : o' = .cells #[d] t') (h : Ext ((w.alloc o).alloc o') w1) :
    w1.cell? ⟨w.heap.size, 0, none⟩ = some a ∧ w1.cell? ⟨w.heap.size, 1, none⟩ = some b ∧ w1.cell? ⟨w.heap.size, 2, none⟩ = some c ∧ w1.cell? ⟨w.heap.size + 1, 0, none⟩ = some d := by
  subst ho; subst ho'
  have h1 := cell3 (h.blk (((Ext.refl _).alloc _).blk (heap_alloc_new w _)))
  have h2 : w1.cell? ⟨w.heap.size + 1, 0, none⟩ = some d := by
    have := h.blk (heap_alloc_new (w.alloc (.cells #[a, b, c] t)) (.cells #[d] t'))
    have := blk_cell this (i := 0) rfl
    simpa using this
  exact ⟨h1.1, h1.2.1, h1.2.2, h2⟩

/-- What Fields leaves. -/
def FieldsRet (p : Nat) (w : World) (fs : List Fld) (e : Ending) (w' : World) : Prop := ∃ v, e = .returned v ∧ IsF p w' v fs ∧ Ext w w'

set_option maxRecDepth 100000 in
set_option maxHeartbeats 4000000 in
theorem fields_any (code var page : Int) (v vb : Value) (ps : List Part) (pgs : List (List Int)) (w : World) {p : Nat} (hp : p < w.heap.size) (h : IsQ p w v ps) (hb : IsP p w vb pgs) (hpg : I64 page) :
    Calls Try.prog 27 #[.agg #[.int .i64 code, .int .i64 var, v], .agg #[vb], .int .i64 page] w (FieldsRet p w (fieldsP code var ps pgs page)) := by
  obtain ⟨iF, hiF, hy0, hy1, hy2⟩ := info_parts Try.infoF
  obtain ⟨A, n, c, rfl, hnc, hc, hnn, HL⟩ := h.open_
  obtain ⟨Ab, m, cb, rfl, hmc, hcb, hmm, HM⟩ := hb.open_
  obtain ⟨hg1, hg2⟩ := hpg
  have HE : Hid (Ext w ((w.alloc (.cells #[.int .i64 code, .int .i64 var, .slice A n c] 33)).alloc (.cells #[.slice Ab m cb] 38))) := ((Ext.refl _).alloc _).alloc _
  have HQ := Lib.hid (h.ext (RPart.stab p) HE.out)
  have HP := Lib.hid (hb.ext (RI.stab p) HE.out)
  clear h hb
  by_cases hin : 0 ≤ page ∧ page < m
  · obtain ⟨hi0, hi1⟩ := hin
    obtain ⟨j, rfl⟩ := Int.eq_ofNat_of_zero_le hi0
    have hjm : j < m := by omega
    have hkb := boxPB (w := w) (o := .cells #[.int .i64 code, .int .i64 var, .slice A n c] 33) (o' := .cells #[.slice Ab m cb] 38) rfl rfl (Ext.refl _)
    replace hkb := Lib.hid hkb
    cases hv : bkB code var ps pgs with
    | false =>
      have HF := Lib.hid (fieldsP_out (code := code) (var := var) (ps := ps) (pgs := pgs) (page := (j : Int)) (by simp [hv]))
      replace hv := Lib.hid hv
      go_enter Try.func27, Try.ntmps27
      go_wp2_with fail
      refine (bkvalid_any _ _ _ _ ps pgs _ HQ.out HP.out).mono ?_
      rintro e w1 ⟨rfl, hx1⟩
      rw [hv.out]
      go_wp2_with fail
      go_ret
      exact ⟨_, rfl, by rw [HF.out]; exact IsS.nil _ _ _ _, HE.out.trans hx1⟩
    | true =>
      obtain ⟨bb, ob, cs0, pg0, rfl, _⟩ := HP.out.at_ hjm
      obtain ⟨u0, pg, hcu0, hIu0, HX0⟩ := HP.out.page hjm
      have HF := Lib.hid (fieldsP_in hv HX0.out)
      have HPP := Lib.hid (page_parts hv HX0.out)
      have HI64 := Lib.hid (fields_i64 hv HX0.out)
      obtain ⟨Ap, np, cp, rfl, _, _, _, HLp⟩ := hIu0.open_
      have hnp : np ≤ 24 := by have := HPP.out.1; have := HLp.out; omega
      replace hv := Lib.hid hv
      replace hIu0 := Lib.hid hIu0
      replace hcu0 := Lib.hid hcu0
      go_enter Try.func27, Try.ntmps27
      go_wp2_with fail
      refine (bkvalid_any _ _ _ _ ps pgs _ HQ.out HP.out).mono ?_
      rintro e w1 ⟨rfl, hx1⟩
      rw [hv.out]
      replace hx1 := Lib.hid hx1
      have hcu := hx1.out.cell hcu0.out
      obtain ⟨b0, b1, b2, b3⟩ := boxPB (w := w) rfl rfl hx1.out
      have HQ1 := Lib.hid (HQ.out.ext (RPart.stab p) hx1.out)
      have HI1 := Lib.hid (hIu0.out.ext hx1.out)
      have HE1 := Lib.hid (HE.out.trans hx1.out)
      have hp1 : p < w1.heap.size := Nat.lt_of_lt_of_le hp HE1.out.size
      clear HQ HP hIu0 hcu0 HX0 hkb
      go_wp2_with fail
      go_loopw [7, 32] (fun s7 s32 wr => ∃ (k : Nat) (fs : List Fld), s32 = .int .i64 k ∧ k ≤ np ∧ fs.length ≤ 5 * k ∧ Hid (fs = fldsOf ps (pg.take k) ∧ OwnF w1.heap.size wr s7 fs ∧ Ext w1 wr)) (fun _ i _ => np - (intOf i).toNat)
      case atStart => exact ⟨0, [], rfl, by omega, by simp, by simp [fldsOf], OwnF.nil _ _, Ext.refl _⟩
      case round =>
        obtain ⟨k, fs, rfl, hk, hfl, HR⟩ := hrel
        clear b0 b1 b2 b3 hcu
        by_cases hkn : k < np
        · obtain ⟨b0, b1, b2, b3⟩ := boxPB (w := w) rfl rfl (hx1.out.trans HR.out.2.2)
          obtain ⟨bp, op, x0, rfl, _⟩ := HI1.out.at_ hkn
          obtain ⟨x, hcx, HX, hx1', hx2'⟩ := (HI1.out.ext HR.out.2.2).cell_ hkn
          obtain ⟨i, q, hxi, hqi, hi24, hvq⟩ := HPP.out.2 k x HX.out
          subst hxi
          have hin : i < n := by have := (List.getElem?_eq_some_iff.1 hqi).1; have := HL.out; omega
          obtain ⟨bq, oq, cs1, q1, rfl, _⟩ := HQ1.out.at_ hin
          obtain ⟨q', c0, c1, c2, c3, c4, c5, _, HQq⟩ := (HQ1.out.ext (RPart.stab p) HR.out.2.2).part hin
          obtain rfl : q' = q := by have := HQq.out; rw [hqi] at this; exact (Option.some.inj this).symm
          have hvo := vp_of hvq
          replace hqi := Lib.hid hqi
          replace hvq := Lib.hid hvq
          by_cases hk2 : q'.kind = 2
          · have hb2 : (q'.kind != 2) = false := by simp [hk2]
            have ho5 : 2 ≤ q'.opts ∧ q'.opts ≤ 5 := by omega
            obtain ⟨ho2, ho5⟩ := ho5
            obtain ⟨oo, hoo⟩ := Int.eq_ofNat_of_zero_le (show 0 ≤ q'.opts by omega)
            have HPF : Hid (partF ps (i : Int) = (List.range oo).map fun k : Nat => ⟨(i : Int), (k : Int)⟩) := by
              show _ = _
              have := partF_yes hqi.out hk2; rw [hoo] at this; simpa using this
            rw [hoo] at c4 ho2 ho5
            clear hvo hk2 hoo
            obtain ⟨wo, rfl⟩ : ∃ wo : World, wo = wr := ⟨_, rfl⟩
            go_wp2_with fail
            go_loopw [7, 10, 49] (fun s7 s10 s49 wr => ∃ (o : Nat) (fs2 : List Fld), s49 = .int .i64 o ∧ o ≤ oo ∧ fs2.length ≤ 5 * k + o ∧ Hid (fs2 = fldsOf ps (pg.take k) ++ (List.range o).map (fun k : Nat => ⟨(i : Int), (k : Int)⟩) ∧ OwnF w1.heap.size wr s7 fs2 ∧ Ext w1 wr)) (fun _ _ i _ => oo - (intOf i).toNat)
            case atStart => exact ⟨0, fs, rfl, by omega, by omega, by simpa using HR.out.1, HR.out.2.1, HR.out.2.2⟩
            case round =>
              obtain ⟨o, fs2, rfl, ho, hfl2, HS⟩ := hrel
              by_cases hoo' : o < oo
              · go_wp2_with (at_builtin; refine wpList_pushN _ rfl (.tmp 52) (.tmp 56) 50 rfl w1.heap.size 53 iF _ 2 16 Try.underlying50 hiF hy0 hy1 hy2 rfl (by omega) _ _ _ rfl (HS.out.2.1.own.alloc _) _ _ _ rfl (heap_alloc_new wr _) rfl (by simp [Value.oneCell']) (by omega) (by omega) (by have := HS.out.2.2.size; simp; omega) ?_; intro v5 w5 hown5 hg5)
                go_roundw
                case rel => exact ⟨v5, .int .i64 o, .int .i64 (o + 1), ⟨o + 1, by go_num, by omega, fs2 ++ [⟨(i : Int), (o : Int)⟩], by simp; omega, by rw [range_snoc, HS.out.1, List.append_assoc], OwnF.push hown5, Ext.grown (HS.out.2.2.alloc _) hg5 (own_ge HS.out.2.1.own)⟩, rfl, rfl, rfl⟩
                case measure => simp [intOf]; omega
              · obtain rfl : o = oo := by omega
                go_wp2_with fail
                go_roundw
                case rel => exact ⟨k + 1, fs2, by go_num, by omega, by omega, by rw [flds_snoc HX.out, HPF.out]; exact HS.out.1, HS.out.2⟩
                case measure => simp [intOf]; omega
          · have hb2 : (q'.kind != 2) = true := by simp [hk2]
            have HPF := Lib.hid (partF_no hqi.out hk2)
            clear hvo hk2
            go_wp2_with fail
            go_roundw
            case rel => exact ⟨k + 1, fs, by go_num, by omega, by omega, by rw [flds_snoc HX.out, HPF.out, List.append_nil]; exact HR.out.1, HR.out.2⟩
            case measure => simp [intOf]; omega
        · obtain rfl : k = np := by omega
          go_wp2_with fail
          go_ret
          refine ⟨_, rfl, ?_, HE1.out.trans HR.out.2.2⟩
          rw [HF.out, ← take_all HLp.out, ← HR.out.1]
          refine HR.out.2.1.isF hp1 ?_
          rw [HR.out.1, take_all HLp.out]
          exact HI64.out
  · have HF := Lib.hid (fieldsP_out (code := code) (var := var) (ps := ps) (pgs := pgs) (page := page) (by have := HM.out; rw [this]; exact fun h => hin h.2))
    have hin' : page < 0 ∨ (m : Int) ≤ page := by omega
    clear hin
    by_cases hneg : page < 0
    · clear hin'
      go_enter Try.func27, Try.ntmps27
      go_wp2_with fail
      go_ret
      exact ⟨_, rfl, by rw [HF.out]; exact IsS.nil _ _ _ _, HE.out⟩
    · have hge : (m : Int) ≤ page := by omega
      clear hin'
      go_enter Try.func27, Try.ntmps27
      go_wp2_with fail
      go_ret
      exact ⟨_, rfl, by rw [HF.out]; exact IsS.nil _ _ _ _, HE.out⟩
end Go.Proofs.Ytpbfbkkalemmiaa
