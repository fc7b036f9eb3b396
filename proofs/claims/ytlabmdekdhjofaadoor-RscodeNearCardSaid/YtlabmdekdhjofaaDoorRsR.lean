/- awardingbodyref18: Erased, Errors. -/
import Derived.Test.YtlabmdekdhjofaaDoorRsQ
namespace Go.Proofs.YtlabmdekdhjofaaDoor
open Go.RowKit

theorem toF_el {l : List Int} {k : Nat} {x : Int} (h : l[k]? = some x) (h1 : 0 ≤ x) (h2 : x < 32) : (((toF l).getD k 0).n : Int) = x := by
  rw [List.getD_eq_getElem?_getD, toF_at h]
  show ((x.toNat % 32 : Nat) : Int) = x
  omega
/-- The errors as far as place k. -/
def errTo (l : List Int) (c : List F) (k : Nat) : Nat := ((whTo l k).filter fun i => !((toF l).getD i 0 == c.getD i 0)).length
theorem errTo_all (l : List Int) (c : List F) : errTo l c l.length = (wrongP l c).length := rfl
theorem errTo_le (l : List Int) (c : List F) (k : Nat) : errTo l c k ≤ k := Nat.le_trans (List.length_filter_le _ _) (whTo_len l k)
theorem errTo_er {l : List Int} {c : List F} {k : Nat} {x : Int} (h : l[k]? = some x) (e : x = -1) : errTo l c (k + 1) = errTo l c k := by
  unfold errTo; rw [whTo_miss h e]
theorem errTo_eq {l : List Int} {c : List F} {k : Nat} {x : Int} (h : l[k]? = some x) (h1 : 0 ≤ x) (h2 : x < 32) (e : x = ((c.getD k 0).n : Int)) : errTo l c (k + 1) = errTo l c k := by
  unfold errTo
  rw [whTo_hit h (by omega), List.filter_append]
  have : (toF l).getD k 0 = c.getD k 0 := F.ext (by have := toF_el h h1 h2; omega)
  have hf : [k].filter (fun i => !((toF l).getD i 0 == c.getD i 0)) = [] := by rw [List.filter_cons, if_neg (by rw [this]; simp)]; rfl
  rw [hf, List.append_nil]
theorem errTo_ne {l : List Int} {c : List F} {k : Nat} {x : Int} (h : l[k]? = some x) (h1 : 0 ≤ x) (h2 : x < 32) (e : x ≠ ((c.getD k 0).n : Int)) : errTo l c (k + 1) = errTo l c k + 1 := by
  unfold errTo
  rw [whTo_hit h (by omega), List.filter_append, List.length_append]
  have : (toF l).getD k 0 ≠ c.getD k 0 := fun he => e (by have := toF_el h h1 h2; rw [he] at this; exact this.symm)
  have hf : [k].filter (fun i => !((toF l).getD i 0 == c.getD i 0)) = [k] := by rw [List.filter_cons, if_pos (by rw [beq_eq_false_iff_ne.2 this]; rfl)]; rfl
  rw [hf]; rfl

set_option maxRecDepth 100000 in
set_option maxHeartbeats 1000000 in
theorem rerased_any {p : Nat} (v : Value) (l : List Int) (w : World) (hI : IsI p w v l) (hb : wordB (-1) l = true) :
    Calls Tryd.prog 53 #[v] w fun e w' => ∃ A m c, e = .returned (.slice A m c) ∧ m = (erTo l l.length).length ∧ m ≤ c ∧ c ≤ 9223372036854775807 ∧ w'.ownsRow w.heap.size 3 1 (.slice A m c) m ((psI (erTo l l.length)).map (Value.int .i64)) ∧ Ext w w' := by
  obtain ⟨A, n, c, rfl, hnc, hc, hnn, HL⟩ := hI.open_
  have HI := Lib.hid hI
  have hm := word_mem hb
  have HM := Lib.hid hm.2.2
  have hn15 : n ≤ 15 := by have := HL.out; omega
  obtain ⟨i0, hi0, hz0, hz1, hz2⟩ := info_parts Tryd.infoI
  clear hI hm hb
  go_enter Tryd.func53, Tryd.ntmps53
  go_wp2_with fail
  go_loopw [3, 4] (fun s3 s4 wr => ∃ (k m : Nat), s4 = .int .i64 (k : Int) ∧ k ≤ n ∧ m ≤ k ∧ Hid ((erTo l k).length = m ∧ wr.ownsRow w.heap.size 3 1 s3 m ((psI (erTo l k)).map (Value.int .i64)) ∧ Ext w wr)) (fun _ i _ => n - (intOf i).toNat)
  case atStart => exact ⟨0, 0, rfl, by omega, by omega, rfl, World.ownsRow_nil _ _ _ _, Ext.refl _⟩
  case round =>
    obtain ⟨k, m, rfl, hk, hmk, HK⟩ := hrel
    have HML := Lib.hid HK.out.1
    have HO := Lib.hid HK.out.2.1
    have HE := Lib.hid HK.out.2.2
    clear HK
    have hsz := HE.out.size
    by_cases hkn : k < n
    · obtain ⟨b, off, x, rfl, cx, hx, hx1, hx2⟩ := (HI.out.ext HE.out).at_ hkn
      have hxb := HM.out x (List.mem_of_getElem? hx.out)
      by_cases hlo : x < 0
      · have HH := Lib.hid (erTo_hit hx.out (show x = -1 by omega))
        go_wp2_with (at_builtin; refine wpList_push _ rfl (.tmp 16) (.tmp 18) 27 rfl w.heap.size 3 i0 _ 8 Tryd.underlying27 hi0 hz0 hz1 hz2 rfl u3 m _ rfl (HO.out.alloc _) _ _ rfl (by simp; rfl) rfl (by omega) (by omega) (by simp; omega) ?_; intro v4 w4 hown4 hg4; have HE4 := Lib.hid (Ext.grown (HE.out.alloc _) hg4 (own_ge HO.out)); have HO4 := Lib.hid hown4; clear hown4 hg4)
        go_roundw
        case rel =>
          refine ⟨k + 1, m + 1, by go_num, by omega, by omega, by rw [HH.out, List.length_append, HML.out]; rfl, ?_, HE4.out⟩
          rw [HH.out]
          have e : psI (erTo l k ++ [k]) = psI (erTo l k) ++ [(k : Int)] := by simp [psI]
          rw [e, List.map_append]; exact HO4.out
        case measure => simp [intOf]; omega
      · have HH := Lib.hid (erTo_miss hx.out (show x ≠ -1 by omega))
        go_wp2_with fail
        go_roundw
        case rel => exact ⟨k + 1, m, by go_num, by omega, by omega, by rw [HH.out]; exact HML.out, by rw [HH.out]; exact HO.out, HE.out⟩
        case measure => simp [intOf]; omega
    · obtain rfl : k = n := by omega
      go_wp2_with fail
      go_ret
      obtain ⟨A', c', rfl, h1, h2⟩ := own_shape HO.out
      rw [HL.out]
      exact ⟨A', m, c', rfl, HML.out.symm, h1, h2, HO.out, HE.out⟩

set_option maxRecDepth 100000 in
set_option maxHeartbeats 1000000 in
theorem rerrors_any {p q : Nat} (v vc : Value) (l : List Int) (cw : List F) (w : World) (hI : IsI p w v l) (hC : IsI q w vc (wI cw)) (hl : cw.length = l.length) (hb : wordB (-1) l = true) :
    Calls Tryd.prog 55 #[v, vc] w fun e w' => e = .returned (.int .i64 ((wrongP l cw).length : Int)) ∧ ∃ m, w' = w.drewN m := by
  obtain ⟨A, n, c, rfl, hnc, hc, hnn, HL⟩ := hI.open_
  obtain ⟨B, n', c', rfl, hnc', hc', hnn', HL'⟩ := hC.open_
  obtain rfl : n' = n := by have := HL.out; have := HL'.out; rw [wI_len] at this; omega
  have HI := Lib.hid hI
  have HC := Lib.hid hC
  have hm := word_mem hb
  have HM := Lib.hid hm.2.2
  have hn15 : n' ≤ 15 := by have := HL.out; omega
  have HCL : Hid (cw.length = n') := hl.trans HL.out
  clear hI hC hm hb hl HL'
  go_enter Tryd.func55, Tryd.ntmps55
  go_wp2_with fail
  go_loopw [5, 6] (fun s i wr => ∃ (k m d : Nat), k ≤ n' ∧ i = .int .i64 k ∧ s = .int .i64 d ∧ d ≤ k ∧ Hid (d = errTo l cw k) ∧ wr = w.drewN m) (fun _ i _ => n' - (intOf i).toNat)
  case atStart => exact ⟨0, 0, 0, Nat.zero_le _, rfl, rfl, by omega, rfl, rfl⟩
  case round =>
    obtain ⟨k, m, d, hk, rfl, rfl, hd1, HK, rfl⟩ := hrel
    by_cases hlt : k < n'
    · obtain ⟨b1, o1, x, rfl, hcx, HX, hx1, hx2⟩ := HI.out.at_ hlt
      obtain ⟨b2, o2, y, rfl, hcy, HY, hy1, hy2⟩ := HC.out.at_ hlt
      have hxb := HM.out x (List.mem_of_getElem? HX.out)
      have hyc : y = ((cw.getD k 0).n : Int) := by
        have h := HY.out
        unfold wI at h
        rw [List.getElem?_map, F.getD_eq (w := cw) (by have := HCL.out; omega)] at h
        injection h with h
        exact h.symm
      have HYC := Lib.hid hyc
      clear hyc
      by_cases hneg : x < 0
      · have HS := Lib.hid (errTo_er (c := cw) HX.out (show x = -1 by omega))
        have e0 : decide (x ≥ 0) = false := by simp; omega
        go_wp2_with fail
        go_quiet (fail)
        go_wp2_with fail
        go_roundw
        case rel => exact ⟨k + 1, _, d, by omega, by go_num, rfl, by omega, by rw [HS.out]; exact HK.out, rfl⟩
        case measure => simp [intOf]; omega
      have e0 : decide (x ≥ 0) = true := by simp; omega
      by_cases e : x = y
      · have e1 : (x != y) = false := by simp [e]
        have HS := Lib.hid (errTo_eq (c := cw) HX.out (by omega) hxb.2 (e.trans HYC.out))
        clear e
        go_wp2_with fail
        go_quiet (fail)
        go_wp2_with fail
        go_roundw
        case rel => exact ⟨k + 1, _, d, by omega, by go_num, rfl, by omega, by rw [HS.out]; exact HK.out, rfl⟩
        case measure => simp [intOf]; omega
      · have e1 : (x != y) = true := by simp [e]
        have HS := Lib.hid (errTo_ne (c := cw) HX.out (by omega) hxb.2 (fun h => e (h.trans HYC.out.symm)))
        clear e
        go_wp2_with fail
        go_quiet (fail)
        go_wp2_with fail
        go_roundw
        case rel => exact ⟨k + 1, _, d + 1, by omega, by go_num, by go_num, by omega, by show _ = _; rw [HS.out, HK.out], rfl⟩
        case measure => simp [intOf]; omega
    · obtain rfl : k = n' := by omega
      go_wp2_with fail
      go_ret
      refine ⟨ret_int ?_, _, rfl⟩
      rw [HK.out, ← errTo_all, HL.out]
end Go.Proofs.YtlabmdekdhjofaaDoor
