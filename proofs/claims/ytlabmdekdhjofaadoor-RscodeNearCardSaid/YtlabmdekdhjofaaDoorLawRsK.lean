/- The walk of the law RscodeNear. -/
import Derived.Test.YtlabmdekdhjofaaDoorLawRsG
namespace Go.Proofs.YtlabmdekdhjofaaDoor
open Go.RowKit

theorem enc_take {cw : List F} (hc : F.Code cw) (h7 : 7 ≤ cw.length) (h31 : cw.length ≤ 31) : encF (cw.take (cw.length - 6)) = cw := by
  have hl : (encF (cw.take (cw.length - 6))).length = cw.length := by rw [encF_len, List.length_take]; omega
  refine F.code_apart (encF_code _) hc hl (by rw [hl]; exact h31) ?_
  refine Nat.le_trans (diffs_le (ps := (List.range 6).map fun i => cw.length - 6 + i) hl fun i hi hne => ?_) (by simp)
  rw [hl] at hi
  rcases Nat.lt_or_ge i (cw.length - 6) with h | h
  · refine absurd ?_ hne
    unfold encF
    rw [List.getD_eq_getElem?_getD, List.getD_eq_getElem?_getD, List.getElem?_append_left (by rw [List.length_take]; omega), List.getElem?_take, if_pos h]
  · exact List.mem_map.2 ⟨i - (cw.length - 6), List.mem_range.2 (by omega), by omega⟩

set_option maxRecDepth 100000 in
set_option maxHeartbeats 4000000 in
theorem walkRscodeNear (v0 : Value) (l0 : List Int) (w : World) (h0 : IsI w.heap.size w v0 l0) (hT : Tabs w) :
    Calls Tryd.prog 10 #[v0] w fun e w' => e = .returned (.bool true) ∧ Ext w w' := by
  have H0 := Lib.hid h0
  have HT := Lib.hid hT
  have b2 : 2 ≤ w.heap.size := hT.lt
  clear h0 hT
  go_enter Tryd.func10, Tryd.ntmps10
  go_wp2_with fail
  refine (new_any _ l0 _ H0.out).mono ?_
  rintro e w1 ⟨rfl, HT1, HE1⟩
  have hlt1 := HT1.lt
  go_wp2_with fail
  refine (range_any _ 0 6 _ HT1 (by omega) (by omega) (by omega) (by omega)).mono ?_
  rintro e wa ⟨va, rfl, ⟨a, rfl, ha0, ha1⟩, HTa, HXa⟩
  obtain ⟨a, rfl⟩ := Int.eq_ofNat_of_zero_le ha0
  go_wp2_with fail
  refine (range_any _ 0 3 _ HTa (by omega) (by omega) (by omega) (by omega)).mono ?_
  rintro e wb ⟨vb, rfl, ⟨b, rfl, hb0, hb1⟩, HTb, HXb⟩
  obtain ⟨b, rfl⟩ := Int.eq_ofNat_of_zero_le hb0
  go_wp2_with fail
  refine (word_any w.heap.size a b _ HTb (by omega) (by omega)).mono ?_
  rintro e w3 ⟨fd, lx, ord, g, n, cx, Ad, nd, cd, rfl, hfd, hn1, hn9, hnn', hcx1, hcx2, hcd1, hcd2, hod, hox, hlx, hpm, hdm, HT3, HX3⟩
  have hel : (encF fd).length = n := by rw [encF_len]; omega
  have HBN := Lib.hid (hdm.bnd hpm hel)
  have hn7 : 7 ≤ n := by omega
  have hn15 : n ≤ 15 := by omega
  have HWB := Lib.hid (hdm.word hpm hel hn7 hn15)
  have HE3 := Lib.hid (((HXa.trans HXb).trans HX3).fresh HE1 (Nat.le_refl _))
  have HXI : Hid (IsI w3.heap.size w3 (.slice (some ⟨g, 0, none⟩) n cx) lx) := own_isZ hox (fun x hx => by have := HBN.out x hx; constructor <;> omega) (by rw [hlx]; omega)
  have HLX := Lib.hid hlx
  clear hod hox hlx HXa HXb HX3 HT1 HTa HTb HE1 hpm hdm hel hnn' hfd HT3
  go_wp2_with fail
  refine (dec_r _ lx _ (HT.out.ext HE3.out) HXI.out).mono ?_
  rintro e x1 ⟨A1, m1, c1, d1, er1, k1, rfl, hi1, hx1, f1, t1⟩
  have HE4 := Lib.hid (HE3.out.trans hx1)
  have HX4 := Lib.hid (HXI.out.ext hx1)
  rcases t1 HWB.out with ⟨cw, er, hnear, rfl, rfl, rfl⟩ | ⟨-, rfl, rfl, rfl⟩
  case inr =>
    have hm1 := hi1.len
    obtain rfl : m1 = 0 := by rw [← hm1]; rfl
    clear hi1 f1 t1 hx1 hm1
    go_wp2_with fail
    refine (awake18_any _ (HT.out.ext HE4.out)).mono ?_
    rintro e x5 ⟨rfl, hx5⟩
    go_wp2_with fail
    go_ret
    exact ⟨rfl, HE4.out.trans hx5⟩
  have hcl : cw.length = n := hnear.len.trans HLX.out
  have HEN : Hid (encF (cw.take (lx.length - 6)) = cw) := by
    have := enc_take hnear.code (by omega) (by omega)
    rw [hcl, ← HLX.out] at this
    exact this
  have HI1 := Lib.hid hi1
  have htl : (cw.take (lx.length - 6)).length = n - 6 := by rw [List.length_take, HLX.out]; omega
  have ea := encL_ok (d := cw.take (lx.length - 6)) (by rw [htl]; omega) (by rw [htl]; omega)
  have HNR := Lib.hid hnear
  have her : er ≤ 3 := by have := hnear.near; omega
  have HCL := Lib.hid hcl
  clear hi1 f1 t1 hx1 hnear htl hcl
  go_wp2_with fail
  refine (enc_slice _ (wI (cw.take (lx.length - 6))) _ (HT.out.ext HE4.out) HI1.out).mono ?_
  rintro e x2 ⟨A2, m2, c2, rfl, hm2, hc21, hc22, ho2, hx2⟩
  rw [ea.2]
  rw [ea.1, HEN.out] at ho2 hm2
  rw [wI_len, HCL.out] at hm2
  subst hm2
  have HC2 : Hid (IsI x2.heap.size x2 (.slice A2 m2 c2) (wI cw)) := own_isZ ho2 (wI_i64 _) (by rw [wI_len, HCL.out]; omega)
  have HX5 := Lib.hid (HX4.out.ext hx2)
  have HE5 := Lib.hid (HE4.out.trans hx2)
  clear ho2 hx2 ea HEN HI1
  obtain ⟨bx, ox, zx, hA2, -⟩ := HC2.out.at_ (k := 0) (by omega)
  subst hA2
  clear HX4 HE4 HXI
  go_wp2_with fail
  go_loopw [11, 12, 13] (fun s11 s12 s13 wr => ∃ (k m u d : Nat), s13 = .int .i64 (k : Int) ∧ s11 = .int .i64 (u : Int) ∧ s12 = .int .i64 (d : Int) ∧ k ≤ m2 ∧ u ≤ k ∧ d ≤ k ∧ Hid (u = errTo lx cw k ∧ d = (erTo lx k).length) ∧ wr = x2.drewN m) (fun _ _ i _ => m2 - (intOf i).toNat)
  case atStart => exact ⟨0, 0, 0, 0, rfl, rfl, rfl, by omega, by omega, by omega, ⟨rfl, rfl⟩, rfl⟩
  case round =>
    obtain ⟨k, m, u, d, rfl, rfl, rfl, hk, huk, hdk, HK, rfl⟩ := hrel
    by_cases hkn : k < m2
    · obtain ⟨x, cx', HX, hx1, hx2⟩ := HX5.out.cell_ hkn
      obtain ⟨y, cy, HY, hy1, hy2⟩ := HC2.out.cell_ hkn
      rw [Nat.zero_add] at cx'
      have cx2 : (x2.drewN m).cell? ⟨g, k, none⟩ = some (.int .i64 x) := cx'
      have hxb := HBN.out x (List.mem_of_getElem? HX.out)
      have HYC : Hid (y = ((cw.getD k 0).n : Int)) := by
        have h := HY.out
        unfold wI at h
        rw [List.getElem?_map, F.getD_eq (w := cw) (by have := HCL.out; omega)] at h
        injection h with h
        exact h.symm
      by_cases hneg : x = -1
      · have HS := Lib.hid (errTo_er (c := cw) HX.out hneg)
        have HS2 : Hid ((erTo lx (k + 1)).length = (erTo lx k).length + 1) := by show _ = _; rw [erTo_hit HX.out hneg]; simp
        subst hneg
        go_wp2_with fail
        go_roundw
        case rel => exact ⟨k + 1, m, u, d + 1, by go_num, by go_num, by go_num, by omega, by omega, by omega, ⟨by rw [HS.out]; exact HK.out.1, by rw [HS2.out, HK.out.2]⟩, rfl⟩
        case measure => simp [intOf]; omega
      have q1 : (x == -1) = false := by simp [hneg]
      have HS2 : Hid ((erTo lx (k + 1)).length = (erTo lx k).length) := by show _ = _; rw [erTo_miss HX.out hneg]
      by_cases e : x = y
      · have e1 : (x != y) = false := by simp [e]
        have HS := Lib.hid (errTo_eq (c := cw) HX.out (by omega) hxb.2 (e.trans HYC.out))
        clear e hneg
        go_wp2_with fail
        go_quiet (fail)
        go_wp2_with fail
        go_roundw
        case rel => exact ⟨k + 1, _, u, d, by go_num, rfl, rfl, by omega, by omega, by omega, ⟨by rw [HS.out]; exact HK.out.1, by rw [HS2.out]; exact HK.out.2⟩, rfl⟩
        case measure => simp [intOf]; omega
      · have e1 : (x != y) = true := by simp [e]
        have HS := Lib.hid (errTo_ne (c := cw) HX.out (by omega) hxb.2 (fun h => e (h.trans HYC.out.symm)))
        clear e hneg
        go_wp2_with fail
        go_quiet (fail)
        go_wp2_with fail
        go_roundw
        case rel => exact ⟨k + 1, _, u + 1, d, by go_num, by go_num, by go_num, by omega, by omega, by omega, ⟨by rw [HS.out, HK.out.1], by rw [HS2.out]; exact HK.out.2⟩, rfl⟩
        case measure => simp [intOf]; omega
    · have hke : k = m2 := by omega
      have hu : u = er := by rw [HK.out.1, hke, ← HLX.out, errTo_all]; exact HNR.out.err
      have hnr : 2 * er + d ≤ 6 := by have h := HNR.out.near; rw [HLX.out, ← hke, ← HK.out.2] at h; exact h
      subst hu
      clear hke HK
      have HE6 := Lib.hid (HE5.out.drewN m)
      go_wp2_with fail
      refine (awake18_any _ (HT.out.ext HE6.out)).mono ?_
      rintro e x5 ⟨rfl, hx5⟩
      go_wp2_with fail
      go_ret
      exact ⟨rfl, HE6.out.trans hx5⟩
end Go.Proofs.YtlabmdekdhjofaaDoor
