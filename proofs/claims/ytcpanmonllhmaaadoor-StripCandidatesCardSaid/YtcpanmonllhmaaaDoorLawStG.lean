/- The walk of the law StripCandidates. -/
import Derived.Test.YtcpanmonllhmaaaDoorLawStA
namespace Go.Proofs.YtcpanmonllhmaaaDoor
open Go.RowKit

theorem symL_in {p c g v : Int} (hp : 0 ≤ p ∧ p < 32) (hc : 0 ≤ c ∧ c < 32768) (hg : 0 ≤ g ∧ g < 32) (hv : 0 ≤ v ∧ v < 32) : ∀ x ∈ symL p c g v, 0 ≤ x ∧ x < 32 := by
  intro x hx
  unfold symL at hx
  simp only [List.mem_cons, List.not_mem_nil, or_false] at hx
  omega
theorem labG_wI {p c g v : Int} (h : ∀ x ∈ symL p c g v, 0 ≤ x ∧ x < 32) : wI (toF (symL p c g v)) = symL p c g v := wI_toF fun x hx => by have := h x hx; omega
theorem labG_enc {p c g v : Int} (h : ∀ x ∈ symL p c g v, 0 ≤ x ∧ x < 32) : encL (symL p c g v) = wI (labW p c g v) ∧ encE (symL p c g v) = 0 := by
  have := encL_ok (d := toF (symL p c g v)) (by rw [toF_len]; unfold symL; simp) (by rw [toF_len]; unfold symL; simp)
  rw [labG_wI h] at this
  exact this
theorem dz_labG {p c g v : Int} (h : ∀ x ∈ symL p c g v, 0 ≤ x ∧ x < 32) (i : Nat) (x : Int) (hx : (symL p c g v)[i]? = some x) : dz (toF (symL p c g v)) i = x := by
  have h1 : (wI (toF (symL p c g v))).getD i 0 = dz (toF (symL p c g v)) i := wI_get _ _
  rw [labG_wI h, List.getD_eq_getElem?_getD, hx] at h1
  exact h1.symm
theorem read_drawG {p c g v : Int} (h : ∀ x ∈ symL p c g v, 0 ≤ x ∧ x < 32) : (9999 < c → ReadF (drawL (labW p c g v)) 0 0 0 0 0 2) ∧ (c ≤ 9999 → ReadF (drawL (labW p c g v)) p c g v 0 0) := by
  have hl := labW_len p c g v
  obtain ⟨u1, u2⟩ := upr_up (draw_strip hl) (draw_mark hl)
  have hD : DecF (wordL (uprS (drawL (labW p c g v)))) (toF (symL p c g v)) 0 0 := by
    rw [u1, word_draw hl]
    refine ⟨fun e => ?_, fun _ => .inl ⟨labW p c g v, 0, near_code (labW_code _ _ _ _), ?_, rfl, rfl⟩⟩
    · rw [word_code (by omega) (by omega)] at e; cases e
    · rw [wI_len, hl, ← labW_take]
  have h0 := dz_labG h 0 _ rfl
  have h1 := dz_labG h 1 _ rfl
  have h2 := dz_labG h 2 _ rfl
  have h3 := dz_labG h 3 _ rfl
  have h4 := dz_labG h 4 _ rfl
  have h5 := dz_labG h 5 _ rfl
  have hc : candZ (toF (symL p c g v)) = c := by unfold candZ; rw [h1, h2, h3]; omega
  refine ⟨fun hcc => ⟨fun e => absurd u2 e, fun _ => ⟨_, 0, 0, hD, fun e => absurd rfl e, fun _ => ⟨fun _ => ⟨rfl, rfl, rfl, rfl, rfl, rfl⟩, fun e => ?_⟩⟩⟩, fun hcc => ⟨fun e => absurd u2 e, fun _ => ⟨_, 0, 0, hD, fun e => absurd rfl e, fun _ => ⟨fun e => ?_, fun _ => ?_⟩⟩⟩⟩
  · rw [hc] at e; omega
  · rw [hc] at e; omega
  · rw [hc, h0, h4, h5]; exact ⟨rfl, rfl, rfl, rfl, rfl, rfl⟩
set_option maxRecDepth 100000 in
set_option maxHeartbeats 4000000 in
theorem walkStripCandidates (a b : Int) (w : World) (ha : I64 a) (hb : I64 b) (hT : Tabs w) :
    Calls Tryd.prog 8 #[.int .i64 a, .int .i64 b] w fun e w' => e = .returned (.bool true) ∧ Ext w w' := by
  have HT : Bx (Tabs w) := ⟨hT⟩
  clear hT
  go_enter Tryd.func8, Tryd.ntmps8
  go_wp2_with fail
  refine (cut_any a 32768 _ ha.1 ha.2 (by omega)).mono ?_
  rintro e w0 ⟨rfl, rfl⟩
  have hc1 := cutZ_lo a 32768
  have hc2 := cutZ_hi a 32768 (by omega)
  generalize cutZ a 32768 = c at *
  go_wp2_with fail
  refine (cut_any b 32 _ hb.1 hb.2 (by omega)).mono ?_
  rintro e w0 ⟨rfl, rfl⟩
  have hg1 := cutZ_lo b 32
  have hg2 := cutZ_hi b 32 (by omega)
  generalize cutZ b 32 = g at *
  clear ha hb
  have HM : Bx (∀ x ∈ symL 1 c g 0, 0 ≤ x ∧ x < 32) := ⟨symL_in (by omega) (by omega) (by omega) (by omega)⟩
  have E1 : Bx (encL (symL 1 c g 0) = wI (labW 1 c g 0) ∧ encE (symL 1 c g 0) = 0) := ⟨labG_enc HM.out⟩
  have HR : Bx ((9999 < c → ReadF (drawL (labW 1 c g 0)) 0 0 0 0 0 2) ∧ (c ≤ 9999 → ReadF (drawL (labW 1 c g 0)) 1 c g 0 0 0)) := ⟨read_drawG HM.out⟩
  have hL := labW_len 1 c g 0
  generalize labW 1 c g 0 = cw at *
  have HI : Bx (IsI (w.alloc (.cells #[.int .i64 1, .int .i64 (c / 1024), .int .i64 (c / 32 % 32), .int .i64 (c % 32), .int .i64 g, .int .i64 0] 3)).heap.size (w.alloc (.cells #[.int .i64 1, .int .i64 (c / 1024), .int .i64 (c / 32 % 32), .int .i64 (c % 32), .int .i64 g, .int .i64 0] 3)) (.slice (some ⟨w.heap.size, 0, none⟩) 6 6) (symL 1 c g 0)) := ⟨IsI.lits (symL 1 c g 0) 3 (fun x hx => by have := HM.out x hx; constructor <;> omega) (by unfold symL; simp)⟩
  go_wp2_with fail
  refine (enc_slice _ (symL 1 c g 0) _ (HT.out.ext ((Ext.refl _).alloc _)) HI.out).mono ?_
  rintro e w2 ⟨A2, n2, c2, rfl, hn2, hc2', hc2'', ho2, hx2⟩
  rw [E1.out.2]
  rw [E1.out.1] at hn2 ho2
  rw [wI_len, hL] at hn2
  subst hn2
  have HJ : Bx (IsI w2.heap.size w2 (.slice A2 12 c2) (wI cw)) := ⟨own_isZ ho2 (wI_i64 _) (by rw [wI_len, hL]; omega)⟩
  have HX : Bx (Ext w w2) := ⟨((Ext.refl _).alloc _).trans hx2⟩
  have HL : Bx (cw.length = 12) := ⟨hL⟩
  clear ho2 hx2 HI E1 hL HM
  go_wp2_with fail
  go_loop [7, 8] (fun s i => ∃ (k : Nat) (t : ByteArray), k ≤ 12 ∧ i = .int .i64 k ∧ s = .string t ∧ Bx (bl t = drTo cw k) ∧ t.size ≤ 67) (fun _ i => 12 - (intOf i).toNat)
  case atStart => exact ⟨0, _, by omega, rfl, rfl, ⟨rfl⟩, by decide⟩
  case round =>
    obtain ⟨k, t, hk, rfl, rfl, HTT, ht⟩ := hrel
    by_cases hlt : k < 12
    · obtain ⟨bb, off, rfl, hc⟩ := isF_at HJ.out hlt
      have HN : Bx (drTo cw (k + 1) = drTo cw k ++ mods (cw.getD k 0).n) := ⟨drTo_succ (c := cw) (k := k) (by rw [HL.out]; exact hlt)⟩
      have HNL : Bx ((drTo cw k).length = 7 + 5 * k) := ⟨drTo_len (c := cw) (k := k) (by rw [HL.out]; omega)⟩
      generalize cw.getD k 0 = y at *
      go_wp2_with fail
      refine (modules_any y _).mono ?_
      rintro e w3 ⟨m, rfl, hm, rfl⟩
      have hts : t.size = 7 + 5 * k := by rw [← bl_len, HTT.out, HNL.out]
      have hms : m.size = 5 := by rw [← bl_len, hm, mods_len]
      have HM : Bx (bl (t ++ m) = drTo cw (k + 1)) := ⟨by rw [bl_app, HTT.out, hm, HN.out]⟩
      have h1 : t.size ≤ 62 := by omega
      have h2 : m.size ≤ 5 := by omega
      clear hts hms hm HN HNL HTT
      go_wp2_with fail
      go_round
      case rel => exact ⟨k + 1, _, by omega, by go_num, rfl, HM, by rw [ByteArray.size_append]; omega⟩
      case measure => simp [intOf]; omega
    · obtain rfl : k = 12 := by omega
      have HF : Bx (bl (t ++ ⟨#[48, 48, 48, 48, 48, 48, 48]⟩) = drawL cw) := ⟨by rw [bl_app, HTT.out, ← drTo_all HL.out]; rfl⟩
      clear HTT
      go_wp2_with fail
      refine (read_any _ _ (HT.out.ext HX.out)).mono ?_
      rintro e w4 ⟨p', c', g', v', n', kk', rfl, hr4, _, _, _, _, _, _, hx4⟩
      rw [HF.out] at hr4
      have HX4 : Bx (Ext w w4) := ⟨HX.out.trans hx4⟩
      by_cases hcc : 9999 < c
      · obtain ⟨rfl, rfl, rfl, rfl, rfl, rfl⟩ := read_same hr4 (HR.out.1 hcc)
        clear hr4 hx4 HR
        obtain ⟨w5, hw5⟩ : ∃ w5, w5 = w4.alloc (.cells #[.int .i64 0, .int .i64 0, .int .i64 0, .int .i64 0] 26) := ⟨_, rfl⟩
        have HX5 : Bx (Ext w w5) := ⟨by rw [hw5]; exact HX4.out.alloc _⟩
        go_wp2_with fail
        rw [← hw5]
        refine (awake19_any _ (HT.out.ext HX5.out)).mono ?_
        rintro e w6 ⟨rfl, hx6⟩
        have HX6 : Bx (Ext w w6) := ⟨HX5.out.trans hx6⟩
        clear hx6 hw5
        go_wp2_with fail
        go_ret
        exact ⟨rfl, HX6.out⟩
      · obtain ⟨rfl, rfl, rfl, rfl, rfl, rfl⟩ := read_same hr4 (HR.out.2 (by omega))
        clear hr4 hx4 HR
        obtain ⟨w5, hw5⟩ : ∃ w5, w5 = w4.alloc (.cells #[.int .i64 1, .int .i64 c', .int .i64 g', .int .i64 0] 26) := ⟨_, rfl⟩
        have HX5 : Bx (Ext w w5) := ⟨by rw [hw5]; exact HX4.out.alloc _⟩
        have q1 : (c' == c') = true := beq_self_eq_true _
        have q2 : (g' == g') = true := beq_self_eq_true _
        go_wp2_with fail
        rw [← hw5]
        refine (awake19_any _ (HT.out.ext HX5.out)).mono ?_
        rintro e w6 ⟨rfl, hx6⟩
        have HX6 : Bx (Ext w w6) := ⟨HX5.out.trans hx6⟩
        clear hx6 hw5
        go_wp2_with fail
        go_ret
        exact ⟨rfl, HX6.out⟩
end Go.Proofs.YtcpanmonllhmaaaDoor
