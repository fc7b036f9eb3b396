/- The reference's Make. -/
import Derived.Test.YtpbfbkkalemmiaaMakeP
import Derived.Test.YtpbfbkkalemmiaaInfo
namespace Go.Proofs.Ytpbfbkkalemmiaa
open Go.RowKit


/-- What Make returns: a booklet and an error. -/
def MakeRet (p : Nat) (w : World) (code var : Int) (ps : List Part) (e : Ending) (w' : World) : Prop :=
  ∃ (v : Value) (pgs : List (List Int)) (er : Int), e = .returned (.tuple #[.agg #[v], .int .i64 er]) ∧ IsP p w' v pgs ∧ Ext w w' ∧
    (vpaB code var ps = false → pgs = [] ∧ er = 1) ∧ (vpaB code var ps = true → (12 < (makeP ps).length → pgs = [] ∧ er = 3) ∧ ((makeP ps).length ≤ 12 → pgs = makeP ps ∧ er = 0))

set_option maxHeartbeats 4000000 in
theorem rmake_any (code var : Int) (v : Value) (ps : List Part) (w : World) {p : Nat} (hp : p < w.heap.size) (h : IsQ p w v ps) :
    Calls Try.prog 19 #[.agg #[.int .i64 code, .int .i64 var, v]] w (MakeRet p w code var ps) := by
  obtain ⟨A, n, c, rfl, hnc, hc, hnn, HL⟩ := h.open_
  obtain ⟨i0, hi0, hz0, hz1, hz2⟩ := info_parts Try.infoI
  obtain ⟨iS, hiS, hy0, hy1, hy2⟩ := info_parts Try.infoS
  have H := Lib.hid h
  clear h
  cases hv : vpaB code var ps with
  | false =>
    have HV := Lib.hid hv
    clear hv
    go_enter Try.func19, Try.ntmps19
    go_wp2_with fail
    refine (rvalidPaper_any _ _ _ ps _ ((H.out.ext (RPart.stab p) ((Ext.refl _).alloc _)).ext (RPart.stab p) ((Ext.refl _).alloc _))).mono ?_
    rintro e w1 ⟨rfl, hx1⟩
    rw [HV.out]
    have c0 : w1.cell? ⟨w.heap.size + 1, 0, none⟩ = some (.slice none 0 0) := hx1.cell (by simp)
    have f0 : w1.frozen? ⟨w.heap.size + 1, 0, none⟩ = false := (Below.frozen hx1.below (by simp)).trans (by simp)
    have HE := Lib.hid (Ext.trans (((Ext.refl w).alloc _).alloc _) hx1)
    clear hx1
    go_wp2_with fail
    refine bodyPost_ret (v := .tuple #[.agg #[.slice none 0 0], .int .i64 1]) (by simp [results, Try.results19, go_sem, c0]) rfl ⟨_, [], 1, rfl, IsS.nil _ _ _ _, ?_, fun _ => ⟨rfl, rfl⟩, fun h => absurd (HV.out.symm.trans h) (by simp)⟩
    exact HE.out.setCell (by simp) _
  | true =>
    have HV := Lib.hid hv
    have hvp := vpa_of hv
    obtain ⟨_, _, _, _, hl1, hl24, hall, _⟩ := hvp
    have HALL := Lib.hid hall
    have hn1 : 1 ≤ n := by have := HL.out; omega
    have hn24 : n ≤ 24 := by have := HL.out; omega
    clear hv hall hl1 hl24
    go_enter Try.func19, Try.ntmps19
    go_wp2_with fail
    refine (rvalidPaper_any _ _ _ ps _ ((H.out.ext (RPart.stab p) ((Ext.refl _).alloc _)).ext (RPart.stab p) ((Ext.refl _).alloc _))).mono ?_
    rintro e w1 ⟨rfl, hx1⟩
    rw [HV.out]
    have HE1 := Lib.hid (Ext.trans (((Ext.refl w).alloc _).alloc _) hx1)
    have b2 : w1.cell? ⟨w.heap.size, 2, none⟩ = some (.slice A n c) := hx1.cell (by simp)
    have HB2 := Lib.hid b2
    have HRC := Lib.hid (hx1.blk (heap_alloc_new (w.alloc _) _))
    have HI1 := Lib.hid (H.out.ext (RPart.stab p) HE1.out)
    have hs1' : w.heap.size + 2 ≤ w1.heap.size := by have := hx1.size; simp at this; omega
    clear hx1 b2
    go_wp2_with fail
    go_loopw [4, 5, 6] (fun s4 s5 s6 wr => ∃ (k j g cap : Nat) (d : List (List Int)) (cu : List Int) (s : Int), k ≤ n ∧ 0 ≤ s ∧ s ≤ 30 ∧ j ≤ k + 1 ∧ s4 = .slice (some ⟨g, 0, none⟩) (j + 1) cap ∧ s5 = .int .i64 (30 - s) ∧ s6 = .int .i64 k ∧
        Hid (gs (ps.map need) k = (d, cu, s) ∧ d.length = j ∧ cu.length ≤ k ∧ Nest p w1.heap.size 28 3 wr (.slice (some ⟨g, 0, none⟩) (j + 1) cap) (d ++ [cu]) ∧ Ext w1 wr)) (fun _ _ i _ => n - (intOf i).toNat)
    case atStart => exact ⟨0, 1, w1.heap.size, 2, [[]], [], 0, by omega, by omega, by omega, by omega, rfl, rfl, rfl, rfl, rfl, by simp, Nest.two p w1 _ _ _ (Nat.le_refl _), (Ext.refl _).alloc _⟩
    case round =>
      obtain ⟨k, j, g, cap, d, cu, s, hk, hs1, hs2, hjk, rfl, rfl, rfl, HR⟩ := hrel
      have b2 := HR.out.2.2.2.2.cell HB2.out
      by_cases hlt : k < n
      · obtain ⟨b, off, cs0, q0, rfl, _⟩ := H.out.at_ hlt
        obtain ⟨q, c0, c1, c2, c3, c4, c5, hw, HX⟩ := (HI1.out.ext (RPart.stab p) HR.out.2.2.2.2).part hlt
        have hnb := need_bd q
        go_wp2_with fail
        refine (rneed_any q _).mono ?_
        rintro e w2 ⟨rfl, hx2⟩
        clear c0 c1 c2 c3 c4 c5 b2
        have HN2 := Lib.hid (HR.out.2.2.2.1.ext hx2)
        have HE2 := Lib.hid (HR.out.2.2.2.2.trans hx2)
        generalize hxq : need q = x at *
        have HXQ := Lib.hid hxq
        clear hxq hx2
        by_cases hf : s + x ≤ 30
        · obtain ⟨Au, nu, ccu, HH, hcell, hnu, hbg, hbH, hHw, hou, hstep⟩ := HN2.out.step HR.out.2.1 (by decide)
          have HOU := Lib.hid hou
          have HST := Lib.hid hstep
          have hnuk : nu ≤ 24 := by have := HR.out.2.2.1; omega
          clear hou hstep
          go_wp2_with (at_builtin; refine wpList_push _ rfl (.tmp 41) (.tmp 43) 28 rfl HH 3 i0 _ 8 Try.underlying28 hi0 hz0 hz1 hz2 rfl _ _ _ rfl (HOU.out.alloc _) _ _ rfl (by simp; rfl) rfl (by omega) (by omega) (by simp; omega) ?_; intro v' w3 hown' hg'; obtain ⟨g', cap', rfl, _, _⟩ := own_form hown' (by omega); obtain ⟨hc3, hf3, hn3⟩ := HST.out _ _ _ _ ((Ext.refl _).alloc _) hg' hown'; have HN3 := Lib.hid hn3; have HE3 := Lib.hid (Ext.setCell (Ext.grown (HE2.out.alloc _) hg' (fun k hk => by have := own_ge HOU.out k hk; omega)) (p := ⟨g, j, none⟩) hbg (.slice (some ⟨g', 0, none⟩) (nu + 1) cap')); clear hn3 hown' hg')
          go_roundw
          case rel =>
            exact ⟨k + 1, j, g, cap, d, cu ++ [(k : Int)], s + x, by omega, by omega, by omega, by omega, rfl, by go_num, by go_num, gs_fit HR.out.1 (by rw [← HXQ.out]; exact needs_at HX.out) hf, HR.out.2.1, by have := HR.out.2.2.1; simp; omega, HN3.out, HE3.out⟩
          case measure => simp [intOf]; omega
        · have hf' : 30 < s + x := by omega
          clear hf
          obtain ⟨us, hus, hOS⟩ := HN2.out.own
          have HOS := Lib.hid hOS
          have hjd : (d ++ [cu]).length = j + 1 := by have := HR.out.2.1; simp; omega
          have HJD := Lib.hid hjd
          clear hOS hjd
          go_wp2_with (first
            | (at_builtin; refine wpList_push _ rfl (.tmp 30) (.tmp 31) 36 rfl w1.heap.size 28 iS _ 24 Try.underlying36 hiS hy0 hy1 hy2 rfl _ (j + 1) us rfl (by have := HOS.out.alloc (.cells #[.slice none 0 0] 28); rw [HJD.out] at this; exact this) _ _ rfl (by simp; rfl) rfl (by omega) (by omega) (by have := HE2.out.size; simp; omega) ?_; intro v' w3 hown' hg'; obtain ⟨g', cap', rfl, _, _⟩ := own_form hown' (by omega); have HN3 := Lib.hid ((HN2.out.ext ((Ext.refl _).alloc (.cells #[.slice none 0 0] 28))).new (by decide) (HOS.out.alloc _) hg' (by rw [HJD.out]; exact hown')); have HE3 := Lib.hid (Ext.grown (HE2.out.alloc _) hg' (fun k hk => by have := own_ge HOS.out k hk; omega)); clear hown' hg'; obtain ⟨Au, nu, ccu, HH, hcell, hnu, hbg, hbH, hHw, hou, hstep⟩ := HN3.out.step HJD.out (by decide); have HOU := Lib.hid hou; have HST := Lib.hid hstep; have hnu0 : nu ≤ 1 := (by simp at hnu; omega); clear hou hstep hnu)
            | (at_builtin; refine wpList_push _ rfl (.tmp 41) (.tmp 43) 28 rfl HH 3 i0 _ 8 Try.underlying28 hi0 hz0 hz1 hz2 rfl _ _ _ rfl (HOU.out.alloc _) _ _ rfl (by simp; rfl) rfl (by omega) (by omega) (by simp; omega) ?_; intro v'' w4 hown'' hg''; obtain ⟨g4, cap4, rfl, _, _⟩ := own_form hown'' (by omega); obtain ⟨hc4, hf4, hn4⟩ := HST.out _ _ _ _ ((Ext.refl _).alloc _) hg'' hown''; have HN4 := Lib.hid hn4; have HE4 := Lib.hid (Ext.setCell (Ext.grown (HE3.out.alloc _) hg'' (fun k hk => by have := own_ge HOU.out k hk; omega)) (p := ⟨g', j + 1, none⟩) hbg (.slice (some ⟨g4, 0, none⟩) (nu + 1) cap4)); clear hn4 hown'' hg''))
          go_roundw
          case rel =>
            exact ⟨k + 1, j + 1, g', cap', d ++ [cu], [(k : Int)], x, by omega, by omega, by omega, by omega, rfl, by go_num, by go_num, gs_new HR.out.1 (by rw [← HXQ.out]; exact needs_at HX.out) hf', HJD.out, by simp, by simpa using HN4.out, HE4.out⟩
          case measure => simp [intOf]; omega
      · obtain rfl : k = n := by omega
        have hbdp := pagesOf_bd ps
        have HPG := Lib.hid (pagesOf_of HL.out HR.out.1)
        clear hbdp
        go_wp2_with fail
        go_loopw [4] (fun s4 wr => ∃ (m g cap : Nat) (ls : List (List Int)), m ≤ 30 ∧ s4 = .slice (some ⟨g, 0, none⟩) (m + 1) cap ∧ Hid (ls.length = m + 1 ∧ Nest p w1.heap.size 28 3 wr (.slice (some ⟨g, 0, none⟩) (m + 1) cap) ls ∧ Ext w1 wr ∧ pad ls = makeP ps)) (fun s _ => match s with | .slice _ m _ => (4 - m % 4) % 4 | _ => 0)
        case atStart => exact ⟨j, g, cap, d ++ [cu], by omega, rfl, by have := HR.out.2.1; simp; omega, HR.out.2.2.2.1, HR.out.2.2.2.2, by unfold makeP; rw [HPG.out]⟩
        case round =>
          obtain ⟨m, g, cap, ls, hm, rfl, HQ⟩ := hrel
          clear HR HPG
          by_cases h4 : (m + 1) % 4 = 0
          · have e4 : (((m : Int) + 1) % 4 != 0) = false := by simp; omega
            have c0 : wr.cell? ⟨w.heap.size + 1, 0, none⟩ = some (.slice none 0 0) := by
              have := HQ.out.2.2.1.blk HRC.out
              simp at this
              exact blk_cell this rfl
            have f0 : wr.frozen? ⟨w.heap.size + 1, 0, none⟩ = false := by
              have := HQ.out.2.2.1.blk HRC.out
              simp at this
              exact blk_frozen this 0
            have HP : Hid (ls = makeP ps) := by have := HQ.out.2.2.2; rw [pad_done (by rw [HQ.out.1]; exact h4)] at this; exact this
            have HE := Lib.hid (HE1.out.trans HQ.out.2.2.1)
            have HISP : Hid (∀ u, IsP p (wr.setCell ⟨w.heap.size + 1, 0, none⟩ u) (.slice (some ⟨g, 0, none⟩) (m + 1) cap) ls) := fun u => (HQ.out.2.1.keep (w' := wr.setCell ⟨w.heap.size + 1, 0, none⟩ u) (by simp [World.setCell]) (fun k hk _ => Below.heap_setCell _ _ _ _ (by show k ≠ w.heap.size + 1; omega))).isP (by omega) (fun l hl x hx => by rw [HP.out] at hl; have := ((makeP_bd ps).2 l hl).2 x hx; have := HL.out; exact ⟨by omega, by omega⟩) (fun l hl => by rw [HP.out] at hl; have := ((makeP_bd ps).2 l hl).1; have := HL.out; omega)
            have hlen : (makeP ps).length = m + 1 := by rw [← HP.out]; exact HQ.out.1
            have HLEN := Lib.hid hlen
            clear h4 hlen
            by_cases h12 : 12 < m + 1
            · go_wp2_with fail
              refine bodyPost_ret (v := .tuple #[.agg #[.slice none 0 0], .int .i64 3]) (by simp [results, Try.results19, go_sem, c0]) rfl ⟨_, [], 3, rfl, IsS.nil _ _ _ _, HE.out.setCell (by simp) _, fun h => absurd (HV.out.symm.trans h) (by simp), fun _ => ⟨fun _ => ⟨rfl, rfl⟩, fun h => absurd h (by have := HLEN.out; omega)⟩⟩
            · go_wp2_with fail
              refine bodyPost_ret (v := .tuple #[.agg #[.slice (some ⟨g, 0, none⟩) (m + 1) cap], .int .i64 0]) (by simp [results, Try.results19, go_sem, c0]) rfl ⟨_, makeP ps, 0, rfl, ?_, HE.out.setCell (by simp) _, fun h => absurd (HV.out.symm.trans h) (by simp), fun _ => ⟨fun h => absurd h (by have := HLEN.out; omega), fun _ => ⟨rfl, rfl⟩⟩⟩
              rw [← HP.out]
              exact HISP.out _
          · have e4 : (((m : Int) + 1) % 4 != 0) = true := by simp; omega
            have HP4 : Hid (pad (ls ++ [[]]) = makeP ps) := by rw [← HQ.out.2.2.2]; exact pad_step (by rw [HQ.out.1]; exact h4)
            obtain ⟨us, hus, hOS⟩ := HQ.out.2.1.own
            have HOS := Lib.hid hOS
            clear hOS
            have H4 := Lib.hid h4
            have hm10 : m + 1 ≤ 29 := by
              have h1 := congrArg List.length HQ.out.2.2.2
              have h2 := (makeP_bd ps).1
              have h3 := HL.out
              have h5 := HQ.out.1
              unfold pad at h1
              simp at h1
              omega
            clear h4
            go_wp2_with (at_builtin; refine wpList_push _ rfl (.tmp 53) (.tmp 54) 36 rfl w1.heap.size 28 iS _ 24 Try.underlying36 hiS hy0 hy1 hy2 rfl _ (m + 1) us rfl (by have := HOS.out.alloc (.cells #[.slice none 0 0] 28); rw [HQ.out.1] at this; exact this) _ _ rfl (by simp; rfl) rfl (by omega) (by omega) (by have := HQ.out.2.2.1.size; simp; omega) ?_; intro v' w3 hown' hg'; obtain ⟨g', cap', rfl, _, _⟩ := own_form hown' (by omega); have HN3 := Lib.hid ((HQ.out.2.1.ext ((Ext.refl _).alloc (.cells #[.slice none 0 0] 28))).new (by decide) (HOS.out.alloc _) hg' (by rw [HQ.out.1]; exact hown')); have HE3 := Lib.hid (Ext.grown (HQ.out.2.2.1.alloc _) hg' (fun k hk => by have := own_ge HOS.out k hk; omega)); clear hown' hg')
            go_roundw
            case rel => exact ⟨m + 1, g', cap', ls ++ [[]], by omega, rfl, by have := HQ.out.1; simp; omega, HN3.out, HE3.out, HP4.out⟩
            case measure => have := H4.out; show (4 - (m + 1 + 1) % 4) % 4 < (4 - (m + 1) % 4) % 4; omega
end Go.Proofs.Ytpbfbkkalemmiaa
