/- The reference's Split. -/
import Derived.Test.YtndmadohffcdiaaSplitA
import Derived.Deep.DrawnRows
import Derived.Deep.RegionLaw
namespace Go.Proofs.Ytndmadohffcdiaa
open Go.RowKit
attribute [local go_sem ↓] Go.wp_at_zero Go.wp_at_succ

theorem runs_new' {fs : List Fld} {cs : List Int} {k : Nat} {x : Int} {d : List (List Int)} (h : newRun fs k) (hx : cs[k]? = some x) (hd : d = runsTo fs cs k) : d ++ [[] ++ [x]] = runsTo fs cs (k + 1) := by
  rw [runs_new h hx, hd]; rfl

set_option maxHeartbeats 4000000 in
set_option maxRecDepth 100000 in
theorem rsplit_any (v0 : Value) (fs : List Fld) (v1 : Value) (cs : List Int) (w : World) {p : Nat} (hp : p < w.heap.size) (h0 : IsF p w v0 fs) (h1 : IsI p w v1 cs) (hl : cs.length ≤ 1000) :
    Calls Try.prog 26 #[v0, v1] w (SplitRet p w fs cs) := by
  obtain ⟨A0, n0, c0, rfl, hnc0, hc0, hnn0, HL0⟩ := h0.open_
  obtain ⟨A1, n1, c1, rfl, hnc1, hc1, hnn1, HL1⟩ := h1.open_
  obtain ⟨iS, hiS, hy0, hy1, hy2⟩ := info_parts Try.infoS
  obtain ⟨i0, hi0, hz0, hz1, hz2⟩ := info_parts Try.infoI
  have H0 := Lib.hid h0
  have H1 := Lib.hid h1
  have HL := Lib.hid hl
  clear h0 h1 hl
  by_cases hn : n0 = n1
  · subst hn
    have hn1000 : n0 ≤ 1000 := by have := HL.out; have := HL1.out; omega
    go_enter Try.func26, Try.ntmps26
    go_wp2_with fail
    go_loopw [6, 7, 8] (fun s6 s7 s8 wr => ∃ (k n6 c6 : Nat) (A6 : Option Addr) (ls : List (List Int)), k ≤ n0 ∧ n6 ≤ k ∧ s6 = .slice A6 n6 c6 ∧ s7 = .int .i64 k ∧
        Hid (ls.length = n6 ∧ ls = runsTo fs cs k ∧ Nest p w.heap.size 28 3 wr (.slice A6 n6 c6) ls ∧ Ext w wr)) (fun _ i _ _ => n0 - (intOf i).toNat)
    case atStart => exact ⟨0, 0, 0, none, [], by omega, by omega, rfl, rfl, rfl, rfl, Nest.nil _ _ _ _ _ (Nat.le_refl _), Ext.refl _⟩
    case round =>
      obtain ⟨wo, rfl⟩ : ∃ wo : World, wo = wr := ⟨_, rfl⟩
      obtain ⟨k, n6, c6, A6, ls, hk, hn6, rfl, rfl, HR⟩ := hrel
      by_cases hlt : k < n0
      · obtain ⟨b, off, cs0, q0, rfl, _⟩ := H0.out.at_ hlt
        obtain ⟨b1, off1, x1, rfl, _⟩ := H1.out.at_ hlt
        have HFO := Lib.hid (H0.out.ext (RFld.stab p) HR.out.2.2.2)
        obtain ⟨q, cq, _, HQ, hq1, hq2⟩ := HFO.out.fld hlt
        go_upto_region 7 with (fail)
        go_cut [35] (fun s35 wx => ∃ (t : Bool) (m : Nat), s35 = .bool t ∧ wx = wo.drewN m ∧ Hid (t = true ↔ newRun fs k))
        case first =>
          by_cases hk0 : k = 0
          · subst hk0
            have e0 : (((0 : Nat) : Int) == 0) = true := rfl
            go_quiet (fail)
            go_wp2_with fail
            go_meet
            exact ⟨true, _, rfl, rfl, (by show _ ↔ _; simp [newRun])⟩
          · obtain ⟨j, rfl⟩ : ∃ j, k = j + 1 := ⟨k - 1, by omega⟩
            obtain ⟨r, cr, _, HQR, hr1, hr2⟩ := HFO.out.fld (k := j) (by omega)
            have e0 : ((j : Int) + 1 == 0) = false := beq_eq_false_iff_ne.2 (by omega)
            have e1 : (j : Int) + 1 - 1 = (j : Int) := by omega
            have e3 : (j : Int) + 1 < n0 := by omega
            by_cases hs : q.part = r.part
            · have e2 : (q.part != r.part) = false := by simp [hs]
              go_quiet (fail)
              go_wp2_with fail
              go_meet
              exact ⟨false, _, rfl, rfl, (by show _ ↔ _; simpa using not_newRun HQ.out HQR.out hs)⟩
            · have e2 : (q.part != r.part) = true := by simp [hs]
              go_quiet (fail)
              go_wp2_with fail
              go_meet
              exact ⟨true, _, rfl, rfl, (by show _ ↔ _; simpa using newRun_of HQ.out HQR.out hs)⟩
        case rest =>
        obtain ⟨t, m, rfl, rfl, HT⟩ := hcut
        go_upto_if 35 with (fail)
        go_cut [6] (fun s6 wx => ∃ (n c g : Nat) (d : List (List Int)) (cu : List Int), n ≤ k ∧ s6 = .slice (some ⟨g, 0, none⟩) (n + 1) c ∧ Hid (d.length = n ∧ Nest p w.heap.size 28 3 wx (.slice (some ⟨g, 0, none⟩) (n + 1) c) (d ++ [cu]) ∧ Ext w wx ∧ cu.length ≤ k ∧ ∀ x, cs[k]? = some x → d ++ [cu ++ [x]] = runsTo fs cs (k + 1)))
        case first =>
          cases t
          · have hnr : ¬ newRun fs k := fun h => by have := HT.out.2 h; cases this
            have hk0 : 0 < k := Nat.pos_of_ne_zero fun e => hnr (.inl e)
            obtain ⟨d, cu, hd⟩ := runs_form fs cs k hk0
            have hls : ls = d ++ [cu] := HR.out.2.1.trans hd
            have hlen : (d ++ [cu]).length = n6 := by rw [← hls]; exact HR.out.1
            obtain ⟨nn, rfl⟩ : ∃ nn, n6 = nn + 1 := ⟨n6 - 1, by simp at hlen; omega⟩
            obtain ⟨g, cap, hv⟩ := HR.out.2.2.1.form (m := nn) HR.out.1
            injection hv with hv1 hv2 hv3
            subst hv1; subst hv3
            have HD := Lib.hid hd
            have HLS := Lib.hid hls
            have HLEN := Lib.hid hlen
            clear hd hls hlen hv2
            go_wp2_with fail
            go_meet
            refine ⟨nn, _, g, d, cu, by omega, rfl, by have := HLEN.out; simp at this; omega, ?_, HR.out.2.2.2.drewN _, ?_, fun x hx => (runs_on hnr hx HD.out).symm⟩
            · have := HR.out.2.2.1.ext ((Ext.refl _).drewN m)
              rw [HLS.out] at this; exact this
            · exact (runs_mem fs cs k (by have := HL1.out; omega) cu (by rw [HD.out]; simp)).1
          · have HNR := Lib.hid (HT.out.1 rfl)
            obtain ⟨us, hus, hOS⟩ := HR.out.2.2.1.own
            have HOS := Lib.hid hOS
            clear hOS
            have HNE := Lib.hid (HR.out.2.2.1.ext ((Ext.refl _).drewN m))
            go_wp2_with (at_builtin; go_loud (refine wpList_push _ rfl (.tmp 36) (.tmp 37) 47 rfl w.heap.size 28 iS _ 24 Try.underlying47 hiS hy0 hy1 hy2 rfl _ n6 us rfl (by have := own_ext HOS.out (((Ext.refl wo).drewN m).alloc (.cells #[.slice none 0 0] 28)); rw [HR.out.1] at this; exact this) _ _ rfl (blk_cell (heap_alloc_new (wo.drewN _) _) (i := 0) rfl) rfl (by omega) (by omega) (by have := HR.out.2.2.2.size; first | omega | (simp; omega)) ?_); intro v' w3 hown' hg'; obtain ⟨g', cap', rfl, _, _⟩ := own_form hown' (by omega); have HN3 := Lib.hid ((HNE.out.ext ((Ext.refl _).alloc (.cells #[.slice none 0 0] 28))).new (by decide) (own_ext HOS.out (((Ext.refl wo).drewN m).alloc _)) hg' (by rw [HR.out.1]; exact hown')); have HE3 := Lib.hid (Ext.grown ((HR.out.2.2.2.drewN _).alloc _) hg' (fun k hk => by have := own_ge HOS.out k hk; omega)); clear hown' hg')
            go_meet
            exact ⟨n6, cap', g', ls, [], by omega, rfl, HR.out.1, HN3.out, HE3.out, by simp, fun x hx => runs_new' HNR.out hx HR.out.2.1⟩
        case rest =>
        obtain ⟨n, c, g, d, cu, hnk, rfl, HC⟩ := hcut
        clear HT HR HFO cq
        have HI1 := Lib.hid (H1.out.ext HC.out.2.2.1)
        obtain ⟨x, hcx, HX, hx1, hx2⟩ := HI1.out.cell_ hlt
        obtain ⟨Au, nu, ccu, HH, hcell, hnu, hbg, hbH, hHw, hou, hstep⟩ := HC.out.2.1.step HC.out.1 (by decide)
        have HOU := Lib.hid hou
        have HST := Lib.hid hstep
        have hnuk : nu ≤ 1000 := by have := HC.out.2.2.2.1; omega
        clear hou hstep
        go_upto_region 10 with (fail)
        have hsz : w.heap.size ≤ wc.heap.size := HC.out.2.2.1.size
        have hlg := World.block_lt_of_cell? wc _ hcell
        have hb0 : (0 : Int) ≤ (n : Int) := Int.natCast_nonneg _
        have hb1 : (n : Int) < ((n + 1 : Nat) : Int) := by omega
        have hb1' : (n : Int) < (n : Int) + 1 := by omega
        have hb2 : (0 : Int) ≤ (k : Int) := Int.natCast_nonneg _
        have hb3 : (k : Int) < (n0 : Int) := by omega
        go_region_law ((refine step_append_lies _ (by rfl) _ _ _ (by rfl) HH 3 i0 _ 1 8 Try.underlying28 hi0 hz0 hz1 hz2 rfl (by omega) (.slice Au nu ccu) nu (cu.map (Value.int .i64)) (by rfl) ((HOU.out.alloc _).drew) ⟨wc.heap.size, 0, none⟩ 1 1 [.int .i64 x] (by rfl) (by rfl) (World.news_of_block (cs := #[.int .i64 x]) (t := 3) (fr := (0, 0)) (heap_alloc_new wc _)) (by simp [Value.oneCell']) (by omega) (by unfold maxLen; omega) (by omega) (by simp; omega) (wc.heap.size + 1) (by simp) ?_; intro gg cap w1 hown1 hgrow hat hlt1; obtain ⟨hc3, hf3, hn3⟩ := HST.out _ _ _ x (((Ext.refl _).alloc _).drew) hgrow hown1; have HN3 := Lib.hid hn3; have HE3 := Lib.hid (Ext.setCell (Ext.grown ((HC.out.2.2.1.alloc _).drew) hgrow (fun k hk => by have := own_ge HOU.out k hk; omega)) (p := ⟨g, n, none⟩) hbg (.slice (some ⟨gg, 0, none⟩) (nu + 1) cap)); clear hn3))
        all_goals go_wp2_with fail
        all_goals
         go_roundw
         case rel => exact ⟨k + 1, n + 1, c, _, _, by omega, by omega, rfl, by go_num, by have := HC.out.1; simp; omega, HC.out.2.2.2.2 x HX.out, HN3.out, HE3.out⟩
         case measure => simp [intOf]; omega
      · obtain rfl : k = n0 := by omega
        go_wp2_with fail
        refine bodyPost_ret (v := .tuple #[.slice A6 n6 c6, .int .i64 0]) (by simp [results, Try.results26, go_sem]) rfl ⟨_, ls, 0, rfl, HR.out.2.2.1.isP hp ?_ ?_, HR.out.2.2.2, fun h => absurd (HL0.out.trans HL1.out.symm) h, fun _ => ⟨by rw [HR.out.2.1, HL1.out], rfl⟩⟩
        · intro l hl x hx
          rw [HR.out.2.1] at hl
          exact H1.out.mem ((runs_mem fs cs k (by have := HL1.out; omega) l hl).2 x hx)
        · intro l hl
          rw [HR.out.2.1] at hl
          have := (runs_mem fs cs k (by have := HL1.out; omega) l hl).1
          omega
  · have hne : ((n0 : Int) != n1) = true := by simp; omega
    go_enter Try.func26, Try.ntmps26
    go_wp2_with fail
    refine bodyPost_ret (v := .tuple #[.slice none 0 0, .int .i64 1]) (by simp [results, Try.results26, go_sem]) rfl ⟨_, [], 1, rfl, IsS.nil _ _ _ _, Ext.refl _, fun _ => ⟨rfl, rfl⟩, fun h => absurd h (by have := HL0.out; have := HL1.out; omega)⟩
end Go.Proofs.Ytndmadohffcdiaa
