/- The law's shaped: some booklet of a paper. -/
import Derived.Test.YtpbfbkkalemmiaaShaped
import Derived.Test.YtpbfbkkalemmiaaRMake
import Derived.Test.YtpbfbkkalemmiaaOrders
import Derived.Deep.LoopGhost
namespace Go.Proofs.Ytpbfbkkalemmiaa
open Go.RowKit
attribute [local go_sem ↓] Go.wp_at_zero Go.wp_at_succ

/-- What shaped leaves. -/
def ShapedV (p : Nat) (w : World) (v : Value) : Prop := ∃ pv ls, v = .agg #[pv] ∧ IsP p w pv ls

set_option maxRecDepth 100000 in
set_option maxHeartbeats 8000000 in
theorem shaped_any (p : Nat) (code var : Int) (sv : Value) (ps : List Part) (w : World) (h : Tape w p) (hq : IsQ p w sv ps) (hl : ps.length ≤ 24) :
    Calls Try.prog 22 #[.pointer (some ⟨p, 0, none⟩), .agg #[.int .i64 code, .int .i64 var, sv]] w (TRet p w fun v w' => ShapedV p w' v) := by
  have hlt := h.lt
  obtain ⟨iS, hiS, hy0, hy1, hy2⟩ := info_parts Try.infoS
  obtain ⟨i0, hi0, hz0, hz1, hz2⟩ := info_parts Try.infoI
  obtain ⟨A, n, c, rfl, hnc, hc, hnn, HL⟩ := hq.open_
  have hn24 : n ≤ 24 := by have := HL.out; omega
  clear hl
  have HE : Hid (Ext w (((w.alloc (.cells #[.int .i64 code, .int .i64 var, .slice A n c] 33)).alloc (.cells #[.slice none 0 0] 38)).alloc (.cells #[.slice none 0 0] 38))) := (((Ext.refl _).alloc _).alloc _).alloc _
  have HS : Hid (SH p w code var (.slice A n c) (((w.alloc (.cells #[.int .i64 code, .int .i64 var, .slice A n c] 33)).alloc (.cells #[.slice none 0 0] 38)).alloc (.cells #[.slice none 0 0] 38)) (.slice none 0 0) []) := by
    refine ⟨QBox.ext (heap_alloc_new w _) (((Ext.refl _).alloc _).alloc _), ?_, ?_, Mat.nil _ _ _ _, by simp, h.ext HE.out, HE.out.xt⟩
    · have := BBox.ext (b := (w.alloc (.cells #[.int .i64 code, .int .i64 var, .slice A n c] 33)).heap.size) (v := .slice none 0 0) (heap_alloc_new _ _) ((Ext.refl ((w.alloc (.cells #[.int .i64 code, .int .i64 var, .slice A n c] 33)).alloc (.cells #[.slice none 0 0] 38))).alloc (.cells #[.slice none 0 0] 38))
      simpa using this
    · have : BBox (((w.alloc (.cells #[.int .i64 code, .int .i64 var, .slice A n c] 33)).alloc (.cells #[.slice none 0 0] 38)).alloc (.cells #[.slice none 0 0] 38)) ((w.alloc (.cells #[.int .i64 code, .int .i64 var, .slice A n c] 33)).alloc (.cells #[.slice none 0 0] 38)).heap.size (.slice none 0 0) := heap_alloc_new _ _
      simpa using this
  have HQ := Lib.hid hq
  clear h hq HE
  go_enter Try.func22, Try.ntmps22
  go_upto_region 2 with (fail)
  generalize hW : ((w.alloc (.cells #[.int .i64 code, .int .i64 var, .slice A n c] 33)).alloc (.cells #[.slice none 0 0] 38)).alloc (.cells #[.slice none 0 0] 38) = W at *
  clear hW
  have k0 := HS.out.2.2.1.cell
  have hsW := HS.out.2.2.1.lt
  go_upto_region 3 with (at_builtin; refine wpList_pushM _ rfl (.tmp 12) (.tmp 13) 36 rfl w.heap.size 28 iS _ 24 Try.underlying36 hiS hy0 hy1 hy2 rfl (.slice none 0 0) 0 [] rfl (World.ownsRow_nil _ _ _ _) _ _ _ _ rfl (heap_alloc_new W _) rfl (by simp [Value.oneCell']) (by omega) (by omega) (by simp; omega) ?_; intro v2 w2 hown2 hg2; obtain ⟨g2, cap2, rfl, _, _⟩ := own_form hown2 (by omega); have HP := Lib.hid (SH.nils (m := 2) (HS.out.ext ((Ext.refl _).alloc _) hlt) hlt (World.ownsRow_nil _ _ _ _) hg2 hown2); have z2 := HP.out.1; have zf := HP.out.2.1; replace HS := Lib.hid HP.out.2.2; clear hown2 hg2 HP)
  generalize hW : w2.setCell ⟨w.heap.size + 2, 0, none⟩ (.slice (some ⟨g2, 0, none⟩) (0 + 2) cap2) = W2 at *
  clear hW z2 zf k0 hsW
  go_wp2_with fail
  go_loopw [6, 7] (fun s6 s7 wr => ∃ (i : Nat) (lf : Int) (A1 : Option Addr) (m c1 : Nat) (ls : List (List Int)), s6 = .int .i64 lf ∧ s7 = .int .i64 i ∧ i ≤ n ∧ 0 ≤ lf ∧ lf ≤ 30 ∧ 2 ≤ m ∧ m ≤ 2 + i ∧ Hid (ls.length = m ∧ (∀ l ∈ ls, l.length ≤ i) ∧ SH p w code var (.slice A n c) wr (.slice A1 m c1) ls)) (fun _ i _ => n - (intOf i).toNat)
  case atStart => exact ⟨0, 30, _, 2, _, [[], []], rfl, rfl, by omega, by omega, by omega, by omega, by omega, rfl, by simp, HS.out⟩
  case round =>
    obtain ⟨i, lf, A1, m, c1, ls, rfl, rfl, hi, hlf0, hlf1, hm2, hm, HR⟩ := hrel
    obtain ⟨r1, r2, r3⟩ := HR.out
    replace r1 := Lib.hid r1
    replace r2 := Lib.hid r2
    replace r3 := Lib.hid r3
    clear HR HS
    obtain ⟨b0, b1, b2⟩ := r3.out.1.cells
    by_cases hin : i < n
    · obtain ⟨bb, off, cs0, q0, rfl, _⟩ := HQ.out.at_ hin
      obtain ⟨q, c00, c01, c02, c03, c04, c05, hwq, HX⟩ := (HQ.out.xt (RPart.stab p) r3.out.2.2.2.2.2.2).part hin
      have hnb := need_bd q
      go_wp2_with fail
      refine (rneed_any q _).mono ?_
      rintro e w3 ⟨rfl, hx3⟩
      replace r3 := Lib.hid (r3.out.ext hx3 hlt)
      clear hx3 b0 b1 b2 c00 c01 c02 c03 c04 c05 HX hwq
      go_upto_region 8 with (fail)
      generalize need q = nd at *
      go_cut [35] (fun s35 wx => ∃ b : Bool, s35 = .bool b ∧ Hid ((b = false → nd ≤ lf) ∧ SH p w code var (.slice (some ⟨bb, off, none⟩) n c) wx (.slice A1 m c1) ls))
      case first =>
        by_cases hgt : lf < nd
        · go_wp2_with fail
          go_meet
          exact ⟨true, rfl, (fun h => (by cases h)), r3.out⟩
        · go_wp2_with fail
          refine (one_any _ _ _ r3.out.2.2.2.2.2.1 (by omega) (by omega)).mono ?_
          rintro e w4 ⟨v4, rfl, ⟨b, rfl⟩, HT4, HX4⟩
          replace r3 := Lib.hid (r3.out.xt HX4 HT4 hlt)
          go_wp2_with fail
          go_meet
          exact ⟨b, rfl, fun _ => by omega, r3.out⟩
      case rest =>
      obtain ⟨b, rfl, HC⟩ := hcut
      clear r3
      go_upto_if 35 with (fail)
      go_cut [6] (fun s6 wx => ∃ (lf' : Int) (A2 : Option Addr) (mm c2 : Nat) (ls2 : List (List Int)), s6 = .int .i64 lf' ∧ nd ≤ lf' ∧ lf' ≤ 30 ∧ 1 ≤ mm ∧ mm + 1 ≤ 3 + i ∧ Hid (ls2.length = mm + 1 ∧ (∀ l ∈ ls2, l.length ≤ i) ∧ SH p w code var (.slice (some ⟨bb, off, none⟩) n c) wx (.slice A2 (mm + 1) c2) ls2))
      case first =>
        cases b
        · have hle := HC.out.1 (by trivial)
          go_wp2_with fail
          go_meet
          obtain ⟨mm, rfl⟩ : ∃ mm, m = mm + 1 := ⟨m - 1, by omega⟩
          exact ⟨lf, A1, mm, c1, ls, rfl, hle, by omega, by omega, by omega, r1.out, r2.out, HC.out.2⟩
        · have k0 := HC.out.2.2.2.1.cell
          have hsc := HC.out.2.2.2.1.lt
          obtain ⟨us, _, hus⟩ := HC.out.2.2.2.2.1.own
          rw [r1.out] at hus
          replace hus := Lib.hid hus
          go_wp2_with (at_builtin; refine wpList_pushM _ rfl (.tmp 37) (.tmp 38) 36 rfl w.heap.size 28 iS _ 24 Try.underlying36 hiS hy0 hy1 hy2 rfl (.slice A1 m c1) m us rfl (hus.out.alloc _) _ _ _ _ rfl (heap_alloc_new wc _) rfl (by simp [Value.oneCell']) (by omega) (by omega) (by simp; omega) ?_; intro v2 w2 hown2 hg2; obtain ⟨g2, cap2, rfl, _, _⟩ := own_form hown2 (by omega); have HP := Lib.hid (SH.nils (m := 1) (HC.out.2.ext ((Ext.refl _).alloc _) hlt) hlt (by rw [r1.out]; exact hus.out.alloc _) hg2 (by rw [r1.out]; exact hown2)); have z2 := HP.out.1; have zf := HP.out.2.1; have HS := Lib.hid HP.out.2.2; clear hown2 hg2 HP)
          go_meet
          refine ⟨30, _, m, cap2, ls ++ [[]], rfl, by omega, by omega, by omega, by omega, by have := r1.out; simp; omega, ?_, HS.out⟩
          intro l hl
          rcases List.mem_append.1 hl with hl | hl
          · exact r2.out l hl
          · simp at hl; subst hl; simp
      case rest =>
      obtain ⟨lf', A2, mm, c2, ls2, rfl, hlf2, hlf3, hmm, hmi, HD⟩ := hcut
      clear HC r1 r2
      obtain ⟨r1, r2, r3⟩ := HD.out
      obtain ⟨us, _, hus⟩ := r3.2.2.2.1.own
      obtain ⟨g, cap, hv, _, _⟩ := own_form hus (by omega)
      injection hv with hv1 hv2 hv3
      subst hv1
      clear hv2 hv3 hus
      obtain ⟨Au, mu, cu, lu, hlu, hmu, hcu, hfu, hgw, hgl, hou, _, hstep⟩ := r3.2.2.2.1.row (j := mm) r1 (by decide) (by omega)
      have k0 := r3.2.2.1.cell
      have hsc := r3.2.2.1.lt
      have hmu' : mu ≤ 24 := by have := r2 lu (List.mem_of_getElem? hlu); omega
      replace r1 := Lib.hid r1
      replace r2 := Lib.hid r2
      replace r3 := Lib.hid r3
      replace hlu := Lib.hid hlu
      replace hmu := Lib.hid hmu
      replace hou := Lib.hid hou
      replace hstep := Lib.hid hstep
      clear HD
      have hb0 : (0 : Int) ≤ (mm : Int) := Int.natCast_nonneg _
      have hb1 : (mm : Int) < ((mm + 1 : Nat) : Int) := by omega
      have hb2 : (mm : Int) < (mm : Int) + 1 := by omega
      go_upto_region 12 with (fail)
      have kk : ∀ o, (wc.alloc o).cell? ⟨w.heap.size + 2, 0, none⟩ = some (.slice (some ⟨g, 0, none⟩) (mm + 1) c2) := fun o => Ext.cell ((Ext.refl _).alloc o) k0
      have kl : ∀ o, (wc.alloc o).cell? ⟨g, mm, none⟩ = some (.slice Au mu cu) := fun o => Ext.cell ((Ext.refl _).alloc o) hcu
      go_region_law ((refine step_append_lies _ (by rfl) _ _ _ (by rfl) w.heap.size 3 i0 _ 1 8 Try.underlying28 hi0 hz0 hz1 hz2 rfl (by omega) (.slice Au mu cu) mu (lu.map (Value.int .i64)) (by rfl) ((hou.out.alloc _).drew) ⟨wc.heap.size, 0, none⟩ 1 1 [.int .i64 i] (by rfl) (by rfl) (World.news_of_block (cs := #[.int .i64 i]) (t := 3) (fr := (0, 0)) (heap_alloc_new wc _)) (by simp [Value.oneCell']) (by omega) (by unfold maxLen; omega) (by omega) (by simp; omega) (wc.heap.size + 1) (by simp) ?_; intro gg cap w1 hown1 hgrow hat hlt1; have HH := Lib.hid (hstep.out p _ _ gg cap i (((Ext.refl _).alloc _).drew.xt) hlt hgrow hown1 (hat.imp id (fun e => by omega))); have HS := Lib.hid (SH.row (x := i) r3.out hlt hlu.out (by have := hmu.out; omega) ⟨by omega, by omega⟩ (((Ext.refl _).alloc _).drew.xt) (r3.out.2.2.2.2.2.1.ext (((Ext.refl _).alloc _).drew)) hou.out hgw hgrow HH.out); have z2 := HH.out.1; have zf := HH.out.2.1; have z3 := SH.box r3.out hlt (((Ext.refl _).alloc _).drew.xt) hou.out hgrow; clear hown1 hgrow hat))
      all_goals go_wp2_with fail
      all_goals
        go_roundw
        case rel =>
          refine ⟨i + 1, lf' - nd, _, mm + 1, c2, _, rfl, by go_num, by omega, by omega, by omega, by omega, by omega, by have := r1.out; simp; omega, ?_, HS.out⟩
          intro y hy
          rcases List.mem_or_eq_of_mem_set hy with hy | rfl
          · have := r2.out y hy; omega
          · have := r2.out lu (List.mem_of_getElem? hlu.out); simp; omega
        case measure => simp [intOf]; omega
    · have hm26 : m ≤ 26 := by omega
      have hr2 : Hid (∀ l ∈ ls, l.length ≤ 24) := fun l hl => by have := r2.out l hl; omega
      clear r2
      go_wp2_with fail
      go_loopg [60] 3 (fun k s60 wr => ∃ (A1 : Option Addr) (m c1 : Nat) (ls : List (List Int)), m ≤ 29 - k ∧ 2 ≤ m ∧ (m % 4 = 0 ∨ 4 - m % 4 ≤ k) ∧ k ≤ 3 ∧ Hid (ls.length = m ∧ (∀ l ∈ ls, l.length ≤ 24) ∧ SH p w code var (.slice A n c) wr (.slice A1 m c1) ls))
      case atStart => exact ⟨A1, m, c1, ls, by omega, by omega, by omega, by omega, r1.out, hr2.out, r3.out⟩
      case round =>
        obtain ⟨A1, m, c1, ls, hm, hm2, hmk, hk3, HR⟩ := hrel
        clear r1 r3 hr2
        obtain ⟨r1, r2, r3⟩ := HR.out
        have k0 := r3.2.2.1.cell
        have hsc := r3.2.2.1.lt
        obtain ⟨us, _, hus⟩ := r3.2.2.2.1.own
        rw [r1] at hus
        replace hus := Lib.hid hus
        replace r1 := Lib.hid r1
        replace r2 := Lib.hid r2
        replace r3 := Lib.hid r3
        clear HR
        by_cases hm4 : m % 4 = 0
        · have hi4 : ((m : Int) % 4 != 0) = false := by simp; omega
          have hi5 : ((m : Int).tmod 4 != 0) = false := by rw [Int.tmod_eq_emod_of_nonneg (by omega)]; exact hi4
          clear hmk
          replace hm4 := Lib.hid hm4
          have HQ3 := Lib.hid HQ.out
          go_wp2_with fail
          refine (one_any _ _ _ r3.out.2.2.2.2.2.1 (by omega) (by omega)).mono ?_
          rintro e w4 ⟨v4, rfl, ⟨b, rfl⟩, HT4, HX4⟩
          replace r3 := Lib.hid (r3.out.xt HX4 HT4 hlt)
          clear HT4 HX4 k0 hsc hus
          have hbd : Hid (∀ l ∈ ls, ∀ x ∈ l, I64 x) := fun l hl x hx => by have := (r3.out.2.2.2.2.1 l hl).2 x hx; exact ⟨by omega, by omega⟩
          have hbl : Hid (∀ l ∈ ls, l.length ≤ 9223372036854775807) := fun l hl => by have := (r3.out.2.2.2.2.1 l hl).1; omega
          go_upto_if 71 with (fail)
          go_cut [] (fun wx => ∃ (A2 : Option Addr) (n2 c2 : Nat) (ls2 : List (List Int)), Hid (BBox wx (w.heap.size + 1) (.slice none 0 0) ∧ BBox wx (w.heap.size + 2) (.slice A2 n2 c2) ∧ (∀ x, IsP p (wx.setCell ⟨w.heap.size + 1, 0, none⟩ x) (.slice A2 n2 c2) ls2) ∧ Tape wx p ∧ XT p w wx))
          case first =>
            cases b
            · go_wp2_with fail
              go_meet
              exact ⟨A1, m, c1, ls, r3.out.2.1, r3.out.2.2.1, fun x => (r3.out.2.2.2.1.far r3.out.2.1 (by decide) (by decide) rfl x).isP hlt hbd.out hbl.out, r3.out.2.2.2.2.2.1, r3.out.2.2.2.2.2.2⟩
            · have k0 := r3.out.2.2.1.cell
              go_wp2_with fail
              refine (next_any p _ _ r3.out.2.2.2.2.2.1 (by omega)).mono ?_
              rintro e w5 ⟨v5, rfl, ⟨a5, rfl, ha0, ha1⟩, HT5, HX5⟩
              obtain ⟨k5, rfl⟩ := Int.eq_ofNat_of_zero_le ha0
              replace r3 := Lib.hid (r3.out.xt HX5 HT5 hlt)
              clear HT5 HX5 k0
              go_wp2_with fail
              refine (next_any p _ _ r3.out.2.2.2.2.2.1 (by omega)).mono ?_
              rintro e w6 ⟨v6, rfl, ⟨z, rfl, hz0, hz1⟩, HT6, HX6⟩
              replace r3 := Lib.hid (r3.out.xt HX6 HT6 hlt)
              clear HT6 HX6
              have hk5 : k5 < m := by omega
              obtain ⟨us, _, hus⟩ := r3.out.2.2.2.1.own
              obtain ⟨g, cap, hv, _, _⟩ := own_form hus (by have := r1.out; omega)
              injection hv with hv1 hv2 hv3
              subst hv1
              rw [r1.out] at hus
              obtain ⟨hcm, hcm'⟩ := own_cap hus
              replace hus := Lib.hid hus
              clear hv2 hv3 ha0 ha1
              obtain ⟨Au, mu, cu, lu, hlu, hmu, hcu, hfu, hgw, hgl, hou, hnil, hstep⟩ := r3.out.2.2.2.1.row (j := k5) r1.out (by decide) hk5
              have k0 := r3.out.2.2.1.cell
              have kf := r3.out.2.2.1.froz 0
              have hsc := r3.out.2.2.1.lt
              have hmu' : mu ≤ 24 := by have := r2.out lu (List.mem_of_getElem? hlu); omega
              obtain ⟨b0, b1, b2⟩ := r3.out.1.cells
              replace hlu := Lib.hid hlu
              replace hmu := Lib.hid hmu
              replace hou := Lib.hid hou
              replace hstep := Lib.hid hstep
              replace hnil := Lib.hid hnil
              have hb0 : (0 : Int) ≤ (k5 : Int) := Int.natCast_nonneg _
              have hb1 : (k5 : Int) < (m : Int) := by omega
              have hzz : z = 0 ∨ z = 1 ∨ z = 2 ∨ z = 3 := by omega
              clear hz0 hz1
              rcases hzz with rfl | rfl | rfl | rfl
              · go_upto_region 21 with (fail)
                have hS : w6.drew.cell? ⟨w.heap.size + 2, 0, none⟩ = some (.slice (some ⟨g, 0, none⟩) m c1) ∧ w6.drew.cell? ⟨g, k5, none⟩ = some (.slice Au mu cu) ∧ w6.drew.cell? ⟨w.heap.size, 2, none⟩ = some (.slice A n c) := ⟨k0, hcu, b2⟩
                replace hS := Lib.hid hS
                refine wp_region_k 16 (fun w' => w'.cell? ⟨w.heap.size + 2, 0, none⟩ = some (.slice (some ⟨g, 0, none⟩) m c1) ∧ w'.cell? ⟨g, k5, none⟩ = some (.slice Au mu cu) ∧ w'.cell? ⟨w.heap.size, 2, none⟩ = some (.slice A n c)) (by kernel_rfl) ?_
                refine wpAnyK_take 0 (some 86) (v := ?kv1) rfl rfl (by kernel_rfl) (by kernel_rfl) (by kernel_rfl) (by decide) (by kernel_rfl) (fun _ _ _ h => h) (by rfl) ?ky1 hS.out ?kr1
                case ky1 => ((intro wk hk); (try dsimp only at hk); go_simp; try with_reducible rfl)
                try simp only [Act.put, List.setIfInBounds_toArray, List.set_cons_zero, List.set_cons_succ]
                refine wpAnyK_take 1 (some 87) (v := ?kv2) rfl rfl (by kernel_rfl) (by kernel_rfl) (by kernel_rfl) (by decide) (by kernel_rfl) (fun _ _ _ h => h) (by rfl) ?ky2 hS.out ?kr2
                case ky2 => ((intro wk hk); (try dsimp only at hk); go_simp; try with_reducible rfl)
                try simp only [Act.put, List.setIfInBounds_toArray, List.set_cons_zero, List.set_cons_succ]
                refine wpAnyK_take 2 (some 88) (v := ?kv3) rfl rfl (by kernel_rfl) (by kernel_rfl) (by kernel_rfl) (by decide) (by kernel_rfl) (fun _ _ _ h => h) (by rfl) ?ky3 hS.out ?kr3
                case ky3 => ((intro wk hk); (try dsimp only at hk); go_simp; try with_reducible rfl)
                try simp only [Act.put, List.setIfInBounds_toArray, List.set_cons_zero, List.set_cons_succ]
                refine wpAnyK_take 3 (some 89) (v := ?kv4) rfl rfl (by kernel_rfl) (by kernel_rfl) (by kernel_rfl) (by decide) (by kernel_rfl) (fun _ _ _ h => h) (by rfl) ?ky4 hS.out ?kr4
                case ky4 => ((intro wk hk); (try dsimp only at hk); go_simp; try with_reducible rfl)
                try simp only [Act.put, List.setIfInBounds_toArray, List.set_cons_zero, List.set_cons_succ]
                refine wpAnyK_take 4 (some 90) (v := ?kv5) rfl rfl (by kernel_rfl) (by kernel_rfl) (by kernel_rfl) (by decide) (by kernel_rfl) (fun _ _ _ h => h) (by rfl) ?ky5 hS.out ?kr5
                case ky5 => ((intro wk hk); (try dsimp only at hk); go_simp; try with_reducible rfl)
                try simp only [Act.put, List.setIfInBounds_toArray, List.set_cons_zero, List.set_cons_succ]
                refine wpAnyK_take 5 (some 91) (v := ?kv6) rfl rfl (by kernel_rfl) (by kernel_rfl) (by kernel_rfl) (by decide) (by kernel_rfl) (fun _ _ _ h => h) (by rfl) ?ky6 hS.out ?kr6
                case ky6 => ((intro wk hk); (try dsimp only at hk); go_simp; try with_reducible rfl)
                try simp only [Act.put, List.setIfInBounds_toArray, List.set_cons_zero, List.set_cons_succ]
                refine wpAnyK_take 6 (some 92) (v := ?kv7) rfl rfl (by kernel_rfl) (by kernel_rfl) (by kernel_rfl) (by decide) (by kernel_rfl) (fun _ _ _ h => h) (by rfl) ?ky7 hS.out ?kr7
                case ky7 => ((intro wk hk); (try dsimp only at hk); go_simp; try with_reducible rfl)
                try simp only [Act.put, List.setIfInBounds_toArray, List.set_cons_zero, List.set_cons_succ]
                refine wpAnyK_take 7 (some 93) (v := ?kv8) rfl rfl (by kernel_rfl) (by kernel_rfl) (by kernel_rfl) (by decide) (by kernel_rfl) (fun _ _ _ h => h) (by rfl) ?ky8 hS.out ?kr8
                case ky8 => ((intro wk hk); (try dsimp only at hk); go_simp; try with_reducible rfl)
                try simp only [Act.put, List.setIfInBounds_toArray, List.set_cons_zero, List.set_cons_succ]
                refine wpAnyK_take 8 (some 94) (v := ?kv9) rfl rfl (by kernel_rfl) (by kernel_rfl) (by kernel_rfl) (by decide) (by kernel_rfl) (fun _ _ _ h => h) (by rfl) ?ky9 hS.out ?kr9
                case ky9 => ((intro wk hk); (try dsimp only at hk); go_simp; try with_reducible rfl)
                try simp only [Act.put, List.setIfInBounds_toArray, List.set_cons_zero, List.set_cons_succ]
                refine wpAnyK_take 9 (some 95) (v := ?kv10) rfl rfl (by kernel_rfl) (by kernel_rfl) (by kernel_rfl) (by decide) (by kernel_rfl) (fun _ _ _ h => h) (by rfl) ?ky10 hS.out ?kr10
                case ky10 => ((intro wk hk); (try dsimp only at hk); go_simp; try with_reducible rfl)
                try simp only [Act.put, List.setIfInBounds_toArray, List.set_cons_zero, List.set_cons_succ]
                refine wpAnyK_take 10 (some 96) (v := ?kv11) rfl rfl (by kernel_rfl) (by kernel_rfl) (by kernel_rfl) (by decide) (by kernel_rfl) (fun _ _ _ h => h) (by rfl) ?ky11 hS.out ?kr11
                case ky11 => ((intro wk hk); (try dsimp only at hk); go_simp; try with_reducible rfl)
                try simp only [Act.put, List.setIfInBounds_toArray, List.set_cons_zero, List.set_cons_succ]
                refine wpAnyK_take 11 (some 97) (v := ?kv12) rfl rfl (by kernel_rfl) (by kernel_rfl) (by kernel_rfl) (by decide) (by kernel_rfl) (fun _ _ _ h => h) (by rfl) ?ky12 hS.out ?kr12
                case ky12 => ((intro wk hk); (try dsimp only at hk); go_simp; try with_reducible rfl)
                try simp only [Act.put, List.setIfInBounds_toArray, List.set_cons_zero, List.set_cons_succ]
                refine wpAnyK_one 12 (by kernel_rfl) rfl (fun K hK => ?_)
                go_simp
                refine (range_any p _ _ _ (r3.out.2.2.2.2.2.1.ext (Ext.refl _).drew) (by omega) (by omega) (by omega) (by omega)).mono ?_
                rintro e w7 ⟨v7, rfl, ⟨x, rfl, hx1, hx2⟩, HT7, HX7'⟩
                have HX7 := Lib.hid ((Ext.xt (p := p) ((Ext.refl w6).drew)).trans HX7')
                have hs7 := HX7.out.size
                have y0 := HX7.out.cell k0 (by simp; omega)
                have y1 := HX7.out.cell hcu (by simp; omega)
                have y2 := HX7.out.cell b2 (by simp; omega)
                clear HX7' hS
                refine hK.out _ _ (fun _ => ⟨y0, y1, y2⟩) ?_
                clear hK K
                try simp only [Act.put, List.setIfInBounds_toArray, List.set_cons_zero, List.set_cons_succ]
                refine wpAnyK_one 13 (by kernel_rfl) rfl (fun K hK => ?_)
                go_simp
                have E7 := Lib.hid ((Ext.refl w7).alloc (.cells #[.int .i64 x] 3))
                refine hK.out _ _ (fun _ => ⟨E7.out.cell y0, E7.out.cell y1, E7.out.cell y2⟩) ?_
                clear hK K
                try simp only [Act.put, List.setIfInBounds_toArray, List.set_cons_zero, List.set_cons_succ]
                refine wpAnyK_one 14 (by kernel_rfl) rfl (fun K hK => ?_)
                refine step_append_lies _ (by rfl) _ _ _ (by rfl) w.heap.size 3 i0 _ 1 8 Try.underlying28 hi0 hz0 hz1 hz2 rfl (by omega) (.slice Au mu cu) mu (lu.map (Value.int .i64)) (by rfl) ((own_xt hou.out HX7.out hlt).alloc _) ⟨w7.heap.size, 0, none⟩ 1 1 [.int .i64 x] (by rfl) (by rfl) (World.news_of_block (cs := #[.int .i64 x]) (t := 3) (fr := (0, 0)) (heap_alloc_new w7 _)) (by simp [Value.oneCell']) (by omega) (by unfold maxLen; omega) (by omega) (by simp; omega) (w7.heap.size + 1) (by simp) ?_
                intro gg cap w8 hown8 hgrow hat hlt8
                have HH := Lib.hid (hstep.out p _ _ gg cap x (HX7.out.alloc _) hlt hgrow hown8 (hat.imp id (fun e => by omega)))
                have HS := Lib.hid (SH.row (x := x) r3.out hlt hlu.out (by have := hmu.out; omega) ⟨by omega, by omega⟩ (HX7.out.alloc _) (HT7.ext ((Ext.refl _).alloc _)) hou.out hgw hgrow HH.out)
                have z2 := HH.out.1
                have zf := HH.out.2.1
                have z3 := SH.box r3.out hlt (HX7.out.alloc _) hou.out hgrow
                have z4 := SH.pap r3.out hlt (HX7.out.alloc _) hou.out hgrow
                have hS : w8.cell? ⟨w.heap.size + 2, 0, none⟩ = some (.slice (some ⟨g, 0, none⟩) m c1) ∧ w8.cell? ⟨g, k5, none⟩ = some (.slice Au mu cu) ∧ w8.cell? ⟨w.heap.size, 2, none⟩ = some (.slice A n c) := ⟨z3, z2, z4⟩
                replace hS := Lib.hid hS
                clear hown8 hgrow hat
                refine hK.out _ _ (fun _ => hS.out) ?_
                clear hK K
                try simp only [Act.put, List.setIfInBounds_toArray, List.set_cons_zero, List.set_cons_succ]
                refine wpAnyK_take 15 (some 101) (v := ?kv13) rfl rfl (by kernel_rfl) (by kernel_rfl) (by kernel_rfl) (by decide) (by kernel_rfl) (fun _ _ _ h => h) (by rfl) ?ky13 hS.out ?kr13
                case ky13 => ((intro wk hk); (try dsimp only at hk); go_simp; try with_reducible rfl)
                try simp only [Act.put, List.setIfInBounds_toArray, List.set_cons_zero, List.set_cons_succ]
                refine wpAnyK_one 16 (by kernel_rfl) rfl (fun K hK => ?_)
                go_simp
                refine hK.out _ _ (fun h => absurd rfl h) ?_
                clear hK K
                refine wpAnyK_done (by kernel_rfl) ?_ _
                go_wp2_with fail
                go_meet
                refine ⟨_, m, c1, _, HS.out.2.1, HS.out.2.2.1, fun x => (HS.out.2.2.2.1.far HS.out.2.1 (by decide) (by decide) rfl x).isP hlt (fun l hl x hx => ?_) (fun l hl => ?_), HS.out.2.2.2.2.2.1, HS.out.2.2.2.2.2.2⟩
                · have := (HS.out.2.2.2.2.1 l hl).2 x hx; exact ⟨by omega, by omega⟩
                · have := (HS.out.2.2.2.2.1 l hl).1; omega
              · have hng : w.heap.size + 1 ≠ g ∧ w.heap.size + 2 ≠ g := ⟨fun e => own_ne hus.out r3.out.2.1 (by decide) (by rw [e]; rfl), fun e => own_ne hus.out r3.out.2.2.1 (by decide) (by rw [e]; rfl)⟩
                go_wp2_with fail
                go_meet
                refine ⟨_, m, c1, ls.set k5 [], r3.out.2.1.far hng.1 _, r3.out.2.2.1.far hng.2 _, fun x => (hnil.out.far (r3.out.2.1.far hng.1 _) (by decide) (by decide) rfl x).isP hlt ?_ ?_, r3.out.2.2.2.2.2.1.setNew (by simp; omega) _, r3.out.2.2.2.2.2.2.setNew (by simpa using hgw) _⟩
                · intro l hl
                  rcases List.mem_or_eq_of_mem_set hl with hl | rfl
                  · exact hbd.out l hl
                  · simp
                · intro l hl
                  rcases List.mem_or_eq_of_mem_set hl with hl | rfl
                  · exact hbl.out l hl
                  · simp
              · go_wp2_with fail
                go_meet
                refine ⟨some ⟨g, 0, none⟩, k5, c1, ls.take k5, r3.out.2.1.far (by simp) _, r3.out.2.2.1.set _, fun x => ?_, r3.out.2.2.2.2.2.1.setNew (by show p < w.heap.size + 1 + 1; omega) _, r3.out.2.2.2.2.2.2.setNew (by show w.heap.size ≤ w.heap.size + 1 + 1; omega) _⟩
                exact IsS.take (((r3.out.2.2.2.1.far r3.out.2.2.1 (by decide) (by decide) rfl _).far (r3.out.2.1.far (a := ⟨w.heap.size + 2, 0, none⟩) (by simp) _) (by decide) (by decide) rfl x).isP hlt hbd.out hbl.out) (by omega)
              · go_wp2_with (at_builtin; refine wpList_pushM _ rfl (.tmp 80) (.tmp 81) 36 rfl w.heap.size 28 iS _ 24 Try.underlying36 hiS hy0 hy1 hy2 rfl (.slice (some ⟨g, 0, none⟩) m c1) m us rfl (hus.out.alloc _) _ _ _ _ rfl (heap_alloc_new w6 _) rfl (by simp [Value.oneCell']) (by omega) (by omega) (by simp; omega) ?_; intro v2 w2 hown2 hg2; obtain ⟨g2, cap2, rfl, _, _⟩ := own_form hown2 (by omega); have HP := Lib.hid (SH.nils (m := 4) (r3.out.ext ((Ext.refl _).alloc _) hlt) hlt (by rw [r1.out]; exact hus.out.alloc _) hg2 (by rw [r1.out]; exact hown2)); have z2 := HP.out.1; have zf := HP.out.2.1; have HS := Lib.hid HP.out.2.2; clear hown2 hg2 HP)
                go_meet
                refine ⟨_, m + 4, cap2, ls ++ List.replicate 4 [], HS.out.2.1, HS.out.2.2.1, fun x => (HS.out.2.2.2.1.far HS.out.2.1 (by decide) (by decide) rfl x).isP hlt ?_ ?_, HS.out.2.2.2.2.2.1, HS.out.2.2.2.2.2.2⟩
                · intro l hl
                  rcases List.mem_append.1 hl with hl | hl
                  · exact hbd.out l hl
                  · rw [(List.mem_replicate.1 hl).2]; simp
                · intro l hl
                  rcases List.mem_append.1 hl with hl | hl
                  · exact hbl.out l hl
                  · rw [(List.mem_replicate.1 hl).2]; simp
          case rest =>
          obtain ⟨A2, n2, c2, ls2, HC⟩ := hcut
          obtain ⟨q1, q2, q3, q5, q6⟩ := HC.out
          have k1 := q1.cell
          have f1 := q1.froz 0
          have k2 := q2.cell
          replace q1 := Lib.hid q1
          replace q2 := Lib.hid q2
          replace q3 := Lib.hid q3
          replace q5 := Lib.hid q5
          replace q6 := Lib.hid q6
          clear HC r1 r2 r3 hbd hbl
          go_wp2_with fail
          refine bodyPost_ret (v := .agg #[.slice A2 n2 c2]) (by simp [results, Try.results22, go_sem, k1]) rfl ⟨_, rfl, ⟨_, ls2, rfl, q3.out _⟩, q5.out.setNew (by simp; omega) _, q6.out.setNew (by simp) _⟩
        · have hi4 : ((m : Int) % 4 != 0) = true := by simp; omega
          have hi5 : ((m : Int).tmod 4 != 0) = true := by rw [Int.tmod_eq_emod_of_nonneg (by omega)]; exact hi4
          have hmk' : 4 - m % 4 ≤ gk := by omega
          have hm4' : 0 < m % 4 := by omega
          have hm4'' : m % 4 < 4 := by omega
          clear hmk hm4
          go_wp2_with (at_builtin; refine wpList_pushM _ rfl (.tmp 66) (.tmp 67) 36 rfl w.heap.size 28 iS _ 24 Try.underlying36 hiS hy0 hy1 hy2 rfl (.slice A1 m c1) m us rfl (hus.out.alloc _) _ _ _ _ rfl (heap_alloc_new wr _) rfl (by simp [Value.oneCell']) (by omega) (by omega) (by simp; omega) ?_; intro v2 w2 hown2 hg2; obtain ⟨g2, cap2, rfl, _, _⟩ := own_form hown2 (by omega); have HP := Lib.hid (SH.nils (m := 1) (r3.out.ext ((Ext.refl _).alloc _) hlt) hlt (by rw [r1.out]; exact hus.out.alloc _) hg2 (by rw [r1.out]; exact hown2)); have z2 := HP.out.1; have zf := HP.out.2.1; have HS := Lib.hid HP.out.2.2; clear hown2 hg2 HP)
          go_roundg (gk - 1)
          case measure => omega
          case rel =>
            refine ⟨_, m + 1, cap2, ls ++ [[]], by omega, by omega, by omega, by omega, by have := r1.out; simp; omega, ?_, HS.out⟩
            intro l hl
            rcases List.mem_append.1 hl with hl | hl
            · exact r2.out l hl
            · simp at hl; subst hl; simp
end Go.Proofs.Ytpbfbkkalemmiaa
