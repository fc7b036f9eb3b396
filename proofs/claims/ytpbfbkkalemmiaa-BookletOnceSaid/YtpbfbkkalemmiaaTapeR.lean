/- The tape's LoosePaper. -/
import Derived.Test.YtpbfbkkalemmiaaTapeQ
namespace Go.Proofs.Ytpbfbkkalemmiaa
open Go.RowKit

/-- A paper of the tape that need not be valid. -/
def LPaperV (w : World) (base : Nat) (v : Value) : Prop := ∃ code var pv ps, v = .agg #[.int .i64 code, .int .i64 var, pv] ∧ I64 code ∧ I64 var ∧ OwnQ base w pv ps ∧ ps.length ≤ 12 ∧ ∀ q ∈ ps, q.wf

/-- What LoosePaper holds in hand: the result's block, and the paper's block B. -/
def LQ (p : Nat) (w : World) (B : Nat) (wx : World) (code var : Int) (v : Value) (ps : List Part) (m : Nat) : Prop :=
  QBox wx w.heap.size 0 0 (.slice none 0 0) ∧ QBox wx B code var v ∧ OwnQ w.heap.size wx v ps ∧ I64 code ∧ I64 var ∧ ps.length ≤ m ∧ (∀ q ∈ ps, q.wf) ∧ Tape wx p ∧ XT p w wx
section
variable {p B m : Nat} {w wx w' : World} {code var : Int} {v : Value} {ps : List Part}
theorem LQ.xt (h : LQ p w B wx code var v ps m) (hx : XT p wx w') (ht : Tape w' p) (hp : p < w.heap.size) (hB : w.heap.size < B) : LQ p w B w' code var v ps m := by
  obtain ⟨a, b, c, d, e, f, g, i, j⟩ := h
  exact ⟨a.xt hx (by omega), b.xt hx (by omega), own_xt c.own hx hp, d, e, f, g, ht, j.trans hx⟩
theorem LQ.ne (h : LQ p w B wx code var v ps m) : v.ownBlock ≠ some B ∧ v.ownBlock ≠ some w.heap.size :=
  ⟨h.2.2.1.base_ne (s := 0) h.2.1 (by decide), h.2.2.1.base_ne (s := 0) h.1 (by decide)⟩
/-- One part more: behind p.Parts = append(p.Parts, x). -/
theorem LQ.push {n : Nat} {q : Part} {v' : Value} (h : LQ p w B wx code var v ps m) (hp : p < w.heap.size) (hB : w.heap.size < B) (hn : ps.length = n) (hq : q.wf) (hg : wx.grownBy w' v.ownBlock)
    (ho : w'.ownsRow w.heap.size 23 6 v' (n + 1) ((ps.map Part.cells).flatten ++ [.int .i64 q.kind, .int .i64 q.max, .int .i64 q.topic, .int .i64 q.obj, .int .i64 q.opts, .int .i64 q.key])) :
    w'.cell? ⟨B, 2, none⟩ = some v ∧ w'.frozen? ⟨B, 2, none⟩ = false ∧ LQ p w B (w'.setCell ⟨B, 2, none⟩ v') code var v' (ps ++ [q]) (m + 1) := by
  obtain ⟨h1, h2⟩ := h.ne
  obtain ⟨a, b, c, d, e, f, g, i, j⟩ := h
  have b' := b.grown hg h1
  have o' := OwnQ.push hn ho
  refine ⟨b'.cells.2.2, b'.froz 2, (a.grown hg h2).far (by simp; omega) _, b'.set2 _, ?_, d, e, by simp; omega, ?_, ?_, ?_⟩
  · exact own_far (a := ⟨B, 2, none⟩) o'.own (o'.base_ne (s := 0) b' (by decide)) _
  · intro x hx
    rcases List.mem_append.1 hx with hx | hx
    · exact g x hx
    · simp at hx; subst hx; exact hq
  · exact (i.grown hg (fun k hk => by have := own_ge c.own k hk; omega)).setNew (by simp; omega) _
  · exact (XT.grown j hg (own_ge c.own)).setNew (by simp; omega) _
end

set_option maxRecDepth 100000 in
set_option maxHeartbeats 4000000 in
theorem loosePaper_any (p : Nat) (n : Int) (w : World) (h : Tape w p) (hn : 0 ≤ n) (hn' : n ≤ 1000000000) :
    Calls Try.prog 16 #[.pointer (some ⟨p, 0, none⟩), .int .i64 n] w (TRet p w fun v w' => LPaperV w' w.heap.size v) := by
  have hlt := h.lt
  obtain ⟨iQ, hiQ, hy0, hy1, hy2⟩ := info_parts Try.infoQ
  have HB0 : Hid (QBox (w.alloc (.cells #[.int .i64 0, .int .i64 0, .slice none 0 0] 33)) w.heap.size 0 0 (.slice none 0 0)) := heap_alloc_new w _
  have HT := Lib.hid (h.ext ((Ext.refl _).alloc (.cells #[.int .i64 0, .int .i64 0, .slice none 0 0] 33)))
  have HXA : Hid (XT p w (w.alloc (.cells #[.int .i64 0, .int .i64 0, .slice none 0 0] 33))) := ((Ext.refl _).alloc _).xt
  clear h
  go_enter Try.func16, Try.ntmps16
  go_wp2_with fail
  generalize hW : w.alloc (.cells #[.int .i64 0, .int .i64 0, .slice none 0 0] 33) = W at *
  clear hW
  refine (range_any p _ _ _ HT.out (by omega) (by omega) (by omega) (by omega)).mono ?_
  rintro e w1 ⟨v1, rfl, ⟨code, rfl, hc1, hc2⟩, HT1, HX1⟩
  go_wp2_with fail
  refine (next_any p _ _ HT1 (by omega)).mono ?_
  rintro e w2 ⟨v2, rfl, ⟨var, rfl, hv1, hv2⟩, HT2, HX2⟩
  go_wp2_with fail
  refine (paper_any p _ _ _ HT2).mono ?_
  rintro e w3 ⟨v3, rfl, ⟨pv, ps, rfl, hO, hl1, hl2, hq⟩, HT3, HX3⟩
  have HX := Lib.hid ((HX1.trans HX2).trans HX3)
  have hs2 : w.heap.size ≤ w2.heap.size := by have := HXA.out.size; have := HX1.size; have := HX2.size; omega
  replace HB0 := Lib.hid ((HB0.out.xt HX.out (by omega)))
  replace HXA := Lib.hid (HXA.out.trans HX.out)
  have hs3 : w.heap.size < w3.heap.size := HB0.out.lt
  have HL : Hid (LQ p w w3.heap.size (w3.alloc (.cells #[.int .i64 code, .int .i64 var, pv] 33)) code var pv ps 6) :=
    ⟨HB0.out.ext ((Ext.refl _).alloc _), heap_alloc_new w3 _, own_ext (own_base hO.own hs2) ((Ext.refl _).alloc _), ⟨by omega, by omega⟩, ⟨by omega, by omega⟩, hl2, fun q hx => vp_wf (hq q hx).1, HT3.ext ((Ext.refl _).alloc _), HXA.out.alloc _⟩
  obtain ⟨A, c, rfl⟩ := hO.form
  clear HX1 HX2 HX3 HT1 HT2 HT3 HXA HB0 HX hq hO HT
  go_upto_region 2 with (fail)
  generalize hW : w3.alloc (.cells #[.int .i64 code, .int .i64 var, .slice A ps.length c] 33) = W3 at *
  clear hW
  go_cut [19] (fun s19 wx => ∃ b : Bool, s19 = .bool b ∧ Hid (Tape wx p ∧ XT p W3 wx))
  case first =>
    by_cases hn0 : 0 < n
    · go_wp2_with fail
      refine (one_any _ _ _ HL.out.2.2.2.2.2.2.2.1 (by omega) (by omega)).mono ?_
      rintro e w4 ⟨v4, rfl, ⟨b, rfl⟩, HT4, HX4⟩
      go_wp2_with fail
      go_meet
      exact ⟨b, rfl, HT4, HX4⟩
    · go_wp2_with fail
      go_meet
      exact ⟨false, rfl, HL.out.2.2.2.2.2.2.2.1, XT.refl _ _⟩
  case rest =>
  obtain ⟨b, rfl, HR⟩ := hcut
  replace HL := Lib.hid (HL.out.xt HR.out.2 HR.out.1 hlt hs3)
  generalize hnl : ps.length = nl at *
  have HNL := Lib.hid hnl
  clear hnl HR
  go_upto_if 19 with (fail)
  go_cut [] (fun wx => ∃ (code var : Int) (pv : Value) (ps : List Part), Hid (LQ p w w3.heap.size wx code var pv ps 12))
  case first =>
    cases b
    · go_wp2_with fail
      go_meet
      obtain ⟨a, b, c, d, e, f, g⟩ := HL.out
      exact ⟨_, _, _, ps, a, b, c, d, e, by omega, g⟩
    · go_wp2_with fail
      refine (next_any p _ _ HL.out.2.2.2.2.2.2.2.1 (by omega)).mono ?_
      rintro e w6 ⟨v6, rfl, ⟨z, rfl, hz1, hz2⟩, HT6, HX6⟩
      replace HL := Lib.hid (HL.out.xt HX6 HT6 hlt hs3)
      have hzz : z = 0 ∨ z = 1 ∨ z = 2 ∨ z = 3 ∨ z = 4 := by omega
      clear hz1 hz2 HT6 HX6
      rcases hzz with rfl | rfl | rfl | rfl | rfl
      · go_wp2_with fail
        refine (wild_any p _ HL.out.2.2.2.2.2.2.2.1).mono ?_
        rintro e w7 ⟨v7, rfl, ⟨x, rfl, hxi⟩, HT7, HX7⟩
        replace HL := Lib.hid (HL.out.xt HX7 HT7 hlt hs3)
        obtain ⟨d0, d1, d2⟩ := HL.out.2.1.cells
        have f0 := HL.out.2.1.froz 0
        clear HX7 HT7
        replace hxi := Lib.hid hxi
        go_wp2_with fail
        go_meet
        obtain ⟨a, b, c, d, e, f, g, i, j⟩ := HL.out
        exact ⟨x, _, _, ps, a.far (by simp; omega) _, b.set0 x, own_far c.own HL.out.ne.1 _, hxi.out, e, by omega, g, i.setNew (by simp; omega) _, j.setNew (by simp; omega) _⟩
      · go_wp2_with fail
        refine (range_any p _ _ _ HL.out.2.2.2.2.2.2.2.1 (by omega) (by omega) (by omega) (by omega)).mono ?_
        rintro e w7 ⟨v7, rfl, ⟨x, rfl, hx1, hx2⟩, HT7, HX7⟩
        replace HL := Lib.hid (HL.out.xt HX7 HT7 hlt hs3)
        obtain ⟨d0, d1, d2⟩ := HL.out.2.1.cells
        have f0 := HL.out.2.1.froz 1
        clear HX7 HT7
        go_wp2_with fail
        go_meet
        obtain ⟨a, b, c, d, e, f, g, i, j⟩ := HL.out
        exact ⟨_, x, _, ps, a.far (by simp; omega) _, b.set1 x, own_far c.own HL.out.ne.1 _, d, ⟨by omega, by omega⟩, by omega, g, i.setNew (by simp; omega) _, j.setNew (by simp; omega) _⟩
      · obtain ⟨d0, d1, d2⟩ := HL.out.2.1.cells
        have f0 := HL.out.2.1.froz 2
        go_wp2_with fail
        go_meet
        obtain ⟨a, b, c, d, e, f, g, i, j⟩ := HL.out
        exact ⟨_, _, _, [], a.far (by simp; omega) _, b.set2 _, OwnQ.nil _ _, d, e, by simp, by simp, i.setNew (by simp; omega) _, j.setNew (by simp; omega) _⟩
      · obtain ⟨d0, d1, d2⟩ := HL.out.2.1.cells
        have f0 := HL.out.2.1.froz 2
        have hs6 : w3.heap.size < w6.heap.size := HL.out.2.1.lt
        go_upto_region 15 with (fail)
        go_region_law (first
          | (go_simp; go_at_call 37; refine (part_any p _ _ (HL.out.2.2.2.2.2.2.2.1.ext (Ext.refl _).drew) (by omega) (by omega)).mono ?_; rintro e w7 ⟨v7, rfl, ⟨q, rfl, hq1, hq2⟩, HT7, HX7⟩; have HL7 := Lib.hid (HL.out.xt ((Ext.xt (p := p) ((Ext.refl w6).drew)).trans HX7) HT7 hlt hs3); have e2 := HL7.out.2.1.cells.2.2; have e3 : ∀ o, (w7.alloc o).cell? ⟨w3.heap.size, 2, none⟩ = some (.slice A nl c) := (fun o => Ext.cell ((Ext.refl _).alloc o) e2); have HQ1 := Lib.hid hq1; have hs7 := HL7.out.2.1.lt; clear HX7 HT7 hq2 hq1)
          | (refine step_append_lies _ (by rfl) _ _ _ (by rfl) w.heap.size 23 iQ _ 6 48 Try.underlying31 hiQ hy0 hy1 hy2 rfl (by omega) (.slice A nl c) nl (ps.map Part.cells).flatten (by rfl) (by have := HL7.out.2.2.1.own.alloc (.cells #[.int .i64 q.kind, .int .i64 q.max, .int .i64 q.topic, .int .i64 q.obj, .int .i64 q.opts, .int .i64 q.key] 23); rw [HNL.out] at this; exact this) ⟨w7.heap.size, 0, none⟩ 1 1 _ (by rfl) (by rfl) (World.news_of_block (heap_alloc_new w7 _)) (by simp [Value.oneCell']) (by omega) (by unfold maxLen; omega) (by omega) (by simp; omega) (w7.heap.size + 1) (by simp) ?_; intro gg cap w8 hown8 hgrow hat hlt8; have HP := Lib.hid (LQ.push (q := q) (HL7.out.xt ((Ext.xt ((Ext.refl _).alloc _))) (HL7.out.2.2.2.2.2.2.2.1.ext ((Ext.refl _).alloc _)) hlt hs3) hlt hs3 HNL.out HQ1.out hgrow hown8); have z2 := HP.out.1; have zf := HP.out.2.1; clear hown8 hgrow hat))
        all_goals go_wp2_with fail
        all_goals
          go_meet
          obtain ⟨a, b, c, d, e, f, g⟩ := HP.out.2.2
          exact ⟨_, _, _, _, a, b, c, d, e, by omega, g⟩
      · go_wp2_with fail
        go_loopw [6] (fun s6 wr => ∃ (i : Nat) (A : Option Addr) (n c : Nat) (psx : List Part), s6 = .int .i64 i ∧ i ≤ 6 ∧ n ≤ 6 + i ∧ Hid (psx.length = n ∧ LQ p w w3.heap.size wr code var (.slice A n c) psx (6 + i))) (fun i _ => 6 - (intOf i).toNat)
        case atStart => exact ⟨0, A, nl, c, ps, rfl, by omega, by omega, HNL.out, HL.out⟩
        case round =>
          obtain ⟨i, A, n, c, psx, rfl, hi, hni, HR⟩ := hrel
          by_cases hi6 : i < 6
          · obtain ⟨d0, d1, d2⟩ := HR.out.2.2.1.cells
            have f0 := HR.out.2.2.1.froz 2
            have hs6 : w3.heap.size < wr.heap.size := HR.out.2.2.1.lt
            clear HL
            go_wp2_with (at_builtin; refine wpList_pushN _ rfl (.tmp 27) (.tmp 29) 31 rfl w.heap.size 23 iQ _ 6 48 Try.underlying31 hiQ hy0 hy1 hy2 rfl (by omega) (.slice A n c) n (psx.map Part.cells).flatten rfl (by have := HR.out.2.2.2.1.own.alloc (.cells #[.int .i64 1, .int .i64 40, .int .i64 0, .int .i64 0, .int .i64 0, .int .i64 0] 23); rw [HR.out.1] at this; exact this) _ _ _ rfl (heap_alloc_new wr _) rfl (by simp [Value.oneCell']) (by omega) (by omega) (by simp; omega) ?_; intro v8 w8 hown8 hgrow; obtain ⟨g8, cap8, rfl, _, _⟩ := own_form hown8 (by omega); have HP := Lib.hid (LQ.push (q := ⟨1, 40, 0, 0, 0, 0⟩) (HR.out.2.xt ((Ext.xt ((Ext.refl _).alloc _))) (HR.out.2.2.2.2.2.2.2.2.1.ext ((Ext.refl _).alloc _)) hlt hs3) hlt hs3 HR.out.1 (by unfold Part.wf I64; simp) hgrow hown8); have z2 := HP.out.1; have zf := HP.out.2.1; clear hown8 hgrow)
            go_roundw
            case rel => exact ⟨i + 1, _, n + 1, _, _, by go_num, by omega, by omega, by have := HR.out.1; simp; omega, HP.out.2.2⟩
            case measure => simp [intOf]; omega
          · obtain rfl : i = 6 := by omega
            go_wp2_with fail
            go_meet
            exact ⟨_, _, _, _, HR.out.2⟩
  case rest =>
  obtain ⟨code', var', pv', ps', HC⟩ := hcut
  clear HL
  obtain ⟨a, b, cc, d, e, f, g, i, j⟩ := HC.out
  have hne := HC.out.ne.2
  obtain ⟨A', c', rfl⟩ := cc.form
  obtain ⟨d0, d1, d2⟩ := b.cells
  obtain ⟨e0, e1, e2⟩ := a.cells
  have f0 := a.froz 0
  have f1 := a.froz 1
  have f2 := a.froz 2
  replace a := Lib.hid a
  replace b := Lib.hid b
  replace cc := Lib.hid cc
  replace d := Lib.hid d
  replace e := Lib.hid e
  replace f := Lib.hid f
  replace g := Lib.hid g
  replace i := Lib.hid i
  replace j := Lib.hid j
  replace hne := Lib.hid hne
  clear HC
  go_wp2_with fail
  refine bodyPost_ret (v := .agg #[.int .i64 code', .int .i64 var', .slice A' ps'.length c']) (by simp [results, Try.results16, go_sem, e0, e1, e2]) rfl ⟨_, rfl, ⟨code', var', _, ps', rfl, d.out, e.out, ?_, f.out, g.out⟩, ?_, ?_⟩
  · exact own_far (own_far (own_far cc.out.own hne.out _) hne.out _) hne.out _
  · exact ((i.out.setNew hlt _).setNew hlt _).setNew hlt _
  · exact ((j.out.setNew (Nat.le_refl _) _).setNew (Nat.le_refl _) _).setNew (Nat.le_refl _) _
end Go.Proofs.Ytpbfbkkalemmiaa
