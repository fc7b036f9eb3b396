/- The tape's Part. -/
import Derived.Test.YtpbfbkkalemmiaaPaper
import Derived.Test.YtpbfbkkalemmiaaBaseB
namespace Go.Proofs.Ytpbfbkkalemmiaa
open Go.RowKit

/-- Block b holds a part. -/
def PBox (w : World) (b : Nat) (q : Part) : Prop := w.heap[b]? = some (.cells #[.int .i64 q.kind, .int .i64 q.max, .int .i64 q.topic, .int .i64 q.obj, .int .i64 q.opts, .int .i64 q.key] 23 (0, 0))
theorem PBox.cells {w : World} {b : Nat} {q : Part} (h : PBox w b q) :
    w.cell? ⟨b, 0, none⟩ = some (.int .i64 q.kind) ∧ w.cell? ⟨b, 1, none⟩ = some (.int .i64 q.max) ∧ w.cell? ⟨b, 2, none⟩ = some (.int .i64 q.topic) ∧ w.cell? ⟨b, 3, none⟩ = some (.int .i64 q.obj) ∧ w.cell? ⟨b, 4, none⟩ = some (.int .i64 q.opts) ∧ w.cell? ⟨b, 5, none⟩ = some (.int .i64 q.key) :=
  ⟨blk_cell h (i := 0) rfl, blk_cell h (i := 1) rfl, blk_cell h (i := 2) rfl, blk_cell h (i := 3) rfl, blk_cell h (i := 4) rfl, blk_cell h (i := 5) rfl⟩
theorem PBox.froz {w : World} {b : Nat} {q : Part} (h : PBox w b q) (i : Nat) : w.frozen? ⟨b, i, none⟩ = false := blk_frozen h i
theorem PBox.lt {w : World} {b : Nat} {q : Part} (h : PBox w b q) : b < w.heap.size := by
  rcases Nat.lt_or_ge b w.heap.size with hlt | hge
  · exact hlt
  · unfold PBox at h; rw [Array.getElem?_eq_none hge] at h; cases h
theorem PBox.xt {w w' : World} {b p : Nat} {q : Part} (h : PBox w b q) (hx : XT p w w') (hb : b ≠ p) : PBox w' b q := hx.blk h hb
theorem PBox.ext {w w' : World} {b : Nat} {q : Part} (h : PBox w b q) (hx : Ext w w') : PBox w' b q := hx.blk h
theorem PBox.far {w : World} {b : Nat} {q : Part} (h : PBox w b q) {a : Addr} (ha : b ≠ a.block) (u : Value) : PBox (w.setCell a u) b q :=
  (Below.heap_setCell _ _ _ _ ha).trans h
theorem PBox.set0 {w : World} {b : Nat} {q : Part} (h : PBox w b q) (x : Int) : PBox (w.setCell ⟨b, 0, none⟩ (.int .i64 x)) b { q with kind := x } := by
  unfold PBox at *; rw [blk_set h]; rfl
theorem PBox.set1 {w : World} {b : Nat} {q : Part} (h : PBox w b q) (x : Int) : PBox (w.setCell ⟨b, 1, none⟩ (.int .i64 x)) b { q with max := x } := by
  unfold PBox at *; rw [blk_set h]; rfl
theorem PBox.set2 {w : World} {b : Nat} {q : Part} (h : PBox w b q) (x : Int) : PBox (w.setCell ⟨b, 2, none⟩ (.int .i64 x)) b { q with topic := x } := by
  unfold PBox at *; rw [blk_set h]; rfl
theorem PBox.set3 {w : World} {b : Nat} {q : Part} (h : PBox w b q) (x : Int) : PBox (w.setCell ⟨b, 3, none⟩ (.int .i64 x)) b { q with obj := x } := by
  unfold PBox at *; rw [blk_set h]; rfl
theorem PBox.set4 {w : World} {b : Nat} {q : Part} (h : PBox w b q) (x : Int) : PBox (w.setCell ⟨b, 4, none⟩ (.int .i64 x)) b { q with opts := x } := by
  unfold PBox at *; rw [blk_set h]; rfl
theorem PBox.set5 {w : World} {b : Nat} {q : Part} (h : PBox w b q) (x : Int) : PBox (w.setCell ⟨b, 5, none⟩ (.int .i64 x)) b { q with key := x } := by
  unfold PBox at *; rw [blk_set h]; rfl

/-- A part of the tape: some part, a valid one where no mistake is asked for. -/
def PartV (n : Int) (v : Value) : Prop := ∃ q : Part, v = .agg #[.int .i64 q.kind, .int .i64 q.max, .int .i64 q.topic, .int .i64 q.obj, .int .i64 q.opts, .int .i64 q.key] ∧ q.wf ∧ (n = 0 → vpB q = true ∧ q.max ≤ 12)

set_option maxHeartbeats 4000000 in
theorem part_any (p : Nat) (n : Int) (w : World) (h : Tape w p) (hn : 0 ≤ n) (hn' : n ≤ 1000000000) :
    Calls Try.prog 37 #[.pointer (some ⟨p, 0, none⟩), .int .i64 n] w (TRet p w fun v _ => PartV n v) := by
  have hlt := h.lt
  have HT0 := Lib.hid (h.ext ((Ext.refl _).alloc (.cells #[.int .i64 0, .int .i64 0, .int .i64 0, .int .i64 0, .int .i64 0, .int .i64 0] 23)))
  have HB0 : Hid (PBox (w.alloc (.cells #[.int .i64 0, .int .i64 0, .int .i64 0, .int .i64 0, .int .i64 0, .int .i64 0] 23)) w.heap.size ⟨0, 0, 0, 0, 0, 0⟩) := heap_alloc_new w _
  clear h
  go_enter Try.func37, Try.ntmps37
  go_wp2_with fail
  refine (range_any p _ _ _ HT0.out (by omega) (by omega) (by omega) (by omega)).mono ?_
  rintro e w1 ⟨v1, rfl, ⟨m, rfl, hm1, hm2⟩, HT1, HX1⟩
  go_wp2_with fail
  refine (next_any p _ _ HT1 (by omega)).mono ?_
  rintro e w2 ⟨v2, rfl, ⟨t, rfl, ht1, ht2⟩, HT2, HX2⟩
  go_wp2_with fail
  refine (next_any p _ _ HT2 (by omega)).mono ?_
  rintro e w3 ⟨v3, rfl, ⟨o, rfl, ho1, ho2⟩, HT3, HX3⟩
  have HX := Lib.hid ((HX1.trans HX2).trans HX3)
  have HB3 := Lib.hid (HB0.out.xt HX.out (by omega))
  have hs3 := HB3.out.lt
  have HT3' := Lib.hid HT3
  have HQ : Hid (PBox (w3.alloc (.cells #[.int .i64 1, .int .i64 m, .int .i64 t, .int .i64 o, .int .i64 0, .int .i64 0] 23)) w3.heap.size ⟨1, m, t, o, 0, 0⟩) := heap_alloc_new w3 _
  have HE : Hid (Ext w3 (w3.alloc (.cells #[.int .i64 1, .int .i64 m, .int .i64 t, .int .i64 o, .int .i64 0, .int .i64 0] 23))) := (Ext.refl _).alloc _
  have HXA : Hid (XT p w w3) := ((XT.refl _ _).alloc _).trans HX.out
  clear HT1 HT2 HT3 HX1 HX2 HX3 HT0 HB0 HX
  go_upto_region 2 with (fail)
  replace HB3 := Lib.hid (HB3.out.ext HE.out)
  replace HT3' := Lib.hid (HT3'.out.ext HE.out)
  replace HXA := Lib.hid (HXA.out.ext HE.out)
  generalize hW : w3.alloc (.cells #[.int .i64 1, .int .i64 m, .int .i64 t, .int .i64 o, .int .i64 0, .int .i64 0] 23) = W at *
  clear hW HE
  go_wp2_with fail
  refine (next_any p _ _ HT3'.out (by omega)).mono ?_
  rintro e w4 ⟨v4, rfl, ⟨k, rfl, hk1, hk2⟩, HT4, HX4⟩
  replace HX4 := Lib.hid HX4
  replace HT4 := Lib.hid HT4
  replace HB3 := Lib.hid ((HB3.out.xt HX4.out (by omega)))
  replace HQ := Lib.hid ((HQ.out.xt HX4.out (by omega)))
  replace HXA := Lib.hid (HXA.out.trans HX4.out)
  clear HX4 HT3'
  go_upto_if 15 with (fail)
  go_cut [] (fun wx => ∃ q : Part, Hid (PBox wx w3.heap.size q ∧ (vpB q = true ∧ q.max ≤ 12) ∧ PBox wx w.heap.size ⟨0, 0, 0, 0, 0, 0⟩ ∧ Tape wx p ∧ XT p w wx))
  case first =>
    by_cases hk : k = 0
    · subst hk
      go_wp2_with fail
      refine (range_any p _ _ _ HT4.out (by omega) (by omega) (by omega) (by omega)).mono ?_
      rintro e w5 ⟨v5, rfl, ⟨y, rfl, hy1, hy2⟩, HT5, HX5⟩
      replace HX5 := Lib.hid HX5
      replace HT5 := Lib.hid HT5
      replace HB3 := Lib.hid ((HB3.out.xt HX5.out (by omega)))
      replace HQ := Lib.hid ((HQ.out.xt HX5.out (by omega)))
      replace HXA := Lib.hid (HXA.out.trans HX5.out)
      obtain ⟨c0, c1, c2, c3, c4, c5⟩ := HQ.out.cells
      have f0 := HQ.out.froz 0
      have f4 := HQ.out.froz 4
      have g0 : Hid (PBox ((w5.setCell ⟨w3.heap.size, 0, none⟩ (.int .i64 2)).setCell ⟨w3.heap.size, 4, none⟩ (.int .i64 y)) w3.heap.size ⟨2, m, t, o, y, 0⟩) := (HQ.out.set0 2).set4 y
      have hb3 : Hid (PBox ((w5.setCell ⟨w3.heap.size, 0, none⟩ (.int .i64 2)).setCell ⟨w3.heap.size, 4, none⟩ (.int .i64 y)) w.heap.size ⟨0, 0, 0, 0, 0, 0⟩) := (HB3.out.far (by simp; omega) _).far (by simp; omega) _
      have ht : Hid (Tape ((w5.setCell ⟨w3.heap.size, 0, none⟩ (.int .i64 2)).setCell ⟨w3.heap.size, 4, none⟩ (.int .i64 y)) p) := (HT5.out.setNew (by simp; omega) _).setNew (by simp; omega) _
      have hxa : Hid (XT p w ((w5.setCell ⟨w3.heap.size, 0, none⟩ (.int .i64 2)).setCell ⟨w3.heap.size, 4, none⟩ (.int .i64 y))) := (HXA.out.setNew (by simp; omega) _).setNew (by simp; omega) _
      go_wp2_with fail
      generalize hW : (w5.setCell ⟨w3.heap.size, 0, none⟩ (.int .i64 2)).setCell ⟨w3.heap.size, 4, none⟩ (.int .i64 y) = W5 at *
      clear hW
      refine (next_any p _ _ ht.out (by omega)).mono ?_
      rintro e w6 ⟨v6, rfl, ⟨z, rfl, hz1, hz2⟩, HT6, HX6⟩
      go_wp2_with fail
      refine (range_any p _ _ _ HT6 (by omega) (by omega) (by omega) (by omega)).mono ?_
      rintro e w7 ⟨v7, rfl, ⟨x, rfl, hx1, hx2⟩, HT7, HX7⟩
      have HX := Lib.hid (HX6.trans HX7)
      replace g0 := Lib.hid ((g0.out.xt HX.out (by omega)))
      replace hb3 := Lib.hid ((hb3.out.xt HX.out (by omega)))
      replace hxa := Lib.hid (hxa.out.trans HX.out)
      obtain ⟨d0, d1, d2, d3, d4, d5⟩ := g0.out.cells
      have f1 := g0.out.froz 1
      have f5 := g0.out.froz 5
      go_wp2_with fail
      go_meet
      refine ⟨⟨2, x, t, o, y, z⟩, (g0.out.set5 z).set1 x, ?_, (hb3.out.far (by simp; omega) _).far (by simp; omega) _, (HT7.setNew (by simp; omega) _).setNew (by simp; omega) _, (hxa.out.setNew (by simp; omega) _).setNew (by simp; omega) _⟩
      exact ⟨by simp [vpB]; omega, by simp; omega⟩
    · have hk0 : (k == 0) = false := by simpa using hk
      clear hk
      go_wp2_with fail
      go_meet
      refine ⟨⟨1, m, t, o, 0, 0⟩, HQ.out, ?_, HB3.out, HT4.out, HXA.out⟩
      exact ⟨by simp [vpB]; omega, by simp; omega⟩
  case rest =>
  obtain ⟨q, HC⟩ := hcut
  clear HB3 HQ HXA HT4
  obtain ⟨h1, h2, h3, h4, h5⟩ := HC.out
  replace h1 := Lib.hid h1
  replace h2 := Lib.hid h2
  replace h3 := Lib.hid h3
  replace h4 := Lib.hid h4
  replace h5 := Lib.hid h5
  clear HC
  go_upto_region 5 with (fail)
  go_cut [34] (fun s34 wx => ∃ b : Bool, s34 = .bool b ∧ Hid ((b = true → 0 < n) ∧ Tape wx p ∧ XT p wc wx))
  case first =>
    by_cases hn0 : 0 < n
    · go_wp2_with fail
      refine (one_any _ _ _ h4.out (by omega) (by omega)).mono ?_
      rintro e w4 ⟨v4, rfl, ⟨b, rfl⟩, HT4, HX4⟩
      go_wp2_with fail
      go_meet
      exact ⟨b, rfl, fun _ => hn0, HT4, HX4⟩
    · go_wp2_with fail
      go_meet
      exact ⟨false, rfl, (fun h => (by cases h)), h4.out, XT.refl _ _⟩
  case rest =>
  obtain ⟨b, rfl, HR⟩ := hcut
  replace h1 := Lib.hid ((h1.out.xt HR.out.2.2 (by omega)))
  replace h3 := Lib.hid ((h3.out.xt HR.out.2.2 (by omega)))
  replace h5 := Lib.hid (h5.out.trans HR.out.2.2)
  have HT := Lib.hid HR.out.2.1
  have HN := Lib.hid HR.out.1
  clear HR h4
  go_upto_if 34 with (fail)
  go_cut [] (fun wx => ∃ q' : Part, Hid (PBox wx w3.heap.size q' ∧ q'.wf ∧ (n = 0 → vpB q' = true ∧ q'.max ≤ 12) ∧ PBox wx w.heap.size ⟨0, 0, 0, 0, 0, 0⟩ ∧ Tape wx p ∧ XT p w wx))
  case first =>
    have hwf : q.wf := by
      have := vp_of h2.out.1
      unfold Part.wf I64; omega
    replace hwf := Lib.hid hwf
    cases b
    · go_wp2_with fail
      go_meet
      exact ⟨q, h1.out, hwf.out, fun _ => h2.out, h3.out, HT.out, h5.out⟩
    · have hn0 : 0 < n := HN.out rfl
      go_wp2_with fail
      refine (next_any p _ _ HT.out (by omega)).mono ?_
      rintro e w6 ⟨v6, rfl, ⟨z, rfl, hz1, hz2⟩, HT6, HX6⟩
      replace HT6 := Lib.hid HT6
      replace HX6 := Lib.hid HX6
      replace h1 := Lib.hid ((h1.out.xt HX6.out (by omega)))
      replace h3 := Lib.hid ((h3.out.xt HX6.out (by omega)))
      replace h5 := Lib.hid (h5.out.trans HX6.out)
      have hzz : z = 0 ∨ z = 1 ∨ z = 2 ∨ z = 3 ∨ z = 4 ∨ z = 5 := by omega
      clear hz1 hz2 HT HN
      rcases hzz with rfl | rfl | rfl | rfl | rfl | rfl
      · go_wp2_with fail
        refine (range_any p _ _ _ HT6.out (by omega) (by omega) (by omega) (by omega)).mono ?_
        rintro e w7 ⟨v7, rfl, ⟨x, rfl, hx1, hx2⟩, HT7, HX7⟩
        replace HT7 := Lib.hid HT7
        replace HX7 := Lib.hid HX7
        replace h1 := Lib.hid ((h1.out.xt HX7.out (by omega)))
        replace h3 := Lib.hid ((h3.out.xt HX7.out (by omega)))
        replace h5 := Lib.hid (h5.out.trans HX7.out)
        obtain ⟨d0, d1, d2, d3, d4, d5⟩ := h1.out.cells
        have f0 := h1.out.froz 0
        go_wp2_with fail
        go_meet
        refine ⟨{ q with kind := x }, h1.out.set0 x, ?_, fun h => absurd h (by omega), h3.out.far (by simp; omega) _, HT7.out.setNew (by simp; omega) _, h5.out.setNew (by simp; omega) _⟩
        have := hwf.out; unfold Part.wf I64 at *; simp only; omega
      · go_wp2_with fail
        refine (pick_any p _ [0, 40, 41, -1] _ (HT6.out.ext ((Ext.refl _).alloc _)) (IsI.litg _ _ _ rfl HT6.out.lt (by decide) (by decide)) (by simp)).mono ?_
        rintro e w7 ⟨v7, rfl, ⟨x, rfl, hx⟩, HT7, HX7⟩
        have hxi : I64 x := (by decide : ∀ y ∈ ([0, 40, 41, -1] : List Int), I64 y) x hx
        replace HT7 := Lib.hid HT7
        replace hxi := Lib.hid hxi
        have HX8 := Lib.hid ((Ext.xt (p := p) ((Ext.refl w6).alloc _)).trans HX7)
        clear hx HX7
        replace h1 := Lib.hid ((h1.out.xt HX8.out (by omega)))
        replace h3 := Lib.hid ((h3.out.xt HX8.out (by omega)))
        replace h5 := Lib.hid (h5.out.trans HX8.out)
        obtain ⟨d0, d1, d2, d3, d4, d5⟩ := h1.out.cells
        have f0 := h1.out.froz 1
        go_wp2_with fail
        go_meet
        refine ⟨{ q with max := x }, h1.out.set1 x, ?_, fun h => absurd h (by omega), h3.out.far (by simp; omega) _, HT7.out.setNew (by simp; omega) _, h5.out.setNew (by simp; omega) _⟩
        have := hwf.out; have := hxi.out; unfold Part.wf I64 at *; simp only; omega
      · go_wp2_with fail
        refine (wild_any p _ HT6.out).mono ?_
        rintro e w7 ⟨v7, rfl, ⟨x, rfl, hxi⟩, HT7, HX7⟩
        replace HT7 := Lib.hid HT7
        replace HX7 := Lib.hid HX7
        replace hxi := Lib.hid hxi
        replace h1 := Lib.hid ((h1.out.xt HX7.out (by omega)))
        replace h3 := Lib.hid ((h3.out.xt HX7.out (by omega)))
        replace h5 := Lib.hid (h5.out.trans HX7.out)
        obtain ⟨d0, d1, d2, d3, d4, d5⟩ := h1.out.cells
        have f0 := h1.out.froz 2
        go_wp2_with fail
        go_meet
        refine ⟨{ q with topic := x }, h1.out.set2 x, ?_, fun h => absurd h (by omega), h3.out.far (by simp; omega) _, HT7.out.setNew (by simp; omega) _, h5.out.setNew (by simp; omega) _⟩
        have := hwf.out; have := hxi.out; unfold Part.wf I64 at *; simp only; omega
      · go_wp2_with fail
        refine (wild_any p _ HT6.out).mono ?_
        rintro e w7 ⟨v7, rfl, ⟨x, rfl, hxi⟩, HT7, HX7⟩
        replace HT7 := Lib.hid HT7
        replace HX7 := Lib.hid HX7
        replace hxi := Lib.hid hxi
        replace h1 := Lib.hid ((h1.out.xt HX7.out (by omega)))
        replace h3 := Lib.hid ((h3.out.xt HX7.out (by omega)))
        replace h5 := Lib.hid (h5.out.trans HX7.out)
        obtain ⟨d0, d1, d2, d3, d4, d5⟩ := h1.out.cells
        have f0 := h1.out.froz 3
        go_wp2_with fail
        go_meet
        refine ⟨{ q with obj := x }, h1.out.set3 x, ?_, fun h => absurd h (by omega), h3.out.far (by simp; omega) _, HT7.out.setNew (by simp; omega) _, h5.out.setNew (by simp; omega) _⟩
        have := hwf.out; have := hxi.out; unfold Part.wf I64 at *; simp only; omega
      · go_wp2_with fail
        refine (range_any p _ _ _ HT6.out (by omega) (by omega) (by omega) (by omega)).mono ?_
        rintro e w7 ⟨v7, rfl, ⟨x, rfl, hx1, hx2⟩, HT7, HX7⟩
        replace HT7 := Lib.hid HT7
        replace HX7 := Lib.hid HX7
        replace h1 := Lib.hid ((h1.out.xt HX7.out (by omega)))
        replace h3 := Lib.hid ((h3.out.xt HX7.out (by omega)))
        replace h5 := Lib.hid (h5.out.trans HX7.out)
        obtain ⟨d0, d1, d2, d3, d4, d5⟩ := h1.out.cells
        have f0 := h1.out.froz 4
        go_wp2_with fail
        go_meet
        refine ⟨{ q with opts := x }, h1.out.set4 x, ?_, fun h => absurd h (by omega), h3.out.far (by simp; omega) _, HT7.out.setNew (by simp; omega) _, h5.out.setNew (by simp; omega) _⟩
        have := hwf.out; unfold Part.wf I64 at *; simp only; omega
      · go_wp2_with fail
        refine (range_any p _ _ _ HT6.out (by omega) (by omega) (by omega) (by omega)).mono ?_
        rintro e w7 ⟨v7, rfl, ⟨x, rfl, hx1, hx2⟩, HT7, HX7⟩
        replace HT7 := Lib.hid HT7
        replace HX7 := Lib.hid HX7
        replace h1 := Lib.hid ((h1.out.xt HX7.out (by omega)))
        replace h3 := Lib.hid ((h3.out.xt HX7.out (by omega)))
        replace h5 := Lib.hid (h5.out.trans HX7.out)
        obtain ⟨d0, d1, d2, d3, d4, d5⟩ := h1.out.cells
        have f0 := h1.out.froz 5
        go_wp2_with fail
        go_meet
        refine ⟨{ q with key := x }, h1.out.set5 x, ?_, fun h => absurd h (by omega), h3.out.far (by simp; omega) _, HT7.out.setNew (by simp; omega) _, h5.out.setNew (by simp; omega) _⟩
        have := hwf.out; unfold Part.wf I64 at *; simp only; omega
  case rest =>
  obtain ⟨q', HC⟩ := hcut
  clear h1 h2 h3 h5 HT HN
  obtain ⟨h1, h2, h3, h4, h5, h6⟩ := HC.out
  replace h1 := Lib.hid h1
  replace h2 := Lib.hid h2
  replace h3 := Lib.hid h3
  replace h4 := Lib.hid h4
  replace h5 := Lib.hid h5
  replace h6 := Lib.hid h6
  clear HC
  obtain ⟨d0, d1, d2, d3, d4, d5⟩ := h1.out.cells
  obtain ⟨e0, e1, e2, e3, e4, e5⟩ := h4.out.cells
  have f0 := h4.out.froz 0
  have f1 := h4.out.froz 1
  have f2 := h4.out.froz 2
  have f3 := h4.out.froz 3
  have f4 := h4.out.froz 4
  have f5 := h4.out.froz 5
  go_wp2_with fail
  refine bodyPost_ret (v := .agg #[.int .i64 q'.kind, .int .i64 q'.max, .int .i64 q'.topic, .int .i64 q'.obj, .int .i64 q'.opts, .int .i64 q'.key]) (by simp [results, Try.results37, go_sem, e0, e1, e2, e3, e4, e5]) rfl ⟨_, rfl, ⟨q', rfl, h2.out, h3.out⟩, ?_, ?_⟩
  · exact (((((h5.out.setNew hlt _).setNew hlt _).setNew hlt _).setNew hlt _).setNew hlt _).setNew hlt _
  · exact (((((h6.out.setNew (Nat.le_refl _) _).setNew (Nat.le_refl _) _).setNew (Nat.le_refl _) _).setNew (Nat.le_refl _) _).setNew (Nat.le_refl _) _).setNew (Nat.le_refl _) _
end Go.Proofs.Ytpbfbkkalemmiaa
