/- The tape's Paper. -/
import Derived.Test.YtpbfbkkalemmiaaTapeP
import Derived.Test.YtpbfbkkalemmiaaBaseE
import Derived.Deep.RegionLaw
namespace Go.Proofs.Ytpbfbkkalemmiaa
open Go.RowKit

theorem Try.infoQ : (Try.prog.info? 23).map (fun i => (i.zero, i.size, i.bytes)) = some (some (.agg #[.int .i64 0, .int .i64 0, .int .i64 0, .int .i64 0, .int .i64 0, .int .i64 0]), 6, 48) := by kernel_rfl

theorem own_far {w : World} {base e size n : Nat} {v : Value} {xs : List Value} (h : w.ownsRow base e size v n xs) {a : Addr} (ha : v.ownBlock ≠ some a.block) (u : Value) : (w.setCell a u).ownsRow base e size v n xs :=
  own_apart h (XT.setCell (XT.refl a.block w) rfl u) (fun k hk e => ha (by rw [hk]; exact e.symm))

/-- Block b holds a paper. -/
def QBox (w : World) (b : Nat) (code var : Int) (v : Value) : Prop := w.heap[b]? = some (.cells #[.int .i64 code, .int .i64 var, v] 33 (0, 0))
section
variable {w w' : World} {b p : Nat} {code var : Int} {v : Value}
theorem QBox.cells (h : QBox w b code var v) : w.cell? ⟨b, 0, none⟩ = some (.int .i64 code) ∧ w.cell? ⟨b, 1, none⟩ = some (.int .i64 var) ∧ w.cell? ⟨b, 2, none⟩ = some v := cell3 h
theorem QBox.froz (h : QBox w b code var v) (i : Nat) : w.frozen? ⟨b, i, none⟩ = false := blk_frozen h i
theorem QBox.lt (h : QBox w b code var v) : b < w.heap.size := lt_of_blk h
theorem QBox.xt (h : QBox w b code var v) (hx : XT p w w') (hb : b ≠ p) : QBox w' b code var v := hx.blk h hb
theorem QBox.ext (h : QBox w b code var v) (hx : Ext w w') : QBox w' b code var v := hx.blk h
theorem QBox.far (h : QBox w b code var v) {a : Addr} (ha : b ≠ a.block) (u : Value) : QBox (w.setCell a u) b code var v := (Below.heap_setCell _ _ _ _ ha).trans h
theorem QBox.set0 (h : QBox w b code var v) (x : Int) : QBox (w.setCell ⟨b, 0, none⟩ (.int .i64 x)) b x var v := by unfold QBox at *; rw [blk_set h]; rfl
theorem QBox.set1 (h : QBox w b code var v) (x : Int) : QBox (w.setCell ⟨b, 1, none⟩ (.int .i64 x)) b code x v := by unfold QBox at *; rw [blk_set h]; rfl
theorem QBox.set2 (h : QBox w b code var v) (x : Value) : QBox (w.setCell ⟨b, 2, none⟩ x) b code var x := by unfold QBox at *; rw [blk_set h]; rfl
/-- Kept while a row elsewhere grows. -/
theorem QBox.grown (h : QBox w b code var v) {row : Option Nat} (hg : w.grownBy w' row) (hr : row ≠ some b) : QBox w' b code var v := (hg.block b (lt_of_blk h) (fun e => hr e.symm)).trans h
end

/-- A row of parts of the call's own. -/
def OwnQ (base : Nat) (w : World) (v : Value) (ps : List Part) : Prop := w.ownsRow base 23 6 v ps.length (ps.map Part.cells).flatten
section
variable {w w' : World} {base p : Nat} {v : Value} {ps : List Part}
theorem OwnQ.isQ (h : OwnQ base w v ps) (hp : p < base) (hb : ∀ q ∈ ps, q.wf) : IsQ p w v ps := by
  refine IsS.of_own (e := 23) (ps.map Part.cells) (by simp [Part.cells]) (by decide) (by simp) h hp ?_
  intro k cs x hcs hx
  simp only [List.getElem?_map, Option.map_eq_some_iff] at hcs
  obtain ⟨q, hq, rfl⟩ := hcs
  rw [hx] at hq
  injection hq with hq
  subst hq
  exact ⟨rfl, hb _ (List.mem_of_getElem? hx)⟩
theorem OwnQ.own (h : OwnQ base w v ps) : w.ownsRow base 23 6 v ps.length (ps.map Part.cells).flatten := h
theorem OwnQ.isOwn {n : Nat} (h : w.ownsRow base 23 6 v n (ps.map Part.cells).flatten) (hn : ps.length = n) : OwnQ base w v ps := by subst hn; exact h
theorem OwnQ.form (h : OwnQ base w v ps) : ∃ A c, v = .slice A ps.length c := by
  rcases h.2 with ⟨rfl, h0⟩ | ⟨g, cap, cur, rfl, _⟩
  · exact ⟨none, 0, by rw [h0]⟩
  · exact ⟨_, _, rfl⟩
theorem OwnQ.push {n : Nat} {q : Part} (hn : ps.length = n) (h : w.ownsRow base 23 6 v (n + 1) ((ps.map Part.cells).flatten ++ [.int .i64 q.kind, .int .i64 q.max, .int .i64 q.topic, .int .i64 q.obj, .int .i64 q.opts, .int .i64 q.key])) : OwnQ base w v (ps ++ [q]) := by
  unfold OwnQ; subst hn; simpa [Part.cells] using h
theorem OwnQ.nil (base : Nat) (w : World) : OwnQ base w (.slice none 0 0) [] := World.ownsRow_nil _ _ _ _
theorem OwnQ.base_ne (h : OwnQ base w v ps) {b e s : Nat} {cs : Array Value} (hb : w.heap[b]? = some (.cells cs e (0, 0))) (he : e ≠ 23) : v.ownBlock ≠ some b := by
  intro hk
  rcases h.2 with ⟨rfl, _⟩ | ⟨g, c1, cu1, rfl, _, hh1, _⟩
  · simp [Value.ownBlock] at hk
  have e1 : g = b := by simpa [Value.ownBlock] using hk
  subst e1
  rw [hh1] at hb
  injection hb with hb
  injection hb with _ h2
  exact he h2.symm
end

/-- A paper of the tape. -/
def PaperV (w : World) (base : Nat) (code var : Int) (v : Value) : Prop := ∃ pv ps, v = .agg #[.int .i64 code, .int .i64 var, pv] ∧ OwnQ base w pv ps ∧ 1 ≤ ps.length ∧ ps.length ≤ 6 ∧ ∀ q ∈ ps, vpB q = true ∧ q.max ≤ 12
theorem vp_wf {q : Part} (h : vpB q = true) : q.wf := by have := vp_of h; unfold Part.wf I64; omega

set_option maxHeartbeats 4000000 in
theorem paper_any (p : Nat) (code var : Int) (w : World) (h : Tape w p) :
    Calls Try.prog 33 #[.pointer (some ⟨p, 0, none⟩), .int .i64 code, .int .i64 var] w (TRet p w fun v w' => PaperV w' w.heap.size code var v) := by
  have hlt := h.lt
  obtain ⟨iQ, hiQ, hy0, hy1, hy2⟩ := info_parts Try.infoQ
  have HE : Hid (Ext w ((w.alloc (.cells #[.int .i64 0, .int .i64 0, .slice none 0 0] 33)).alloc (.cells #[.int .i64 code, .int .i64 var, .slice none 0 0] 33))) := ((Ext.refl _).alloc _).alloc _
  have HB0 : Hid (QBox ((w.alloc (.cells #[.int .i64 0, .int .i64 0, .slice none 0 0] 33)).alloc (.cells #[.int .i64 code, .int .i64 var, .slice none 0 0] 33)) w.heap.size 0 0 (.slice none 0 0)) := QBox.ext (heap_alloc_new w _) ((Ext.refl _).alloc _)
  have HB1 : Hid (QBox ((w.alloc (.cells #[.int .i64 0, .int .i64 0, .slice none 0 0] 33)).alloc (.cells #[.int .i64 code, .int .i64 var, .slice none 0 0] 33)) (w.heap.size + 1) code var (.slice none 0 0)) := by
    have := heap_alloc_new (w.alloc (.cells #[.int .i64 0, .int .i64 0, .slice none 0 0] 33)) (.cells #[.int .i64 code, .int .i64 var, .slice none 0 0] 33)
    show QBox _ _ _ _ _
    simpa [QBox] using this
  have HT := Lib.hid (h.ext HE.out)
  have HXA : Hid (XT p w ((w.alloc (.cells #[.int .i64 0, .int .i64 0, .slice none 0 0] 33)).alloc (.cells #[.int .i64 code, .int .i64 var, .slice none 0 0] 33))) := HE.out.xt
  clear h HE
  go_enter Try.func33, Try.ntmps33
  go_wp2_with fail
  generalize hW : (w.alloc (.cells #[.int .i64 0, .int .i64 0, .slice none 0 0] 33)).alloc (.cells #[.int .i64 code, .int .i64 var, .slice none 0 0] 33) = W at *
  clear hW
  refine (range_any p _ _ _ HT.out (by omega) (by omega) (by omega) (by omega)).mono ?_
  rintro e w1 ⟨v1, rfl, ⟨r, rfl, hr1, hr2⟩, HT1, HX1⟩
  obtain ⟨r, rfl⟩ := Int.eq_ofNat_of_zero_le (show 0 ≤ r by omega)
  replace HT1 := Lib.hid HT1
  replace HX1 := Lib.hid HX1
  replace HB0 := Lib.hid ((HB0.out.xt HX1.out (by omega)))
  replace HB1 := Lib.hid ((HB1.out.xt HX1.out (by omega)))
  replace HXA := Lib.hid (HXA.out.trans HX1.out)
  clear HT HX1
  have hr6 : r ≤ 6 := by omega
  have hr0 : 1 ≤ r := by omega
  clear hr1 hr2
  go_wp2_with fail
  go_loopw [8] (fun s8 wr => ∃ (k : Nat) (A : Option Addr) (n c : Nat) (ps : List Part), s8 = .int .i64 k ∧ n + k = r ∧ Hid (ps.length = n ∧ QBox wr w.heap.size 0 0 (.slice none 0 0) ∧ QBox wr (w.heap.size + 1) code var (.slice A n c) ∧ OwnQ w.heap.size wr (.slice A n c) ps ∧ (∀ q ∈ ps, vpB q = true ∧ q.max ≤ 12) ∧ Tape wr p ∧ XT p w wr)) (fun i _ => (intOf i).toNat)
  case atStart => exact ⟨r, none, 0, 0, [], rfl, by omega, rfl, HB0.out, HB1.out, OwnQ.nil _ _, by simp, HT1.out, HXA.out⟩
  case round =>
    obtain ⟨k, A, n, c, ps, rfl, hk, HR⟩ := hrel
    clear HB0 HB1 HXA HT1
    obtain ⟨q1, q2, q3, q4, q5, q6, q7⟩ := HR.out
    have hne := q4.base_ne (s := 0) q3 (by decide)
    have hb8 := q3.lt
    replace q1 := Lib.hid q1
    replace q2 := Lib.hid q2
    replace q3 := Lib.hid q3
    replace q4 := Lib.hid q4
    replace q5 := Lib.hid q5
    replace q6 := Lib.hid q6
    replace q7 := Lib.hid q7
    replace hne := Lib.hid hne
    clear HR
    by_cases hk0 : 0 < k
    · obtain ⟨c0, c1, c2⟩ := q3.out.cells
      have hn6 : n ≤ 6 := by omega
      have HO : Hid (wr.ownsRow w.heap.size 23 6 (.slice A n c) n (ps.map Part.cells).flatten) := by have := q4.out.own; rw [q1.out] at this; exact this
      go_upto_region 5 with (fail)
      go_region_law (first
        | (go_simp; go_at_call 37; refine (part_any p _ _ (q6.out.ext (Ext.refl _).drew) (by omega) (by omega)).mono ?_; rintro e w2 ⟨v2, rfl, ⟨q, rfl, hq1, hq2⟩, HT2, HX2'⟩; have HX2 := Lib.hid ((Ext.xt (p := p) ((Ext.refl wr).drew)).trans HX2'); have hs2 := HX2.out.size; have d2 := HX2.out.cell c2 (by simp; omega); have e2 : ∀ o, (w2.alloc o).cell? ⟨w.heap.size + 1, 2, none⟩ = some (.slice A n c) := (fun o => Ext.cell ((Ext.refl _).alloc o) d2); clear HX2')
        | (refine step_append_lies _ (by rfl) _ _ _ (by rfl) w.heap.size 23 iQ _ 6 48 Try.underlying31 hiQ hy0 hy1 hy2 rfl (by omega) (.slice A n c) n _ (by rfl) ((own_xt HO.out HX2.out hlt).alloc _) ⟨w2.heap.size, 0, none⟩ 1 1 _ (by rfl) (by rfl) (World.news_of_block (heap_alloc_new w2 _)) (by simp [Value.oneCell']) (by omega) (by unfold maxLen; omega) (by omega) (by simp; omega) (w2.heap.size + 1) (by simp) ?_; intro gg cap w3 hown3 hgrow hat hlt3; have HG := Lib.hid (((q3.out.xt HX2.out (by omega)).ext ((Ext.refl _).alloc _)).grown hgrow hne.out); obtain ⟨z0, z1, z2⟩ := HG.out.cells; have zf := HG.out.froz 2; have HO3 := Lib.hid hown3; have HGR := Lib.hid hgrow; clear hown3 hgrow))
      all_goals go_wp2_with fail
      all_goals
        go_roundw
        case rel =>
          refine ⟨k - 1, _, n + 1, cap, ps ++ [q], by congr; omega, by omega, by have := q1.out; simp; omega, ?_, HG.out.set2 _, ?_, ?_, ?_, ?_⟩
          · refine QBox.far (QBox.grown ((q2.out.xt HX2.out (by omega)).ext ((Ext.refl _).alloc _)) HGR.out ?_) (by simp) _
            exact OwnQ.base_ne (s := 0) (OwnQ.isOwn (own_xt HO.out HX2.out hlt) q1.out) (q2.out.xt HX2.out (by omega)) (by decide)
          · have ha := OwnQ.base_ne (s := 0) (OwnQ.push (q := q) q1.out HO3.out) HG.out (by decide)
            exact own_far (a := ⟨w.heap.size + 1, 2, none⟩) (OwnQ.push q1.out HO3.out).own ha _
          · intro x hx
            rcases List.mem_append.1 hx with hx | hx
            · exact q5.out x hx
            · simp at hx; subst hx; exact hq2 rfl
          · refine Tape.setNew ((HT2.ext ((Ext.refl _).alloc _)).grown HGR.out (fun k hk => ?_)) (by simp; omega) _
            have := own_ge HO.out k hk; omega
          · exact XT.setNew (XT.grown ((q7.out.trans HX2.out).alloc _) HGR.out (own_ge HO.out)) (by simp) _
        case measure => simp [intOf]; omega
    · obtain rfl : k = 0 := by omega
      obtain ⟨c0, c1, c2⟩ := q3.out.cells
      obtain ⟨d0, d1, d2⟩ := q2.out.cells
      have f0 := q2.out.froz 0
      have f1 := q2.out.froz 1
      have f2 := q2.out.froz 2
      go_wp2_with fail
      refine bodyPost_ret (v := .agg #[.int .i64 code, .int .i64 var, .slice A n c]) (by simp [results, Try.results33, go_sem, c0, c1, c2, d0, d1, d2]) rfl ⟨_, rfl, ⟨_, ps, rfl, ?_, ?_, ?_, q5.out⟩, ?_, ?_⟩
      · have ha := q4.out.base_ne (s := 0) q2.out (by decide)
        exact own_far (own_far (own_far q4.out.own ha _) ha _) ha _
      · have := q1.out; omega
      · have := q1.out; omega
      · exact ((q6.out.setNew hlt _).setNew hlt _).setNew hlt _
      · exact ((q7.out.setNew (Nat.le_refl _) _).setNew (Nat.le_refl _) _).setNew (Nat.le_refl _) _
end Go.Proofs.Ytpbfbkkalemmiaa
