/- The tape's Long. -/
import Derived.Test.YtpbfbkkalemmiaaTapeR
namespace Go.Proofs.Ytpbfbkkalemmiaa
open Go.RowKit

/-- The first k elements of a row of the call's own are one too. -/
theorem own_take {w : World} {base e size n g cap k : Nat} {xs : List Value} (h : w.ownsRow base e size (.slice (some ⟨g, 0, none⟩) n cap) n xs) (hk : k ≤ n) : w.ownsRow base e size (.slice (some ⟨g, 0, none⟩) k cap) k (xs.take (k * size)) := by
  have hl := h.1
  have hks : k * size ≤ n * size := Nat.mul_le_mul_right _ hk
  refine ⟨by rw [List.length_take, hl]; exact Nat.min_eq_left hks, ?_⟩
  rcases h.2 with ⟨e, _⟩ | ⟨g', cap', cur, e, hg, hh, hnc, hcm, hcs, ht⟩
  · cases e
  · injection e with e1 e2 e3
    subst e3
    injection e1 with e1
    injection e1 with e1
    subst e1
    refine .inr ⟨g, cap, cur, rfl, hg, hh, by omega, hcm, hcs, ?_⟩
    rw [← ht, List.take_take, Nat.min_eq_left hks]
theorem own_cap {w : World} {base e size n m g cap : Nat} {xs : List Value} (h : w.ownsRow base e size (.slice (some ⟨g, 0, none⟩) n cap) m xs) : n ≤ cap ∧ cap ≤ 9223372036854775807 := by
  rcases h.2 with ⟨e, _⟩ | ⟨g', cap', cur, e, hg, hh, hnc, hcm, hcs, ht⟩
  · cases e
  · injection e with e1 e2 e3
    subst e2; subst e3
    exact ⟨hnc, hcm⟩
theorem OwnQ.dropLast {base g n cap : Nat} {w : World} {ps : List Part} {q : Part} (h : OwnQ base w (.slice (some ⟨g, 0, none⟩) (n + 1) cap) (ps ++ [q])) (hn : ps.length = n) : OwnQ base w (.slice (some ⟨g, 0, none⟩) n cap) ps := by
  have h' : w.ownsRow base 23 6 (.slice (some ⟨g, 0, none⟩) (n + 1) cap) (n + 1) ((ps ++ [q]).map Part.cells).flatten := by
    have := h.own; rw [List.length_append, List.length_singleton, hn] at this; exact this
  have := own_take h' (show n ≤ n + 1 by omega)
  have hl : ((ps.map Part.cells).flatten).length = n * 6 := by
    rw [List.length_flatten, List.map_map]
    have : (List.length ∘ Part.cells) = fun _ => 6 := by funext q; rfl
    rw [this, List.map_const', List.sum_replicate_nat, hn]
  rw [List.map_append, List.flatten_append, List.take_append_of_le_length (by omega), List.take_of_length_le (by omega)] at this
  unfold OwnQ; rw [hn]; exact this

/-- A paper of Long. -/
def LongV (w : World) (base : Nat) (v : Value) : Prop := ∃ pv ps, v = .agg #[.int .i64 0, .int .i64 0, pv] ∧ OwnQ base w pv ps ∧ vpaB 0 0 ps = true
theorem vpa_wf {code var : Int} {ps : List Part} (h : vpaB code var ps = true) : ∀ q ∈ ps, q.wf := fun q hq => vp_wf (List.all_eq_true.1 (vpa_of h).2.2.2.2.2.2.1 q hq)
theorem vpa_one {q : Part} (h : vpB q = true) : vpaB 0 0 [q] = true := by
  have := vp_of h
  unfold vpaB sm; simp [h]; omega

set_option maxRecDepth 100000 in
set_option maxHeartbeats 4000000 in
theorem long_any (p : Nat) (w : World) (h : Tape w p) :
    Calls Try.prog 17 #[.pointer (some ⟨p, 0, none⟩)] w (TRet p w fun v w' => LongV w' w.heap.size v) := by
  have hlt := h.lt
  obtain ⟨iQ, hiQ, hy0, hy1, hy2⟩ := info_parts Try.infoQ
  have HE : Hid (Ext w ((w.alloc (.cells #[.int .i64 0, .int .i64 0, .slice none 0 0] 33)).alloc (.cells #[.int .i64 0, .int .i64 0, .slice none 0 0] 33))) := ((Ext.refl _).alloc _).alloc _
  have HL : Hid (LQ p w (w.heap.size + 1) ((w.alloc (.cells #[.int .i64 0, .int .i64 0, .slice none 0 0] 33)).alloc (.cells #[.int .i64 0, .int .i64 0, .slice none 0 0] 33)) 0 0 (.slice none 0 0) [] 0) := by
    refine ⟨QBox.ext (heap_alloc_new w _) ((Ext.refl _).alloc _), ?_, OwnQ.nil _ _, ⟨by omega, by omega⟩, ⟨by omega, by omega⟩, by simp, by simp, h.ext HE.out, HE.out.xt⟩
    have := heap_alloc_new (w.alloc (.cells #[.int .i64 0, .int .i64 0, .slice none 0 0] 33)) (.cells #[.int .i64 0, .int .i64 0, .slice none 0 0] 33)
    simpa [QBox] using this
  clear h HE
  go_enter Try.func17, Try.ntmps17
  go_wp2_with fail
  generalize hW : (w.alloc (.cells #[.int .i64 0, .int .i64 0, .slice none 0 0] 33)).alloc (.cells #[.int .i64 0, .int .i64 0, .slice none 0 0] 33) = W at *
  clear hW
  refine (range_any p _ _ _ HL.out.2.2.2.2.2.2.2.1 (by omega) (by omega) (by omega) (by omega)).mono ?_
  rintro e w1 ⟨v1, rfl, ⟨r, rfl, hr1, hr2⟩, HT1, HX1⟩
  obtain ⟨r, rfl⟩ := Int.eq_ofNat_of_zero_le (show 0 ≤ r by omega)
  replace HL := Lib.hid (HL.out.xt HX1 HT1 hlt (by omega))
  have hr6 : r ≤ 24 := by omega
  have hr0 : 1 ≤ r := by omega
  clear hr1 hr2 HT1 HX1
  go_wp2_with fail
  go_loopw [4] (fun s4 wr => ∃ (k : Nat) (A : Option Addr) (n c : Nat) (ps : List Part), s4 = .int .i64 k ∧ n + k ≤ r ∧ (k < r ∨ n = 0) ∧ (k < r → 0 < n) ∧ Hid (ps.length = n ∧ (0 < n → vpaB 0 0 ps = true) ∧ LQ p w (w.heap.size + 1) wr 0 0 (.slice A n c) ps n)) (fun i _ => (intOf i).toNat)
  case atStart => exact ⟨r, none, 0, 0, [], rfl, by omega, by omega, by omega, rfl, by omega, HL.out⟩
  case round =>
    obtain ⟨k, A, n, c, ps, rfl, hk, hkn, hkn', HR⟩ := hrel
    clear HL
    obtain ⟨q1, q2, q3⟩ := HR.out
    replace q1 := Lib.hid q1
    replace q2 := Lib.hid q2
    replace q3 := Lib.hid q3
    clear HR
    by_cases hk0 : 0 < k
    · go_wp2_with fail
      refine (part_any p _ _ q3.out.2.2.2.2.2.2.2.1 (by omega) (by omega)).mono ?_
      rintro e w2 ⟨v2, rfl, ⟨q, rfl, hq1, hq2⟩, HT2, HX2⟩
      replace q3 := Lib.hid (q3.out.xt HX2 HT2 hlt (by omega))
      have hs2 : w.heap.size + 1 < w2.heap.size := q3.out.2.1.lt
      have hq := (hq2 rfl).1
      have hbl : Hid (∀ k, (Value.slice A n c).ownBlock = some k → k < w2.heap.size) := fun k hk => (q3.out.2.2.1.own.lt k hk).2
      replace hq := Lib.hid hq
      have HE : Hid (Ext w2 (w2.alloc (.cells #[.int .i64 q.kind, .int .i64 q.max, .int .i64 q.topic, .int .i64 q.obj, .int .i64 q.opts, .int .i64 q.key] 23))) := (Ext.refl _).alloc _
      have HP : Hid (PBox (w2.alloc (.cells #[.int .i64 q.kind, .int .i64 q.max, .int .i64 q.topic, .int .i64 q.obj, .int .i64 q.opts, .int .i64 q.key] 23)) w2.heap.size q) := heap_alloc_new w2 _
      replace q3 := Lib.hid (q3.out.xt HE.out.xt (q3.out.2.2.2.2.2.2.2.1.ext HE.out) hlt (by omega))
      clear HT2 HX2 hq1 hq2 HE
      go_upto_region 6 with (fail)
      generalize hW : w2.alloc (.cells #[.int .i64 q.kind, .int .i64 q.max, .int .i64 q.topic, .int .i64 q.obj, .int .i64 q.opts, .int .i64 q.key] 23) = W2 at *
      clear hW
      go_cut [22] (fun s22 wx => ∃ b : Bool, s22 = .bool b ∧ Hid ((b = true → q.kind = 1) ∧ PBox wx w2.heap.size q ∧ LQ p w (w.heap.size + 1) wx 0 0 (.slice A n c) ps n))
      case first =>
        go_wp2_with fail
        refine (next_any p _ _ q3.out.2.2.2.2.2.2.2.1 (by omega)).mono ?_
        rintro e w3 ⟨v3, rfl, ⟨z, rfl, hz1, hz2⟩, HT3, HX3⟩
        replace q3 := Lib.hid (q3.out.xt HX3 HT3 hlt (by omega))
        replace HP := Lib.hid (HP.out.xt HX3 (by omega))
        clear HT3 HX3
        by_cases hz : z = 0
        · subst hz
          obtain ⟨c0, c1, c2, c3, c4, c5⟩ := HP.out.cells
          by_cases hk1 : q.kind = 1
          · have hb1 : (q.kind == 1) = true := by simp [hk1]
            replace hk1 := Lib.hid hk1
            go_wp2_with fail
            go_meet
            exact ⟨true, rfl, fun _ => hk1.out, HP.out, q3.out⟩
          · have hb1 : (q.kind == 1) = false := by simp [hk1]
            replace hk1 := Lib.hid hk1
            go_wp2_with fail
            go_meet
            exact ⟨false, rfl, (fun h => (by cases h)), HP.out, q3.out⟩
        · have hb1 : (z == 0) = false := by simp [hz]
          replace hz := Lib.hid hz
          go_wp2_with fail
          go_meet
          exact ⟨false, rfl, (fun h => (by cases h)), HP.out, q3.out⟩
      case rest =>
      obtain ⟨b, rfl, HC⟩ := hcut
      clear q3 HP
      go_upto_if 22 with (fail)
      go_cut [] (fun wx => ∃ q' : Part, Hid (vpB q' = true ∧ PBox wx w2.heap.size q' ∧ LQ p w (w.heap.size + 1) wx 0 0 (.slice A n c) ps n))
      case first =>
        cases b
        · go_wp2_with fail
          go_meet
          exact ⟨q, hq.out, HC.out.2⟩
        · go_wp2_with fail
          refine (range_any p _ _ _ HC.out.2.2.2.2.2.2.2.2.2.1 (by omega) (by omega) (by omega) (by omega)).mono ?_
          rintro e w3 ⟨v3, rfl, ⟨x, rfl, hx1, hx2⟩, HT3, HX3⟩
          have HK := Lib.hid (HC.out.1 (by trivial))
          have HP := Lib.hid (HC.out.2.1.xt HX3 (by omega))
          have q3 := Lib.hid (HC.out.2.2.xt HX3 HT3 hlt (by omega))
          clear HC HT3 HX3
          obtain ⟨c0, c1, c2, c3, c4, c5⟩ := HP.out.cells
          have f1 := HP.out.froz 1
          go_wp2_with fail
          go_meet
          refine ⟨{ q with max := x }, ?_, HP.out.set1 x, ?_⟩
          · have := vp_of hq.out
            have := HK.out
            simp [vpB]; omega
          · obtain ⟨a, b, cc, d, e, f, g, i, j⟩ := q3.out
            exact ⟨a.far (by simp; omega) _, b.far (by simp; omega) _, own_far cc.own (fun e => by have := hbl.out _ e; simp at this) _, d, e, f, g, i.setNew (by simp; omega) _, j.setNew (by simp; omega) _⟩
      case rest =>
      obtain ⟨q', HD⟩ := hcut
      clear HC hq
      obtain ⟨hq', hP, hL⟩ := HD.out
      replace hq' := Lib.hid hq'
      replace hP := Lib.hid hP
      replace hL := Lib.hid hL
      clear HD
      obtain ⟨c0, c1, c2, c3, c4, c5⟩ := hP.out.cells
      obtain ⟨d0, d1, d2⟩ := hL.out.2.1.cells
      have hsc : w.heap.size + 1 < wc.heap.size := hL.out.2.1.lt
      have hn24 : n ≤ 24 := by omega
      go_upto_region 9 with (at_builtin; refine wpList_pushN _ rfl (.tmp 27) (.tmp 29) 31 rfl w.heap.size 23 iQ _ 6 48 Try.underlying31 hiQ hy0 hy1 hy2 rfl (by omega) (.slice A n c) n (ps.map Part.cells).flatten rfl (by have := hL.out.2.2.1.own.alloc (.cells #[.int .i64 q'.kind, .int .i64 q'.max, .int .i64 q'.topic, .int .i64 q'.obj, .int .i64 q'.opts, .int .i64 q'.key] 23); rw [q1.out] at this; exact this) _ _ _ rfl (heap_alloc_new wc _) rfl (by simp [Value.oneCell']) (by omega) (by omega) (by simp; omega) ?_; intro v8 w8 hown8 hgrow; obtain ⟨g8, cap8, rfl, _, _⟩ := own_form hown8 (by omega); have HQ := Lib.hid (LQ.push (q := q') (hL.out.xt ((Ext.xt ((Ext.refl _).alloc _))) (hL.out.2.2.2.2.2.2.2.1.ext ((Ext.refl _).alloc _)) hlt (by omega)) hlt (by omega) q1.out (vp_wf hq'.out) hgrow hown8); have z2 := HQ.out.1; have zf := HQ.out.2.1; have HR := Lib.hid HQ.out.2.2; clear hown8 hgrow HQ hL hP)
      generalize hW : w8.setCell ⟨w.heap.size + 1, 2, none⟩ (.slice (some ⟨g8, 0, none⟩) (n + 1) cap8) = W8 at *
      clear hW d0 d1 d2 c0 c1 c2 c3 c4 c5 z2 zf hbl
      obtain ⟨d0, d1, d2⟩ := HR.out.2.1.cells
      go_wp2_with fail
      refine (rvalidPaper_any 0 0 _ (ps ++ [q']) _ (OwnQ.isQ (p := p) HR.out.2.2.1 hlt HR.out.2.2.2.2.2.2.1)).mono ?_
      rintro e w9 ⟨rfl, hx9⟩
      replace hx9 := Lib.hid hx9
      replace HR := Lib.hid (HR.out.xt hx9.out.xt (HR.out.2.2.2.2.2.2.2.1.ext hx9.out) hlt (by omega))
      clear d0 d1 d2 hx9
      obtain ⟨hcap, hcap'⟩ := own_cap HR.out.2.2.1.own
      obtain ⟨d0, d1, d2⟩ := HR.out.2.1.cells
      have f2 := HR.out.2.1.froz 2
      cases hv : vpaB 0 0 (ps ++ [q']) with
      | true =>
        replace hv := Lib.hid hv
        go_wp2_with fail
        go_roundw
        case rel => exact ⟨k - 1, _, n + 1, cap8, ps ++ [q'], by congr; omega, by omega, by omega, by omega, by have := q1.out; simp; omega, fun _ => hv.out, HR.out⟩
        case measure => simp [intOf]; omega
      | false =>
        replace hv := Lib.hid hv
        have hn0 : 0 < n := by
          rcases Nat.eq_zero_or_pos n with h0 | h0
          · have h1 := q1.out
            rw [h0] at h1
            have h2 := List.eq_nil_of_length_eq_zero h1
            have h3 := hv.out
            rw [h2, List.nil_append, vpa_one hq'.out] at h3
            cases h3
          · exact h0
        go_wp2_with fail
        go_roundw
        case rel =>
          refine ⟨k - 1, some ⟨g8, 0, none⟩, n, cap8, ps, by congr; omega, by omega, by omega, fun _ => hn0, q1.out, q2.out, ?_⟩
          obtain ⟨a, b, cc, d, e, f, g, i, j⟩ := HR.out
          refine ⟨a.far (by simp) _, b.set2 _, own_far (cc.dropLast q1.out).own ?_ _, d, e, by have := q1.out; omega, fun x hx => g x (by simp [hx]), i.setNew (by simp; omega) _, j.setNew (by simp) _⟩
          exact OwnQ.base_ne (s := 0) (cc.dropLast q1.out) b (by decide)
        case measure => simp [intOf]; omega
    · obtain rfl : k = 0 := by omega
      have hn0 : 0 < n := hkn' (by omega)
      obtain ⟨a, b, cc, d, e, f, g, i, j⟩ := q3.out
      have hne := q3.out.ne.2
      obtain ⟨d0, d1, d2⟩ := b.cells
      obtain ⟨e0, e1, e2⟩ := a.cells
      have f0 := a.froz 0
      have f1 := a.froz 1
      have f2 := a.froz 2
      replace cc := Lib.hid cc
      replace i := Lib.hid i
      replace j := Lib.hid j
      replace hne := Lib.hid hne
      clear a b d e f g q3
      go_wp2_with fail
      refine bodyPost_ret (v := .agg #[.int .i64 0, .int .i64 0, .slice A n c]) (by simp [results, Try.results17, go_sem, e0, e1, e2]) rfl ⟨_, rfl, ⟨_, ps, rfl, ?_, q2.out hn0⟩, ?_, ?_⟩
      · exact own_far (own_far (own_far cc.out.own hne.out _) hne.out _) hne.out _
      · exact ((i.out.setNew hlt _).setNew hlt _).setNew hlt _
      · exact ((j.out.setNew (Nat.le_refl _) _).setNew (Nat.le_refl _) _).setNew (Nat.le_refl _) _
end Go.Proofs.Ytpbfbkkalemmiaa
