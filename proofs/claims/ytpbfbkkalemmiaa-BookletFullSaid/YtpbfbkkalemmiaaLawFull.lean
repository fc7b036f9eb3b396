/- BookletFull: the walk of the law. -/
import Derived.Test.YtpbfbkkalemmiaaLawMakes
namespace Go.Proofs.Ytpbfbkkalemmiaa
open Go.RowKit

set_option maxRecDepth 100000 in
set_option maxHeartbeats 4000000 in
theorem walkBookletFull (a0 a1 : Int) (w : World) (h0 : I64 a0) (h1 : I64 a1) :
    Calls Try.prog 5 #[.int .i64 a0, .int .i64 a1] w fun e w' => e = .returned (.bool true) ∧ Ext w w' := by
  obtain ⟨iQ, hiQ, hy0, hy1, hy2⟩ := info_parts Try.infoQ
  obtain ⟨h0a, h0b⟩ := h0
  obtain ⟨h1a, h1b⟩ := h1
  have HB0 := Lib.hid (show QBox (w.alloc (.cells #[.int .i64 0, .int .i64 0, .slice none 0 0] 33)) w.heap.size 0 0 (.slice none 0 0) from heap_alloc_new w _)
  have HE0 := Lib.hid ((Ext.refl w).alloc (.cells #[.int .i64 0, .int .i64 0, .slice none 0 0] 33))
  have b1 := cutZ_lo a0 25
  have b2 := cutZ_hi a0 25 (by omega)
  go_enter Try.func5, Try.ntmps5
  go_wp2_with fail
  generalize hW : w.alloc (.cells #[.int .i64 0, .int .i64 0, .slice none 0 0] 33) = W at *
  clear hW
  refine (cut_any _ _ _ (by assumption) (by assumption) (by omega)).mono ?_
  rintro e w' ⟨rfl, rfl⟩
  obtain ⟨r, hr⟩ := Int.eq_ofNat_of_zero_le b1
  rw [hr] at b2 ⊢
  clear b1 hr
  go_wp2_with fail
  go_loopw [6] (fun s6 wr => ∃ (k : Nat) (A : Option Addr) (n c : Nat) (ps : List Part), s6 = .int .i64 k ∧ n + k ≤ 24 ∧ Hid (ps.length = n ∧ QBox wr w.heap.size 0 0 (.slice A n c) ∧ OwnQ (w.heap.size + 1) wr (.slice A n c) ps ∧ (∀ q ∈ ps, q.wf) ∧ Ext w wr)) (fun i _ => (intOf i).toNat)
  case atStart => exact ⟨r, none, 0, 0, [], rfl, by omega, rfl, HB0.out, OwnQ.nil _ _, by simp, HE0.out⟩
  case round =>
    obtain ⟨k, A, n, c, ps, rfl, hk, HR⟩ := hrel
    clear HB0 HE0
    obtain ⟨q1, q2, q3, q4, q5⟩ := HR.out
    have hne := q3.base_ne (s := 0) q2 (by decide)
    have hb8 := q2.lt
    replace q1 := Lib.hid q1
    replace q2 := Lib.hid q2
    replace q3 := Lib.hid q3
    replace q4 := Lib.hid q4
    replace q5 := Lib.hid q5
    replace hne := Lib.hid hne
    clear HR
    obtain ⟨d0, d1, d2⟩ := q2.out.cells
    by_cases hk0 : 0 < k
    · have b3 := cutZ_lo a1 40
      have b4 := cutZ_hi a1 40 (by omega)
      have hwr : IntKind.i64.wrap (1 + cutZ a1 40) = 1 + cutZ a1 40 := IntWalk.i64_in _ (by omega)
      have HO : Hid (wr.ownsRow (w.heap.size + 1) 23 6 (.slice A n c) n (ps.map Part.cells).flatten) := by have := q3.out.own; rw [q1.out] at this; exact this
      have e3 : ∀ o, (wr.alloc o).cell? ⟨w.heap.size, 2, none⟩ = some (.slice A n c) := fun o => Ext.cell ((Ext.refl _).alloc o) d2
      go_upto_region 5 with (fail)
      go_region_law (first
        | (go_simp; go_at_call 11; refine (cut_any _ _ _ (by assumption) (by assumption) (by omega)).mono ?_; rintro e w' ⟨rfl, rfl⟩)
        | (refine step_append_lies _ (by rfl) _ _ _ (by rfl) (w.heap.size + 1) 23 iQ _ 6 48 Try.underlying31 hiQ hy0 hy1 hy2 rfl (by omega) (.slice A n c) n (ps.map Part.cells).flatten (by rfl) ((HO.out.alloc _).drew) ⟨wr.heap.size, 0, none⟩ 1 1 [.int .i64 1, .int .i64 (1 + cutZ a1 40), .int .i64 0, .int .i64 0, .int .i64 0, .int .i64 0] (by rfl) (by rfl) (World.news_of_block (cs := #[.int .i64 1, .int .i64 (1 + cutZ a1 40), .int .i64 0, .int .i64 0, .int .i64 0, .int .i64 0]) (t := 23) (fr := (0, 0)) (heap_alloc_new wr _)) (by simp [Value.oneCell']) (by omega) (by unfold maxLen; omega) (by omega) (by simp; omega) (wr.heap.size + 1) (by simp) ?_; intro gg cap w3 hown3 hgrow hat hlt3; have HG := Lib.hid (QBox.grown (w := (wr.alloc (.cells #[.int .i64 1, .int .i64 (1 + cutZ a1 40), .int .i64 0, .int .i64 0, .int .i64 0, .int .i64 0] 23)).drew) (q2.out.ext (((Ext.refl _).alloc _).drew)) hgrow hne.out); obtain ⟨z0, z1, z2⟩ := HG.out.cells; have zf := HG.out.froz 2; have HO3 := Lib.hid hown3; have HGR := Lib.hid (Ext.grown ((q5.out.alloc _).drew) hgrow (fun k hk => by have := own_ge HO.out k hk; omega)); clear hown3 hgrow))
      all_goals go_wp2_with fail
      all_goals
        go_roundw
        case rel =>
          refine ⟨k - 1, some ⟨gg, 0, none⟩, n + 1, cap, ps ++ [⟨1, 1 + cutZ a1 40, 0, 0, 0, 0⟩], by congr; omega, by omega, by have := q1.out; simp; omega, HG.out.set2 _, ?_, ?_, HGR.out.setCell (by simp) _⟩
          · have ho := OwnQ.push (q := ⟨1, 1 + cutZ a1 40, 0, 0, 0, 0⟩) q1.out HO3.out
            exact own_far (a := ⟨w.heap.size, 2, none⟩) ho.own (OwnQ.base_ne (s := 0) ho HG.out (by decide)) _
          · intro x hx
            rcases List.mem_append.1 hx with hx | hx
            · exact q4.out x hx
            · simp at hx; subst hx; unfold Part.wf I64; simp only; omega
        case measure => simp [intOf]; omega
    · obtain rfl : k = 0 := by omega
      have HQ := Lib.hid (OwnQ.isQ q3.out (p := w.heap.size) (by omega) q4.out)
      go_wp2_with fail
      refine (make_any _ _ _ ps _ hb8 HQ.out).mono ?_
      rintro e w4 ⟨va, pa, ea, rfl, hPa, hEa, ha1, ha2⟩
      obtain ⟨Aa, na, ca, rfl, _, _, _, _⟩ := hPa.open_
      replace hPa := Lib.hid hPa
      replace ha1 := Lib.hid ha1
      replace ha2 := Lib.hid ha2
      have HE := Lib.hid (hEa.alloc (.cells #[.slice Aa na ca] 38))
      have ka := Lib.hid (box1 (a := .slice Aa na ca) rfl (Ext.refl (w4.alloc (.cells #[.slice Aa na ca] 38))))
      replace hPa := Lib.hid (hPa.out.ext (RI.stab _) ((Ext.refl _).alloc (.cells #[.slice Aa na ca] 38)))
      replace HQ := Lib.hid ((HQ.out.ext (RPart.stab _) HE.out))
      replace q2 := Lib.hid (q2.out.ext HE.out)
      replace q5 := Lib.hid (q5.out.trans HE.out)
      have hp4 : w.heap.size < (w4.alloc (.cells #[.slice Aa na ca] 38)).heap.size := by have := hEa.size; simp; omega
      clear hEa HE d0 d1 d2
      obtain ⟨d0, d1, d2⟩ := q2.out.cells
      go_upto_region 7 with (fail)
      generalize hW : w4.alloc (.cells #[.slice Aa na ca] 38) = W4 at *
      clear hW
      go_wp2_with fail
      refine (rmake_any _ _ _ ps _ hp4 HQ.out).mono ?_
      rintro e w5 ⟨vb, pb, eb, rfl, hPb, hEb, hb1, hb2⟩
      obtain ⟨Ab, nb, cb, rfl, _, _, _, _⟩ := hPb.open_
      obtain ⟨hpe, rfl⟩ := make_same ha1.out ha2.out hb1 hb2
      subst hpe
      have HE := Lib.hid (hEb.alloc (.cells #[.slice Ab nb cb] 38))
      have kb := Lib.hid (box1 (a := .slice Ab nb cb) rfl (Ext.refl (w5.alloc (.cells #[.slice Ab nb cb] 38))))
      replace hPb := Lib.hid (hPb.ext (RI.stab _) ((Ext.refl _).alloc (.cells #[.slice Ab nb cb] 38)))
      replace q5 := Lib.hid (q5.out.trans HE.out)
      replace hPa := Lib.hid ((hPa.out.ext (RI.stab _) HE.out))
      replace ka := Lib.hid ((HE.out.cell ka.out))
      have hp5 : w.heap.size < (w5.alloc (.cells #[.slice Ab nb cb] 38)).heap.size := by have := hEb.size; simp; omega
      clear hEb HE d0 d1 d2 ha1 ha2 hb1 hb2 q1 q2 q3 q4 HQ hne
      go_upto_region 8 with (fail)
      generalize hW : w5.alloc (.cells #[.slice Ab nb cb] 38) = W7 at *
      clear hW
      have ka' := ka.out
      have kb' := kb.out
      go_wp2_with fail
      refine (same_any _ _ pa pa _ hPa.out hPb.out).mono ?_
      rintro e x1 ⟨rfl, hx1⟩
      rw [decide_eq_true rfl]
      replace hx1 := Lib.hid hx1
      have hx1s := hx1.out.size
      clear ka' kb'
      have hee : (ea == ea) = true := by simp
      go_wp2_with fail
      refine (awake_any _ (by omega)).mono ?_
      rintro e x3 ⟨rfl, hx3⟩
      go_wp2_with fail
      go_ret
      exact ⟨rfl, (q5.out.trans hx1.out).trans hx3⟩
end Go.Proofs.Ytpbfbkkalemmiaa
