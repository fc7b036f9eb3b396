/- Papers: sumOfMax, ValidPaper and the reference's ValidPaper. -/
import Derived.Test.YtpbfbkkalemmiaaPart
namespace Go.Proofs.Ytpbfbkkalemmiaa
open Go.RowKit

/-- A slice of parts. -/
abbrev IsQ (p : Nat) : World → Value → List Part → Prop := IsS p 6 RPart
theorem IsS.part {p : Nat} {w : World} {b off n c k : Nat} {ps : List Part} (h : IsQ p w (.slice (some ⟨b, off, none⟩) n c) ps) (hk : k < n) :
    ∃ q : Part, w.cell? ⟨b, off + k * 6, none⟩ = some (.int .i64 q.kind) ∧ w.cell? ⟨b, off + k * 6 + 1, none⟩ = some (.int .i64 q.max) ∧ w.cell? ⟨b, off + k * 6 + 2, none⟩ = some (.int .i64 q.topic) ∧
      w.cell? ⟨b, off + k * 6 + 3, none⟩ = some (.int .i64 q.obj) ∧ w.cell? ⟨b, off + k * 6 + 4, none⟩ = some (.int .i64 q.opts) ∧ w.cell? ⟨b, off + k * 6 + 5, none⟩ = some (.int .i64 q.key) ∧ Hid q.wf ∧ Hid (ps[k]? = some q) := by
  obtain ⟨cs, q, hl, hc, ⟨rfl, hw⟩, hx⟩ := h.cell_ hk
  exact ⟨q, hc 0 _ rfl, hc 1 _ rfl, hc 2 _ rfl, hc 3 _ rfl, hc 4 _ rfl, hc 5 _ rfl, hw, hx⟩

/-- The marks of the first k parts. -/
def smTo (ps : List Part) (k : Nat) : Int := ((ps.take k).map Part.max).sum
def sm (ps : List Part) : Int := (ps.map Part.max).sum
theorem smTo_succ {ps : List Part} {k : Nat} {q : Part} {s : Int} (hs : s = smTo ps k) (h : ps[k]? = some q) : s + q.max = smTo ps (k + 1) := by
  subst hs; unfold smTo; rw [take_snoc h]; simp
theorem sm_of {ps : List Part} {n : Nat} {s : Int} (hl : ps.length = n) (hs : s = smTo ps n) : s = sm ps := by subst hs; unfold smTo sm; rw [take_all hl]

set_option maxHeartbeats 1000000 in
theorem sumOfMax_any (v : Value) (ps : List Part) (w : World) {p : Nat} (h : IsQ p w v ps) (hb : ∀ q ∈ ps, 0 ≤ q.max ∧ q.max ≤ 40) (hl24 : ps.length ≤ 24) :
    Calls Try.prog 46 #[v] w fun e w' => e = .returned (.int .i64 (sm ps)) ∧ Ext w w' := by
  obtain ⟨A, n, c, rfl, hnc, hc, hnn, HL⟩ := h.open_
  have hn24 : n ≤ 24 := by have := HL.out; omega
  have H := Lib.hid h
  have HB := Lib.hid hb
  clear h hb
  go_enter Try.func46, Try.ntmps46
  go_wp2_with fail
  go_loopw [3, 8] (fun s i wr => ∃ (k : Nat) (t : Int), k ≤ n ∧ 0 ≤ t ∧ t ≤ 40 * k ∧ i = .int .i64 k ∧ s = .int .i64 t ∧ Hid (t = smTo ps k) ∧ Hid (Ext w wr)) (fun _ i _ => n - (intOf i).toNat)
  case atStart => exact ⟨0, 0, Nat.zero_le _, by omega, by omega, rfl, rfl, by simp [Hid, smTo], Ext.refl _⟩
  case round =>
    obtain ⟨k, t, hk, ht0, ht1, rfl, rfl, HT, HE⟩ := hrel
    by_cases hlt : k < n
    · obtain ⟨b, off, cs0, q0, rfl, _⟩ := H.out.at_ hlt
      obtain ⟨q, c0, c1, c2, c3, c4, c5, hw, HX⟩ := (H.out.ext (RPart.stab p) HE.out).part hlt
      have hbq := HB.out q (List.mem_of_getElem? HX.out)
      go_wp2_with fail
      go_roundw
      case rel => exact ⟨k + 1, t + q.max, by omega, by omega, by omega, by go_num, rfl, smTo_succ HT.out HX.out, HE.out.alloc _⟩
      case measure => simp [intOf]; omega
    · obtain rfl : k = n := by omega
      go_wp2_with fail
      go_ret
      exact ⟨ret_int (sm_of HL.out HT.out), HE.out⟩

/-- A paper is valid. -/
def vpaB (code var : Int) (ps : List Part) : Bool := decide (0 ≤ code ∧ code ≤ 31 ∧ 0 ≤ var ∧ var < 4 ∧ 1 ≤ ps.length ∧ ps.length ≤ 24) && (ps.all vpB && decide (sm ps ≤ 200))
theorem vpa_head {code var : Int} {ps : List Part} {n : Nat} (hl : ps.length = n) (h : ¬ (0 ≤ code ∧ code ≤ 31 ∧ 0 ≤ var ∧ var < 4 ∧ 1 ≤ n ∧ n ≤ 24)) : false = vpaB code var ps := by
  unfold vpaB; rw [hl]; simp [h]
theorem vpa_part {code var : Int} {ps : List Part} {k : Nat} {q : Part} (h : ps[k]? = some q) (hq : vpB q = false) : false = vpaB code var ps := by
  have : ps.all vpB = false := by rw [List.all_eq_false]; exact ⟨q, List.mem_of_getElem? h, by simp [hq]⟩
  unfold vpaB; simp [this]
theorem vpa_fin {code var : Int} {ps : List Part} {n : Nat} (hl : ps.length = n) (h : 0 ≤ code ∧ code ≤ 31 ∧ 0 ≤ var ∧ var < 4 ∧ 1 ≤ n ∧ n ≤ 24) (ha : ps.all vpB = true) : decide (sm ps ≤ 200) = vpaB code var ps := by
  unfold vpaB; rw [hl, ha, decide_eq_true h]; simp
theorem vpa_of {code var : Int} {ps : List Part} (h : vpaB code var ps = true) : 0 ≤ code ∧ code ≤ 31 ∧ 0 ≤ var ∧ var < 4 ∧ 1 ≤ ps.length ∧ ps.length ≤ 24 ∧ ps.all vpB = true ∧ sm ps ≤ 200 := by
  unfold vpaB at h
  simp only [Bool.and_eq_true, decide_eq_true_eq] at h
  obtain ⟨⟨a, b, c, d, e, f⟩, g, i⟩ := h
  exact ⟨a, b, c, d, e, f, g, i⟩
theorem allP_snoc {f : Part → Bool} {l : List Part} {k : Nat} {x : Part} (h : l[k]? = some x) : (l.take (k + 1)).all f = ((l.take k).all f && f x) := by
  rw [take_snoc h]; simp

theorem box3 {w w1 : World} {o : Obj} {a b c : Value} {t : TypeId} (ho : o = .cells #[a, b, c] t) (h : Ext (w.alloc o) w1) :
    w1.cell? ⟨w.heap.size, 0, none⟩ = some a ∧ w1.cell? ⟨w.heap.size, 1, none⟩ = some b ∧ w1.cell? ⟨w.heap.size, 2, none⟩ = some c := by
  subst ho
  exact cell3 (h.blk (heap_alloc_new w _))

set_option maxHeartbeats 1600000 in
theorem validPaper_any (code var : Int) (v : Value) (ps : List Part) (w : World) {p : Nat} (h : IsQ p w v ps) :
    Calls Try.prog 39 #[.agg #[.int .i64 code, .int .i64 var, v]] w fun e w' => e = .returned (.bool (vpaB code var ps)) ∧ Ext w w' := by
  obtain ⟨A, n, c, rfl, hnc, hc, hnn, HL⟩ := h.open_
  have H := Lib.hid h
  clear h
  by_cases hh : 0 ≤ code ∧ code ≤ 31 ∧ 0 ≤ var ∧ var < 4 ∧ 1 ≤ n ∧ n ≤ 24
  · have HH := Lib.hid hh
    obtain ⟨h1, h2, h3, h4, h5, h6⟩ := hh
    have hE0 : Ext w (w.alloc (.cells #[.int .i64 code, .int .i64 var, .slice A n c] 33)) := (Ext.refl _).alloc _
    have HE0 := Lib.hid hE0
    clear hE0
    go_enter Try.func39, Try.ntmps39
    go_wp2_with fail
    go_loopw [36] (fun i wr => ∃ (k : Nat), k ≤ n ∧ i = .int .i64 k ∧ Hid ((ps.take k).all vpB = true) ∧ Hid (Ext (w.alloc (.cells #[.int .i64 code, .int .i64 var, .slice A n c] 33)) wr)) (fun i _ => n - (intOf i).toNat)
    case atStart => exact ⟨0, Nat.zero_le _, rfl, by simp [Hid], Ext.refl _⟩
    case round =>
      obtain ⟨k, hk, rfl, HA, HE⟩ := hrel
      by_cases hlt : k < n
      · obtain ⟨b, off, cs0, q0, rfl, _⟩ := H.out.at_ hlt
        obtain ⟨q, c0, c1, c2, c3, c4, c5, hw, HX⟩ := ((H.out.ext (RPart.stab p) HE0.out).ext (RPart.stab p) HE.out).part hlt
        cases hv : vpB q with
        | false =>
          have HV := Lib.hid hv
          clear hv
          go_wp2_with fail
          refine (validPart_any q _).mono ?_
          rintro e w1 ⟨rfl, hx1⟩
          rw [HV.out]
          go_wp2_with fail
          go_ret
          exact ⟨ret_bool (vpa_part HX.out HV.out), (HE0.out.trans (HE.out.alloc _)).trans hx1⟩
        | true =>
          have HV := Lib.hid hv
          clear hv
          go_wp2_with fail
          refine (validPart_any q _).mono ?_
          rintro e w1 ⟨rfl, hx1⟩
          rw [HV.out]
          go_wp2_with fail
          go_roundw
          case rel => exact ⟨k + 1, by omega, by go_num, by show (ps.take (k + 1)).all vpB = true; rw [allP_snoc HX.out, HA.out, HV.out]; rfl, (HE.out.alloc _).trans hx1⟩
          case measure => simp [intOf]; omega
      · obtain rfl : k = n := by omega
        have hall : ps.all vpB = true := by have := HA.out; rw [take_all HL.out] at this; exact this
        have HALL := Lib.hid hall
        obtain ⟨c0, c1, c2⟩ := box3 rfl HE.out
        clear hall
        go_wp2_with fail
        refine (sumOfMax_any _ ps _ ((H.out.ext (RPart.stab p) HE0.out).ext (RPart.stab p) HE.out) (fun q hq => by have := vp_of (List.all_eq_true.1 HALL.out q hq); omega) (by have := HL.out; omega)).mono ?_
        rintro e w1 ⟨rfl, hx1⟩
        go_wp2_with fail
        go_ret
        exact ⟨ret_bool (vpa_fin HL.out HH.out HALL.out), (HE0.out.trans HE.out).trans hx1⟩
  · have HH := Lib.hid (vpa_head HL.out hh)
    by_cases h1 : 0 ≤ code ∧ code ≤ 31 ∧ 0 ≤ var ∧ var < 4
    · have h5 : n < 1 ∨ 24 < n := by omega
      clear hh
      go_enter Try.func39, Try.ntmps39
      go_wp2_with fail
      all_goals (go_ret; exact ⟨ret_bool HH.out, (Ext.refl _).alloc _⟩)
    · clear hh
      have h1' : code < 0 ∨ 31 < code ∨ var < 0 ∨ 4 ≤ var := by omega
      clear h1
      go_enter Try.func39, Try.ntmps39
      go_wp2_with fail
      all_goals (go_ret; exact ⟨ret_bool HH.out, (Ext.refl _).alloc _⟩)

set_option maxHeartbeats 1600000 in
theorem rvalidPaper_any (code var : Int) (v : Value) (ps : List Part) (w : World) {p : Nat} (h : IsQ p w v ps) :
    Calls Try.prog 38 #[.agg #[.int .i64 code, .int .i64 var, v]] w fun e w' => e = .returned (.bool (vpaB code var ps)) ∧ Ext w w' := by
  obtain ⟨A, n, c, rfl, hnc, hc, hnn, HL⟩ := h.open_
  have H := Lib.hid h
  clear h
  by_cases hh : 0 ≤ code ∧ code ≤ 31 ∧ 0 ≤ var ∧ var < 4 ∧ 1 ≤ n ∧ n ≤ 24
  · have HH := Lib.hid hh
    obtain ⟨h1, h2, h3, h4, h5, h6⟩ := hh
    have hE0 : Ext w (w.alloc (.cells #[.int .i64 code, .int .i64 var, .slice A n c] 33)) := (Ext.refl _).alloc _
    have HE0 := Lib.hid hE0
    clear hE0
    go_enter Try.func38, Try.ntmps38
    go_wp2_with fail
    go_loopw [3, 4] (fun s i wr => ∃ (k : Nat) (t : Int), k ≤ n ∧ 0 ≤ t ∧ t ≤ 40 * k ∧ i = .int .i64 k ∧ s = .int .i64 t ∧ Hid (t = smTo ps k) ∧ Hid ((ps.take k).all vpB = true) ∧ Hid (Ext (w.alloc (.cells #[.int .i64 code, .int .i64 var, .slice A n c] 33)) wr)) (fun _ i _ => n - (intOf i).toNat)
    case atStart => exact ⟨0, 0, Nat.zero_le _, by omega, by omega, rfl, rfl, by simp [Hid, smTo], by simp [Hid], Ext.refl _⟩
    case round =>
      obtain ⟨k, t, hk, ht0, ht1, rfl, rfl, HT, HA, HE⟩ := hrel
      obtain ⟨b0, b1, b2⟩ := box3 rfl HE.out
      by_cases hlt : k < n
      · obtain ⟨b, off, cs0, q0, rfl, _⟩ := H.out.at_ hlt
        have HI := Lib.hid ((H.out.ext (RPart.stab p) HE0.out).ext (RPart.stab p) HE.out)
        obtain ⟨q, c0, c1, c2, c3, c4, c5, hw, HX⟩ := HI.out.part hlt
        cases hv : vpB q with
        | false =>
          have HV := Lib.hid hv
          clear hv
          go_wp2_with fail
          refine (rvalidPart_any q _).mono ?_
          rintro e w1 ⟨rfl, hx1⟩
          rw [HV.out]
          go_wp2_with fail
          go_ret
          exact ⟨ret_bool (vpa_part HX.out HV.out), (HE0.out.trans HE.out).trans hx1⟩
        | true =>
          have HV := Lib.hid hv
          have hbq := vp_of hv
          clear hv
          go_wp2_with fail
          refine (rvalidPart_any q _).mono ?_
          rintro e w1 ⟨rfl, hx1⟩
          rw [HV.out]
          have d2 := hx1.cell b2
          have e1 := hx1.cell c1
          clear b0 b1 b2 c0 c1 c2 c3 c4 c5
          go_wp2_with fail
          go_roundw
          case rel => exact ⟨k + 1, t + q.max, by omega, by omega, by omega, by go_num, rfl, smTo_succ HT.out HX.out, by show (ps.take (k + 1)).all vpB = true; rw [allP_snoc HX.out, HA.out, HV.out]; rfl, HE.out.trans hx1⟩
          case measure => simp [intOf]; omega
      · obtain rfl : k = n := by omega
        have HALL : Hid (ps.all vpB = true) := by have := HA.out; rw [take_all HL.out] at this; exact this
        go_wp2_with fail
        go_ret
        exact ⟨ret_bool (by rw [← vpa_fin HL.out HH.out HALL.out, sm_of HL.out HT.out]), HE0.out.trans HE.out⟩
  · have HH := Lib.hid (vpa_head HL.out hh)
    by_cases h1 : 0 ≤ code ∧ code ≤ 31 ∧ 0 ≤ var ∧ var < 4
    · have h5 : n < 1 ∨ 24 < n := by omega
      clear hh
      go_enter Try.func38, Try.ntmps38
      go_wp2_with fail
      all_goals (go_ret; exact ⟨ret_bool HH.out, (Ext.refl _).alloc _⟩)
    · clear hh
      have h1' : code < 0 ∨ 31 < code ∨ var < 0 ∨ 4 ≤ var := by omega
      clear h1
      go_enter Try.func38, Try.ntmps38
      go_wp2_with fail
      all_goals (go_ret; exact ⟨ret_bool HH.out, (Ext.refl _).alloc _⟩)
end Go.Proofs.Ytpbfbkkalemmiaa
