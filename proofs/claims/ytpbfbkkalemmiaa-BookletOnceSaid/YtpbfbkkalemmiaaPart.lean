/- Parts and papers: which are valid, how many lines a part needs. Contracts of items' and booklets' small functions and of their references. -/
import Derived.Test.YtpbfbkkalemmiaaTape
import Derived.Test.YtpbfbkkalemmiaaBaseC
namespace Go.Proofs.Ytpbfbkkalemmiaa
open Go.RowKit

/-- A part. -/
structure Part where
  kind : Int
  max : Int
  topic : Int
  obj : Int
  opts : Int
  key : Int
def Part.cells (q : Part) : List Value := [.int .i64 q.kind, .int .i64 q.max, .int .i64 q.topic, .int .i64 q.obj, .int .i64 q.opts, .int .i64 q.key]
def Part.wf (q : Part) : Prop := I64 q.kind ∧ I64 q.max ∧ I64 q.topic ∧ I64 q.obj ∧ I64 q.opts ∧ I64 q.key
/-- The cells of a part. -/
def RPart : World → List Value → Part → Prop := fun _ cs q => cs = q.cells ∧ q.wf
theorem RPart.stab (p : Nat) : Stab p RPart := fun _ _ _ _ h _ => h
/-- A part is valid. -/
def vpB (q : Part) : Bool := decide (1 ≤ q.max ∧ q.max ≤ 40 ∧ 0 ≤ q.topic ∧ q.topic < 16 ∧ 0 ≤ q.obj ∧ q.obj < 6 ∧ ((q.kind = 1 ∧ q.opts = 0 ∧ q.key = 0) ∨ (q.kind = 2 ∧ 2 ≤ q.opts ∧ q.opts ≤ 5 ∧ 0 ≤ q.key ∧ q.key < q.opts)))
theorem vp_of {q : Part} (h : vpB q = true) : 1 ≤ q.max ∧ q.max ≤ 40 ∧ 0 ≤ q.topic ∧ q.topic < 16 ∧ 0 ≤ q.obj ∧ q.obj < 6 ∧ ((q.kind = 1 ∧ q.opts = 0 ∧ q.key = 0) ∨ (q.kind = 2 ∧ 2 ≤ q.opts ∧ q.opts ≤ 5 ∧ 0 ≤ q.key ∧ q.key < q.opts)) := by
  simpa [vpB] using h
/-- The lines of a part. -/
def need (q : Part) : Int := if vpB q = false then 0 else if q.kind = 2 then 2 + q.opts else min (2 + q.max) 30
theorem need_bd (q : Part) : 0 ≤ need q ∧ need q ≤ 30 := by
  unfold need
  cases h : vpB q with
  | false => simp
  | true =>
    have := vp_of h
    simp only [Bool.true_eq_false, if_false]
    split <;> omega
theorem need_pos {q : Part} (h : vpB q = true) : 3 ≤ need q := by
  have := vp_of h
  unfold need
  rw [if_neg (by simp [h])]
  split <;> omega

set_option maxHeartbeats 1000000 in
theorem validPart_any (q : Part) (w : World) :
    Calls Try.prog 30 #[.agg #[.int .i64 q.kind, .int .i64 q.max, .int .i64 q.topic, .int .i64 q.obj, .int .i64 q.opts, .int .i64 q.key]] w fun e w' => e = .returned (.bool (vpB q)) ∧ Ext w w' := by
  obtain ⟨k, m, t, o, n, y⟩ := q
  go_enter Try.func30, Try.ntmps30
  go_wp2
  all_goals (go_ret; exact ⟨ret_bool (by (try simp only [beq_iff_eq, beq_eq_false_iff_ne] at *); rw [Bool.eq_iff_iff]; simp [vpB]; omega), (Ext.refl _).alloc _⟩)

set_option maxHeartbeats 1000000 in
theorem rvalidPart_any (q : Part) (w : World) :
    Calls Try.prog 31 #[.agg #[.int .i64 q.kind, .int .i64 q.max, .int .i64 q.topic, .int .i64 q.obj, .int .i64 q.opts, .int .i64 q.key]] w fun e w' => e = .returned (.bool (vpB q)) ∧ Ext w w' := by
  obtain ⟨k, m, t, o, n, y⟩ := q
  go_enter Try.func31, Try.ntmps31
  go_wp2
  all_goals (go_ret; exact ⟨ret_bool (by (try simp only [beq_iff_eq, beq_eq_false_iff_ne] at *); rw [Bool.eq_iff_iff]; simp [vpB]; omega), (Ext.refl _).alloc _⟩)

/-- Cells of a part's box behind a callee. -/
theorem box6 {w w1 : World} {o : Obj} {a b c d e f : Value} {t : TypeId} (ho : o = .cells #[a, b, c, d, e, f] t) (h : Ext (w.alloc o) w1) :
    w1.cell? ⟨w.heap.size, 0, none⟩ = some a ∧ w1.cell? ⟨w.heap.size, 1, none⟩ = some b ∧ w1.cell? ⟨w.heap.size, 2, none⟩ = some c ∧ w1.cell? ⟨w.heap.size, 3, none⟩ = some d ∧ w1.cell? ⟨w.heap.size, 4, none⟩ = some e ∧ w1.cell? ⟨w.heap.size, 5, none⟩ = some f := by
  subst ho
  have hb := h.blk (heap_alloc_new w _)
  refine ⟨?_, ?_, ?_, ?_, ?_, ?_⟩ <;> (rw [cell_of_row w1 w.heap.size _ _ t (0, 0) hb]; rfl)

set_option maxHeartbeats 1000000 in
theorem need_any (q : Part) (w : World) :
    Calls Try.prog 12 #[.agg #[.int .i64 q.kind, .int .i64 q.max, .int .i64 q.topic, .int .i64 q.obj, .int .i64 q.opts, .int .i64 q.key]] w fun e w' => e = .returned (.int .i64 (need q)) ∧ Ext w w' := by
  cases hv : vpB q with
  | false =>
    have HV := Lib.hid hv
    clear hv
    go_enter Try.func12, Try.ntmps12
    go_wp2_with fail
    refine (validPart_any q _).mono ?_
    rintro e w1 ⟨rfl, hx1⟩
    rw [HV.out]
    go_wp2_with fail
    go_ret
    exact ⟨ret_int (by simp [need, HV.out]), Ext.trans ((Ext.refl _).alloc _) hx1⟩
  | true =>
    have HV := Lib.hid hv
    have hb := vp_of hv
    clear hv
    have HN : Hid (need q = if q.kind = 2 then 2 + q.opts else min (2 + q.max) 30) := by show need q = _; unfold need; rw [if_neg (by simp [HV.out])]
    have hk : q.kind = 1 ∨ q.kind = 2 := by omega
    obtain ⟨k, m, t, o, n, y⟩ := q
    simp only at hb hk
    obtain ⟨h1, h2, h3, h4, h5, h6, h7⟩ := hb
    rcases hk with rfl | rfl
    all_goals
      have HE := Lib.hid h7
      clear h7
      have hn5 : n ≤ 5 := by have := HE.out; omega
      have hn0 : 0 ≤ n := by have := HE.out; omega
      go_enter Try.func12, Try.ntmps12
      go_wp2_with fail
      refine (validPart_any ⟨_, m, t, o, n, y⟩ _).mono ?_
      rintro e w1 ⟨rfl, hx1⟩
      rw [HV.out]
      obtain ⟨c0, c1, c2, c3, c4, c5⟩ := box6 rfl hx1
      go_wp2_with fail
      all_goals (go_ret; exact ⟨ret_int (by rw [HN.out]; simp; try omega), Ext.trans ((Ext.refl _).alloc _) hx1⟩)

set_option maxHeartbeats 1000000 in
theorem rneed_any (q : Part) (w : World) :
    Calls Try.prog 13 #[.agg #[.int .i64 q.kind, .int .i64 q.max, .int .i64 q.topic, .int .i64 q.obj, .int .i64 q.opts, .int .i64 q.key]] w fun e w' => e = .returned (.int .i64 (need q)) ∧ Ext w w' := by
  cases hv : vpB q with
  | false =>
    have HV := Lib.hid hv
    clear hv
    go_enter Try.func13, Try.ntmps13
    go_wp2_with fail
    refine (rvalidPart_any q _).mono ?_
    rintro e w1 ⟨rfl, hx1⟩
    rw [HV.out]
    go_wp2_with fail
    go_ret
    exact ⟨ret_int (by simp [need, HV.out]), Ext.trans ((Ext.refl _).alloc _) hx1⟩
  | true =>
    have HV := Lib.hid hv
    have hb := vp_of hv
    clear hv
    have HN : Hid (need q = if q.kind = 2 then 2 + q.opts else min (2 + q.max) 30) := by show need q = _; unfold need; rw [if_neg (by simp [HV.out])]
    have hk : q.kind = 1 ∨ q.kind = 2 := by omega
    obtain ⟨k, m, t, o, n, y⟩ := q
    simp only at hb hk
    obtain ⟨h1, h2, h3, h4, h5, h6, h7⟩ := hb
    rcases hk with rfl | rfl
    all_goals
      have HE := Lib.hid h7
      clear h7
      have hn5 : n ≤ 5 := by have := HE.out; omega
      have hn0 : 0 ≤ n := by have := HE.out; omega
      go_enter Try.func13, Try.ntmps13
      go_wp2_with fail
      refine (rvalidPart_any ⟨_, m, t, o, n, y⟩ _).mono ?_
      rintro e w1 ⟨rfl, hx1⟩
      rw [HV.out]
      obtain ⟨c0, c1, c2, c3, c4, c5⟩ := box6 rfl hx1
      go_wp2_with fail
      all_goals (go_ret; exact ⟨ret_int (by rw [HN.out]; simp; try omega), Ext.trans ((Ext.refl _).alloc _) hx1⟩)
end Go.Proofs.Ytpbfbkkalemmiaa
