/- item.Choices. -/
import Derived.Test.YtpbfbkkalemmiaaPaper
import Derived.Test.YtpbfbkkalemmiaaBaseB
namespace Go.Proofs.Ytpbfbkkalemmiaa
open Go.RowKit

/-- The choice parts among the first k. -/
def chTo (ps : List Part) (k : Nat) : List Int := ((List.range k).filter fun i => decide (∃ q, ps[i]? = some q ∧ q.kind = 2)).map fun i : Nat => (i : Int)
theorem chTo_yes {ps : List Part} {k : Nat} {q : Part} (h : ps[k]? = some q) (hk : q.kind = 2) : chTo ps (k + 1) = chTo ps k ++ [(k : Int)] := by
  unfold chTo
  rw [List.range_succ, List.filter_append, List.map_append]
  congr 1
  have : decide (∃ q, ps[k]? = some q ∧ q.kind = 2) = true := by simp only [decide_eq_true_eq]; exact ⟨q, h, hk⟩
  simp [List.filter_cons, this]
theorem chTo_no {ps : List Part} {k : Nat} {q : Part} (h : ps[k]? = some q) (hk : ¬ q.kind = 2) : chTo ps (k + 1) = chTo ps k := by
  unfold chTo
  rw [List.range_succ, List.filter_append, List.map_append]
  have : decide (∃ q, ps[k]? = some q ∧ q.kind = 2) = false := by
    simp only [decide_eq_false_iff_not]
    rintro ⟨q', h', hk'⟩
    rw [h] at h'
    injection h' with h'
    subst h'
    exact hk hk'
  simp [List.filter_cons, this]
theorem chTo_mem {ps : List Part} {k : Nat} {x : Int} (h : x ∈ chTo ps k) : ∃ (i : Nat) (q : Part), x = i ∧ i < k ∧ ps[i]? = some q ∧ q.kind = 2 := by
  unfold chTo at h
  obtain ⟨i, hi, rfl⟩ := List.mem_map.1 h
  obtain ⟨h1, h2⟩ := List.mem_filter.1 hi
  simp only [decide_eq_true_eq] at h2
  obtain ⟨q, hq, hk⟩ := h2
  exact ⟨i, q, rfl, by simpa using h1, hq, hk⟩
theorem chTo_len (ps : List Part) (k : Nat) : (chTo ps k).length ≤ k := by
  unfold chTo
  rw [List.length_map]
  exact Nat.le_trans (List.length_filter_le _ _) (by simp)

set_option maxHeartbeats 4000000 in
theorem choices_any (code var : Int) (v : Value) (ps : List Part) (w : World) {p : Nat} (hp : p < w.heap.size) (h : IsQ p w v ps) (hv : vpaB code var ps = true) :
    Calls Try.prog 29 #[.agg #[.int .i64 code, .int .i64 var, v]] w fun e w' => ∃ v', e = .returned v' ∧ IsI p w' v' (chTo ps ps.length) ∧ Ext w w' := by
  obtain ⟨A, n, c, rfl, hnc, hc, hnn, HL⟩ := h.open_
  obtain ⟨i0, hi0, hz0, hz1, hz2⟩ := info_parts Try.infoI
  have hn24 : n ≤ 24 := by have := (vpa_of hv).2.2.2.2.2.1; have := HL.out; omega
  have HE0 : Hid (Ext w (w.alloc (.cells #[.int .i64 code, .int .i64 var, .slice A n c] 33))) := (Ext.refl _).alloc _
  have H := Lib.hid (h.ext (RPart.stab p) HE0.out)
  replace hv := Lib.hid hv
  clear h
  go_enter Try.func29, Try.ntmps29
  go_wp2_with fail
  refine (validPaper_any _ _ _ ps _ H.out).mono ?_
  rintro e w1 ⟨rfl, hx1⟩
  rw [hv.out]
  replace H := Lib.hid (H.out.ext (RPart.stab p) hx1)
  obtain ⟨b0, b1, b2⟩ := box3 rfl hx1
  have HE1 := Lib.hid (HE0.out.trans hx1)
  have hpw := Nat.lt_of_lt_of_le hp HE1.out.size
  clear hx1 HE0
  go_wp2_with fail
  go_loopw [3, 12] (fun s3 s12 wr => ∃ (k : Nat) (l : List Int), s12 = .int .i64 k ∧ k ≤ n ∧ l.length ≤ k ∧ Hid (l = chTo ps k ∧ wr.ownsRow w1.heap.size 3 1 s3 l.length (l.map (Value.int .i64)) ∧ Ext w1 wr)) (fun _ i _ => n - (intOf i).toNat)
  case atStart => exact ⟨0, [], rfl, by omega, by simp, rfl, World.ownsRow_nil _ _ _ _, Ext.refl _⟩
  case round =>
    obtain ⟨k, l, rfl, hk, hll, HR⟩ := hrel
    clear b0 b1 b2
    by_cases hlt : k < n
    · obtain ⟨b, off, cs0, q0, rfl, _⟩ := H.out.at_ hlt
      obtain ⟨q, c0, c1, c2, c3, c4, c5, hw, HX⟩ := (H.out.ext (RPart.stab p) HR.out.2.2).part hlt
      have hs := HR.out.2.2.size
      by_cases hk2 : q.kind = 2
      · have hkb : (q.kind == 2) = true := by simp [hk2]
        replace hk2 := Lib.hid hk2
        go_wp2_with (at_builtin; refine wpList_push _ rfl (.tmp 20) (.tmp 22) 28 rfl w1.heap.size 3 i0 _ 8 Try.underlying28 hi0 hz0 hz1 hz2 rfl _ _ _ rfl ((HR.out.2.1.alloc _).alloc _) _ _ rfl (by simp; rfl) rfl (by omega) (by omega) (by simp; omega) ?_; intro v7 w7 hown7 hg7)
        go_roundw
        case rel => first | exact ⟨k + 1, l ++ [(k : Int)], by go_num, by omega, by simp; omega, by rw [chTo_yes HX.out hk2.out, HR.out.1], by simpa using hown7, Ext.grown ((HR.out.2.2.alloc _).alloc _) hg7 (own_ge HR.out.2.1)⟩ | exact ⟨k + 1, by omega, by omega, l ++ [(k : Int)], by simp; omega, by rw [chTo_yes HX.out hk2.out, HR.out.1], by simpa using hown7, Ext.grown ((HR.out.2.2.alloc _).alloc _) hg7 (own_ge HR.out.2.1)⟩
        case measure => simp [intOf]; omega
      · have hkb : (q.kind == 2) = false := by simp [hk2]
        replace hk2 := Lib.hid hk2
        go_wp2_with fail
        go_roundw
        case rel => first | exact ⟨k + 1, l, by go_num, by omega, by omega, by rw [chTo_no HX.out hk2.out]; exact HR.out.1, own_ext HR.out.2.1 ((Ext.refl _).alloc _), HR.out.2.2.alloc _⟩ | exact ⟨k + 1, by omega, by omega, l, by omega, by rw [chTo_no HX.out hk2.out]; exact HR.out.1, own_ext HR.out.2.1 ((Ext.refl _).alloc _), HR.out.2.2.alloc _⟩
        case measure => simp [intOf]; omega
    · obtain rfl : k = n := by omega
      go_wp2_with fail
      go_ret
      refine ⟨_, rfl, ?_, HE1.out.trans HR.out.2.2⟩
      rw [HL.out, ← HR.out.1]
      refine IsI.of_own HR.out.2.1 hpw ?_ (by omega)
      intro x hx
      rw [HR.out.1] at hx
      obtain ⟨i, q, rfl, hi, _⟩ := chTo_mem hx
      exact ⟨by omega, by omega⟩
end Go.Proofs.Ytpbfbkkalemmiaa
