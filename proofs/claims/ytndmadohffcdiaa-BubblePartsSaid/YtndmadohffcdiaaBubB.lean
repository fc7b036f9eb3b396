/- The greatest value of a list and whether it leads: bubble.leader and the reference's greatest. -/
import Derived.Test.YtndmadohffcdiaaBubA
namespace Go.Proofs.Ytndmadohffcdiaa
open Go.RowKit

/-- The index of the first greatest element among the first k. -/
def amax (l : List Int) : Nat → Nat
  | 0 => 0
  | k + 1 => if l.getD (amax l k) 0 < l.getD k 0 then k else amax l k
theorem amax_le (l : List Int) (k : Nat) : amax l k ≤ k - 1 := by
  induction k with
  | zero => simp [amax]
  | succ k ih => unfold amax; split <;> omega
theorem getD_of {l : List Int} {k : Nat} {x : Int} (h : l[k]? = some x) : l.getD k 0 = x := by simp [List.getD, h]
theorem amax_hit {l : List Int} {k o : Nat} {x y : Int} (h : l[k]? = some x) (ho : o = amax l k) (hy : l[o]? = some y) (hlt : y < x) : k = amax l (k + 1) := by
  subst ho; rw [amax, getD_of h, getD_of hy, if_pos hlt]
theorem amax_miss {l : List Int} {k o : Nat} {x y : Int} (h : l[k]? = some x) (ho : o = amax l k) (hy : l[o]? = some y) (hlt : x ≤ y) : o = amax l (k + 1) := by
  subst ho; rw [amax, getD_of h, getD_of hy, if_neg (by omega)]
theorem amax_one (l : List Int) : 0 = amax l 1 := by simp [amax]

/-- The element at o is greater by 'lead' than each other one among the first k. -/
def ldsTo (l : List Int) (lead : Int) (o k : Nat) : Bool := (List.range k).all fun i => i == o || decide (l.getD i 0 + lead ≤ l.getD o 0)
def lds (l : List Int) (lead : Int) : Bool := ldsTo l lead (amax l l.length) l.length
theorem ldsTo_zero (l : List Int) (lead : Int) (o : Nat) : true = ldsTo l lead o 0 := rfl
theorem ldsTo_succ (l : List Int) (lead : Int) (o k : Nat) : ldsTo l lead o (k + 1) = (ldsTo l lead o k && (k == o || decide (l.getD k 0 + lead ≤ l.getD o 0))) := by
  unfold ldsTo; rw [List.range_succ, List.all_append]; simp
theorem ldsTo_le {l : List Int} {lead : Int} {o k n : Nat} (h : k ≤ n) (hn : ldsTo l lead o k = false) : ldsTo l lead o n = false := by
  unfold ldsTo at *
  rw [List.all_eq_false] at *
  obtain ⟨i, hi, h'⟩ := hn
  exact ⟨i, by simp at *; omega, h'⟩
theorem ldsTo_keep {l : List Int} {lead : Int} {o k : Nat} {x y : Int} {b : Bool} (hb : b = ldsTo l lead o k) (h : l[k]? = some x) (hy : l[o]? = some y) (hk : k = o ∨ x + lead ≤ y) : b = ldsTo l lead o (k + 1) := by
  rw [ldsTo_succ, ← hb, getD_of h, getD_of hy]
  rcases hk with rfl | hk <;> simp [*]
theorem ldsTo_drop {l : List Int} {lead : Int} {o k : Nat} {x y : Int} (h : l[k]? = some x) (hy : l[o]? = some y) (hk : k ≠ o) (hlt : y < x + lead) : false = ldsTo l lead o (k + 1) := by
  rw [ldsTo_succ, getD_of h, getD_of hy]
  have : ¬ (x + lead ≤ y) := by omega
  simp [*]

/-- The index of the greatest value; the value. -/
def midx (l : List Int) : Int := (amax l l.length : Nat)
def mval (l : List Int) : Int := l.getD (amax l l.length) 0
theorem midx_of {l : List Int} {n a : Nat} (hl : l.length = n) (ha : a = amax l n) : (a : Int) = midx l := by subst hl; subst ha; rfl
theorem mval_of {l : List Int} {n a : Nat} {y : Int} (hl : l.length = n) (ha : a = amax l n) (hy : l[a]? = some y) : y = mval l := by subst hl; subst ha; exact (getD_of hy).symm
theorem lds_of {l : List Int} {n a : Nat} {lead : Int} {t : Bool} (hl : l.length = n) (ha : a = amax l n) (ht : t = ldsTo l lead a n) : t = lds l lead := by subst hl; subst ha; exact ht

/-- All values lie from 0 to 9. -/
theorem val_of {l : List Int} (hv : l.all valB = true) {k : Nat} {x : Int} (h : l[k]? = some x) : 0 ≤ x ∧ x ≤ 9 := by
  have := List.all_eq_true.1 hv x (List.mem_of_getElem? h)
  simpa [valB] using this

set_option maxHeartbeats 800000 in
theorem leader_any (v : Value) (l : List Int) (lead : Int) (w : World) {p : Nat} (h : IsI p w v l) (hv : l.all valB = true) (h0 : l ≠ []) (hl1 : 1 ≤ lead) (hl2 : lead ≤ 9) :
    Calls Try.prog 41 #[v, .int .i64 lead] w fun e w' =>
      e = .returned (.tuple #[.int .i64 (midx l), .int .i64 (mval l), .bool (lds l lead)]) ∧ w = w' := by
  obtain ⟨A, n, c, rfl, hnc, hc, hnn, HL⟩ := h.open_
  have hn : 0 < n := by have := HL.out; have := List.length_pos_iff.2 h0; omega
  have H := Lib.hid h
  have HV := Lib.hid hv
  obtain ⟨b, off, x0, rfl, _, _⟩ := h.at_ hn
  clear h hv h0 
  go_enter Try.func41, Try.ntmps41
  go_wp2
  go_loop [4, 13] (fun o i => ∃ k a : Nat, k ≤ n ∧ a < n ∧ i = .int .i64 k ∧ o = .int .i64 a ∧ Hid (a = amax l k)) (fun _ i => n - (intOf i).toNat)
  case atStart => exact ⟨0, 0, Nat.zero_le _, hn, rfl, rfl, rfl⟩
  case round =>
    obtain ⟨k, a, hk, ha, rfl, rfl, HA⟩ := hrel
    by_cases hlt : k < n
    · obtain ⟨x, hcx, HX, hx1, hx2⟩ := H.out.cell_ hlt
      obtain ⟨y, hcy, HY, hy1, hy2⟩ := H.out.cell_ ha
      go_wp2
      · go_round
        case rel => exact ⟨k + 1, k, by omega, by omega, by go_num, rfl, amax_hit HX.out HA.out HY.out (by assumption)⟩
        case measure => simp [intOf]; omega
      · go_round
        case rel => exact ⟨k + 1, a, by omega, by omega, by go_num, rfl, amax_miss HX.out HA.out HY.out (by omega)⟩
        case measure => simp [intOf]; omega
    · obtain rfl : k = n := by omega
      obtain ⟨y, hcy, HY, hy1, hy2⟩ := H.out.cell_ ha
      have hvy := val_of HV.out HY.out
      go_wp2
      go_loop [6, 32] (fun s i => ∃ (j : Nat) (t : Bool), j ≤ k ∧ i = .int .i64 j ∧ s = .bool t ∧ Hid (t = ldsTo l lead a j)) (fun _ i => k - (intOf i).toNat)
      case atStart => exact ⟨0, true, Nat.zero_le _, rfl, rfl, rfl⟩
      case round =>
        obtain ⟨j, t, hj, rfl, rfl, HT⟩ := hrel
        by_cases hlt' : j < k
        · obtain ⟨x, hcx, HX, hx1, hx2⟩ := H.out.cell_ hlt'
          have hvx := val_of HV.out HX.out
          by_cases hja : j = a
          · have hd : ((j : Int) != (a : Int)) = false := by simp [hja]
            have HJ := Lib.hid hja
            clear hja
            go_wp2
            go_round
            case rel => exact ⟨j + 1, t, by omega, by go_num, rfl, ldsTo_keep HT.out HX.out HY.out (.inl HJ.out)⟩
            case measure => simp [intOf]; omega
          · have hd : ((j : Int) != (a : Int)) = true := by simp; omega
            have HJ := Lib.hid hja
            clear hja
            go_wp2
            · go_round
              case rel => exact ⟨j + 1, false, by omega, by go_num, rfl, ldsTo_drop HX.out HY.out HJ.out (by omega)⟩
              case measure => simp [intOf]; omega
            · go_round
              case rel => exact ⟨j + 1, t, by omega, by go_num, rfl, ldsTo_keep HT.out HX.out HY.out (.inr (by omega))⟩
              case measure => simp [intOf]; omega
        · obtain rfl : j = k := by omega
          go_wp2
          go_ret3
          exact ⟨ret_iib (midx_of HL.out HA.out) (mval_of HL.out HA.out HY.out) (lds_of HL.out HA.out HT.out), rfl⟩

set_option maxHeartbeats 800000 in
theorem greatest_any (v : Value) (l : List Int) (lead : Int) (w : World) {p : Nat} (h : IsI p w v l) (hv : l.all valB = true) (h0 : l ≠ []) (hl1 : 1 ≤ lead) (hl2 : lead ≤ 9) :
    Calls Try.prog 43 #[v, .int .i64 lead] w fun e w' =>
      e = .returned (.tuple #[.int .i64 (midx l), .bool (lds l lead)]) ∧ ∃ m, w' = w.drewN m := by
  obtain ⟨A, n, c, rfl, hnc, hc, hnn, HL⟩ := h.open_
  have hn : 0 < n := by have := HL.out; have := List.length_pos_iff.2 h0; omega
  have H := Lib.hid h
  have HV := Lib.hid hv
  obtain ⟨b, off, x0, rfl, _, _⟩ := h.at_ hn
  clear h hv h0
  go_enter Try.func43, Try.ntmps43
  go_wp2
  go_loopw [6, 7] (fun o i wr => ∃ k a m : Nat, 1 ≤ k ∧ k ≤ n ∧ a < n ∧ i = .int .i64 k ∧ o = .int .i64 a ∧ Hid (a = amax l k) ∧ wr = w.drewN m) (fun _ i _ => n - (intOf i).toNat)
  case atStart => exact ⟨1, 0, 0, by omega, by omega, hn, rfl, rfl, amax_one l, rfl⟩
  case round =>
    obtain ⟨k, a, m, hk1, hk, ha, rfl, rfl, HA, rfl⟩ := hrel
    by_cases hlt : k < n
    · obtain ⟨x, hcx, HX, hx1, hx2⟩ := H.out.cell_ hlt
      obtain ⟨y, hcy, HY, hy1, hy2⟩ := H.out.cell_ ha
      go_wp2
      go_quiet (fail)
      go_wp2
      · go_roundw
        case rel => exact ⟨k + 1, k, _, by omega, by omega, by omega, by go_num, rfl, amax_hit HX.out HA.out HY.out (by assumption), rfl⟩
        case measure => simp [intOf]; omega
      · go_roundw
        case rel => exact ⟨k + 1, a, _, by omega, by omega, by omega, by go_num, rfl, amax_miss HX.out HA.out HY.out (by omega), rfl⟩
        case measure => simp [intOf]; omega
    · obtain rfl : k = n := by omega
      obtain ⟨y, hcy, HY, hy1, hy2⟩ := H.out.cell_ ha
      have hvy := val_of HV.out HY.out
      go_wp2
      go_loopw [8] (fun i wr => ∃ (j m : Nat), j ≤ k ∧ i = .int .i64 j ∧ Hid (true = ldsTo l lead a j) ∧ wr = w.drewN m) (fun i _ => k - (intOf i).toNat)
      case atStart => exact ⟨0, m, Nat.zero_le _, rfl, rfl, rfl⟩
      case round =>
        obtain ⟨j, m, hj, rfl, HT, rfl⟩ := hrel
        by_cases hlt' : j < k
        · obtain ⟨x, hcx, HX, hx1, hx2⟩ := H.out.cell_ hlt'
          have hvx := val_of HV.out HX.out
          by_cases hja : j = a
          · have hd : ((j : Int) != (a : Int)) = false := by simp [hja]
            have HJ := Lib.hid hja
            clear hja
            go_wp2
            go_quiet (fail)
            go_wp2
            go_roundw
            case rel => exact ⟨j + 1, _, by omega, by go_num, ldsTo_keep HT.out HX.out HY.out (.inl HJ.out), rfl⟩
            case measure => simp [intOf]; omega
          · have hd : ((j : Int) != (a : Int)) = true := by simp; omega
            have HJ := Lib.hid hja
            clear hja
            have hwr : IntKind.i64.wrap (y - lead) = y - lead := IntWalk.i64_in _ (by omega)
            go_wp2
            go_quiet (fail)
            go_wp2
            · go_ret2
              exact ⟨ret_ib (midx_of HL.out HA.out) (lds_of HL.out HA.out (ldsTo_le (k := j + 1) (by omega) (ldsTo_drop HX.out HY.out HJ.out (by omega)).symm).symm), _, World.drewN_drewN _ _ _⟩
            · go_roundw
              case rel => exact ⟨j + 1, _, by omega, by go_num, ldsTo_keep HT.out HX.out HY.out (.inr (by omega)), rfl⟩
              case measure => simp [intOf]; omega
        · obtain rfl : j = k := by omega
          go_wp2
          go_ret2
          exact ⟨ret_ib (midx_of HL.out HA.out) (lds_of HL.out HA.out HT.out), _, rfl⟩
end Go.Proofs.Ytndmadohffcdiaa
