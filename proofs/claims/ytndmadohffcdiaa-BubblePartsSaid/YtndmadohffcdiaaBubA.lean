/- Contracts of the small functions of package bubble and of its reference. -/
import Derived.Test.YtndmadohffcdiaaRows
import Derived.Test.YtndmadohffcdiaaTape
namespace Go.Proofs.Ytndmadohffcdiaa
open Go.RowKit

/-- A threshold is valid. -/
def vldB (d f l : Int) : Bool := decide (1 ≤ f ∧ f ≤ d ∧ d ≤ 9 ∧ 1 ≤ l ∧ l ≤ 9)

set_option maxHeartbeats 400000 in
theorem valid_any (d f l : Int) (w : World) :
    Calls Try.prog 12 #[.agg #[.int .i64 d, .int .i64 f, .int .i64 l]] w fun e w' => e = .returned (.bool (vldB d f l)) ∧ Ext w w' := by
  go_enter Try.func12, Try.ntmps12
  go_wp2
  all_goals (go_ret; exact ⟨ret_bool (by first | (simp [vldB]; omega) | (rw [Bool.eq_iff_iff]; simp [vldB]; omega)), (Ext.refl _).alloc _⟩)

set_option maxHeartbeats 400000 in
theorem rvalid_any (d f l : Int) (w : World) :
    Calls Try.prog 13 #[.agg #[.int .i64 d, .int .i64 f, .int .i64 l]] w fun e w' => e = .returned (.bool (vldB d f l)) ∧ Ext w w' := by
  go_enter Try.func13, Try.ntmps13
  go_wp2
  all_goals (go_ret; exact ⟨ret_bool (by first | (simp [vldB]; omega) | (rw [Bool.eq_iff_iff]; simp [vldB]; omega)), (Ext.refl _).alloc _⟩)

/-- A value of a choice field. -/
def valB (x : Int) : Bool := decide (0 ≤ x ∧ x ≤ 9)

theorem all_snoc {p : Int → Bool} {l : List Int} {k : Nat} {x : Int} (h : l[k]? = some x) : (l.take (k + 1)).all p = ((l.take k).all p && p x) := by
  rw [take_snoc h]; simp
theorem all_false {p : Int → Bool} {l : List Int} {k : Nat} {x : Int} (h : l[k]? = some x) (hp : p x = false) : l.all p = false := by
  rw [List.all_eq_false]; exact ⟨x, List.mem_of_getElem? h, by simp [hp]⟩

set_option maxHeartbeats 400000 in
theorem dark_any (v : Value) (l : List Int) (w : World) {p : Nat} (h : IsI p w v l) :
    Calls Try.prog 42 #[v] w fun e w' => e = .returned (.bool (l.all valB)) ∧ w = w' := by
  obtain ⟨A, n, c, rfl, hnc, hc, hnn, HL⟩ := h.open_
  have H := Lib.hid h
  clear h
  go_enter Try.func42, Try.ntmps42
  go_wp2
  go_loop [3] (fun i => ∃ k : Nat, k ≤ n ∧ i = .int .i64 k ∧ Hid ((l.take k).all valB = true)) (fun i => n - (intOf i).toNat)
  case atStart => exact ⟨0, Nat.zero_le _, rfl, by simp [Hid]⟩
  case round =>
    obtain ⟨k, hk, rfl, HK⟩ := hrel
    by_cases hlt : k < n
    · obtain ⟨b, off, x, rfl, hcx, HX, hx1, hx2⟩ := H.out.at_ hlt
      go_wp2
      all_goals first
        | (go_ret; exact ⟨ret_bool (all_false HX.out (by simp [valB]; omega)).symm, rfl⟩)
        | (go_round
           case rel => exact ⟨k + 1, by omega, by go_num, by show (l.take (k + 1)).all valB = true; rw [all_snoc HX.out, HK.out]; simp [valB]; omega⟩
           case measure => simp [intOf]; omega)
    · go_wp2
      go_ret
      refine ⟨ret_bool ?_, rfl⟩
      have := HK.out
      rw [take_all (by have := HL.out; omega)] at this
      rw [this]

theorem isValue_any (x : Int) (w : World) :
    Calls Try.prog 59 #[.int .i64 x] w fun e w' => e = .returned (.bool (valB x)) ∧ w = w' := by
  go_enter Try.func59, Try.ntmps59
  go_wp2
  all_goals (go_ret; exact ⟨ret_bool (by first | (simp [valB]; omega) | (rw [Bool.eq_iff_iff]; simp [valB]; omega)), rfl⟩)

theorem notValue_any (x : Int) (w : World) :
    Calls Try.prog 58 #[.int .i64 x] w fun e w' => e = .returned (.bool (!valB x)) ∧ w = w' := by
  go_enter Try.func58, Try.ntmps58
  go_wp2_with (go_at_call 59; refine (isValue_any _ _).mono ?_; rintro e w' ⟨rfl, rfl⟩)
  go_ret
  exact ⟨rfl, rfl⟩

/-- The index of the first element that p accepts, or -1. -/
def idxZ (p : Int → Bool) (l : List Int) : Int := if l.any p then (l.findIdx p : Int) else -1

theorem idxZ_hit {p : Int → Bool} {l : List Int} {k : Nat} {x : Int} (h : l[k]? = some x) (hp : p x = true) (hn : (l.take k).all (fun x => !p x) = true) : (k : Int) = idxZ p l := by
  obtain ⟨hk, rfl⟩ := List.getElem?_eq_some_iff.1 h
  have : l.any p = true := List.any_eq_true.2 ⟨_, List.getElem_mem hk, hp⟩
  rw [idxZ, if_pos this]
  congr 1
  symm
  rw [List.findIdx_eq hk]
  refine ⟨hp, fun j hj => ?_⟩
  have := List.all_eq_true.1 hn l[j] (by rw [List.mem_take_iff_getElem]; exact ⟨j, by omega, rfl⟩)
  simpa using this
theorem idxZ_miss {p : Int → Bool} {l : List Int} (hn : l.all (fun x => !p x) = true) : -1 = idxZ p l := by
  rw [idxZ, if_neg]
  rw [List.any_eq_true]
  rintro ⟨x, hx, hp⟩
  have := List.all_eq_true.1 hn x hx
  simp [hp] at this
theorem idxZ_any (p : Int → Bool) (l : List Int) : decide (0 ≤ idxZ p l) = l.any p := by
  unfold idxZ; split <;> simp_all
theorem any_not (p : Int → Bool) (l : List Int) : (!l.any (fun x => !p x)) = l.all p := by
  induction l <;> simp_all

set_option maxHeartbeats 400000 in
theorem indexNot_any (v : Value) (l : List Int) (w : World) {p : Nat} (h : IsI p w v l) :
    Calls Try.prog 65 #[v, .func (.func 58) #[] #[]] w fun e w' => e = .returned (.int .i64 (idxZ (fun x => !valB x) l)) ∧ w = w' := by
  obtain ⟨A, n, c, rfl, hnc, hc, hnn, HL⟩ := h.open_
  have H := Lib.hid h
  clear h
  go_enter Try.func65, Try.ntmps65
  go_wp2
  go_loop [8] (fun i => ∃ k : Nat, k ≤ n ∧ i = .int .i64 k ∧ Hid ((l.take k).all (fun x => !!valB x) = true)) (fun i => n - (intOf i).toNat)
  case atStart => exact ⟨0, Nat.zero_le _, rfl, by simp [Hid]⟩
  case round =>
    obtain ⟨k, hk, rfl, HK⟩ := hrel
    by_cases hlt : k < n
    · obtain ⟨b, off, x, rfl, hcx, HX, hx1, hx2⟩ := H.out.at_ hlt
      cases hb : valB x
      · have HB := Lib.hid hb
        clear hb
        go_wp2_with (go_at_call 58; refine (notValue_any _ _).mono ?_; rintro e w' ⟨rfl, rfl⟩; rw [HB.out])
        go_ret
        exact ⟨ret_int (idxZ_hit HX.out (by simp [HB.out]) HK.out), rfl⟩
      · have HB := Lib.hid hb
        clear hb
        go_wp2_with (go_at_call 58; refine (notValue_any _ _).mono ?_; rintro e w' ⟨rfl, rfl⟩; rw [HB.out])
        go_round
        case rel => exact ⟨k + 1, by omega, by go_num, by show (l.take (k + 1)).all _ = true; rw [all_snoc HX.out, HK.out]; simp [HB.out]⟩
        case measure => simp [intOf]; omega
    · go_wp2
      go_ret
      have := HK.out
      rw [take_all (by have := HL.out; omega)] at this
      exact ⟨ret_int (idxZ_miss this), rfl⟩

theorem containsNot_any (v : Value) (l : List Int) (w : World) {p : Nat} (h : IsI p w v l) :
    Calls Try.prog 57 #[v, .func (.func 58) #[] #[]] w fun e w' => e = .returned (.bool (l.any (fun x => !valB x))) ∧ w = w' := by
  have H := Lib.hid h
  clear h
  go_enter Try.func57, Try.ntmps57
  go_wp2_with (go_at_call 65; refine (indexNot_any _ l _ H.out).mono ?_; rintro e w' ⟨rfl, rfl⟩)
  go_ret
  exact ⟨ret_bool (idxZ_any _ _), rfl⟩

theorem allValues_any (v : Value) (l : List Int) (w : World) {p : Nat} (h : IsI p w v l) :
    Calls Try.prog 40 #[v] w fun e w' => e = .returned (.bool (l.all valB)) ∧ w = w' := by
  have H := Lib.hid h
  clear h
  go_enter Try.func40, Try.ntmps40
  go_wp2_with (go_at_call 57; refine (containsNot_any _ l _ H.out).mono ?_; rintro e w' ⟨rfl, rfl⟩)
  go_ret
  exact ⟨ret_bool (any_not _ _), rfl⟩
end Go.Proofs.Ytndmadohffcdiaa
