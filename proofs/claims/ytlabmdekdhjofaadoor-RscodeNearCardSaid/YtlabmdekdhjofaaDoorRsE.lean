/- rscode.isWord, Codeword: with slices.ContainsFunc at their closures. -/
import Derived.Test.YtlabmdekdhjofaaDoorRsD
namespace Go.Proofs.YtlabmdekdhjofaaDoor
open Go.RowKit

/-- What isWord's closure tells. -/
def badB (f x : Int) : Bool := decide (x < f) || decide (32 ≤ x)
theorem isWord1_any (x f : Int) (g : Nat) (w : World) (hc : w.cell? ⟨g, 0, none⟩ = some (.int .i64 f)) :
    Calls Tryd.prog 57 #[.int .i64 x, .pointer (some ⟨g, 0, none⟩)] w fun e w' => e = .returned (.bool (badB f x)) ∧ w' = w := by
  by_cases c1 : x < f
  · go_enter Tryd.func57, Tryd.ntmps57
    go_wp2
    go_ret
    exact ⟨ret_bool (by unfold badB; simp [c1]), rfl⟩
  · go_enter Tryd.func57, Tryd.ntmps57
    go_wp2
    go_ret
    exact ⟨ret_bool (by unfold badB; rw [decide_eq_false (show ¬ x < f by omega)]; rfl), rfl⟩
theorem encode1_any (x : Int) (w : World) (h : I64 x) :
    Calls Tryd.prog 42 #[.int .i64 x] w fun e w' => e = .returned (.bool (!elB x)) ∧ w' = w := by
  obtain ⟨h1, h2⟩ := h
  go_enter Tryd.func42, Tryd.ntmps42
  go_wp2_with (go_at_call 38; refine (isElement_any x _ h1 h2).mono ?_; rintro e w1 ⟨rfl, rfl⟩)
  go_ret
  exact ⟨rfl, rfl⟩

theorem any_to {l : List Int} {P : Int → Bool} {n : Nat} (hl : l.length = n) (h : ∀ j x, j < n → l[j]? = some x → P x = false) : l.any P = false := by
  rw [List.any_eq_false]
  intro x hx
  obtain ⟨j, hj, e⟩ := List.getElem_of_mem hx
  rw [h j x (by omega) (by rw [List.getElem?_eq_getElem hj, e])]
  simp

set_option maxHeartbeats 2000000 in
theorem indexFunc_w {p : Nat} (v : Value) (l : List Int) (f : Int) (g : Nat) (w : World) (hI : IsI p w v l) (hc : w.cell? ⟨g, 0, none⟩ = some (.int .i64 f)) :
    Calls Tryd.prog 56 #[v, .func (.func 57) #[] #[.pointer (some ⟨g, 0, none⟩)]] w fun e w' => ∃ r, e = .returned (.int .i64 r) ∧ decide (0 ≤ r) = l.any (badB f) ∧ w' = w := by
  obtain ⟨A, n, c, rfl, hnc, hcc, hnn, HL⟩ := hI.open_
  have HI := Lib.hid hI
  have HC := Lib.hid hc
  clear hI hc
  go_enter Tryd.func56, Tryd.ntmps56
  go_wp2_with fail
  go_loopw [8] (fun i wr => ∃ (k : Nat), i = .int .i64 k ∧ k ≤ n ∧ Hid (∀ j x, j < k → l[j]? = some x → badB f x = false) ∧ wr = w) (fun i _ => n - (intOf i).toNat)
  case atStart => exact ⟨0, rfl, by omega, fun j x hj => by omega, rfl⟩
  case round =>
    obtain ⟨k, rfl, hk, HK, rfl⟩ := hrel
    by_cases hkn : k < n
    · obtain ⟨b, o, z, rfl, -⟩ := HI.out.at_ hkn
      obtain ⟨z, hcz, HZ, -⟩ := HI.out.cell_ hkn
      rcases Bool.eq_false_or_eq_true (badB f z) with hb | hb
      · go_wp2_with (go_at_call 57; refine (isWord1_any z f g _ HC.out).mono ?_; rintro e w1 ⟨rfl, rfl⟩; rw [hb])
        go_ret
        exact ⟨_, rfl, by rw [decide_eq_true (by omega)]; exact (List.any_eq_true.2 ⟨z, List.mem_of_getElem? HZ.out, hb⟩).symm, rfl⟩
      · go_wp2_with (go_at_call 57; refine (isWord1_any z f g _ HC.out).mono ?_; rintro e w1 ⟨rfl, rfl⟩; rw [hb])
        go_roundw
        case rel =>
          refine ⟨k + 1, by go_num, by omega, fun j x hj hx => ?_, trivial⟩
          by_cases e : j = k
          · subst e; rw [HZ.out] at hx; injection hx with hx; subst hx; exact hb
          · exact HK.out j x (by omega) hx
        case measure => simp [intOf]; omega
    · obtain rfl : k = n := by omega
      go_wp2_with fail
      go_ret
      exact ⟨_, rfl, by rw [any_to HL.out HK.out]; decide, rfl⟩
theorem containsFunc_w {p : Nat} (v : Value) (l : List Int) (f : Int) (g : Nat) (w : World) (hI : IsI p w v l) (hc : w.cell? ⟨g, 0, none⟩ = some (.int .i64 f)) :
    Calls Tryd.prog 41 #[v, .func (.func 57) #[] #[.pointer (some ⟨g, 0, none⟩)]] w fun e w' => e = .returned (.bool (l.any (badB f))) ∧ w' = w := by
  obtain ⟨A, n, c, rfl, -⟩ := hI.open_
  have HI := Lib.hid hI
  have HC := Lib.hid hc
  clear hI hc
  go_enter Tryd.func41, Tryd.ntmps41
  go_wp2_with (go_at_call 56; refine (indexFunc_w _ l f g _ HI.out HC.out).mono ?_; rintro e w1 ⟨r, rfl, hr, rfl⟩)
  go_ret
  exact ⟨rfl, rfl⟩

set_option maxHeartbeats 2000000 in
theorem indexFunc_e {p : Nat} (v : Value) (l : List Int) (w : World) (hI : IsI p w v l) :
    Calls Tryd.prog 56 #[v, .func (.func 42) #[] #[]] w fun e w' => ∃ r, e = .returned (.int .i64 r) ∧ decide (0 ≤ r) = (l.any fun x => !elB x) ∧ w' = w := by
  obtain ⟨A, n, c, rfl, hnc, hcc, hnn, HL⟩ := hI.open_
  have HI := Lib.hid hI
  clear hI
  go_enter Tryd.func56, Tryd.ntmps56
  go_wp2_with fail
  go_loopw [8] (fun i wr => ∃ (k : Nat), i = .int .i64 k ∧ k ≤ n ∧ Hid (∀ j x, j < k → l[j]? = some x → (!elB x) = false) ∧ wr = w) (fun i _ => n - (intOf i).toNat)
  case atStart => exact ⟨0, rfl, by omega, fun j x hj => by omega, rfl⟩
  case round =>
    obtain ⟨k, rfl, hk, HK, rfl⟩ := hrel
    by_cases hkn : k < n
    · obtain ⟨b, o, z, rfl, -⟩ := HI.out.at_ hkn
      obtain ⟨z, hcz, HZ, z1, z2⟩ := HI.out.cell_ hkn
      rcases Bool.eq_false_or_eq_true (!elB z) with hb | hb
      · go_wp2_with (go_at_call 42; refine (encode1_any z _ ⟨z1, z2⟩).mono ?_; rintro e w1 ⟨rfl, rfl⟩; rw [hb])
        go_ret
        exact ⟨_, rfl, by rw [decide_eq_true (by omega)]; exact (List.any_eq_true.2 ⟨z, List.mem_of_getElem? HZ.out, hb⟩).symm, rfl⟩
      · go_wp2_with (go_at_call 42; refine (encode1_any z _ ⟨z1, z2⟩).mono ?_; rintro e w1 ⟨rfl, rfl⟩; rw [hb])
        go_roundw
        case rel =>
          refine ⟨k + 1, by go_num, by omega, fun j x hj hx => ?_, trivial⟩
          by_cases e : j = k
          · subst e; rw [HZ.out] at hx; injection hx with hx; subst hx; exact hb
          · exact HK.out j x (by omega) hx
        case measure => simp [intOf]; omega
    · obtain rfl : k = n := by omega
      go_wp2_with fail
      go_ret
      exact ⟨_, rfl, by rw [any_to HL.out HK.out]; decide, rfl⟩
theorem containsFunc_e {p : Nat} (v : Value) (l : List Int) (w : World) (hI : IsI p w v l) :
    Calls Tryd.prog 41 #[v, .func (.func 42) #[] #[]] w fun e w' => e = .returned (.bool (l.any fun x => !elB x)) ∧ w' = w := by
  obtain ⟨A, n, c, rfl, -⟩ := hI.open_
  have HI := Lib.hid hI
  clear hI
  go_enter Tryd.func41, Tryd.ntmps41
  go_wp2_with (go_at_call 56; refine (indexFunc_e _ l _ HI.out).mono ?_; rintro e w1 ⟨r, rfl, hr, rfl⟩)
  go_ret
  exact ⟨rfl, rfl⟩

/-- A list of 7 to 15 symbols from f on. -/
def wordB (f : Int) (l : List Int) : Bool := decide (7 ≤ l.length) && (decide (l.length ≤ 15) && !l.any (badB f))
set_option maxHeartbeats 2000000 in
theorem isWord_any {p : Nat} (v : Value) (l : List Int) (f : Int) (w : World) (hI : IsI p w v l) :
    Calls Tryd.prog 47 #[v, .int .i64 f] w fun e w' => e = .returned (.bool (wordB f l)) ∧ Ext w w' := by
  obtain ⟨A, n, c, rfl, hnc, hc, hnn, HL⟩ := hI.open_
  have HI := Lib.hid hI
  clear hI
  by_cases h7 : 7 ≤ n
  · by_cases h15 : n ≤ 15
    · go_enter Tryd.func47, Tryd.ntmps47
      go_wp2_with (go_at_call 41; refine (containsFunc_w _ l f w.heap.size _ (HI.out.ext ((Ext.refl _).alloc _)) (blk_cell (heap_alloc_new w _) (i := 0) rfl)).mono ?_; rintro e w1 ⟨rfl, rfl⟩)
      go_ret
      exact ⟨ret_bool (by unfold wordB; rw [HL.out]; simp [h7, h15]), (Ext.refl _).alloc _⟩
    · go_enter Tryd.func47, Tryd.ntmps47
      go_wp2_with fail
      go_ret
      exact ⟨ret_bool (by unfold wordB; rw [HL.out]; simp [h15]), (Ext.refl _).alloc _⟩
  · go_enter Tryd.func47, Tryd.ntmps47
    go_wp2_with fail
    go_ret
    exact ⟨ret_bool (by unfold wordB; rw [HL.out]; simp [h7]), (Ext.refl _).alloc _⟩
end Go.Proofs.YtlabmdekdhjofaaDoor
