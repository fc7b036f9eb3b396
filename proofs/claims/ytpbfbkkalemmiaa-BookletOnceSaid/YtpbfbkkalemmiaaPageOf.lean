/- PageOf and the reference's PageOf; Contains, Index, Has; the comparison of lists. -/
import Derived.Test.YtpbfbkkalemmiaaBaseC
import Derived.Test.YtpbfbkkalemmiaaRows
namespace Go.Proofs.Ytpbfbkkalemmiaa
open Go.RowKit

/-- The index of the first element that f accepts, or -1. -/
def idxG {α : Type} (f : α → Bool) (l : List α) : Int := if l.any f then (l.findIdx f : Int) else -1
section
variable {α : Type} {f : α → Bool} {l : List α} {k : Nat} {x : α}
theorem idxG_hit (h : l[k]? = some x) (hp : f x = true) (hn : ∀ j y, j < k → l[j]? = some y → f y = false) : (k : Int) = idxG f l := by
  obtain ⟨hk, rfl⟩ := List.getElem?_eq_some_iff.1 h
  have : l.any f = true := List.any_eq_true.2 ⟨_, List.getElem_mem hk, hp⟩
  rw [idxG, if_pos this]
  congr 1
  symm
  rw [List.findIdx_eq hk]
  exact ⟨hp, fun j hj => hn j _ hj (List.getElem?_eq_getElem (by omega))⟩
theorem idxG_miss {n : Nat} (hl : l.length = n) (hn : ∀ j y, j < n → l[j]? = some y → f y = false) : -1 = idxG f l := by
  rw [idxG, if_neg]
  rw [List.any_eq_true]
  rintro ⟨x, hx, hp⟩
  obtain ⟨j, hj⟩ := List.getElem?_of_mem hx
  have := hn j x (by have := (List.getElem?_eq_some_iff.1 hj).1; omega) hj
  simp [hp] at this
theorem idxG_any (f : α → Bool) (l : List α) : decide (0 ≤ idxG f l) = l.any f := by
  unfold idxG; split <;> simp_all
/-- Nothing among the first k is accepted. -/
def NoneTo (f : α → Bool) (l : List α) (k : Nat) : Prop := ∀ j y, j < k → l[j]? = some y → f y = false
theorem NoneTo.zero (f : α → Bool) (l : List α) : NoneTo f l 0 := fun j y hj => by omega
theorem NoneTo.succ (h : NoneTo f l k) (hx : l[k]? = some x) (hp : f x = false) : NoneTo f l (k + 1) := by
  intro j y hj hy
  by_cases e : j = k
  · subst e; rw [hx] at hy; rw [← Option.some.inj hy]; exact hp
  · exact h j y (by omega) hy
theorem any_hit (h : l[k]? = some x) (hp : f x = true) : true = l.any f := (List.any_eq_true.2 ⟨x, List.mem_of_getElem? h, hp⟩).symm
theorem any_miss {n : Nat} (hl : l.length = n) (hn : NoneTo f l n) : false = l.any f := by
  symm
  rw [List.any_eq_false]
  intro x hx
  obtain ⟨j, hj⟩ := List.getElem?_of_mem hx
  have := hn j x (by have := (List.getElem?_eq_some_iff.1 hj).1; omega) hj
  simp [this]
end

/-- x is in the list. -/
def hasB (x : Int) (l : List Int) : Bool := l.any fun y => decide (y = x)
/-- The first page of a part. -/
def pageOf (pgs : List (List Int)) (x : Int) : Int := idxG (hasB x) pgs

set_option maxHeartbeats 400000 in
theorem index_any (v : Value) (l : List Int) (x : Int) (w : World) {p : Nat} (h : IsI p w v l) :
    Calls Try.prog 47 #[v, .int .i64 x] w fun e w' => e = .returned (.int .i64 (idxG (fun y => decide (y = x)) l)) ∧ w = w' := by
  obtain ⟨A, n, c, rfl, hnc, hc, hnn, HL⟩ := h.open_
  have H := Lib.hid h
  clear h
  go_enter Try.func47, Try.ntmps47
  go_wp2
  go_loop [8] (fun i => ∃ k : Nat, k ≤ n ∧ i = .int .i64 k ∧ Hid (NoneTo (fun y => decide (y = x)) l k)) (fun i => n - (intOf i).toNat)
  case atStart => exact ⟨0, Nat.zero_le _, rfl, NoneTo.zero _ _⟩
  case round =>
    obtain ⟨k, hk, rfl, HK⟩ := hrel
    by_cases hlt : k < n
    · obtain ⟨b, off, y, rfl, hcy, HY, hy1, hy2⟩ := H.out.at_ hlt
      by_cases e : x = y
      · have e1 : (x == y) = true := by simp [e]
        have E := Lib.hid e
        clear e
        go_wp2
        go_ret
        exact ⟨ret_int (idxG_hit HY.out (by simp [E.out]) HK.out), rfl⟩
      · have e1 : (x == y) = false := by simp [e]
        have E := Lib.hid e
        clear e
        go_wp2
        go_round
        case rel => exact ⟨k + 1, by omega, by go_num, HK.out.succ HY.out (by simp; exact fun h => E.out h.symm)⟩
        case measure => simp [intOf]; omega
    · obtain rfl : k = n := by omega
      go_wp2
      go_ret
      exact ⟨ret_int (idxG_miss HL.out HK.out), rfl⟩

theorem contains_any (v : Value) (l : List Int) (x : Int) (w : World) {p : Nat} (h : IsI p w v l) :
    Calls Try.prog 43 #[v, .int .i64 x] w fun e w' => e = .returned (.bool (hasB x l)) ∧ w = w' := by
  have H := Lib.hid h
  clear h
  go_enter Try.func43, Try.ntmps43
  go_wp2_with (go_at_call 47; refine (index_any _ l _ _ H.out).mono ?_; rintro e w' ⟨rfl, rfl⟩)
  go_ret
  exact ⟨ret_bool (idxG_any _ _), rfl⟩

theorem onPage_any (v : Value) (l : List Int) (x : Int) (g : Nat) (w : World) {p : Nat} (h : IsI p w v l) (hc : w.cell? ⟨g, 0, none⟩ = some (.int .i64 x)) :
    Calls Try.prog 42 #[v, .pointer (some ⟨g, 0, none⟩)] w fun e w' => e = .returned (.bool (hasB x l)) ∧ w = w' := by
  have H := Lib.hid h
  clear h
  go_enter Try.func42, Try.ntmps42
  go_wp2_with (go_at_call 43; refine (contains_any _ l _ _ H.out).mono ?_; rintro e w' ⟨rfl, rfl⟩)
  go_ret
  exact ⟨rfl, rfl⟩

set_option maxHeartbeats 800000 in
theorem indexPage_any (v : Value) (pgs : List (List Int)) (x : Int) (g : Nat) (w : World) {p : Nat} (h : IsP p w v pgs) (hc : w.cell? ⟨g, 0, none⟩ = some (.int .i64 x)) :
    Calls Try.prog 41 #[v, .func (.func 42) #[] #[.pointer (some ⟨g, 0, none⟩)]] w fun e w' => e = .returned (.int .i64 (pageOf pgs x)) ∧ w = w' := by
  obtain ⟨A, n, c, rfl, hnc, hc', hnn, HL⟩ := h.open_
  have H := Lib.hid h
  have HC := Lib.hid hc
  clear h hc
  go_enter Try.func41, Try.ntmps41
  go_wp2_with fail
  go_loop [8] (fun i => ∃ k : Nat, k ≤ n ∧ i = .int .i64 k ∧ Hid (NoneTo (hasB x) pgs k)) (fun i => n - (intOf i).toNat)
  case atStart => exact ⟨0, Nat.zero_le _, rfl, NoneTo.zero _ _⟩
  case round =>
    obtain ⟨k, hk, rfl, HK⟩ := hrel
    by_cases hlt : k < n
    · obtain ⟨b, off, cs0, l0, rfl, _⟩ := H.out.at_ hlt
      obtain ⟨u, l, hcu, hIu, HX⟩ := H.out.page hlt
      have HIU := Lib.hid hIu
      clear hIu
      cases hb : hasB x l with
      | true =>
        have HBb := Lib.hid hb
        clear hb
        go_wp2_with fail
        refine (onPage_any _ l x g _ HIU.out HC.out).mono ?_
        rintro e w' ⟨rfl, rfl⟩
        rw [HBb.out]
        go_wp2_with fail
        go_ret
        exact ⟨ret_int (idxG_hit HX.out HBb.out HK.out), rfl⟩
      | false =>
        have HBb := Lib.hid hb
        clear hb
        go_wp2_with fail
        refine (onPage_any _ l x g _ HIU.out HC.out).mono ?_
        rintro e w' ⟨rfl, rfl⟩
        rw [HBb.out]
        go_wp2_with fail
        go_round
        case rel => exact ⟨k + 1, by omega, by go_num, HK.out.succ HX.out HBb.out⟩
        case measure => simp [intOf]; omega
    · obtain rfl : k = n := by omega
      go_wp2_with fail
      go_ret
      exact ⟨ret_int (idxG_miss HL.out HK.out), rfl⟩

theorem pageOf_any (v : Value) (pgs : List (List Int)) (x : Int) (w : World) {p : Nat} (h : IsP p w v pgs) :
    Calls Try.prog 25 #[.agg #[v], .int .i64 x] w fun e w' => e = .returned (.int .i64 (pageOf pgs x)) ∧ Ext w w' := by
  obtain ⟨A, n, c, rfl, hnc, hc', hnn, HL⟩ := h.open_
  have H := Lib.hid h
  clear h
  go_enter Try.func25, Try.ntmps25
  go_wp2_with fail
  refine (indexPage_any _ pgs x _ _ ((H.out.ext (RI.stab p) ((Ext.refl _).alloc _)).ext (RI.stab p) ((Ext.refl _).alloc _)) (by simp)).mono ?_
  rintro e w1 ⟨rfl, rfl⟩
  go_wp2_with fail
  go_ret
  exact ⟨rfl, ((Ext.refl _).alloc _).alloc _⟩

end Go.Proofs.Ytpbfbkkalemmiaa
