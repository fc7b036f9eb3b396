/- rscode.Mul, Inverse, Power: the tables as they are laid. -/
import Derived.Test.YtlabmdekdhjofaaDoorTape
import Derived.Test.YtlabmdekdhjofaaDoorGf
import Derived.Laws.BitsAllLaws
namespace Go.Proofs.YtlabmdekdhjofaaDoor
open Go.RowKit

/-- The tables powers and logs, as the program's text lays them. -/
def Tabs (w : World) : Prop :=
  (∀ k, k < 31 → w.cell? ⟨0, k, none⟩ = some (.int .i64 ((pwL.getD k 0 : Nat) : Int))) ∧
  (∀ k, k < 32 → w.cell? ⟨1, k, none⟩ = some (.int .i64 ((lgL.getD k 0 : Nat) : Int)))
theorem Tabs.lt {w : World} (h : Tabs w) : 2 ≤ w.heap.size := by
  have h1 := lt_of_cell (h.1 0 (by decide))
  have h2 := lt_of_cell (h.2 0 (by decide))
  simp only at h1 h2
  omega
theorem Tabs.ext {w w' : World} (h : Tabs w) (e : Ext w w') : Tabs w' := ⟨fun k hk => e.cell (h.1 k hk), fun k hk => e.cell (h.2 k hk)⟩
theorem Tabs.xt {w w' : World} {p : Nat} (h : Tabs w) (e : XT p w w') (hp : 2 ≤ p) : Tabs w' := ⟨fun k hk => e.cell (h.1 k hk) (by simp only; omega), fun k hk => e.cell (h.2 k hk) (by simp only; omega)⟩
theorem Tabs.drewN {w : World} (h : Tabs w) (n : Nat) : Tabs (w.drewN n) := h.ext ((Ext.refl _).drewN n)

def elB (a : Int) : Bool := decide (0 ≤ a) && decide (a < 32)
/-- rscode.Mul, of whatever numbers. -/
def mulZ (a b : Int) : Int := if elB a && elB b then (mulN a.toNat b.toNat : Int) else 0
def invZ (a : Int) : Int := if elB a && decide (a ≠ 0) then ((pwL.getD ((31 - lgL.getD a.toNat 0) % 31) 0 : Nat) : Int) else 0
def powZ (n : Int) : Int := ((pwL.getD (n % 31).toNat 0 : Nat) : Int)

theorem lg_bd : ∀ k : Fin 32, lgL.getD k.val 0 ≤ 30 := by decide +kernel
theorem isElement_any (a : Int) (w : World) (h1 : -9223372036854775808 ≤ a) (h2 : a ≤ 9223372036854775807) :
    Calls Tryd.prog 38 #[.int .i64 a] w fun e w' => e = .returned (.bool (elB a)) ∧ w = w' := by
  by_cases c1 : 0 ≤ a
  · by_cases c2 : a < 32
    · go_enter Tryd.func38, Tryd.ntmps38
      go_wp2
      go_ret
      exact ⟨ret_bool (by simp [elB, c1, c2]), rfl⟩
    · go_enter Tryd.func38, Tryd.ntmps38
      go_wp2
      go_ret
      exact ⟨ret_bool (by simp [elB, c1, c2]), rfl⟩
  · go_enter Tryd.func38, Tryd.ntmps38
    go_wp2
    go_ret
    exact ⟨ret_bool (by unfold elB; rw [decide_eq_false (by omega)]; rfl), rfl⟩

theorem mulZ_el (a b : Nat) (ha : a < 32) (hb : b < 32) : mulZ a b = (mulN a b : Int) := by
  unfold mulZ elB
  rw [if_pos (by simp; omega)]
  simp

set_option maxHeartbeats 4000000 in
theorem mul_any (a b : Int) (w : World) (hT : Tabs w) (h1 : -9223372036854775808 ≤ a) (h2 : a ≤ 9223372036854775807) (h3 : -9223372036854775808 ≤ b) (h4 : b ≤ 9223372036854775807) :
    Calls Tryd.prog 15 #[.int .i64 a, .int .i64 b] w fun e w' => e = .returned (.int .i64 (mulZ a b)) ∧ ∃ n, w' = w.drewN n := by
  by_cases c : elB a = true ∧ elB b = true ∧ a ≠ 0 ∧ b ≠ 0
  · obtain ⟨ca, cb, za, zb⟩ := c
    have ea := ca
    have eb := cb
    unfold elB at ea eb
    simp only [Bool.and_eq_true, decide_eq_true_eq] at ea eb
    obtain ⟨x, rfl⟩ := Int.eq_ofNat_of_zero_le ea.1
    obtain ⟨y, rfl⟩ := Int.eq_ofNat_of_zero_le eb.1
    have hx : x < 32 := by omega
    have hy : y < 32 := by omega
    have l1 := hT.2 x hx
    have l2 := hT.2 y hy
    have b1 : lgL.getD x 0 ≤ 30 := lg_bd ⟨x, hx⟩
    have b2 : lgL.getD y 0 ≤ 30 := lg_bd ⟨y, hy⟩
    have hm : (lgL.getD x 0 + lgL.getD y 0) % 31 < 31 := Nat.mod_lt _ (by decide)
    have l3 := hT.1 _ hm
    have HF : Hid (((pwL.getD ((lgL.getD x 0 + lgL.getD y 0) % 31) 0 : Nat) : Int) = mulZ x y) := by
      show _ = _
      rw [mulZ_el x y hx hy]
      unfold mulN
      rw [if_neg (by omega), if_neg (by omega)]
    generalize lgL.getD x 0 = p at *
    generalize lgL.getD y 0 = q at *
    generalize hr : (p + q) % 31 = r at *
    have hr' : ((p : Int) + (q : Int)).tmod 31 = (r : Int) := by rw [Int.tmod_eq_emod_of_nonneg (by omega)]; omega
    clear hT hr
    generalize pwL.getD r 0 = z at *
    have n1 : ((x : Int) == 0) = false := by simp; omega
    have n2 : ((y : Int) == 0) = false := by simp; omega
    clear za zb ea eb
    go_enter Tryd.func15, Tryd.ntmps15
    go_wp2_with fail
    refine (isElement_any (x : Int) _ (by omega) (by omega)).mono ?_
    rintro e w1 ⟨rfl, rfl⟩
    rw [ca]
    go_wp2_with fail
    refine (isElement_any (y : Int) _ (by omega) (by omega)).mono ?_
    rintro e w1 ⟨rfl, rfl⟩
    rw [cb]
    go_wp2_with fail
    go_quiet (fail)
    go_wp2
    go_ret
    exact ⟨ret_int HF.out, _, rfl⟩
  · have HZ : Hid (mulZ a b = 0) := by
      show _ = _
      unfold mulZ
      split
      · rename_i hh
        simp only [Bool.and_eq_true] at hh
        have : a = 0 ∨ b = 0 := by
          by_cases e : a = 0
          · exact .inl e
          · exact .inr (Classical.byContradiction fun e2 => c ⟨hh.1, hh.2, e, e2⟩)
        rcases this with rfl | rfl
        · simp [mulN]
        · simp [mulN]
      · rfl
    have HC := Lib.hid c
    clear c
    rcases Bool.eq_false_or_eq_true (elB a) with ca | ca
    · rcases Bool.eq_false_or_eq_true (elB b) with cb | cb
      · by_cases za : a = 0
        · subst za
          go_enter Tryd.func15, Tryd.ntmps15
          go_wp2_with fail
          refine (isElement_any 0 _ (by omega) (by omega)).mono ?_
          rintro e w1 ⟨rfl, rfl⟩
          rw [ca]
          go_wp2_with fail
          refine (isElement_any b _ (by omega) (by omega)).mono ?_
          rintro e w1 ⟨rfl, rfl⟩
          rw [cb]
          go_wp2_with fail
          go_ret
          exact ⟨ret_int HZ.out.symm, 0, rfl⟩
        · have zb : b = 0 := Classical.byContradiction fun e => HC.out ⟨ca, cb, za, e⟩
          subst zb
          have n1 : (a == 0) = false := by simp [za]
          clear za
          go_enter Tryd.func15, Tryd.ntmps15
          go_wp2_with fail
          refine (isElement_any a _ (by omega) (by omega)).mono ?_
          rintro e w1 ⟨rfl, rfl⟩
          rw [ca]
          go_wp2_with fail
          refine (isElement_any 0 _ (by omega) (by omega)).mono ?_
          rintro e w1 ⟨rfl, rfl⟩
          rw [cb]
          go_wp2_with fail
          go_ret
          exact ⟨ret_int HZ.out.symm, 0, rfl⟩
      · go_enter Tryd.func15, Tryd.ntmps15
        go_wp2_with fail
        refine (isElement_any a _ (by omega) (by omega)).mono ?_
        rintro e w1 ⟨rfl, rfl⟩
        rw [ca]
        go_wp2_with fail
        refine (isElement_any b _ (by omega) (by omega)).mono ?_
        rintro e w1 ⟨rfl, rfl⟩
        rw [cb]
        go_wp2_with fail
        go_ret
        exact ⟨ret_int HZ.out.symm, 0, rfl⟩
    · go_enter Tryd.func15, Tryd.ntmps15
      go_wp2_with (go_at_call 38; refine (isElement_any a _ (by omega) (by omega)).mono ?_; rintro e w1 ⟨rfl, rfl⟩; rw [ca])
      go_ret
      exact ⟨ret_int HZ.out.symm, 0, rfl⟩

set_option maxHeartbeats 4000000 in
theorem inverse_any (a : Int) (w : World) (hT : Tabs w) (h1 : -9223372036854775808 ≤ a) (h2 : a ≤ 9223372036854775807) :
    Calls Tryd.prog 17 #[.int .i64 a] w fun e w' => e = .returned (.int .i64 (invZ a)) ∧ w' = w := by
  rcases Bool.eq_false_or_eq_true (elB a) with ca | ca
  · by_cases za : a = 0
    · subst za
      go_enter Tryd.func17, Tryd.ntmps17
      go_wp2_with (go_at_call 38; refine (isElement_any 0 _ (by omega) (by omega)).mono ?_; rintro e w1 ⟨rfl, rfl⟩; rw [ca])
      go_ret
      exact ⟨ret_int (by decide), rfl⟩
    · have ea := ca
      unfold elB at ea
      simp only [Bool.and_eq_true, decide_eq_true_eq] at ea
      obtain ⟨x, rfl⟩ := Int.eq_ofNat_of_zero_le ea.1
      have hx : x < 32 := by omega
      have l1 := hT.2 x hx
      have b1 : lgL.getD x 0 ≤ 30 := lg_bd ⟨x, hx⟩
      have hm : (31 - lgL.getD x 0) % 31 < 31 := Nat.mod_lt _ (by decide)
      have l3 := hT.1 _ hm
      have HF : Hid (((pwL.getD ((31 - lgL.getD x 0) % 31) 0 : Nat) : Int) = invZ x) := by
        show _ = _
        unfold invZ
        rw [ca, if_pos (by simp; omega)]
        simp
      generalize lgL.getD x 0 = p at *
      generalize hr : (31 - p) % 31 = r at *
      have hr' : ((31 : Int) - (p : Int)).tmod 31 = (r : Int) := by rw [Int.tmod_eq_emod_of_nonneg (by omega)]; omega
      clear hT hr
      generalize pwL.getD r 0 = z at *
      have n1 : ((x : Int) == 0) = false := by simp; omega
      clear za ea
      go_enter Tryd.func17, Tryd.ntmps17
      go_wp2_with (go_at_call 38; refine (isElement_any (x : Int) _ (by omega) (by omega)).mono ?_; rintro e w1 ⟨rfl, rfl⟩; rw [ca])
      go_ret
      exact ⟨ret_int HF.out, rfl⟩
  · go_enter Tryd.func17, Tryd.ntmps17
    go_wp2_with (go_at_call 38; refine (isElement_any a _ (by omega) (by omega)).mono ?_; rintro e w1 ⟨rfl, rfl⟩; rw [ca])
    go_ret
    exact ⟨ret_int (by unfold invZ; rw [ca]; rfl), rfl⟩

set_option maxHeartbeats 4000000 in
theorem power_any (n : Int) (w : World) (hT : Tabs w) (h1 : -9223372036854775808 ≤ n) (h2 : n ≤ 9223372036854775807) :
    Calls Tryd.prog 20 #[.int .i64 n] w fun e w' => e = .returned (.int .i64 (powZ n)) ∧ w' = w := by
  have h0 : 0 ≤ n % 31 := Int.emod_nonneg _ (by decide)
  have h31 : n % 31 < 31 := Int.emod_lt_of_pos _ (by decide)
  have hb1 : -31 < n.tmod 31 := Int.lt_tmod_of_pos n (by decide)
  have hb2 : n.tmod 31 < 31 := Int.tmod_lt_of_pos n (by decide)
  have HE : Hid (n.tmod 31 = n % 31 ∨ n.tmod 31 + 31 = n % 31) := by
    have := @Int.tmod_eq_emod n 31
    show _ ∨ _
    split at this <;> omega
  obtain ⟨k, hk⟩ : ∃ k : Nat, n % 31 = k := ⟨(n % 31).toNat, by omega⟩
  have l3 := hT.1 k (by omega)
  have HP : Hid (((pwL.getD k 0 : Nat) : Int) = powZ n) := by
    show _ = _
    unfold powZ
    rw [hk]; rfl
  clear hT
  generalize pwL.getD k 0 = z at *
  by_cases c : n.tmod 31 < 0
  · have e1 : n.tmod 31 + 31 = (k : Int) := by have := HE.out; omega
    clear hk h0 h31
    go_enter Tryd.func20, Tryd.ntmps20
    go_wp2
    go_ret
    exact ⟨ret_int HP.out, rfl⟩
  · have e1 : n.tmod 31 = (k : Int) := by have := HE.out; omega
    clear hk h0 h31
    go_enter Tryd.func20, Tryd.ntmps20
    go_wp2
    go_ret
    exact ⟨ret_int HP.out, rfl⟩
end Go.Proofs.YtlabmdekdhjofaaDoor
