/- rscode.Mul, Inverse, Power: the tables as they are laid. -/
import Derived.Test.YtcpanmonllhmaaaDoorTape
import Derived.Test.YtcpanmonllhmaaaDoorGGf
import Derived.Laws.BitsAllLaws
set_option linter.unusedSimpArgs false
set_option linter.unusedVariables false
namespace Go.Proofs.YtcpanmonllhmaaaDoor
open Go.RowKit

/-- The tables powers and logs, as the program's text lays them. -/
def Tabs (w : World) : Prop :=
  (∀ k, k < 31 → w.cell? ⟨0, k, none⟩ = some (.int .i64 ((pwL.getD k 0 : Nat) : Int))) ∧
  (∀ k, k < 32 → w.cell? ⟨1, k, none⟩ = some (.int .i64 ((lgL.getD k 0 : Nat) : Int)))
theorem Tabs.lt {w : World} (h : Tabs w) : 2 ≤ w.heap.size := by
  have h1 := lt_of_cell (h.1 0 (by decide))
  have h2 := lt_of_cell (h.2 0 (by decide))
  simp only at h1 h2
  omega
theorem Tabs.ext {w w' : World} (h : Tabs w) (e : Ext w w') : Tabs w' := ⟨fun k hk => e.cell (h.1 k hk), fun k hk => e.cell (h.2 k hk)⟩
theorem Tabs.xt {w w' : World} {p : Nat} (h : Tabs w) (e : XT p w w') (hp : 2 ≤ p) : Tabs w' := ⟨fun k hk => e.cell (h.1 k hk) (by simp only; omega), fun k hk => e.cell (h.2 k hk) (by simp only; omega)⟩
theorem Tabs.drewN {w : World} (h : Tabs w) (n : Nat) : Tabs (w.drewN n) := h.ext ((Ext.refl _).drewN n)

def elB (a : Int) : Bool := decide (0 ≤ a) && decide (a < 32)
/-- rscode.Mul, of whatever numbers. -/
def mulZ (a b : Int) : Int := if elB a && elB b then (mulN a.toNat b.toNat : Int) else 0
def invZ (a : Int) : Int := if elB a && decide (a ≠ 0) then ((pwL.getD ((31 - lgL.getD a.toNat 0) % 31) 0 : Nat) : Int) else 0
def powZ (n : Int) : Int := ((pwL.getD (n % 31).toNat 0 : Nat) : Int)

theorem lg_bd : ∀ k : Fin 32, lgL.getD k.val 0 ≤ 30 := by decide +kernel
theorem isElement_any (a : Int) (w : World) (h1 : -9223372036854775808 ≤ a) (h2 : a ≤ 9223372036854775807) :
    Calls Tryd.prog 59 #[.int .i64 a] w fun e w' => e = .returned (.bool (elB a)) ∧ w = w' := by
  by_cases c1 : 0 ≤ a
  · by_cases c2 : a < 32
    · go_enter Tryd.func59, Tryd.ntmps59
      go_wp2
      go_ret
      exact ⟨ret_bool (by simp [elB, c1, c2]), rfl⟩
    · go_enter Tryd.func59, Tryd.ntmps59
      go_wp2
      go_ret
      exact ⟨ret_bool (by simp [elB, c1, c2]), rfl⟩
  · go_enter Tryd.func59, Tryd.ntmps59
    go_wp2
    go_ret
    exact ⟨ret_bool (by unfold elB; rw [decide_eq_false (by omega)]; rfl), rfl⟩

theorem mulZ_el (a b : Nat) (ha : a < 32) (hb : b < 32) : mulZ a b = (mulN a b : Int) := by
  unfold mulZ elB
  rw [if_pos (by simp; omega)]
  simp

set_option maxRecDepth 100000 in
set_option maxHeartbeats 4000000 in
theorem mul_any (a b : Int) (w : World) (hT : Tabs w) (h1 : -9223372036854775808 ≤ a) (h2 : a ≤ 9223372036854775807) (h3 : -9223372036854775808 ≤ b) (h4 : b ≤ 9223372036854775807) :
    Calls Tryd.prog 61 #[.int .i64 a, .int .i64 b] w fun e w' => e = .returned (.int .i64 (mulZ a b)) ∧ ∃ n, w' = w.drewN n := by
  by_cases c : elB a = true ∧ elB b = true ∧ a ≠ 0 ∧ b ≠ 0
  · obtain ⟨ca, cb, za, zb⟩ := c
    have ea := ca
    have eb := cb
    unfold elB at ea eb
    simp only [Bool.and_eq_true, decide_eq_true_eq] at ea eb
    obtain ⟨x, rfl⟩ := Int.eq_ofNat_of_zero_le ea.1
    obtain ⟨y, rfl⟩ := Int.eq_ofNat_of_zero_le eb.1
    have hx : x < 32 := by omega
    have hy : y < 32 := by omega
    have l1 := hT.2 x hx
    have l2 := hT.2 y hy
    have b1 : lgL.getD x 0 ≤ 30 := lg_bd ⟨x, hx⟩
    have b2 : lgL.getD y 0 ≤ 30 := lg_bd ⟨y, hy⟩
    have hm : (lgL.getD x 0 + lgL.getD y 0) % 31 < 31 := Nat.mod_lt _ (by decide)
    have l3 := hT.1 _ hm
    have HF : Hid (((pwL.getD ((lgL.getD x 0 + lgL.getD y 0) % 31) 0 : Nat) : Int) = mulZ x y) := by
      show _ = _
      rw [mulZ_el x y hx hy]
      unfold mulN
      rw [if_neg (by omega), if_neg (by omega)]
    generalize lgL.getD x 0 = p at *
    generalize lgL.getD y 0 = q at *
    generalize hr : (p + q) % 31 = r at *
    have hr' : ((p : Int) + (q : Int)).tmod 31 = (r : Int) := by rw [Int.tmod_eq_emod_of_nonneg (by omega)]; omega
    clear hT hr
    generalize pwL.getD r 0 = z at *
    have n1 : ((x : Int) == 0) = false := by simp; omega
    have n2 : ((y : Int) == 0) = false := by simp; omega
    clear za zb ea eb
    go_enter Tryd.func61, Tryd.ntmps61
    go_wp2_with fail
    refine (isElement_any (x : Int) _ (by omega) (by omega)).mono ?_
    rintro e w1 ⟨rfl, rfl⟩
    rw [ca]
    go_wp2_with fail
    refine (isElement_any (y : Int) _ (by omega) (by omega)).mono ?_
    rintro e w1 ⟨rfl, rfl⟩
    rw [cb]
    go_wp2_with fail
    go_quiet (fail)
    go_wp2
    go_ret
    exact ⟨ret_int HF.out, _, rfl⟩
  · have HZ : Hid (mulZ a b = 0) := by
      show _ = _
      unfold mulZ
      split
      · rename_i hh
        simp only [Bool.and_eq_true] at hh
        have : a = 0 ∨ b = 0 := by
          by_cases e : a = 0
          · exact .inl e
          · exact .inr (Classical.byContradiction fun e2 => c ⟨hh.1, hh.2, e, e2⟩)
        rcases this with rfl | rfl
        · simp [mulN]
        · simp [mulN]
      · rfl
    have HC := Lib.hid c
    clear c
    rcases Bool.eq_false_or_eq_true (elB a) with ca | ca
    · rcases Bool.eq_false_or_eq_true (elB b) with cb | cb
      · by_cases za : a = 0
        · subst za
          go_enter Tryd.func61, Tryd.ntmps61
          go_wp2_with fail
          refine (isElement_any 0 _ (by omega) (by omega)).mono ?_
          rintro e w1 ⟨rfl, rfl⟩
          rw [ca]
          go_wp2_with fail
          refine (isElement_any b _ (by omega) (by omega)).mono ?_
          rintro e w1 ⟨rfl, rfl⟩
          rw [cb]
          go_wp2_with fail
          go_ret
          exact ⟨ret_int HZ.out.symm, 0, rfl⟩
        · have zb : b = 0 := Classical.byContradiction fun e => HC.out ⟨ca, cb, za, e⟩
          subst zb
          have n1 : (a == 0) = false := by simp [za]
          clear za
          go_enter Tryd.func61, Tryd.ntmps61
          go_wp2_with fail
          refine (isElement_any a _ (by omega) (by omega)).mono ?_
          rintro e w1 ⟨rfl, rfl⟩
          rw [ca]
          go_wp2_with fail
          refine (isElement_any 0 _ (by omega) (by omega)).mono ?_
          rintro e w1 ⟨rfl, rfl⟩
          rw [cb]
          go_wp2_with fail
          go_ret
          exact ⟨ret_int HZ.out.symm, 0, rfl⟩
      · go_enter Tryd.func61, Tryd.ntmps61
        go_wp2_with fail
        refine (isElement_any a _ (by omega) (by omega)).mono ?_
        rintro e w1 ⟨rfl, rfl⟩
        rw [ca]
        go_wp2_with fail
        refine (isElement_any b _ (by omega) (by omega)).mono ?_
        rintro e w1 ⟨rfl, rfl⟩
        rw [cb]
        go_wp2_with fail
        go_ret
        exact ⟨ret_int HZ.out.symm, 0, rfl⟩
    · go_enter Tryd.func61, Tryd.ntmps61
      go_wp2_with (go_at_call 59; refine (isElement_any a _ (by omega) (by omega)).mono ?_; rintro e w1 ⟨rfl, rfl⟩; rw [ca])
      go_ret
      exact ⟨ret_int HZ.out.symm, 0, rfl⟩

set_option maxRecDepth 100000 in
set_option maxHeartbeats 4000000 in
theorem inverse_any (a : Int) (w : World) (hT : Tabs w) (h1 : -9223372036854775808 ≤ a) (h2 : a ≤ 9223372036854775807) :
    Calls Tryd.prog 100 #[.int .i64 a] w fun e w' => e = .returned (.int .i64 (invZ a)) ∧ w' = w := by
  rcases Bool.eq_false_or_eq_true (elB a) with ca | ca
  · by_cases za : a = 0
    · subst za
      go_enter Tryd.func100, Tryd.ntmps100
      go_wp2_with (go_at_call 59; refine (isElement_any 0 _ (by omega) (by omega)).mono ?_; rintro e w1 ⟨rfl, rfl⟩; rw [ca])
      go_ret
      exact ⟨ret_int (by decide), rfl⟩
    · have ea := ca
      unfold elB at ea
      simp only [Bool.and_eq_true, decide_eq_true_eq] at ea
      obtain ⟨x, rfl⟩ := Int.eq_ofNat_of_zero_le ea.1
      have hx : x < 32 := by omega
      have l1 := hT.2 x hx
      have b1 : lgL.getD x 0 ≤ 30 := lg_bd ⟨x, hx⟩
      have hm : (31 - lgL.getD x 0) % 31 < 31 := Nat.mod_lt _ (by decide)
      have l3 := hT.1 _ hm
      have HF : Hid (((pwL.getD ((31 - lgL.getD x 0) % 31) 0 : Nat) : Int) = invZ x) := by
        show _ = _
        unfold invZ
        rw [ca, if_pos (by simp; omega)]
        simp
      generalize lgL.getD x 0 = p at *
      generalize hr : (31 - p) % 31 = r at *
      have hr' : ((31 : Int) - (p : Int)).tmod 31 = (r : Int) := by rw [Int.tmod_eq_emod_of_nonneg (by omega)]; omega
      clear hT hr
      generalize pwL.getD r 0 = z at *
      have n1 : ((x : Int) == 0) = false := by simp; omega
      clear za ea
      go_enter Tryd.func100, Tryd.ntmps100
      go_wp2_with (go_at_call 59; refine (isElement_any (x : Int) _ (by omega) (by omega)).mono ?_; rintro e w1 ⟨rfl, rfl⟩; rw [ca])
      go_ret
      exact ⟨ret_int HF.out, rfl⟩
  · go_enter Tryd.func100, Tryd.ntmps100
    go_wp2_with (go_at_call 59; refine (isElement_any a _ (by omega) (by omega)).mono ?_; rintro e w1 ⟨rfl, rfl⟩; rw [ca])
    go_ret
    exact ⟨ret_int (by unfold invZ; rw [ca]; rfl), rfl⟩

set_option maxRecDepth 100000 in
set_option maxHeartbeats 4000000 in
theorem power_any (n : Int) (w : World) (hT : Tabs w) (h1 : -9223372036854775808 ≤ n) (h2 : n ≤ 9223372036854775807) :
    Calls Tryd.prog 82 #[.int .i64 n] w fun e w' => e = .returned (.int .i64 (powZ n)) ∧ w' = w := by
  have h0 : 0 ≤ n % 31 := Int.emod_nonneg _ (by decide)
  have h31 : n % 31 < 31 := Int.emod_lt_of_pos _ (by decide)
  have hb1 : -31 < n.tmod 31 := Int.lt_tmod_of_pos n (by decide)
  have hb2 : n.tmod 31 < 31 := Int.tmod_lt_of_pos n (by decide)
  have HE : Hid (n.tmod 31 = n % 31 ∨ n.tmod 31 + 31 = n % 31) := by
    have := @Int.tmod_eq_emod n 31
    show _ ∨ _
    split at this <;> omega
  obtain ⟨k, hk⟩ : ∃ k : Nat, n % 31 = k := ⟨(n % 31).toNat, by omega⟩
  have l3 := hT.1 k (by omega)
  have HP : Hid (((pwL.getD k 0 : Nat) : Int) = powZ n) := by
    show _ = _
    unfold powZ
    rw [hk]; rfl
  clear hT
  generalize pwL.getD k 0 = z at *
  by_cases c : n.tmod 31 < 0
  · have e1 : n.tmod 31 + 31 = (k : Int) := by have := HE.out; omega
    clear hk h0 h31
    go_enter Tryd.func82, Tryd.ntmps82
    go_wp2
    go_ret
    exact ⟨ret_int HP.out, rfl⟩
  · have e1 : n.tmod 31 = (k : Int) := by have := HE.out; omega
    clear hk h0 h31
    go_enter Tryd.func82, Tryd.ntmps82
    go_wp2
    go_ret
    exact ⟨ret_int HP.out, rfl⟩
end Go.Proofs.YtcpanmonllhmaaaDoor
/- The document's Mul, Inverse, Power. -/
namespace Go.Proofs.YtcpanmonllhmaaaDoor
open Go.RowKit

theorem relement_any (a : Int) (w : World) (h1 : -9223372036854775808 ≤ a) (h2 : a ≤ 9223372036854775807) :
    Calls Tryd.prog 70 #[.int .i64 a] w fun e w' => e = .returned (.bool (elB a)) ∧ w = w' := by
  by_cases c1 : 0 ≤ a
  · by_cases c2 : a < 32
    · go_enter Tryd.func70, Tryd.ntmps70
      go_wp2
      go_ret
      exact ⟨ret_bool (by simp [elB, c1, c2]), rfl⟩
    · go_enter Tryd.func70, Tryd.ntmps70
      go_wp2
      go_ret
      exact ⟨ret_bool (by simp [elB, c1, c2]), rfl⟩
  · go_enter Tryd.func70, Tryd.ntmps70
    go_wp2
    go_ret
    exact ⟨ret_bool (by unfold elB; rw [decide_eq_false (by omega)]; rfl), rfl⟩

def r1 (a b : Nat) : Nat → Nat
  | 0 => 0
  | k + 1 => if b / 2 ^ k % 2 = 1 then r1 a b k ^^^ (a * 2 ^ k) else r1 a b k
def r2 (o : Nat) : Nat → Nat
  | 0 => o
  | m + 1 => if r2 o m / 2 ^ (8 - m) % 2 = 1 then r2 o m ^^^ (37 * 2 ^ (3 - m)) else r2 o m
theorem r1_lt : ∀ (a b : Fin 32) (k : Fin 6), r1 a.val b.val k.val < 512 := by decide +kernel
theorem r2_lt : ∀ (o : Fin 512) (k : Fin 5), r2 o.val k.val < 512 := by decide +kernel
theorem r12 : ∀ (a b : Fin 32), r2 (r1 a.val b.val 5) 4 = mulN a.val b.val := by decide +kernel

theorem i64_wrap_nat (n : Nat) (h : n < 9223372036854775808) : IntKind.i64.wrap (n : Int) = (n : Int) := IntWalk.i64_in _ (by omega)
theorem bits_and1 (x : Nat) (h : x < 9223372036854775808) : bits .and .i64 (x : Int) 1 = ((x % 2 : Nat) : Int) := by
  have e : (BitVec.ofInt 64 (x : Int)).toNat = x := by rw [BitVec.toNat_ofInt]; omega
  show IntKind.i64.wrap ((BitVec.ofInt 64 (x : Int) &&& BitVec.ofInt 64 1).toNat : Int) = _
  rw [BitVec.toNat_and, e]
  have : (BitVec.ofInt 64 1).toNat = 1 := by decide
  rw [this, Nat.and_one_is_mod]
  exact i64_wrap_nat _ (by omega)
theorem bits_xor (x y : Nat) (h : x < 4294967296) (h' : y < 4294967296) : bits .xor .i64 (x : Int) (y : Int) = ((x ^^^ y : Nat) : Int) := by
  have e : ∀ z : Nat, z < 4294967296 → (BitVec.ofInt 64 (z : Int)).toNat = z := fun z hz => by rw [BitVec.toNat_ofInt]; omega
  show IntKind.i64.wrap ((BitVec.ofInt 64 (x : Int) ^^^ BitVec.ofInt 64 (y : Int)).toNat : Int) = _
  rw [BitVec.toNat_xor, e x h, e y h']
  have := Nat.xor_lt_two_pow (n := 32) h h'
  exact i64_wrap_nat _ (by omega)

theorem and_t (b d : Nat) (z : Int) (hz : z = ((b / d : Nat) : Int)) (hb : b < 1024) (h : (bits .and .i64 z 1 == 1) = true) : b / d % 2 = 1 := by
  have := Nat.div_le_self b d
  rw [hz, bits_and1 _ (by omega), beq_iff_eq] at h
  omega
theorem and_f (b d : Nat) (z : Int) (hz : z = ((b / d : Nat) : Int)) (hb : b < 1024) (h : (bits .and .i64 z 1 == 1) = false) : ¬ b / d % 2 = 1 := by
  have := Nat.div_le_self b d
  rw [hz, bits_and1 _ (by omega)] at h
  intro e
  rw [e] at h
  cases h
theorem xor_t (x y : Nat) (z : Int) (hz : z = (y : Int)) (h : x < 4294967296) (h' : y < 4294967296) : bits .xor .i64 (x : Int) z = ((x ^^^ y : Nat) : Int) := by rw [hz]; exact bits_xor x y h h'
set_option maxRecDepth 100000 in
set_option maxHeartbeats 4000000 in
theorem rmul_el (a b : Nat) (w : World) (ha : a < 32) (hb : b < 32) :
    Calls Tryd.prog 91 #[.int .i64 (a : Int), .int .i64 (b : Int)] w fun e w' => e = .returned (.int .i64 (mulZ a b)) ∧ w' = w := by
  have ca : elB (a : Int) = true := by simp [elB]; omega
  have cb : elB (b : Int) = true := by simp [elB]; omega
  have H1 := Lib.hid (fun k (hk : k < 6) => r1_lt ⟨a, ha⟩ ⟨b, hb⟩ ⟨k, hk⟩)
  simp only at H1
  go_enter Tryd.func91, Tryd.ntmps91
  go_wp2_with fail
  refine (relement_any (a : Int) _ (by omega) (by omega)).mono ?_
  rintro e w1 ⟨rfl, rfl⟩
  rw [ca]
  go_wp2_with fail
  refine (relement_any (b : Int) _ (by omega) (by omega)).mono ?_
  rintro e w1 ⟨rfl, rfl⟩
  rw [cb]
  go_wp2_with fail
  go_loopw [5, 6] (fun o i wr => ∃ (k y : Nat), k ≤ 5 ∧ i = .int .i64 k ∧ o = .int .i64 y ∧ y < 512 ∧ Hid (y = r1 a b k) ∧ wr = w) (fun _ i _ => 5 - (intOf i).toNat)
  case atStart => exact ⟨0, 0, by omega, rfl, rfl, by omega, rfl, rfl⟩
  case round =>
    obtain ⟨k, y, hk, rfl, rfl, hy, HY, rfl⟩ := hrel
    have h6 : k = 0 ∨ k = 1 ∨ k = 2 ∨ k = 3 ∨ k = 4 ∨ k = 5 := by omega
    rcases h6 with rfl | rfl | rfl | rfl | rfl | rfl
    · go_wp2_with fail
      · rename_i h
        have hc := and_t b 1 _ (by omega) (by omega) h
        have e : r1 a b 1 = y ^^^ (a * 1) := by rw [HY.out]; show (if _ then _ else _) = _; rw [if_pos hc]
        exact ⟨⟨1, r1 a b 1, by omega, rfl, congrArg (Value.int .i64) (by rw [e]; exact xor_t _ _ _ (by omega) (by omega) (by omega)), H1.out 1 (by omega), rfl, trivial⟩, by decide⟩
      · rename_i h
        have hc := and_f b 1 _ (by omega) (by omega) h
        have e : r1 a b 1 = y := by rw [HY.out]; show (if _ then _ else _) = _; rw [if_neg hc]
        exact ⟨⟨1, r1 a b 1, by omega, rfl, congrArg (Value.int .i64) (by rw [e]), H1.out 1 (by omega), rfl, trivial⟩, by decide⟩
    · go_wp2_with fail
      · rename_i h
        have hc := and_t b 2 _ (by omega) (by omega) h
        have e : r1 a b 2 = y ^^^ (a * 2) := by rw [HY.out]; show (if _ then _ else _) = _; rw [if_pos hc]
        exact ⟨⟨2, r1 a b 2, by omega, rfl, congrArg (Value.int .i64) (by rw [e]; exact xor_t _ _ _ (by omega) (by omega) (by omega)), H1.out 2 (by omega), rfl, trivial⟩, by decide⟩
      · rename_i h
        have hc := and_f b 2 _ (by omega) (by omega) h
        have e : r1 a b 2 = y := by rw [HY.out]; show (if _ then _ else _) = _; rw [if_neg hc]
        exact ⟨⟨2, r1 a b 2, by omega, rfl, congrArg (Value.int .i64) (by rw [e]), H1.out 2 (by omega), rfl, trivial⟩, by decide⟩
    · go_wp2_with fail
      · rename_i h
        have hc := and_t b 4 _ (by omega) (by omega) h
        have e : r1 a b 3 = y ^^^ (a * 4) := by rw [HY.out]; show (if _ then _ else _) = _; rw [if_pos hc]
        exact ⟨⟨3, r1 a b 3, by omega, rfl, congrArg (Value.int .i64) (by rw [e]; exact xor_t _ _ _ (by omega) (by omega) (by omega)), H1.out 3 (by omega), rfl, trivial⟩, by decide⟩
      · rename_i h
        have hc := and_f b 4 _ (by omega) (by omega) h
        have e : r1 a b 3 = y := by rw [HY.out]; show (if _ then _ else _) = _; rw [if_neg hc]
        exact ⟨⟨3, r1 a b 3, by omega, rfl, congrArg (Value.int .i64) (by rw [e]), H1.out 3 (by omega), rfl, trivial⟩, by decide⟩
    · go_wp2_with fail
      · rename_i h
        have hc := and_t b 8 _ (by omega) (by omega) h
        have e : r1 a b 4 = y ^^^ (a * 8) := by rw [HY.out]; show (if _ then _ else _) = _; rw [if_pos hc]
        exact ⟨⟨4, r1 a b 4, by omega, rfl, congrArg (Value.int .i64) (by rw [e]; exact xor_t _ _ _ (by omega) (by omega) (by omega)), H1.out 4 (by omega), rfl, trivial⟩, by decide⟩
      · rename_i h
        have hc := and_f b 8 _ (by omega) (by omega) h
        have e : r1 a b 4 = y := by rw [HY.out]; show (if _ then _ else _) = _; rw [if_neg hc]
        exact ⟨⟨4, r1 a b 4, by omega, rfl, congrArg (Value.int .i64) (by rw [e]), H1.out 4 (by omega), rfl, trivial⟩, by decide⟩
    · go_wp2_with fail
      · rename_i h
        have hc := and_t b 16 _ (by omega) (by omega) h
        have e : r1 a b 5 = y ^^^ (a * 16) := by rw [HY.out]; show (if _ then _ else _) = _; rw [if_pos hc]
        exact ⟨⟨5, r1 a b 5, by omega, rfl, congrArg (Value.int .i64) (by rw [e]; exact xor_t _ _ _ (by omega) (by omega) (by omega)), H1.out 5 (by omega), rfl, trivial⟩, by decide⟩
      · rename_i h
        have hc := and_f b 16 _ (by omega) (by omega) h
        have e : r1 a b 5 = y := by rw [HY.out]; show (if _ then _ else _) = _; rw [if_neg hc]
        exact ⟨⟨5, r1 a b 5, by omega, rfl, congrArg (Value.int .i64) (by rw [e]), H1.out 5 (by omega), rfl, trivial⟩, by decide⟩
    · have HX := HY
      generalize hx : y = x at HX
      have hx5 : x < 512 := by omega
      have H2 := Lib.hid (fun k (hk : k < 5) => r2_lt ⟨x, hx5⟩ ⟨k, hk⟩)
      simp only at H2
      subst hx
      obtain ⟨x, hx⟩ : ∃ x, x = y := ⟨_, rfl⟩
      rw [← hx] at H2 HX
      have HXY := Lib.hid hx
      clear hx HY hx5 hk
      go_wp2_with fail
      go_loopw [5, 7] (fun o i wr' => ∃ (m y : Nat), m ≤ 4 ∧ i = .int .i64 (8 - (m : Int)) ∧ o = .int .i64 y ∧ y < 512 ∧ Hid (y = r2 x m) ∧ wr' = wr) (fun _ i _ => (intOf i).toNat)
      case atStart => exact ⟨0, y, by omega, rfl, rfl, by omega, HXY.out.symm, rfl⟩
      case round =>
        clear hy HXY
        obtain ⟨m, y, hk, rfl, rfl, hy, HY, rfl⟩ := hrel
        have h6 : m = 0 ∨ m = 1 ∨ m = 2 ∨ m = 3 ∨ m = 4 := by omega
        rcases h6 with rfl | rfl | rfl | rfl | rfl
        · go_wp2_with fail
          · rename_i h
            have hc := and_t y 256 _ (by omega) (by omega) h
            have e : r2 x 1 = y ^^^ 296 := by rw [HY.out] at hc ⊢; show (if _ then _ else _) = _; rw [if_pos hc]
            exact ⟨⟨1, r2 x 1, by omega, rfl, congrArg (Value.int .i64) (by rw [e]; exact xor_t _ _ _ (by omega) (by omega) (by omega)), H2.out 1 (by omega), rfl, trivial⟩, by decide⟩
          · rename_i h
            have hc := and_f y 256 _ (by omega) (by omega) h
            have e : r2 x 1 = y := by rw [HY.out] at hc ⊢; show (if _ then _ else _) = _; rw [if_neg hc]
            exact ⟨⟨1, r2 x 1, by omega, rfl, congrArg (Value.int .i64) (by rw [e]), H2.out 1 (by omega), rfl, trivial⟩, by decide⟩
        · go_wp2_with fail
          · rename_i h
            have hc := and_t y 128 _ (by omega) (by omega) h
            have e : r2 x 2 = y ^^^ 148 := by rw [HY.out] at hc ⊢; show (if _ then _ else _) = _; rw [if_pos hc]
            exact ⟨⟨2, r2 x 2, by omega, rfl, congrArg (Value.int .i64) (by rw [e]; exact xor_t _ _ _ (by omega) (by omega) (by omega)), H2.out 2 (by omega), rfl, trivial⟩, by decide⟩
          · rename_i h
            have hc := and_f y 128 _ (by omega) (by omega) h
            have e : r2 x 2 = y := by rw [HY.out] at hc ⊢; show (if _ then _ else _) = _; rw [if_neg hc]
            exact ⟨⟨2, r2 x 2, by omega, rfl, congrArg (Value.int .i64) (by rw [e]), H2.out 2 (by omega), rfl, trivial⟩, by decide⟩
        · go_wp2_with fail
          · rename_i h
            have hc := and_t y 64 _ (by omega) (by omega) h
            have e : r2 x 3 = y ^^^ 74 := by rw [HY.out] at hc ⊢; show (if _ then _ else _) = _; rw [if_pos hc]
            exact ⟨⟨3, r2 x 3, by omega, rfl, congrArg (Value.int .i64) (by rw [e]; exact xor_t _ _ _ (by omega) (by omega) (by omega)), H2.out 3 (by omega), rfl, trivial⟩, by decide⟩
          · rename_i h
            have hc := and_f y 64 _ (by omega) (by omega) h
            have e : r2 x 3 = y := by rw [HY.out] at hc ⊢; show (if _ then _ else _) = _; rw [if_neg hc]
            exact ⟨⟨3, r2 x 3, by omega, rfl, congrArg (Value.int .i64) (by rw [e]), H2.out 3 (by omega), rfl, trivial⟩, by decide⟩
        · go_wp2_with fail
          · rename_i h
            have hc := and_t y 32 _ (by omega) (by omega) h
            have e : r2 x 4 = y ^^^ 37 := by rw [HY.out] at hc ⊢; show (if _ then _ else _) = _; rw [if_pos hc]
            exact ⟨⟨4, r2 x 4, by omega, rfl, congrArg (Value.int .i64) (by rw [e]; exact xor_t _ _ _ (by omega) (by omega) (by omega)), H2.out 4 (by omega), rfl, trivial⟩, by decide⟩
          · rename_i h
            have hc := and_f y 32 _ (by omega) (by omega) h
            have e : r2 x 4 = y := by rw [HY.out] at hc ⊢; show (if _ then _ else _) = _; rw [if_neg hc]
            exact ⟨⟨4, r2 x 4, by omega, rfl, congrArg (Value.int .i64) (by rw [e]), H2.out 4 (by omega), rfl, trivial⟩, by decide⟩
        · go_wp2_with fail
          go_ret
          exact ⟨ret_int (by rw [HY.out, HX.out, r12 ⟨a, ha⟩ ⟨b, hb⟩, mulZ_el a b ha hb]), rfl⟩
end Go.Proofs.YtcpanmonllhmaaaDoor
