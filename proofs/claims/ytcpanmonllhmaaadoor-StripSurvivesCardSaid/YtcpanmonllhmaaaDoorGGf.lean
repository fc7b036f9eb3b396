/- The field with 32 elements, its powers, sums of powers: a list of six or fewer values at different places whose first sums are 0 is zero. No program. -/
import Derived.Lib.Hide
set_option linter.unusedSimpArgs false
set_option linter.unusedVariables false
namespace Go.Proofs.YtcpanmonllhmaaaDoor

def pwL : List Nat := [1, 2, 4, 8, 16, 5, 10, 20, 13, 26, 17, 7, 14, 28, 29, 31, 27, 19, 3, 6, 12, 24, 21, 15, 30, 25, 23, 11, 22, 9, 18]
def lgL : List Nat := [0, 0, 1, 18, 2, 5, 19, 11, 3, 29, 6, 27, 20, 8, 12, 23, 4, 10, 30, 17, 7, 22, 28, 26, 21, 25, 9, 16, 13, 14, 24, 15]
def mulN (a b : Nat) : Nat := if a = 0 then 0 else if b = 0 then 0 else pwL.getD ((lgL.getD a 0 + lgL.getD b 0) % 31) 0

/-- The field. -/
def F : Type := Fin 32
namespace F
instance : DecidableEq F := inferInstanceAs (DecidableEq (Fin 32))
instance {p : F → Prop} [h : DecidablePred p] : Decidable (∀ a, p a) := @Nat.decidableForallFin 32 p h
def n (a : F) : Nat := Fin.val a
def mk (a : Nat) (h : a < 32) : F := (⟨a, h⟩ : Fin 32)
theorem lt (a : F) : a.n < 32 := Fin.isLt a
theorem n_mk (a : Nat) (h : a < 32) : (mk a h).n = a := rfl
theorem ext {a b : F} (h : a.n = b.n) : a = b := Fin.ext h
instance : Zero F := ⟨mk 0 (by decide)⟩
instance : One F := ⟨mk 1 (by decide)⟩
instance : Inhabited F := ⟨0⟩
instance : Add F := ⟨fun a b => mk (a.n ^^^ b.n) (Nat.xor_lt_two_pow (n := 5) a.lt b.lt)⟩
instance : Mul F := ⟨fun a b => mk (mulN a.n b.n % 32) (Nat.mod_lt _ (by decide))⟩
theorem n_zero : (0 : F).n = 0 := rfl
theorem n_one : (1 : F).n = 1 := rfl
theorem n_add (a b : F) : (a + b).n = a.n ^^^ b.n := rfl
theorem mulN_lt : ∀ a b : F, mulN a.n b.n < 32 := by decide +kernel
theorem n_mul (a b : F) : (a * b).n = mulN a.n b.n := Nat.mod_eq_of_lt (mulN_lt a b)
theorem add_comm (a b : F) : a + b = b + a := ext (by rw [n_add, n_add, Nat.xor_comm])
theorem add_assoc (a b c : F) : a + b + c = a + (b + c) := ext (by simp only [n_add, Nat.xor_assoc])
theorem zero_add (a : F) : 0 + a = a := ext (by rw [n_add, n_zero, Nat.zero_xor])
theorem add_zero (a : F) : a + 0 = a := ext (by rw [n_add, n_zero, Nat.xor_zero])
theorem add_self (a : F) : a + a = 0 := ext (by rw [n_add, n_zero, Nat.xor_self])
theorem mul_comm : ∀ a b : F, a * b = b * a := by decide +kernel
theorem mul_assoc : ∀ a b c : F, a * b * c = a * (b * c) := by decide +kernel
theorem mul_add : ∀ a b c : F, a * (b + c) = a * b + a * c := by decide +kernel
theorem one_mul : ∀ a : F, 1 * a = a := by decide +kernel
theorem zero_mul : ∀ a : F, 0 * a = 0 := by decide +kernel
theorem mul_eq_zero : ∀ a b : F, a * b = 0 → a = 0 ∨ b = 0 := by decide +kernel
theorem add_mul (a b c : F) : (a + b) * c = a * c + b * c := by rw [mul_comm, mul_add, mul_comm c a, mul_comm c b]
theorem mul_one (a : F) : a * 1 = a := by rw [mul_comm, one_mul]
theorem mul_zero (a : F) : a * 0 = 0 := by rw [mul_comm, zero_mul]
instance : Std.Associative (α := F) (· + ·) := ⟨add_assoc⟩
instance : Std.Commutative (α := F) (· + ·) := ⟨add_comm⟩
instance : Std.Associative (α := F) (· * ·) := ⟨mul_assoc⟩
instance : Std.Commutative (α := F) (· * ·) := ⟨mul_comm⟩
theorem add_cancel (a b : F) : a + (a + b) = b := by rw [← add_assoc, add_self, zero_add]
theorem eq_of_add {a b : F} (h : a + b = 0) : a = b := by
  have := congrArg (· + b) h
  simp only [add_assoc, add_self, add_zero, zero_add] at this
  exact this
theorem add_eq {a b c : F} (h : a + b = c) : a = b + c := by
  rw [← h, add_comm a b, add_cancel]
/-- The inverse, as rscode.Inverse finds it. -/
def inv (a : F) : F := mk ((if a.n = 0 then 0 else pwL.getD ((31 - lgL.getD a.n 0) % 31) 0) % 32) (Nat.mod_lt _ (by decide))
theorem n_inv : ∀ a : F, a.inv.n = if a.n = 0 then 0 else pwL.getD ((31 - lgL.getD a.n 0) % 31) 0 := by decide +kernel
theorem mul_inv : ∀ a : F, a ≠ 0 → a * a.inv = 1 := by decide +kernel
theorem inv_zero : (0 : F).inv = 0 := by decide +kernel

/-- The powers of 2. -/
def gp (k : Nat) : F := mk (pwL.getD (k % 31) 0 % 32) (Nat.mod_lt _ (by decide))
theorem pw_lt : ∀ k : Fin 31, pwL.getD k.val 0 < 32 := by decide +kernel
theorem n_gp (k : Nat) : (gp k).n = pwL.getD (k % 31) 0 := Nat.mod_eq_of_lt (pw_lt ⟨k % 31, Nat.mod_lt _ (by decide)⟩)
theorem gp_mod (k : Nat) : gp (k % 31) = gp k := ext (by rw [n_gp, n_gp, Nat.mod_mod])
theorem gp_add0 : ∀ a b : Fin 31, gp (a.val + b.val) = gp a.val * gp b.val := by decide +kernel
theorem gp_add (a b : Nat) : gp (a + b) = gp a * gp b := by
  rw [← gp_mod a, ← gp_mod b, ← gp_mod (a + b), Nat.add_mod, gp_mod]
  exact gp_add0 ⟨a % 31, Nat.mod_lt _ (by decide)⟩ ⟨b % 31, Nat.mod_lt _ (by decide)⟩
theorem gp_zero : gp 0 = 1 := by decide +kernel
theorem gp_ne0 : ∀ a : Fin 31, gp a.val ≠ 0 := by decide +kernel
theorem gp_ne (a : Nat) : gp a ≠ 0 := by rw [← gp_mod]; exact gp_ne0 ⟨a % 31, Nat.mod_lt _ (by decide)⟩
theorem gp_inj0 : ∀ a b : Fin 31, gp a.val = gp b.val → a = b := by decide +kernel
theorem gp_inj {a b : Nat} (ha : a < 31) (hb : b < 31) (h : gp a = gp b) : a = b := by
  have := gp_inj0 ⟨a, ha⟩ ⟨b, hb⟩ h
  exact congrArg Fin.val this

def pwr (x : F) : Nat → F | 0 => 1 | k + 1 => pwr x k * x
theorem pwr_add (x : F) (a b : Nat) : pwr x (a + b) = pwr x a * pwr x b := by
  induction b with
  | zero => rw [Nat.add_zero]; show _ = _ * 1; rw [mul_one]
  | succ b ih => rw [← Nat.add_assoc]; show pwr x (a + b) * x = _ * (pwr x b * x); rw [ih, mul_assoc]
theorem pwr_gp (e j : Nat) : pwr (gp e) j = gp (j * e) := by
  induction j with
  | zero => rw [Nat.zero_mul, gp_zero]; rfl
  | succ j ih => rw [Nat.succ_mul, gp_add, ← ih]; rfl
theorem pwr_one (x : F) : pwr x 1 = x := by show 1 * x = x; rw [one_mul]

/-- A sum of powers. -/
def mom : List (F × F) → Nat → F
  | [], _ => 0
  | (c, x) :: l, j => c * pwr x j + mom l j
theorem mom_turn (l : List (F × F)) (y : F) (j : Nat) : mom (l.map fun p => (p.1 * (p.2 + y), p.2)) j = mom l (j + 1) + y * mom l j := by
  induction l with
  | nil => simp [mom, mul_zero, add_zero]
  | cons p l ih =>
    obtain ⟨c, x⟩ := p
    simp only [List.map_cons, mom]
    rw [ih]
    simp only [pwr, mul_add, add_mul]
    ac_rfl
theorem mom_zero : ∀ (k : Nat) (l : List (F × F)), l.length = k → (l.map Prod.snd).Nodup → (∀ p ∈ l, p.2 ≠ 0) → (∀ j, 1 ≤ j → j ≤ k → mom l j = 0) → ∀ p ∈ l, p.1 = 0 := by
  intro k
  induction k with
  | zero => intro l hl _ _ _ p hp; rw [List.eq_nil_of_length_eq_zero hl] at hp; cases hp
  | succ k ih =>
    intro l hl hn hz hm
    match l, hl with
    | (c, x) :: t, hl =>
      have hlt : t.length = k := by simpa using hl
      have hnx : x ∉ t.map Prod.snd ∧ (t.map Prod.snd).Nodup := by simpa using hn
      have hmt : ∀ j, 1 ≤ j → j ≤ k + 1 → mom t j = c * pwr x j := fun j h1 h2 => by
        have := hm j h1 h2
        simp only [mom] at this
        exact (eq_of_add this).symm
      have h1 := ih (t.map fun p => (p.1 * (p.2 + x), p.2)) (by simpa using hlt) (by simpa [List.map_map, Function.comp_def] using hnx.2)
        (by
          intro p hp
          simp only [List.mem_map] at hp
          obtain ⟨q, hq, rfl⟩ := hp
          exact hz q (List.mem_cons_of_mem _ hq))
        (by
          intro j h1 h2
          rw [mom_turn, hmt _ (by omega) (by omega), hmt _ h1 (by omega)]
          show c * (pwr x j * x) + x * (c * pwr x j) = 0
          rw [show x * (c * pwr x j) = c * (pwr x j * x) by ac_rfl, add_self])
      have ht : ∀ q ∈ t, q.1 = 0 := by
        intro q hq
        have := h1 (q.1 * (q.2 + x), q.2) (List.mem_map.2 ⟨q, hq, rfl⟩)
        rcases mul_eq_zero _ _ this with h | h
        · exact h
        · exact absurd (eq_of_add h) (fun e => hnx.1 (List.mem_map.2 ⟨q, hq, e⟩))
      have hmz : ∀ (l : List (F × F)) j, (∀ q ∈ l, q.1 = 0) → mom l j = 0 := by
        intro l j
        induction l with
        | nil => intro _; rfl
        | cons q l ih' =>
          intro h
          obtain ⟨d, y⟩ := q
          simp only [mom]
          rw [show d = 0 from h (d, y) (List.mem_cons_self), zero_mul, zero_add]
          exact ih' (fun q hq => h q (List.mem_cons_of_mem _ hq))
      have hc : c = 0 := by
        have := hmt 1 (by omega) (by omega)
        rw [hmz t 1 ht, pwr_one] at this
        rcases mul_eq_zero _ _ this.symm with h | h
        · exact h
        · exact absurd h (hz (c, x) List.mem_cons_self)
      intro p hp
      rcases List.mem_cons.1 hp with rfl | hp
      · exact hc
      · exact ht p hp

/-- A word at the place x: its polynomial's value. -/
def ev (x : F) : List F → F
  | [] => 0
  | c :: w => c * pwr x w.length + ev x w
theorem horner (x : F) (w : List F) : ∀ a : F, w.foldl (fun a c => a * x + c) a = a * pwr x w.length + ev x w := by
  induction w with
  | nil => intro a; show a = a * 1 + 0; rw [mul_one, add_zero]
  | cons c w ih =>
    intro a
    simp only [List.foldl_cons, ih, ev, List.length_cons, pwr, add_mul]
    ac_rfl
theorem ev_app (x : F) (a b : List F) : ev x (a ++ b) = ev x a * pwr x b.length + ev x b := by
  induction a with
  | nil => simp [ev, zero_mul, zero_add]
  | cons c a ih =>
    simp only [List.cons_append, ev, ih, List.length_append, pwr_add, add_mul]
    ac_rfl
theorem ev_zero (x : F) (k : Nat) : ev x (List.replicate k 0) = 0 := by
  induction k with
  | zero => rfl
  | succ k ih => simp only [List.replicate_succ, ev, ih, zero_mul, zero_add]
/-- The places in which two words differ, with the difference and the locator. -/
def diffs : List F → List F → List (F × F)
  | c :: a, d :: b => if c = d then diffs a b else (c + d, gp a.length) :: diffs a b
  | _, _ => []
theorem diffs_mom (j : Nat) : ∀ (a b : List F), a.length = b.length → mom (diffs a b) j = ev (gp j) a + ev (gp j) b
  | [], [], _ => by simp [diffs, mom, ev, add_zero]
  | c :: a, d :: b, h => by
    have hl : a.length = b.length := by simpa using h
    have ih := diffs_mom j a b hl
    unfold diffs
    split
    · rename_i e
      subst e
      rw [ih]
      simp only [ev, hl]
      rw [show c * pwr (gp j) b.length + ev (gp j) a + (c * pwr (gp j) b.length + ev (gp j) b) = (c * pwr (gp j) b.length + c * pwr (gp j) b.length) + (ev (gp j) a + ev (gp j) b) by ac_rfl, add_self, zero_add]
    · simp only [mom, ev, ih, ← hl, pwr_gp, Nat.mul_comm j, add_mul]
      ac_rfl
theorem diffs_loc : ∀ (a b : List F) (p : F × F), p ∈ diffs a b → ∃ i, i < a.length ∧ p.2 = gp i
  | c :: a, d :: b, p, hp => by
    unfold diffs at hp
    split at hp
    · obtain ⟨i, hi, e⟩ := diffs_loc a b p hp
      exact ⟨i, by simp; omega, e⟩
    · rcases List.mem_cons.1 hp with rfl | hp
      · exact ⟨a.length, by simp, rfl⟩
      · obtain ⟨i, hi, e⟩ := diffs_loc a b p hp
        exact ⟨i, by simp; omega, e⟩
  | [], _, p, hp => by simp [diffs] at hp
  | _ :: _, [], p, hp => by simp [diffs] at hp
theorem diffs_nodup : ∀ (a b : List F), a.length ≤ 31 → ((diffs a b).map Prod.snd).Nodup
  | c :: a, d :: b, h => by
    have hl : a.length + 1 ≤ 31 := by simpa using h
    unfold diffs
    split
    · exact diffs_nodup a b (by omega)
    · rw [List.map_cons, List.nodup_cons]
      refine ⟨fun hm => ?_, diffs_nodup a b (by omega)⟩
      obtain ⟨p, hp, e⟩ := List.mem_map.1 hm
      obtain ⟨i, hi, e2⟩ := diffs_loc a b p hp
      have := gp_inj (by omega) (by omega) (e2.symm.trans e)
      omega
  | [], _, _ => by simp [diffs]
  | _ :: _, [], _ => by simp [diffs]
theorem diffs_ne : ∀ (a b : List F) (p : F × F), p ∈ diffs a b → p.1 ≠ 0
  | c :: a, d :: b, p, hp => by
    unfold diffs at hp
    split at hp
    · exact diffs_ne a b p hp
    · rename_i hne
      rcases List.mem_cons.1 hp with rfl | hp
      · exact fun e => hne (eq_of_add e)
      · exact diffs_ne a b p hp
  | [], _, p, hp => by simp [diffs] at hp
  | _ :: _, [], p, hp => by simp [diffs] at hp
theorem diffs_nil : ∀ (a b : List F), a.length = b.length → diffs a b = [] → a = b
  | [], [], _, _ => rfl
  | c :: a, d :: b, h, hd => by
    unfold diffs at hd
    split at hd
    · rename_i e
      rw [e, diffs_nil a b (by simpa using h) hd]
    · cases hd
/-- A codeword: six values are 0. -/
def Code (w : List F) : Prop := ∀ j, 1 ≤ j → j ≤ 6 → ev (gp j) w = 0
theorem code_apart {a b : List F} (ha : Code a) (hb : Code b) (hl : a.length = b.length) (hn : a.length ≤ 31) (hd : (diffs a b).length ≤ 6) : a = b := by
  refine diffs_nil a b hl ?_
  have h := mom_zero _ (diffs a b) rfl (diffs_nodup a b hn) (fun p hp => by obtain ⟨i, _, e⟩ := diffs_loc a b p hp; rw [e]; exact gp_ne i)
    (fun j h1 h2 => by rw [diffs_mom j a b hl, ha j h1 (by omega), hb j h1 (by omega), add_zero])
  match hdd : diffs a b with
  | [] => rfl
  | p :: t =>
    have hp : p ∈ diffs a b := by rw [hdd]; exact List.mem_cons_self
    exact absurd (h p hp) (diffs_ne a b p hp)
end F
end Go.Proofs.YtcpanmonllhmaaaDoor
/- Elimination in a matrix with six rows over the field with 32 elements. No program. -/
namespace Go.Proofs.YtcpanmonllhmaaaDoor
namespace F
def sumN (f : Nat → F) : Nat → F | 0 => 0 | k + 1 => sumN f k + f k
theorem sumN_congr {f g : Nat → F} {k : Nat} (h : ∀ c, c < k → f c = g c) : sumN f k = sumN g k := by
  induction k with
  | zero => rfl
  | succ k ih => show _ + _ = _ + _; rw [ih fun c hc => h c (by omega), h k (by omega)]
theorem sumN_add (f g : Nat → F) (k : Nat) : sumN (fun c => f c + g c) k = sumN f k + sumN g k := by
  induction k with
  | zero => show (0 : F) = 0 + 0; rw [add_zero]
  | succ k ih => show sumN _ k + (f k + g k) = (sumN f k + f k) + (sumN g k + g k); rw [ih]; ac_rfl
theorem sumN_mul (a : F) (f : Nat → F) (k : Nat) : sumN (fun c => a * f c) k = a * sumN f k := by
  induction k with
  | zero => show (0 : F) = a * 0; rw [mul_zero]
  | succ k ih => show sumN _ k + _ = a * (sumN f k + f k); rw [ih, mul_add]
theorem sumN_zero {f : Nat → F} {k : Nat} (h : ∀ c, c < k → f c = 0) : sumN f k = 0 := by
  induction k with
  | zero => rfl
  | succ k ih => show sumN f k + f k = 0; rw [ih fun c hc => h c (by omega), h k (by omega), add_zero]
theorem sumN_single {f : Nat → F} {k i : Nat} (hi : i < k) (h : ∀ c, c < k → c ≠ i → f c = 0) : sumN f k = f i := by
  induction k with
  | zero => omega
  | succ k ih =>
    show sumN f k + f k = f i
    by_cases e : i = k
    · subst e; rw [sumN_zero fun c hc => h c (by omega) (by omega), zero_add]
    · rw [ih (by omega) fun c hc hne => h c (by omega) hne, h k (by omega) (Ne.symm e), add_zero]
theorem sumN_two {f : Nat → F} {k i j : Nat} (hi : i < k) (hj : j < k) (hij : i ≠ j) (h : ∀ c, c < k → c ≠ i → c ≠ j → f c = 0) : sumN f k = f i + f j := by
  have e : sumN f k = sumN (fun c => (if c = i then f c else 0) + (if c = i then 0 else f c)) k := sumN_congr fun c _ => by split <;> simp [add_zero, zero_add]
  rw [e, sumN_add, sumN_single hi (fun c _ hne => if_neg hne), sumN_single (i := j) hj (fun c hc hne => by
    split
    · rfl
    · rename_i h'; exact h c hc h' hne), if_pos rfl, if_neg (Ne.symm hij)]

/-- Row r times X. -/
def dot (M : Nat → Nat → F) (r : Nat) (X : Nat → F) (wd : Nat) : F := sumN (fun c => M r c * X c) wd
def Sol (M : Nat → Nat → F) (X : Nat → F) (wd : Nat) : Prop := ∀ r, r < 6 → dot M r X wd = 0
def swapM (M : Nat → Nat → F) (k p : Nat) : Nat → Nat → F := fun r c => if r = k then M p c else if r = p then M k c else M r c
def scaleM (M : Nat → Nat → F) (k : Nat) (s : F) : Nat → Nat → F := fun r c => if r = k then M r c * s else M r c
def redM (M : Nat → Nat → F) (k : Nat) : Nat → Nat → F := fun r c => if r = k then M r c else M r c + M r k * M k c
def stepM (M : Nat → Nat → F) (k p : Nat) : Nat → Nat → F := redM (scaleM (swapM M k p) k (M p k).inv) k
def Unit6 (M : Nat → Nat → F) (k : Nat) : Prop := ∀ r c, r < 6 → c < k → M r c = if r = c then 1 else 0

theorem sol_swap {M : Nat → Nat → F} {X : Nat → F} {wd k p : Nat} (hk : k < 6) (hp : p < 6) : Sol (swapM M k p) X wd ↔ Sol M X wd := by
  have hd : ∀ r, dot (swapM M k p) r X wd = if r = k then dot M p X wd else if r = p then dot M k X wd else dot M r X wd := fun r => by
    unfold dot swapM
    split
    · rfl
    · split <;> rfl
  constructor
  · intro h r hr
    by_cases e : r = k
    · subst e
      have := h p hp
      rw [hd] at this
      by_cases e2 : p = r
      · subst e2; rw [if_pos rfl] at this; exact this
      · rw [if_neg e2, if_pos rfl] at this; exact this
    · by_cases e2 : r = p
      · subst e2
        have := h k hk
        rw [hd, if_pos rfl] at this; exact this
      · have := h r hr
        rw [hd, if_neg e, if_neg e2] at this; exact this
  · intro h r hr
    rw [hd]
    split
    · exact h p hp
    · split
      · exact h k hk
      · exact h r hr
theorem sol_scale {M : Nat → Nat → F} {X : Nat → F} {wd k : Nat} {s : F} (hs : s ≠ 0) : Sol (scaleM M k s) X wd ↔ Sol M X wd := by
  have hd : ∀ r, dot (scaleM M k s) r X wd = if r = k then s * dot M r X wd else dot M r X wd := fun r => by
    unfold dot scaleM
    split
    · rw [← sumN_mul]; exact sumN_congr fun c _ => by ac_rfl
    · rfl
  constructor
  · intro h r hr
    have := h r hr
    rw [hd] at this
    split at this
    · exact (mul_eq_zero _ _ this).resolve_left hs
    · exact this
  · intro h r hr
    rw [hd, h r hr]
    split
    · rw [mul_zero]
    · rfl
theorem sol_red {M : Nat → Nat → F} {X : Nat → F} {wd k : Nat} (hk : k < 6) : Sol (redM M k) X wd ↔ Sol M X wd := by
  have hd : ∀ r, dot (redM M k) r X wd = if r = k then dot M r X wd else dot M r X wd + M r k * dot M k X wd := fun r => by
    unfold dot redM
    split
    · rfl
    · rw [← sumN_mul, ← sumN_add]; exact sumN_congr fun c _ => by rw [add_mul, mul_assoc]
  constructor
  · intro h r hr
    have h1 := h r hr
    rw [hd] at h1
    have h2 := h k hk
    rw [hd, if_pos rfl] at h2
    split at h1
    · exact h1
    · rw [h2, mul_zero, add_zero] at h1; exact h1
  · intro h r hr
    rw [hd, h r hr, h k hk, mul_zero, add_zero]
    split <;> rfl
theorem inv_ne {a : F} (h : a ≠ 0) : a.inv ≠ 0 := fun e => by
  have := mul_inv a h
  rw [e, mul_zero] at this
  exact absurd this (by decide +kernel)
theorem sol_step {M : Nat → Nat → F} {X : Nat → F} {wd k p : Nat} (hk : k < 6) (hp : p < 6) (hn : M p k ≠ 0) : Sol (stepM M k p) X wd ↔ Sol M X wd :=
  (sol_red hk).trans ((sol_scale (inv_ne hn)).trans (sol_swap hk hp))
theorem unit_step {M : Nat → Nat → F} {k p : Nat} (h : Unit6 M k) (hk : k < 6) (hp : p < 6) (hkp : k ≤ p) (hn : M p k ≠ 0) : Unit6 (stepM M k p) (k + 1) := by
  have hs : ∀ r c, r < 6 → c < k → swapM M k p r c = if r = c then 1 else 0 := by
    intro r c hr hc
    unfold swapM
    split
    · rename_i e; rw [h p c hp hc, if_neg (by omega), if_neg (by omega)]
    · split
      · rw [h k c hk hc, if_neg (by omega), if_neg (by omega)]
      · exact h r c hr hc
  have hz : ∀ c, c < k → scaleM (swapM M k p) k (M p k).inv k c = 0 := by
    intro c hc
    unfold scaleM
    rw [if_pos rfl, hs k c hk hc, if_neg (by omega), zero_mul]
  have hkk : scaleM (swapM M k p) k (M p k).inv k k = 1 := by
    unfold scaleM swapM
    rw [if_pos rfl, if_pos rfl, mul_inv _ hn]
  intro r c hr hc
  unfold stepM redM
  rcases Nat.lt_or_ge c k with hck | hck
  · rw [hz c hck, mul_zero, add_zero]
    have : scaleM (swapM M k p) k (M p k).inv r c = if r = c then 1 else 0 := by
      by_cases e : r = k
      · subst e; rw [hz c hck, if_neg (by omega)]
      · unfold scaleM; rw [if_neg e]; exact hs r c hr hck
    rw [this]
    split <;> rfl
  · obtain rfl : c = k := by omega
    split
    · rename_i e; subst e; rw [hkk]
    · rename_i e; rw [hkk, mul_one, add_self]
/-- If the columns are independent there is a pivot. -/
theorem pivot_ex {M : Nat → Nat → F} {u k : Nat} (hu : k < u) (hu6 : u ≤ 6) (h : Unit6 M k) (ind : ∀ X, Sol M X (u + 1) → X u = 0 → ∀ c, c < u → X c = 0) : ∃ p, k ≤ p ∧ p < 6 ∧ M p k ≠ 0 := by
  rcases Classical.em (∃ p, k ≤ p ∧ p < 6 ∧ M p k ≠ 0) with h0 | hno
  · exact h0
  · exfalso
    have hz : ∀ p, k ≤ p → p < 6 → M p k = 0 := fun p h1 h2 => Classical.byContradiction fun hne => hno ⟨p, h1, h2, hne⟩
    have := ind (fun c => if c < k then M c k else if c = k then 1 else 0) (fun r hr => by
      unfold dot
      rcases Nat.lt_or_ge r k with hrk | hrk
      · rw [sumN_two (i := r) (j := k) (by omega) (by omega) (by omega)]
        · simp only [if_pos hrk, Nat.lt_irrefl, if_false, if_true, h r r hr hrk, one_mul, mul_one, add_self]
        · intro c hc h1 h2
          by_cases e : c < k
          · rw [h r c hr e, if_neg (by omega), zero_mul]
          · simp only [if_neg e, if_neg h2, mul_zero]
      · refine sumN_zero fun c hc => ?_
        by_cases e : c < k
        · rw [h r c hr e, if_neg (by omega), zero_mul]
        · by_cases e2 : c = k
          · subst e2; rw [hz r hrk hr, zero_mul]
          · simp only [if_neg e, if_neg e2, mul_zero]) (by simp only [if_neg (show ¬ u < k by omega), if_neg (show u ≠ k by omega)]) k hu
    simp only [Nat.lt_irrefl, if_false, if_true] at this
    exact absurd this (by decide +kernel)
/-- The end of an elimination: a solution is in the last column. -/
theorem unit_dot {M : Nat → Nat → F} {u r : Nat} (h : Unit6 M u) (hu : u ≤ 6) (hr : r < 6) (X : Nat → F) (h1 : X u = 1) : dot M r X (u + 1) = (if r < u then X r else 0) + M r u := by
  show sumN (fun c => M r c * X c) u + M r u * X u = _
  rw [h1, mul_one]
  congr 1
  split
  · rename_i e
    rw [sumN_single e]
    · rw [h r r hr e, if_pos rfl, one_mul]
    · intro c hc hne; rw [h r c hr hc, if_neg (Ne.symm hne), zero_mul]
  · rename_i e
    exact sumN_zero fun c hc => by rw [h r c hr hc, if_neg (by omega), zero_mul]
theorem unit_sol {M : Nat → Nat → F} {u : Nat} (h : Unit6 M u) (hu : u ≤ 6) (X : Nat → F) (h1 : X u = 1) : Sol M X (u + 1) ↔ (∀ c, c < u → X c = M c u) ∧ (∀ r, u ≤ r → r < 6 → M r u = 0) := by
  constructor
  · intro hs
    refine ⟨fun c hc => ?_, fun r h2 h3 => ?_⟩
    · have := hs c (by omega)
      rw [unit_dot h hu (by omega) X h1, if_pos hc] at this
      exact eq_of_add this
    · have := hs r h3
      rw [unit_dot h hu h3 X h1, if_neg (by omega), zero_add] at this
      exact this
  · intro ⟨ha, hb⟩ r hr
    rw [unit_dot h hu hr X h1]
    split
    · rename_i e; rw [ha r e, add_self]
    · rename_i e; rw [hb r (by omega) hr, add_zero]

/-- The matrix as lists of ints. -/
def rowI (M : Nat → Nat → F) (wd r : Nat) : List Int := (List.range wd).map fun c => ((M r c).n : Int)
def matI (M : Nat → Nat → F) (wd : Nat) : List (List Int) := (List.range 6).map (rowI M wd)
def upd (M : Nat → Nat → F) (r c : Nat) (y : F) : Nat → Nat → F := fun r' c' => if r' = r ∧ c' = c then y else M r' c'
theorem rowI_len (M : Nat → Nat → F) (wd r : Nat) : (rowI M wd r).length = wd := by simp [rowI]
theorem matI_len (M : Nat → Nat → F) (wd : Nat) : (matI M wd).length = 6 := by simp [matI]
theorem matI_at {M : Nat → Nat → F} {wd r : Nat} (h : r < 6) : (matI M wd)[r]? = some (rowI M wd r) := by
  unfold matI; rw [List.getElem?_map, List.getElem?_range h]; rfl
theorem rowI_at {M : Nat → Nat → F} {wd r c : Nat} (h : c < wd) : (rowI M wd r)[c]? = some ((M r c).n : Int) := by
  unfold rowI; rw [List.getElem?_map, List.getElem?_range h]; rfl
theorem rowI_congr2 {M N : Nat → Nat → F} {wd r r' : Nat} (h : ∀ c, c < wd → M r c = N r' c) : rowI M wd r = rowI N wd r' := by
  unfold rowI; exact List.map_congr_left fun c hc => by rw [h c (List.mem_range.1 hc)]
theorem rowI_congr {M N : Nat → Nat → F} {wd r : Nat} (h : ∀ c, c < wd → M r c = N r c) : rowI M wd r = rowI N wd r := by
  unfold rowI; exact List.map_congr_left fun c hc => by rw [h c (List.mem_range.1 hc)]
theorem matI_congr {M N : Nat → Nat → F} {wd : Nat} (h : ∀ r c, r < 6 → c < wd → M r c = N r c) : matI M wd = matI N wd := by
  unfold matI; exact List.map_congr_left fun r hr => rowI_congr fun c hc => h r c (List.mem_range.1 hr) hc
theorem rowI_set {M : Nat → Nat → F} {wd r c : Nat} (y : F) : (rowI M wd r).set c (y.n : Int) = rowI (upd M r c y) wd r := by
  apply List.ext_getElem?
  intro i
  rcases Nat.lt_or_ge i wd with hi | hi
  · rw [rowI_at hi, List.getElem?_set]
    unfold upd
    by_cases e : c = i
    · subst e; rw [if_pos rfl, if_pos (by rw [rowI_len]; exact hi), if_pos ⟨rfl, rfl⟩]
    · rw [if_neg e, rowI_at hi, if_neg (fun h => e h.2.symm)]
  · rw [List.getElem?_eq_none (by rw [List.length_set, rowI_len]; exact hi), List.getElem?_eq_none (by rw [rowI_len]; exact hi)]
theorem matI_set {M : Nat → Nat → F} {wd r c : Nat} (hr : r < 6) (y : F) : (matI M wd).set r ((rowI M wd r).set c (y.n : Int)) = matI (upd M r c y) wd := by
  apply List.ext_getElem?
  intro i
  rcases Nat.lt_or_ge i 6 with hi | hi
  · rw [matI_at hi, List.getElem?_set]
    by_cases e : r = i
    · subst e; rw [if_pos rfl, if_pos (by rw [matI_len]; exact hi), rowI_set]
    · rw [if_neg e, matI_at hi]
      exact congrArg some (rowI_congr fun c' _ => by unfold upd; rw [if_neg (fun h => e h.1.symm)])
  · rw [List.getElem?_eq_none (by rw [List.length_set, matI_len]; exact hi), List.getElem?_eq_none (by rw [matI_len]; exact hi)]
theorem matI_swap {M : Nat → Nat → F} {wd k p : Nat} (hk : k < 6) (hp : p < 6) : ((matI M wd).set k (rowI M wd p)).set p (rowI M wd k) = matI (swapM M k p) wd := by
  apply List.ext_getElem?
  intro i
  rcases Nat.lt_or_ge i 6 with hi | hi
  · rw [matI_at hi, List.getElem?_set, List.getElem?_set, List.length_set, matI_len, matI_at hi]
    by_cases e : p = i
    · subst e
      rw [if_pos rfl, if_pos hi]
      refine congrArg some (rowI_congr2 fun c _ => ?_)
      unfold swapM
      by_cases e2 : p = k
      · subst e2; rw [if_pos rfl]
      · rw [if_neg e2, if_pos rfl]
    · rw [if_neg e]
      by_cases e2 : k = i
      · subst e2
        rw [if_pos rfl, if_pos hi]
        exact congrArg some (rowI_congr2 fun c _ => by unfold swapM; rw [if_pos rfl])
      · rw [if_neg e2]
        exact congrArg some (rowI_congr fun c _ => by unfold swapM; rw [if_neg (Ne.symm e2), if_neg (Ne.symm e)])
  · rw [List.getElem?_eq_none (by rw [List.length_set, List.length_set, matI_len]; exact hi), List.getElem?_eq_none (by rw [matI_len]; exact hi)]
/-- Row k scaled as far as column c. -/
def scaleTo (M : Nat → Nat → F) (k : Nat) (s : F) (c : Nat) : Nat → Nat → F := fun r' c' => if r' = k ∧ c' < c then M r' c' * s else M r' c'
theorem scaleTo_zero (M : Nat → Nat → F) (k : Nat) (s : F) : scaleTo M k s 0 = M := by funext r c; simp [scaleTo]
theorem scaleTo_succ (M : Nat → Nat → F) (k : Nat) (s : F) (c : Nat) : upd (scaleTo M k s c) k c (M k c * s) = scaleTo M k s (c + 1) := by
  funext r' c'
  unfold upd scaleTo
  by_cases e : r' = k ∧ c' = c
  · obtain ⟨rfl, rfl⟩ := e; simp
  · rw [if_neg e]
    by_cases e2 : r' = k ∧ c' < c
    · rw [if_pos e2, if_pos ⟨e2.1, by omega⟩]
    · rw [if_neg e2, if_neg (fun h => e2 ⟨h.1, by have : c' ≠ c := fun h' => e ⟨h.1, h'⟩; omega⟩)]
theorem scaleTo_all {M : Nat → Nat → F} {k : Nat} {s : F} {wd : Nat} : matI (scaleTo M k s wd) wd = matI (scaleM M k s) wd := matI_congr fun r c _ hc => by
  unfold scaleTo scaleM
  by_cases e : r = k
  · rw [if_pos ⟨e, hc⟩, if_pos e]
  · rw [if_neg (fun h => e h.1), if_neg e]
/-- Rows reduced as far as row r, and row r as far as column c. -/
def redTo (M : Nat → Nat → F) (k r c : Nat) : Nat → Nat → F := fun r' c' => if r' ≠ k ∧ (r' < r ∨ r' = r ∧ c' < c) then M r' c' + M r' k * M k c' else M r' c'
theorem redTo_zero (M : Nat → Nat → F) (k : Nat) : redTo M k 0 0 = M := by funext r c; simp [redTo]
theorem redTo_succ (M : Nat → Nat → F) (k r c : Nat) (h : r ≠ k) : upd (redTo M k r c) r c (M r c + M r k * M k c) = redTo M k r (c + 1) := by
  funext r' c'
  unfold upd redTo
  by_cases e : r' = r ∧ c' = c
  · obtain ⟨rfl, rfl⟩ := e; rw [if_pos ⟨rfl, rfl⟩, if_pos ⟨h, .inr ⟨rfl, by omega⟩⟩]
  · rw [if_neg e]
    by_cases e2 : r' ≠ k ∧ (r' < r ∨ r' = r ∧ c' < c)
    · rw [if_pos e2, if_pos ⟨e2.1, by omega⟩]
    · rw [if_neg e2, if_neg (fun h' => e2 ⟨h'.1, by
        rcases h'.2 with h2 | h2
        · exact .inl h2
        · refine .inr ⟨h2.1, ?_⟩
          have : c' ≠ c := fun h3 => e ⟨h2.1, h3⟩
          omega⟩)]
theorem redTo_row {M : Nat → Nat → F} {k r : Nat} {wd : Nat} : matI (redTo M k r wd) wd = matI (redTo M k (r + 1) 0) wd := matI_congr fun r' c' _ hc => by
  unfold redTo
  by_cases e : r' ≠ k ∧ (r' < r ∨ r' = r ∧ c' < wd)
  · rw [if_pos e, if_pos ⟨e.1, by omega⟩]
  · rw [if_neg e, if_neg (fun h => e ⟨h.1, by omega⟩)]
theorem redTo_skip {M : Nat → Nat → F} {k r : Nat} {wd : Nat} (h : r = k ∨ M r k = 0) : matI (redTo M k r 0) wd = matI (redTo M k (r + 1) 0) wd := matI_congr fun r' c' _ hc => by
  unfold redTo
  by_cases e : r' = r
  · subst e
    rw [if_neg (by omega)]
    rcases h with h | h
    · rw [if_neg (by omega)]
    · rw [h, zero_mul, add_zero]; split <;> rfl
  · by_cases e2 : r' ≠ k ∧ (r' < r ∨ r' = r ∧ c' < 0)
    · rw [if_pos e2, if_pos ⟨e2.1, by omega⟩]
    · rw [if_neg e2, if_neg (fun h => e2 ⟨h.1, by omega⟩)]
theorem redTo_all {M : Nat → Nat → F} {k : Nat} {wd : Nat} : matI (redTo M k 6 0) wd = matI (redM M k) wd := matI_congr fun r c hr _ => by
  unfold redTo redM
  by_cases e : r = k
  · rw [if_neg (fun h => h.1 e), if_pos e]
  · rw [if_pos ⟨e, .inl hr⟩, if_neg e]
end F
end Go.Proofs.YtcpanmonllhmaaaDoor
/- Words over the field with 32 elements: the encoder's remainder, words that agree outside some places, the equations for these places. No program. -/
namespace Go.Proofs.YtcpanmonllhmaaaDoor
namespace F
/-- A step of the encoder. -/
def encStep (g rest : List F) (c : F) : List F := List.zipWith (fun r h => r + (c + rest.headD 0) * h) (rest.tail ++ [0]) g
theorem ev_zip (x f : F) : ∀ (a b : List F), a.length = b.length → ev x (List.zipWith (fun r h => r + f * h) a b) = ev x a + f * ev x b
  | [], [], _ => by simp [ev, mul_zero, add_zero]
  | r :: a, h :: b, hl => by
    have hl' : a.length = b.length := by simpa using hl
    simp only [List.zipWith_cons_cons, ev, ev_zip x f a b hl', List.length_zipWith, hl', Nat.min_self, add_mul, mul_add]
    ac_rfl
theorem encStep_len {g rest : List F} (c : F) (h1 : rest.length = 6) (h2 : g.length = 6) : (encStep g rest c).length = 6 := by
  unfold encStep; simp [h1, h2]
theorem encStep_ev {g rest : List F} {x : F} (c : F) (h1 : rest.length = 6) (h2 : g.length = 6) (hg : ev x g = pwr x 6) : ev x (encStep g rest c) = ev x rest * x + c * pwr x 6 := by
  match rest, h1 with
  | r0 :: t, h1 =>
    have ht : t.length = 5 := by simpa using h1
    unfold encStep
    simp only [List.tail_cons, List.headD_cons]
    rw [ev_zip x _ _ _ (by simp [ht, h2]), hg, ev_app]
    simp only [List.length_singleton, ev, List.length_nil, zero_mul, add_zero, ht, pwr_one, add_mul]
    have : pwr x 6 = pwr x 5 * x := rfl
    rw [this]
    rw [show ev x t * x + (c * (pwr x 5 * x) + r0 * (pwr x 5 * x)) = r0 * pwr x 5 * x + ev x t * x + c * (pwr x 5 * x) by ac_rfl]
def encRest (g data : List F) : List F := data.foldl (encStep g) (List.replicate 6 0)
theorem enc_fold {g : List F} {x : F} (h2 : g.length = 6) (hg : ev x g = pwr x 6) : ∀ (d rest : List F), rest.length = 6 → (d.foldl (encStep g) rest).length = 6 ∧ ev x (d.foldl (encStep g) rest) = ev x rest * pwr x d.length + ev x d * pwr x 6
  | [], rest, h => ⟨h, by show ev x rest = ev x rest * 1 + 0 * _; rw [mul_one, zero_mul, add_zero]⟩
  | c :: d, rest, h => by
    obtain ⟨h3, h4⟩ := enc_fold h2 hg d (encStep g rest c) (encStep_len c h h2)
    refine ⟨h3, ?_⟩
    rw [List.foldl_cons, h4, encStep_ev c h h2 hg]
    simp only [ev, List.length_cons, pwr, add_mul]
    ac_rfl
/-- The generator. -/
def genL : List F := [mk 17 (by decide), mk 26 (by decide), mk 30 (by decide), mk 27 (by decide), mk 30 (by decide), mk 24 (by decide)]
def genStep (g : List F) (x : F) : List F := List.zipWith (· + ·) (g ++ [0]) (0 :: g.map (· * x))
def genTo : Nat → List F | 0 => [1] | k + 1 => genStep (genTo k) (gp (k + 1))
theorem genTo_six : genTo 6 = 1 :: genL := by decide +kernel
theorem genL_root : ∀ j : Fin 6, ev (gp (j.val + 1)) genL = pwr (gp (j.val + 1)) 6 := by decide +kernel
theorem enc_code (d : List F) : Code (d ++ encRest genL d) ∧ (encRest genL d).length = 6 := by
  have h : ∀ j, 1 ≤ j → j ≤ 6 → ev (gp j) genL = pwr (gp j) 6 := fun j h1 h2 => by
    have := genL_root ⟨j - 1, by omega⟩
    simpa [Nat.sub_add_cancel h1] using this
  refine ⟨fun j h1 h2 => ?_, (enc_fold rfl (h 1 (by omega) (by omega)) d _ (by simp)).1⟩
  obtain ⟨h3, h4⟩ := enc_fold (g := genL) (x := gp j) rfl (h j h1 h2) d (List.replicate 6 0) (by simp)
  rw [ev_app]
  unfold encRest
  rw [h3, h4, ev_zero, zero_mul, zero_add, add_self]

theorem ev_set (x v : F) : ∀ (w : List F) (i : Nat), i < w.length → ev x (w.set i v) = ev x w + (w.getD i 0 + v) * pwr x (w.length - 1 - i)
  | [], i, h => by simp at h
  | c :: w, 0, h => by
    simp only [List.set_cons_zero, ev, List.getD_cons_zero, List.length_cons, Nat.add_sub_cancel, Nat.sub_zero, add_mul]
    rw [show c * pwr x w.length + ev x w + (c * pwr x w.length + v * pwr x w.length) = (c * pwr x w.length + c * pwr x w.length) + (v * pwr x w.length + ev x w) by ac_rfl, add_self, zero_add]
  | c :: w, i + 1, h => by
    have hi : i < w.length := by simpa using h
    simp only [List.set_cons_succ, ev, List.getD_cons_succ, List.length_cons, List.length_set, ev_set x v w i hi]
    rw [show w.length + 1 - 1 - (i + 1) = w.length - 1 - i by omega]
    ac_rfl
theorem mom_app (a b : List (F × F)) (j : Nat) : mom (a ++ b) j = mom a j + mom b j := by
  induction a with
  | nil => simp [mom, zero_add]
  | cons p a ih => obtain ⟨c, x⟩ := p; simp only [List.cons_append, mom, ih]; ac_rfl
theorem mom_range (f : Nat → F × F) (j u : Nat) : mom ((List.range u).map f) j = sumN (fun c => (f c).1 * pwr (f c).2 j) u := by
  induction u with
  | zero => rfl
  | succ u ih =>
    rw [List.range_succ, List.map_append, mom_app, ih]
    show _ + (((f u).1 * pwr (f u).2 j) + 0) = _ + _
    rw [add_zero]
/-- Values added in some places. -/
def addAt (w : List F) : List Nat → List F → List F
  | p :: ps, x :: xs => addAt (w.set p (w.getD p 0 + x)) ps xs
  | _, _ => w
theorem addAt_len : ∀ (ps : List Nat) (xs w : List F), (addAt w ps xs).length = w.length
  | p :: ps, x :: xs, w => by simp [addAt, addAt_len ps xs]
  | [], _, w => by simp [addAt]
  | _ :: _, [], w => by simp [addAt]
theorem addAt_off {i : Nat} : ∀ (ps : List Nat) (xs w : List F), i ∉ ps → (addAt w ps xs)[i]? = w[i]?
  | p :: ps, x :: xs, w, h => by
    simp only [List.mem_cons, not_or] at h
    simp only [addAt]
    rw [addAt_off ps xs _ h.2, List.getElem?_set_ne (Ne.symm h.1)]
  | [], _, w, _ => by simp [addAt]
  | _ :: _, [], w, _ => by simp [addAt]
theorem addAt_ev (j : Nat) : ∀ (ps : List Nat) (xs w : List F), (∀ p ∈ ps, p < w.length) → ps.length = xs.length → ev (gp j) (addAt w ps xs) = ev (gp j) w + mom (xs.zip (ps.map fun p => gp (w.length - 1 - p))) j
  | p :: ps, x :: xs, w, h, hl => by
    have hp := h p List.mem_cons_self
    simp only [addAt]
    rw [addAt_ev j ps xs _ (fun q hq => by rw [List.length_set]; exact h q (List.mem_cons_of_mem _ hq)) (by simpa using hl), ev_set _ _ _ _ hp, List.length_set]
    simp only [List.map_cons, List.zip_cons_cons, mom, ← add_assoc, add_self, zero_add, pwr_gp]
    rw [Nat.mul_comm j (w.length - 1 - p)]
  | [], [], w, _, _ => by simp [addAt, mom, add_zero]
/-- The word c agrees with w outside the places ps. -/
def Off (w c : List F) (ps : List Nat) : Prop := c.length = w.length ∧ ∀ i, i ∉ ps → c[i]? = w[i]?
theorem Off.addAt (w : List F) (ps : List Nat) (xs : List F) : Off w (addAt w ps xs) ps := ⟨addAt_len ps xs w, fun _ hi => addAt_off ps xs w hi⟩
theorem getD_eq {w : List F} {i : Nat} (h : i < w.length) : w[i]? = some (w.getD i 0) := by
  rw [List.getD_eq_getElem?_getD, List.getElem?_eq_getElem h]; rfl
theorem off_is : ∀ (ps : List Nat) (w c : List F), Off w c ps → ps.Nodup → (∀ p ∈ ps, p < w.length) → c = F.addAt w ps (ps.map fun p => w.getD p 0 + c.getD p 0)
  | [], w, c, h, _, _ => by
    simp only [List.map_nil, F.addAt]
    exact List.ext_getElem? fun i => h.2 i (by simp)
  | p :: ps, w, c, h, hn, hlt => by
    have hp := hlt p List.mem_cons_self
    rw [List.nodup_cons] at hn
    simp only [List.map_cons, F.addAt, add_cancel]
    have ho : Off (w.set p (c.getD p 0)) c ps := by
      refine ⟨by rw [List.length_set]; exact h.1, fun i hi => ?_⟩
      by_cases e : p = i
      · subst e
        rw [List.getElem?_set_self hp]
        exact getD_eq (by rw [h.1]; exact hp)
      · rw [List.getElem?_set_ne e]
        exact h.2 i (fun hm => by rcases List.mem_cons.1 hm with e2 | e2; exact e e2.symm; exact hi e2)
    have := off_is ps _ c ho hn.2 (fun q hq => by rw [List.length_set]; exact hlt q (List.mem_cons_of_mem _ hq))
    refine this.trans (congrArg (F.addAt _ ps) (List.map_congr_left fun q hq => ?_))
    have hne : p ≠ q := fun e => hn.1 (e ▸ hq)
    congr 1
    rw [List.getD_eq_getElem?_getD, List.getElem?_set_ne hne, List.getD_eq_getElem?_getD]

/-- The equations for the places ps of the word w. -/
def sysM (w : List F) (ps : List Nat) : Nat → Nat → F := fun r c => if c < ps.length then gp ((r + 1) * (w.length - 1 - ps.getD c 0)) else ev (gp (r + 1)) w
theorem sys_dot {w : List F} {ps : List Nat} (r : Nat) (X : Nat → F) : dot (sysM w ps) r X (ps.length + 1) = mom ((List.range ps.length).map fun c => (X c, gp (w.length - 1 - ps.getD c 0))) (r + 1) + ev (gp (r + 1)) w * X ps.length := by
  show sumN _ ps.length + _ = _
  rw [mom_range]
  congr 1
  · refine sumN_congr fun c hc => ?_
    simp only [sysM, if_pos hc, pwr_gp]
    rw [mul_comm]
  · simp only [sysM, Nat.lt_irrefl, if_false]
theorem getD_mem {ps : List Nat} {c : Nat} (h : c < ps.length) : ps.getD c 0 ∈ ps := by
  rw [List.getD_eq_getElem?_getD, List.getElem?_eq_getElem h]; exact List.getElem_mem h
theorem sys_ind {w : List F} {ps : List Nat} (hn : w.length ≤ 31) (hd : ps.Nodup) (hlt : ∀ p ∈ ps, p < w.length) (h6 : ps.length ≤ 6) (X : Nat → F) (hs : Sol (sysM w ps) X (ps.length + 1)) (h0 : X ps.length = 0) : ∀ c, c < ps.length → X c = 0 := by
  intro c hc
  have hm : ((List.range ps.length).map fun c => (X c, gp (w.length - 1 - ps.getD c 0))).map Prod.snd = ps.map fun p => gp (w.length - 1 - p) := by
    apply List.ext_getElem?
    intro i
    rcases Nat.lt_or_ge i ps.length with hi | hi
    · simp [List.getElem?_range hi, List.getElem?_eq_getElem hi]
    · rw [List.getElem?_eq_none (by simpa using hi), List.getElem?_eq_none (by simpa using hi)]
  refine mom_zero ps.length ((List.range ps.length).map fun c => (X c, gp (w.length - 1 - ps.getD c 0))) (by simp) ?_ ?_ ?_ (X c, gp (w.length - 1 - ps.getD c 0)) (List.mem_map.2 ⟨c, List.mem_range.2 hc, rfl⟩)
  · rw [hm]
    have : ∀ (l : List Nat), l.Nodup → (∀ p ∈ l, p < w.length) → (l.map fun p => gp (w.length - 1 - p)).Nodup := by
      intro l
      induction l with
      | nil => intro _ _; simp
      | cons q l ih =>
        intro h1 h2
        rw [List.nodup_cons] at h1
        rw [List.map_cons, List.nodup_cons]
        refine ⟨fun hm => ?_, ih h1.2 fun p hp => h2 p (List.mem_cons_of_mem _ hp)⟩
        obtain ⟨p, hp, e⟩ := List.mem_map.1 hm
        have a := h2 p (List.mem_cons_of_mem _ hp)
        have b := h2 q List.mem_cons_self
        have := gp_inj (by omega) (by omega) e
        have e2 : p = q := by omega
        exact h1.1 (e2 ▸ hp)
    exact this ps hd hlt
  · intro p hp
    obtain ⟨i, _, rfl⟩ := List.mem_map.1 hp
    exact gp_ne _
  · intro j h1 h2
    have := hs (j - 1) (by omega)
    rw [sys_dot, h0, mul_zero, add_zero, Nat.sub_add_cancel h1] at this
    exact this
theorem range_zip (X : Nat → F) (f : Nat → F) (ps : List Nat) : ((List.range ps.length).map X).zip (ps.map f) = (List.range ps.length).map fun c => (X c, f (ps.getD c 0)) := by
  apply List.ext_getElem?
  intro i
  rcases Nat.lt_or_ge i ps.length with hi | hi
  · simp [List.getElem?_zip_eq_some, List.getElem?_range hi, List.getElem?_eq_getElem hi]
  · rw [List.getElem?_eq_none (by simpa using hi), List.getElem?_eq_none (by simpa using hi)]
theorem sys_code {w : List F} {ps : List Nat} (hlt : ∀ p ∈ ps, p < w.length) (X : Nat → F) (h1 : X ps.length = 1) : Sol (sysM w ps) X (ps.length + 1) ↔ Code (F.addAt w ps ((List.range ps.length).map X)) := by
  have h : ∀ j, ev (gp j) (F.addAt w ps ((List.range ps.length).map X)) = ev (gp j) w + mom ((List.range ps.length).map fun c => (X c, gp (w.length - 1 - ps.getD c 0))) j := fun j => by
    rw [addAt_ev j ps _ w hlt (by simp), range_zip X (fun p => gp (w.length - 1 - p))]
  constructor
  · intro hs j h2 h3
    have := hs (j - 1) (by omega)
    rw [sys_dot, h1, mul_one, Nat.sub_add_cancel h2] at this
    rw [h, add_comm]; exact this
  · intro hc r hr
    have := hc (r + 1) (by omega) (by omega)
    rw [h] at this
    rw [sys_dot, h1, mul_one, add_comm]; exact this
/-- What an elimination finds. -/
theorem sys_end {w : List F} {ps : List Nat} {M : Nat → Nat → F} (hn : w.length ≤ 31) (hd : ps.Nodup) (hlt : ∀ p ∈ ps, p < w.length) (h6 : ps.length ≤ 6) (hu : Unit6 M ps.length) (hM : ∀ X, Sol M X (ps.length + 1) ↔ Sol (sysM w ps) X (ps.length + 1)) :
    ((∀ r, ps.length ≤ r → r < 6 → M r ps.length = 0) → Code (F.addAt w ps ((List.range ps.length).map fun c => M c ps.length))) ∧
    (∀ c, Off w c ps → Code c → (∀ r, ps.length ≤ r → r < 6 → M r ps.length = 0) ∧ c = F.addAt w ps ((List.range ps.length).map fun c => M c ps.length)) := by
  constructor
  · intro hb
    have h := (sys_code hlt (fun c => if c < ps.length then M c ps.length else 1) (by simp)).1 ((hM _).1 ((unit_sol hu h6 _ (by simp)).2 ⟨fun c hc => by simp [hc], hb⟩))
    have e : (List.range ps.length).map (fun c => if c < ps.length then M c ps.length else 1) = (List.range ps.length).map fun c => M c ps.length := List.map_congr_left fun c hc => by rw [if_pos (List.mem_range.1 hc)]
    rw [e] at h
    exact h
  · intro c ho hc
    have hcw := off_is ps w c ho hd hlt
    have e : (ps.map fun p => w.getD p 0 + c.getD p 0) = (List.range ps.length).map (fun i => if i < ps.length then w.getD (ps.getD i 0) 0 + c.getD (ps.getD i 0) 0 else 1) := by
      apply List.ext_getElem?
      intro i
      rcases Nat.lt_or_ge i ps.length with hi | hi
      · simp [List.getElem?_range hi, List.getElem?_eq_getElem hi, hi]
      · rw [List.getElem?_eq_none (by simpa using hi), List.getElem?_eq_none (by simpa using hi)]
    rw [e] at hcw
    rw [hcw] at hc
    have hs := (hM _).2 ((sys_code hlt (fun i => if i < ps.length then w.getD (ps.getD i 0) 0 + c.getD (ps.getD i 0) 0 else 1) (by simp)).2 hc)
    obtain ⟨h1, h2⟩ := (unit_sol hu h6 _ (by simp)).1 hs
    refine ⟨h2, ?_⟩
    rw [hcw]
    congr 1
    exact List.map_congr_left fun i hi => h1 i (List.mem_range.1 hi)
end F
end Go.Proofs.YtcpanmonllhmaaaDoor
