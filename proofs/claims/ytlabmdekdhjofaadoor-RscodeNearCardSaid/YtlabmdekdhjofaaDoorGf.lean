/- The field with 32 elements, its powers, sums of powers: a list of six or fewer values at different places whose first sums are 0 is zero. No program. -/
import Derived.Lib.Hide
namespace Go.Proofs.YtlabmdekdhjofaaDoor

def pwL : List Nat := [1, 2, 4, 8, 16, 5, 10, 20, 13, 26, 17, 7, 14, 28, 29, 31, 27, 19, 3, 6, 12, 24, 21, 15, 30, 25, 23, 11, 22, 9, 18]
def lgL : List Nat := [0, 0, 1, 18, 2, 5, 19, 11, 3, 29, 6, 27, 20, 8, 12, 23, 4, 10, 30, 17, 7, 22, 28, 26, 21, 25, 9, 16, 13, 14, 24, 15]
def mulN (a b : Nat) : Nat := if a = 0 then 0 else if b = 0 then 0 else pwL.getD ((lgL.getD a 0 + lgL.getD b 0) % 31) 0

/-- The field. -/
def F : Type := Fin 32
namespace F
instance : DecidableEq F := inferInstanceAs (DecidableEq (Fin 32))
instance {p : F → Prop} [h : DecidablePred p] : Decidable (∀ a, p a) := @Nat.decidableForallFin 32 p h
def n (a : F) : Nat := Fin.val a
def mk (a : Nat) (h : a < 32) : F := (⟨a, h⟩ : Fin 32)
theorem lt (a : F) : a.n < 32 := Fin.isLt a
theorem n_mk (a : Nat) (h : a < 32) : (mk a h).n = a := rfl
theorem ext {a b : F} (h : a.n = b.n) : a = b := Fin.ext h
instance : Zero F := ⟨mk 0 (by decide)⟩
instance : One F := ⟨mk 1 (by decide)⟩
instance : Inhabited F := ⟨0⟩
instance : Add F := ⟨fun a b => mk (a.n ^^^ b.n) (Nat.xor_lt_two_pow (n := 5) a.lt b.lt)⟩
instance : Mul F := ⟨fun a b => mk (mulN a.n b.n % 32) (Nat.mod_lt _ (by decide))⟩
theorem n_zero : (0 : F).n = 0 := rfl
theorem n_one : (1 : F).n = 1 := rfl
theorem n_add (a b : F) : (a + b).n = a.n ^^^ b.n := rfl
theorem mulN_lt : ∀ a b : F, mulN a.n b.n < 32 := by decide +kernel
theorem n_mul (a b : F) : (a * b).n = mulN a.n b.n := Nat.mod_eq_of_lt (mulN_lt a b)
theorem add_comm (a b : F) : a + b = b + a := ext (by rw [n_add, n_add, Nat.xor_comm])
theorem add_assoc (a b c : F) : a + b + c = a + (b + c) := ext (by simp only [n_add, Nat.xor_assoc])
theorem zero_add (a : F) : 0 + a = a := ext (by rw [n_add, n_zero, Nat.zero_xor])
theorem add_zero (a : F) : a + 0 = a := ext (by rw [n_add, n_zero, Nat.xor_zero])
theorem add_self (a : F) : a + a = 0 := ext (by rw [n_add, n_zero, Nat.xor_self])
theorem mul_comm : ∀ a b : F, a * b = b * a := by decide +kernel
theorem mul_assoc : ∀ a b c : F, a * b * c = a * (b * c) := by decide +kernel
theorem mul_add : ∀ a b c : F, a * (b + c) = a * b + a * c := by decide +kernel
theorem one_mul : ∀ a : F, 1 * a = a := by decide +kernel
theorem zero_mul : ∀ a : F, 0 * a = 0 := by decide +kernel
theorem mul_eq_zero : ∀ a b : F, a * b = 0 → a = 0 ∨ b = 0 := by decide +kernel
theorem add_mul (a b c : F) : (a + b) * c = a * c + b * c := by rw [mul_comm, mul_add, mul_comm c a, mul_comm c b]
theorem mul_one (a : F) : a * 1 = a := by rw [mul_comm, one_mul]
theorem mul_zero (a : F) : a * 0 = 0 := by rw [mul_comm, zero_mul]
instance : Std.Associative (α := F) (· + ·) := ⟨add_assoc⟩
instance : Std.Commutative (α := F) (· + ·) := ⟨add_comm⟩
instance : Std.Associative (α := F) (· * ·) := ⟨mul_assoc⟩
instance : Std.Commutative (α := F) (· * ·) := ⟨mul_comm⟩
theorem add_cancel (a b : F) : a + (a + b) = b := by rw [← add_assoc, add_self, zero_add]
theorem eq_of_add {a b : F} (h : a + b = 0) : a = b := by
  have := congrArg (· + b) h
  simp only [add_assoc, add_self, add_zero, zero_add] at this
  exact this
theorem add_eq {a b c : F} (h : a + b = c) : a = b + c := by
  rw [← h, add_comm a b, add_cancel]
/-- The inverse, as rscode.Inverse finds it. -/
def inv (a : F) : F := mk ((if a.n = 0 then 0 else pwL.getD ((31 - lgL.getD a.n 0) % 31) 0) % 32) (Nat.mod_lt _ (by decide))
theorem n_inv : ∀ a : F, a.inv.n = if a.n = 0 then 0 else pwL.getD ((31 - lgL.getD a.n 0) % 31) 0 := by decide +kernel
theorem mul_inv : ∀ a : F, a ≠ 0 → a * a.inv = 1 := by decide +kernel
theorem inv_zero : (0 : F).inv = 0 := by decide +kernel

/-- The powers of 2. -/
def gp (k : Nat) : F := mk (pwL.getD (k % 31) 0 % 32) (Nat.mod_lt _ (by decide))
theorem pw_lt : ∀ k : Fin 31, pwL.getD k.val 0 < 32 := by decide +kernel
theorem n_gp (k : Nat) : (gp k).n = pwL.getD (k % 31) 0 := Nat.mod_eq_of_lt (pw_lt ⟨k % 31, Nat.mod_lt _ (by decide)⟩)
theorem gp_mod (k : Nat) : gp (k % 31) = gp k := ext (by rw [n_gp, n_gp, Nat.mod_mod])
theorem gp_add0 : ∀ a b : Fin 31, gp (a.val + b.val) = gp a.val * gp b.val := by decide +kernel
theorem gp_add (a b : Nat) : gp (a + b) = gp a * gp b := by
  rw [← gp_mod a, ← gp_mod b, ← gp_mod (a + b), Nat.add_mod, gp_mod]
  exact gp_add0 ⟨a % 31, Nat.mod_lt _ (by decide)⟩ ⟨b % 31, Nat.mod_lt _ (by decide)⟩
theorem gp_zero : gp 0 = 1 := by decide +kernel
theorem gp_ne0 : ∀ a : Fin 31, gp a.val ≠ 0 := by decide +kernel
theorem gp_ne (a : Nat) : gp a ≠ 0 := by rw [← gp_mod]; exact gp_ne0 ⟨a % 31, Nat.mod_lt _ (by decide)⟩
theorem gp_inj0 : ∀ a b : Fin 31, gp a.val = gp b.val → a = b := by decide +kernel
theorem gp_inj {a b : Nat} (ha : a < 31) (hb : b < 31) (h : gp a = gp b) : a = b := by
  have := gp_inj0 ⟨a, ha⟩ ⟨b, hb⟩ h
  exact congrArg Fin.val this

def pwr (x : F) : Nat → F | 0 => 1 | k + 1 => pwr x k * x
theorem pwr_add (x : F) (a b : Nat) : pwr x (a + b) = pwr x a * pwr x b := by
  induction b with
  | zero => rw [Nat.add_zero]; show _ = _ * 1; rw [mul_one]
  | succ b ih => rw [← Nat.add_assoc]; show pwr x (a + b) * x = _ * (pwr x b * x); rw [ih, mul_assoc]
theorem pwr_gp (e j : Nat) : pwr (gp e) j = gp (j * e) := by
  induction j with
  | zero => rw [Nat.zero_mul, gp_zero]; rfl
  | succ j ih => rw [Nat.succ_mul, gp_add, ← ih]; rfl
theorem pwr_one (x : F) : pwr x 1 = x := by show 1 * x = x; rw [one_mul]

/-- A sum of powers. -/
def mom : List (F × F) → Nat → F
  | [], _ => 0
  | (c, x) :: l, j => c * pwr x j + mom l j
theorem mom_turn (l : List (F × F)) (y : F) (j : Nat) : mom (l.map fun p => (p.1 * (p.2 + y), p.2)) j = mom l (j + 1) + y * mom l j := by
  induction l with
  | nil => simp [mom, mul_zero, add_zero]
  | cons p l ih =>
    obtain ⟨c, x⟩ := p
    simp only [List.map_cons, mom]
    rw [ih]
    simp only [pwr, mul_add, add_mul]
    ac_rfl
theorem mom_zero : ∀ (k : Nat) (l : List (F × F)), l.length = k → (l.map Prod.snd).Nodup → (∀ p ∈ l, p.2 ≠ 0) → (∀ j, 1 ≤ j → j ≤ k → mom l j = 0) → ∀ p ∈ l, p.1 = 0 := by
  intro k
  induction k with
  | zero => intro l hl _ _ _ p hp; rw [List.eq_nil_of_length_eq_zero hl] at hp; cases hp
  | succ k ih =>
    intro l hl hn hz hm
    match l, hl with
    | (c, x) :: t, hl =>
      have hlt : t.length = k := by simpa using hl
      have hnx : x ∉ t.map Prod.snd ∧ (t.map Prod.snd).Nodup := by simpa using hn
      have hmt : ∀ j, 1 ≤ j → j ≤ k + 1 → mom t j = c * pwr x j := fun j h1 h2 => by
        have := hm j h1 h2
        simp only [mom] at this
        exact (eq_of_add this).symm
      have h1 := ih (t.map fun p => (p.1 * (p.2 + x), p.2)) (by simpa using hlt) (by simpa [List.map_map, Function.comp_def] using hnx.2)
        (by
          intro p hp
          simp only [List.mem_map] at hp
          obtain ⟨q, hq, rfl⟩ := hp
          exact hz q (List.mem_cons_of_mem _ hq))
        (by
          intro j h1 h2
          rw [mom_turn, hmt _ (by omega) (by omega), hmt _ h1 (by omega)]
          show c * (pwr x j * x) + x * (c * pwr x j) = 0
          rw [show x * (c * pwr x j) = c * (pwr x j * x) by ac_rfl, add_self])
      have ht : ∀ q ∈ t, q.1 = 0 := by
        intro q hq
        have := h1 (q.1 * (q.2 + x), q.2) (List.mem_map.2 ⟨q, hq, rfl⟩)
        rcases mul_eq_zero _ _ this with h | h
        · exact h
        · exact absurd (eq_of_add h) (fun e => hnx.1 (List.mem_map.2 ⟨q, hq, e⟩))
      have hmz : ∀ (l : List (F × F)) j, (∀ q ∈ l, q.1 = 0) → mom l j = 0 := by
        intro l j
        induction l with
        | nil => intro _; rfl
        | cons q l ih' =>
          intro h
          obtain ⟨d, y⟩ := q
          simp only [mom]
          rw [show d = 0 from h (d, y) (List.mem_cons_self), zero_mul, zero_add]
          exact ih' (fun q hq => h q (List.mem_cons_of_mem _ hq))
      have hc : c = 0 := by
        have := hmt 1 (by omega) (by omega)
        rw [hmz t 1 ht, pwr_one] at this
        rcases mul_eq_zero _ _ this.symm with h | h
        · exact h
        · exact absurd h (hz (c, x) List.mem_cons_self)
      intro p hp
      rcases List.mem_cons.1 hp with rfl | hp
      · exact hc
      · exact ht p hp

/-- A word at the place x: its polynomial's value. -/
def ev (x : F) : List F → F
  | [] => 0
  | c :: w => c * pwr x w.length + ev x w
theorem horner (x : F) (w : List F) : ∀ a : F, w.foldl (fun a c => a * x + c) a = a * pwr x w.length + ev x w := by
  induction w with
  | nil => intro a; show a = a * 1 + 0; rw [mul_one, add_zero]
  | cons c w ih =>
    intro a
    simp only [List.foldl_cons, ih, ev, List.length_cons, pwr, add_mul]
    ac_rfl
theorem ev_app (x : F) (a b : List F) : ev x (a ++ b) = ev x a * pwr x b.length + ev x b := by
  induction a with
  | nil => simp [ev, zero_mul, zero_add]
  | cons c a ih =>
    simp only [List.cons_append, ev, ih, List.length_append, pwr_add, add_mul]
    ac_rfl
theorem ev_zero (x : F) (k : Nat) : ev x (List.replicate k 0) = 0 := by
  induction k with
  | zero => rfl
  | succ k ih => simp only [List.replicate_succ, ev, ih, zero_mul, zero_add]
/-- The places in which two words differ, with the difference and the locator. -/
def diffs : List F → List F → List (F × F)
  | c :: a, d :: b => if c = d then diffs a b else (c + d, gp a.length) :: diffs a b
  | _, _ => []
theorem diffs_mom (j : Nat) : ∀ (a b : List F), a.length = b.length → mom (diffs a b) j = ev (gp j) a + ev (gp j) b
  | [], [], _ => by simp [diffs, mom, ev, add_zero]
  | c :: a, d :: b, h => by
    have hl : a.length = b.length := by simpa using h
    have ih := diffs_mom j a b hl
    unfold diffs
    split
    · rename_i e
      subst e
      rw [ih]
      simp only [ev, hl]
      rw [show c * pwr (gp j) b.length + ev (gp j) a + (c * pwr (gp j) b.length + ev (gp j) b) = (c * pwr (gp j) b.length + c * pwr (gp j) b.length) + (ev (gp j) a + ev (gp j) b) by ac_rfl, add_self, zero_add]
    · simp only [mom, ev, ih, ← hl, pwr_gp, Nat.mul_comm j, add_mul]
      ac_rfl
theorem diffs_loc : ∀ (a b : List F) (p : F × F), p ∈ diffs a b → ∃ i, i < a.length ∧ p.2 = gp i
  | c :: a, d :: b, p, hp => by
    unfold diffs at hp
    split at hp
    · obtain ⟨i, hi, e⟩ := diffs_loc a b p hp
      exact ⟨i, by simp; omega, e⟩
    · rcases List.mem_cons.1 hp with rfl | hp
      · exact ⟨a.length, by simp, rfl⟩
      · obtain ⟨i, hi, e⟩ := diffs_loc a b p hp
        exact ⟨i, by simp; omega, e⟩
  | [], _, p, hp => by simp [diffs] at hp
  | _ :: _, [], p, hp => by simp [diffs] at hp
theorem diffs_nodup : ∀ (a b : List F), a.length ≤ 31 → ((diffs a b).map Prod.snd).Nodup
  | c :: a, d :: b, h => by
    have hl : a.length + 1 ≤ 31 := by simpa using h
    unfold diffs
    split
    · exact diffs_nodup a b (by omega)
    · rw [List.map_cons, List.nodup_cons]
      refine ⟨fun hm => ?_, diffs_nodup a b (by omega)⟩
      obtain ⟨p, hp, e⟩ := List.mem_map.1 hm
      obtain ⟨i, hi, e2⟩ := diffs_loc a b p hp
      have := gp_inj (by omega) (by omega) (e2.symm.trans e)
      omega
  | [], _, _ => by simp [diffs]
  | _ :: _, [], _ => by simp [diffs]
theorem diffs_ne : ∀ (a b : List F) (p : F × F), p ∈ diffs a b → p.1 ≠ 0
  | c :: a, d :: b, p, hp => by
    unfold diffs at hp
    split at hp
    · exact diffs_ne a b p hp
    · rename_i hne
      rcases List.mem_cons.1 hp with rfl | hp
      · exact fun e => hne (eq_of_add e)
      · exact diffs_ne a b p hp
  | [], _, p, hp => by simp [diffs] at hp
  | _ :: _, [], p, hp => by simp [diffs] at hp
theorem diffs_nil : ∀ (a b : List F), a.length = b.length → diffs a b = [] → a = b
  | [], [], _, _ => rfl
  | c :: a, d :: b, h, hd => by
    unfold diffs at hd
    split at hd
    · rename_i e
      rw [e, diffs_nil a b (by simpa using h) hd]
    · cases hd
/-- A codeword: six values are 0. -/
def Code (w : List F) : Prop := ∀ j, 1 ≤ j → j ≤ 6 → ev (gp j) w = 0
theorem code_apart {a b : List F} (ha : Code a) (hb : Code b) (hl : a.length = b.length) (hn : a.length ≤ 31) (hd : (diffs a b).length ≤ 6) : a = b := by
  refine diffs_nil a b hl ?_
  have h := mom_zero _ (diffs a b) rfl (diffs_nodup a b hn) (fun p hp => by obtain ⟨i, _, e⟩ := diffs_loc a b p hp; rw [e]; exact gp_ne i)
    (fun j h1 h2 => by rw [diffs_mom j a b hl, ha j h1 (by omega), hb j h1 (by omega), add_zero])
  match hdd : diffs a b with
  | [] => rfl
  | p :: t =>
    have hp : p ∈ diffs a b := by rw [hdd]; exact List.mem_cons_self
    exact absurd (h p hp) (diffs_ne a b p hp)
end F
end Go.Proofs.YtlabmdekdhjofaaDoor
