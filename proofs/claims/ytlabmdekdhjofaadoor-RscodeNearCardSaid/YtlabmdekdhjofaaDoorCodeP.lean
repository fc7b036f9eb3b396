/- Words over the field with 32 elements: the encoder's remainder, words that agree outside some places, the equations for these places. No program. -/
import Derived.Test.YtlabmdekdhjofaaDoorGauss
namespace Go.Proofs.YtlabmdekdhjofaaDoor
namespace F
/-- A step of the encoder. -/
def encStep (g rest : List F) (c : F) : List F := List.zipWith (fun r h => r + (c + rest.headD 0) * h) (rest.tail ++ [0]) g
theorem ev_zip (x f : F) : ∀ (a b : List F), a.length = b.length → ev x (List.zipWith (fun r h => r + f * h) a b) = ev x a + f * ev x b
  | [], [], _ => by simp [ev, mul_zero, add_zero]
  | r :: a, h :: b, hl => by
    have hl' : a.length = b.length := by simpa using hl
    simp only [List.zipWith_cons_cons, ev, ev_zip x f a b hl', List.length_zipWith, hl', Nat.min_self, add_mul, mul_add]
    ac_rfl
theorem encStep_len {g rest : List F} (c : F) (h1 : rest.length = 6) (h2 : g.length = 6) : (encStep g rest c).length = 6 := by
  unfold encStep; simp [h1, h2]
theorem encStep_ev {g rest : List F} {x : F} (c : F) (h1 : rest.length = 6) (h2 : g.length = 6) (hg : ev x g = pwr x 6) : ev x (encStep g rest c) = ev x rest * x + c * pwr x 6 := by
  match rest, h1 with
  | r0 :: t, h1 =>
    have ht : t.length = 5 := by simpa using h1
    unfold encStep
    simp only [List.tail_cons, List.headD_cons]
    rw [ev_zip x _ _ _ (by simp [ht, h2]), hg, ev_app]
    simp only [List.length_singleton, ev, List.length_nil, zero_mul, add_zero, ht, pwr_one, add_mul]
    have : pwr x 6 = pwr x 5 * x := rfl
    rw [this]
    rw [show ev x t * x + (c * (pwr x 5 * x) + r0 * (pwr x 5 * x)) = r0 * pwr x 5 * x + ev x t * x + c * (pwr x 5 * x) by ac_rfl]
def encRest (g data : List F) : List F := data.foldl (encStep g) (List.replicate 6 0)
theorem enc_fold {g : List F} {x : F} (h2 : g.length = 6) (hg : ev x g = pwr x 6) : ∀ (d rest : List F), rest.length = 6 → (d.foldl (encStep g) rest).length = 6 ∧ ev x (d.foldl (encStep g) rest) = ev x rest * pwr x d.length + ev x d * pwr x 6
  | [], rest, h => ⟨h, by show ev x rest = ev x rest * 1 + 0 * _; rw [mul_one, zero_mul, add_zero]⟩
  | c :: d, rest, h => by
    obtain ⟨h3, h4⟩ := enc_fold h2 hg d (encStep g rest c) (encStep_len c h h2)
    refine ⟨h3, ?_⟩
    rw [List.foldl_cons, h4, encStep_ev c h h2 hg]
    simp only [ev, List.length_cons, pwr, add_mul]
    ac_rfl
/-- The generator. -/
def genL : List F := [mk 17 (by decide), mk 26 (by decide), mk 30 (by decide), mk 27 (by decide), mk 30 (by decide), mk 24 (by decide)]
def genStep (g : List F) (x : F) : List F := List.zipWith (· + ·) (g ++ [0]) (0 :: g.map (· * x))
def genTo : Nat → List F | 0 => [1] | k + 1 => genStep (genTo k) (gp (k + 1))
theorem genTo_six : genTo 6 = 1 :: genL := by decide +kernel
theorem genL_root : ∀ j : Fin 6, ev (gp (j.val + 1)) genL = pwr (gp (j.val + 1)) 6 := by decide +kernel
theorem enc_code (d : List F) : Code (d ++ encRest genL d) ∧ (encRest genL d).length = 6 := by
  have h : ∀ j, 1 ≤ j → j ≤ 6 → ev (gp j) genL = pwr (gp j) 6 := fun j h1 h2 => by
    have := genL_root ⟨j - 1, by omega⟩
    simpa [Nat.sub_add_cancel h1] using this
  refine ⟨fun j h1 h2 => ?_, (enc_fold rfl (h 1 (by omega) (by omega)) d _ (by simp)).1⟩
  obtain ⟨h3, h4⟩ := enc_fold (g := genL) (x := gp j) rfl (h j h1 h2) d (List.replicate 6 0) (by simp)
  rw [ev_app]
  unfold encRest
  rw [h3, h4, ev_zero, zero_mul, zero_add, add_self]

theorem ev_set (x v : F) : ∀ (w : List F) (i : Nat), i < w.length → ev x (w.set i v) = ev x w + (w.getD i 0 + v) * pwr x (w.length - 1 - i)
  | [], i, h => by simp at h
  | c :: w, 0, h => by
    simp only [List.set_cons_zero, ev, List.getD_cons_zero, List.length_cons, Nat.add_sub_cancel, Nat.sub_zero, add_mul]
    rw [show c * pwr x w.length + ev x w + (c * pwr x w.length + v * pwr x w.length) = (c * pwr x w.length + c * pwr x w.length) + (v * pwr x w.length + ev x w) by ac_rfl, add_self, zero_add]
  | c :: w, i + 1, h => by
    have hi : i < w.length := by simpa using h
    simp only [List.set_cons_succ, ev, List.getD_cons_succ, List.length_cons, List.length_set, ev_set x v w i hi]
    rw [show w.length + 1 - 1 - (i + 1) = w.length - 1 - i by omega]
    ac_rfl
theorem mom_app (a b : List (F × F)) (j : Nat) : mom (a ++ b) j = mom a j + mom b j := by
  induction a with
  | nil => simp [mom, zero_add]
  | cons p a ih => obtain ⟨c, x⟩ := p; simp only [List.cons_append, mom, ih]; ac_rfl
theorem mom_range (f : Nat → F × F) (j u : Nat) : mom ((List.range u).map f) j = sumN (fun c => (f c).1 * pwr (f c).2 j) u := by
  induction u with
  | zero => rfl
  | succ u ih =>
    rw [List.range_succ, List.map_append, mom_app, ih]
    show _ + (((f u).1 * pwr (f u).2 j) + 0) = _ + _
    rw [add_zero]
/-- Values added in some places. -/
def addAt (w : List F) : List Nat → List F → List F
  | p :: ps, x :: xs => addAt (w.set p (w.getD p 0 + x)) ps xs
  | _, _ => w
theorem addAt_len : ∀ (ps : List Nat) (xs w : List F), (addAt w ps xs).length = w.length
  | p :: ps, x :: xs, w => by simp [addAt, addAt_len ps xs]
  | [], _, w => by simp [addAt]
  | _ :: _, [], w => by simp [addAt]
theorem addAt_off {i : Nat} : ∀ (ps : List Nat) (xs w : List F), i ∉ ps → (addAt w ps xs)[i]? = w[i]?
  | p :: ps, x :: xs, w, h => by
    simp only [List.mem_cons, not_or] at h
    simp only [addAt]
    rw [addAt_off ps xs _ h.2, List.getElem?_set_ne (Ne.symm h.1)]
  | [], _, w, _ => by simp [addAt]
  | _ :: _, [], w, _ => by simp [addAt]
theorem addAt_ev (j : Nat) : ∀ (ps : List Nat) (xs w : List F), (∀ p ∈ ps, p < w.length) → ps.length = xs.length → ev (gp j) (addAt w ps xs) = ev (gp j) w + mom (xs.zip (ps.map fun p => gp (w.length - 1 - p))) j
  | p :: ps, x :: xs, w, h, hl => by
    have hp := h p List.mem_cons_self
    simp only [addAt]
    rw [addAt_ev j ps xs _ (fun q hq => by rw [List.length_set]; exact h q (List.mem_cons_of_mem _ hq)) (by simpa using hl), ev_set _ _ _ _ hp, List.length_set]
    simp only [List.map_cons, List.zip_cons_cons, mom, ← add_assoc, add_self, zero_add, pwr_gp]
    rw [Nat.mul_comm j (w.length - 1 - p)]
  | [], [], w, _, _ => by simp [addAt, mom, add_zero]
/-- The word c agrees with w outside the places ps. -/
def Off (w c : List F) (ps : List Nat) : Prop := c.length = w.length ∧ ∀ i, i ∉ ps → c[i]? = w[i]?
theorem Off.addAt (w : List F) (ps : List Nat) (xs : List F) : Off w (addAt w ps xs) ps := ⟨addAt_len ps xs w, fun _ hi => addAt_off ps xs w hi⟩
theorem getD_eq {w : List F} {i : Nat} (h : i < w.length) : w[i]? = some (w.getD i 0) := by
  rw [List.getD_eq_getElem?_getD, List.getElem?_eq_getElem h]; rfl
theorem off_is : ∀ (ps : List Nat) (w c : List F), Off w c ps → ps.Nodup → (∀ p ∈ ps, p < w.length) → c = F.addAt w ps (ps.map fun p => w.getD p 0 + c.getD p 0)
  | [], w, c, h, _, _ => by
    simp only [List.map_nil, F.addAt]
    exact List.ext_getElem? fun i => h.2 i (by simp)
  | p :: ps, w, c, h, hn, hlt => by
    have hp := hlt p List.mem_cons_self
    rw [List.nodup_cons] at hn
    simp only [List.map_cons, F.addAt, add_cancel]
    have ho : Off (w.set p (c.getD p 0)) c ps := by
      refine ⟨by rw [List.length_set]; exact h.1, fun i hi => ?_⟩
      by_cases e : p = i
      · subst e
        rw [List.getElem?_set_self hp]
        exact getD_eq (by rw [h.1]; exact hp)
      · rw [List.getElem?_set_ne e]
        exact h.2 i (fun hm => by rcases List.mem_cons.1 hm with e2 | e2; exact e e2.symm; exact hi e2)
    have := off_is ps _ c ho hn.2 (fun q hq => by rw [List.length_set]; exact hlt q (List.mem_cons_of_mem _ hq))
    refine this.trans (congrArg (F.addAt _ ps) (List.map_congr_left fun q hq => ?_))
    have hne : p ≠ q := fun e => hn.1 (e ▸ hq)
    congr 1
    rw [List.getD_eq_getElem?_getD, List.getElem?_set_ne hne, List.getD_eq_getElem?_getD]

/-- The equations for the places ps of the word w. -/
def sysM (w : List F) (ps : List Nat) : Nat → Nat → F := fun r c => if c < ps.length then gp ((r + 1) * (w.length - 1 - ps.getD c 0)) else ev (gp (r + 1)) w
theorem sys_dot {w : List F} {ps : List Nat} (r : Nat) (X : Nat → F) : dot (sysM w ps) r X (ps.length + 1) = mom ((List.range ps.length).map fun c => (X c, gp (w.length - 1 - ps.getD c 0))) (r + 1) + ev (gp (r + 1)) w * X ps.length := by
  show sumN _ ps.length + _ = _
  rw [mom_range]
  congr 1
  · refine sumN_congr fun c hc => ?_
    simp only [sysM, if_pos hc, pwr_gp]
    rw [mul_comm]
  · simp only [sysM, Nat.lt_irrefl, if_false]
theorem getD_mem {ps : List Nat} {c : Nat} (h : c < ps.length) : ps.getD c 0 ∈ ps := by
  rw [List.getD_eq_getElem?_getD, List.getElem?_eq_getElem h]; exact List.getElem_mem h
theorem sys_ind {w : List F} {ps : List Nat} (hn : w.length ≤ 31) (hd : ps.Nodup) (hlt : ∀ p ∈ ps, p < w.length) (h6 : ps.length ≤ 6) (X : Nat → F) (hs : Sol (sysM w ps) X (ps.length + 1)) (h0 : X ps.length = 0) : ∀ c, c < ps.length → X c = 0 := by
  intro c hc
  have hm : ((List.range ps.length).map fun c => (X c, gp (w.length - 1 - ps.getD c 0))).map Prod.snd = ps.map fun p => gp (w.length - 1 - p) := by
    apply List.ext_getElem?
    intro i
    rcases Nat.lt_or_ge i ps.length with hi | hi
    · simp [List.getElem?_range hi, List.getElem?_eq_getElem hi]
    · rw [List.getElem?_eq_none (by simpa using hi), List.getElem?_eq_none (by simpa using hi)]
  refine mom_zero ps.length ((List.range ps.length).map fun c => (X c, gp (w.length - 1 - ps.getD c 0))) (by simp) ?_ ?_ ?_ (X c, gp (w.length - 1 - ps.getD c 0)) (List.mem_map.2 ⟨c, List.mem_range.2 hc, rfl⟩)
  · rw [hm]
    have : ∀ (l : List Nat), l.Nodup → (∀ p ∈ l, p < w.length) → (l.map fun p => gp (w.length - 1 - p)).Nodup := by
      intro l
      induction l with
      | nil => intro _ _; simp
      | cons q l ih =>
        intro h1 h2
        rw [List.nodup_cons] at h1
        rw [List.map_cons, List.nodup_cons]
        refine ⟨fun hm => ?_, ih h1.2 fun p hp => h2 p (List.mem_cons_of_mem _ hp)⟩
        obtain ⟨p, hp, e⟩ := List.mem_map.1 hm
        have a := h2 p (List.mem_cons_of_mem _ hp)
        have b := h2 q List.mem_cons_self
        have := gp_inj (by omega) (by omega) e
        have e2 : p = q := by omega
        exact h1.1 (e2 ▸ hp)
    exact this ps hd hlt
  · intro p hp
    obtain ⟨i, _, rfl⟩ := List.mem_map.1 hp
    exact gp_ne _
  · intro j h1 h2
    have := hs (j - 1) (by omega)
    rw [sys_dot, h0, mul_zero, add_zero, Nat.sub_add_cancel h1] at this
    exact this
theorem range_zip (X : Nat → F) (f : Nat → F) (ps : List Nat) : ((List.range ps.length).map X).zip (ps.map f) = (List.range ps.length).map fun c => (X c, f (ps.getD c 0)) := by
  apply List.ext_getElem?
  intro i
  rcases Nat.lt_or_ge i ps.length with hi | hi
  · simp [List.getElem?_zip_eq_some, List.getElem?_range hi, List.getElem?_eq_getElem hi]
  · rw [List.getElem?_eq_none (by simpa using hi), List.getElem?_eq_none (by simpa using hi)]
theorem sys_code {w : List F} {ps : List Nat} (hlt : ∀ p ∈ ps, p < w.length) (X : Nat → F) (h1 : X ps.length = 1) : Sol (sysM w ps) X (ps.length + 1) ↔ Code (F.addAt w ps ((List.range ps.length).map X)) := by
  have h : ∀ j, ev (gp j) (F.addAt w ps ((List.range ps.length).map X)) = ev (gp j) w + mom ((List.range ps.length).map fun c => (X c, gp (w.length - 1 - ps.getD c 0))) j := fun j => by
    rw [addAt_ev j ps _ w hlt (by simp), range_zip X (fun p => gp (w.length - 1 - p))]
  constructor
  · intro hs j h2 h3
    have := hs (j - 1) (by omega)
    rw [sys_dot, h1, mul_one, Nat.sub_add_cancel h2] at this
    rw [h, add_comm]; exact this
  · intro hc r hr
    have := hc (r + 1) (by omega) (by omega)
    rw [h] at this
    rw [sys_dot, h1, mul_one, add_comm]; exact this
/-- What an elimination finds. -/
theorem sys_end {w : List F} {ps : List Nat} {M : Nat → Nat → F} (hn : w.length ≤ 31) (hd : ps.Nodup) (hlt : ∀ p ∈ ps, p < w.length) (h6 : ps.length ≤ 6) (hu : Unit6 M ps.length) (hM : ∀ X, Sol M X (ps.length + 1) ↔ Sol (sysM w ps) X (ps.length + 1)) :
    ((∀ r, ps.length ≤ r → r < 6 → M r ps.length = 0) → Code (F.addAt w ps ((List.range ps.length).map fun c => M c ps.length))) ∧
    (∀ c, Off w c ps → Code c → (∀ r, ps.length ≤ r → r < 6 → M r ps.length = 0) ∧ c = F.addAt w ps ((List.range ps.length).map fun c => M c ps.length)) := by
  constructor
  · intro hb
    have h := (sys_code hlt (fun c => if c < ps.length then M c ps.length else 1) (by simp)).1 ((hM _).1 ((unit_sol hu h6 _ (by simp)).2 ⟨fun c hc => by simp [hc], hb⟩))
    have e : (List.range ps.length).map (fun c => if c < ps.length then M c ps.length else 1) = (List.range ps.length).map fun c => M c ps.length := List.map_congr_left fun c hc => by rw [if_pos (List.mem_range.1 hc)]
    rw [e] at h
    exact h
  · intro c ho hc
    have hcw := off_is ps w c ho hd hlt
    have e : (ps.map fun p => w.getD p 0 + c.getD p 0) = (List.range ps.length).map (fun i => if i < ps.length then w.getD (ps.getD i 0) 0 + c.getD (ps.getD i 0) 0 else 1) := by
      apply List.ext_getElem?
      intro i
      rcases Nat.lt_or_ge i ps.length with hi | hi
      · simp [List.getElem?_range hi, List.getElem?_eq_getElem hi, hi]
      · rw [List.getElem?_eq_none (by simpa using hi), List.getElem?_eq_none (by simpa using hi)]
    rw [e] at hcw
    rw [hcw] at hc
    have hs := (hM _).2 ((sys_code hlt (fun i => if i < ps.length then w.getD (ps.getD i 0) 0 + c.getD (ps.getD i 0) 0 else 1) (by simp)).2 hc)
    obtain ⟨h1, h2⟩ := (unit_sol hu h6 _ (by simp)).1 hs
    refine ⟨h2, ?_⟩
    rw [hcw]
    congr 1
    exact List.map_congr_left fun i hi => h1 i (List.mem_range.1 hi)
end F
end Go.Proofs.YtlabmdekdhjofaaDoor
