/- Encode and Decode of rscode at words that are known. -/
import Derived.Test.YtcpanmonllhmaaaDoorRsN
import Derived.Test.YtcpanmonllhmaaaDoorInts
set_option linter.unusedSimpArgs false
set_option linter.unusedVariables false
namespace Go.Proofs.YtcpanmonllhmaaaDoor
open Go.RowKit

theorem enc_slice {p : Nat} (v : Value) (l : List Int) (w : World) (hT : Tabs w) (hI : IsI p w v l) :
    Calls Tryd.prog 33 #[v] w fun e w' => ∃ A m c, e = .returned (.tuple #[.slice A m c, .int .i64 (encE l)]) ∧ m = (encL l).length ∧ m ≤ c ∧ c ≤ 9223372036854775807 ∧ w'.ownsRow w.heap.size 3 1 (.slice A m c) m ((encL l).map (Value.int .i64)) ∧ Ext w w' :=
  (encode_any v l w hT hI).mono fun e w' ⟨v', he, ho, hx⟩ => by
    obtain ⟨A, c, rfl, h1, h2⟩ := own_shape ho
    exact ⟨A, _, c, he, rfl, h1, h2, ho, hx⟩
theorem encL_i64 (l : List Int) : ∀ x ∈ encL l, I64 x := by
  unfold encL
  split
  · exact wI_i64 _
  · simp
theorem encL_ok {d : List F} (h1 : 1 ≤ d.length) (h9 : d.length ≤ 9) : encL (wI d) = wI (encF d) ∧ encE (wI d) = 0 := by
  have : dataB (wI d) = true := mem_data (by rw [wI_len]; exact h1) (by rw [wI_len]; exact h9) (by
    intro x hx
    unfold wI at hx
    obtain ⟨c, _, rfl⟩ := List.mem_map.1 hx
    have := c.lt
    omega)
  unfold encL encE
  rw [this, toF_wI]
  exact ⟨rfl, rfl⟩
theorem wI_get (cw : List F) (i : Nat) : (wI cw).getD i 0 = ((cw.getD i 0).n : Int) := by
  unfold wI
  rw [List.getD_eq_getElem?_getD, List.getD_eq_getElem?_getD, List.getElem?_map]
  cases cw[i]? <;> rfl
theorem er_code (cw : List F) (k : Nat) : erTo (wI cw) k = [] := by
  rw [List.eq_nil_iff_forall_not_mem]
  intro i hi
  have := (mem_er.1 hi).2
  rw [wI_get] at this
  omega
theorem near_code {cw : List F} (hc : F.Code cw) : Near (wI cw) cw 0 := by
  refine ⟨by rw [wI_len], hc, ?_, by rw [er_code]; decide⟩
  unfold wrongP
  rw [toF_wI, List.length_eq_zero_iff, List.filter_eq_nil_iff]
  intro i _
  simp
theorem word_code {cw : List F} (h7 : 7 ≤ cw.length) (h15 : cw.length ≤ 15) : wordB (-1) (wI cw) = true := mem_word (by rw [wI_len]; exact h7) (by rw [wI_len]; exact h15) (by
  intro x hx
  unfold wI at hx
  obtain ⟨c, _, rfl⟩ := List.mem_map.1 hx
  have := c.lt
  omega)
/-- Decode of a word that is near a codeword. -/
theorem dec_near {q : Nat} (v : Value) (l : List Int) (cw : List F) (k : Nat) (w : World) (hT : Tabs w) (hI : IsI q w v l) (hw : wordB (-1) l = true) (hn : Near l cw k) :
    Calls Tryd.prog 55 #[v] w fun e w' => ∃ A m c, e = .returned (.tuple #[.slice A m c, .int .i64 (k : Int), .int .i64 0]) ∧ IsI w.heap.size w' (.slice A m c) (wI (cw.take (l.length - 6))) ∧ Ext w w' :=
  (decode_any v l w hT hI).mono fun e w' ⟨A, m, c, d, er, kk, he, hi, hx, _, ht⟩ => by
    have h15 := (word_mem hw).2.1
    rcases ht hw with ⟨c', n', h1, h2, h3, h4⟩ | ⟨h1, _⟩
    · obtain ⟨rfl, rfl⟩ := near_uniq (by omega) h1 hn
      subst h2; subst h3; subst h4
      exact ⟨A, m, c, he, hi, hx⟩
    · exact absurd hn (h1 _ _)
theorem own_isZ {w : World} {base n : Nat} {v : Value} {l : List Int} (h : w.ownsRow base 3 1 v n (l.map (Value.int .i64))) (hb : ∀ x ∈ l, I64 x) (hl : l.length ≤ 9223372036854775807) : IsI w.heap.size w v l :=
  IsI.of_own' (p := w.heap.size) (e := 3) h (fun e => by have := (h.lt _ e).2; omega) hb hl
theorem own_isL {w : World} {base n : Nat} {v : Value} {l : List Int} (h : w.ownsRow base 3 1 v n ((encL l).map (Value.int .i64))) : IsI w.heap.size w v (encL l) :=
  own_isZ h (encL_i64 l) (by unfold encL; split <;> rename_i hd
                             · have := data_mem hd; rw [wI_len, encF_len, toF_len]; omega
                             · simp)

end Go.Proofs.YtcpanmonllhmaaaDoor
/- Both Distance functions. -/
namespace Go.Proofs.YtcpanmonllhmaaaDoor
open Go.RowKit

/-- In how many of the first k places two lists differ. -/
def dfTo (a b : List Int) : Nat → Int
  | 0 => 0
  | k + 1 => dfTo a b k + (if a[k]? = b[k]? then 0 else 1)
def distZ (a b : List Int) : Int := if a.length ≠ b.length then -1 else dfTo a b a.length
theorem dfTo_eq {a b : List Int} {k : Nat} {x y : Int} (hx : a[k]? = some x) (hy : b[k]? = some y) (e : x = y) : dfTo a b (k + 1) = dfTo a b k := by
  show dfTo a b k + _ = _
  rw [hx, hy, e, if_pos rfl, Int.add_zero]
theorem dfTo_ne {a b : List Int} {k : Nat} {x y : Int} (hx : a[k]? = some x) (hy : b[k]? = some y) (e : x ≠ y) : dfTo a b (k + 1) = dfTo a b k + 1 := by
  show dfTo a b k + _ = _
  rw [hx, hy, if_neg (fun h => e (Option.some.inj h))]
theorem dfTo_self (a : List Int) (k : Nat) : dfTo a a k = 0 := by
  induction k with
  | zero => rfl
  | succ k ih => show dfTo a a k + _ = 0; rw [ih, if_pos rfl]; rfl
theorem distZ_self (a : List Int) : distZ a a = 0 := by unfold distZ; rw [if_neg (by simp)]; exact dfTo_self a _

set_option maxRecDepth 100000 in
set_option maxHeartbeats 1000000 in
theorem dist_any (va vb : Value) (a b : List Int) (w : World) {p q : Nat} (ha : IsI p w va a) (hb : IsI q w vb b) (hal : a.length ≤ 1000000) :
    Calls Tryd.prog 38 #[va, vb] w fun e w' => e = .returned (.int .i64 (distZ a b)) ∧ ∃ m, w' = w.drewN m := by
  obtain ⟨A, n, c, rfl, hnc, hc, hnn, HL⟩ := ha.open_
  obtain ⟨B, n', c', rfl, hnc', hc', hnn', HL'⟩ := hb.open_
  have HA := Lib.hid ha
  have HB := Lib.hid hb
  have hn6 : n ≤ 1000000 := by have := HL.out; omega
  clear ha hb hal
  by_cases hn : n = n'
  · subst hn
    have HD : Hid (distZ a b = dfTo a b n) := by show _ = _; unfold distZ; rw [if_neg (by rw [HL.out, HL'.out]; simp), HL.out]
    go_enter Tryd.func38, Tryd.ntmps38
    go_wp2_with fail
    go_loopw [5, 14] (fun s i wr => ∃ (k m : Nat) (d : Int), k ≤ n ∧ i = .int .i64 k ∧ s = .int .i64 d ∧ 0 ≤ d ∧ d ≤ k ∧ Hid (d = dfTo a b k) ∧ wr = w.drewN m) (fun _ i _ => n - (intOf i).toNat)
    case atStart => exact ⟨0, 0, 0, Nat.zero_le _, rfl, rfl, by omega, by omega, rfl, rfl⟩
    case round =>
      obtain ⟨k, m, d, hk, rfl, rfl, hd0, hd1, HK, rfl⟩ := hrel
      by_cases hlt : k < n
      · obtain ⟨b1, o1, x, rfl, hcx, HX, hx1, hx2⟩ := HA.out.at_ hlt
        obtain ⟨b2, o2, y, rfl, hcy, HY, hy1, hy2⟩ := HB.out.at_ hlt
        by_cases e : x = y
        · have e1 : (x != y) = false := by simp [e]
          have HS := Lib.hid (dfTo_eq HX.out HY.out e)
          clear e
          go_wp2_with fail
          go_quiet (fail)
          go_wp2_with fail
          go_roundw
          case rel => exact ⟨k + 1, _, d, by omega, by go_num, rfl, by omega, by omega, by rw [HS.out]; exact HK.out, rfl⟩
          case measure => simp [intOf]; omega
        · have e1 : (x != y) = true := by simp [e]
          have HS := Lib.hid (dfTo_ne HX.out HY.out e)
          clear e
          go_wp2_with fail
          go_quiet (fail)
          go_wp2_with fail
          go_roundw
          case rel => exact ⟨k + 1, _, d + 1, by omega, by go_num, rfl, by omega, by omega, by rw [HS.out, ← HK.out]; rfl, rfl⟩
          case measure => simp [intOf]; omega
      · obtain rfl : k = n := by omega
        go_wp2_with fail
        go_ret
        exact ⟨ret_int (by rw [HD.out]; exact HK.out), _, rfl⟩
  · have e1 : ((n : Int) != (n' : Int)) = true := by simp; omega
    have HD : Hid (distZ a b = -1) := by show _ = _; unfold distZ; rw [if_pos (by rw [HL.out, HL'.out]; simpa using hn)]
    clear hn
    go_enter Tryd.func38, Tryd.ntmps38
    go_wp2_with fail
    go_ret
    exact ⟨ret_int HD.out.symm, 0, rfl⟩
theorem dist_ext (va vb : Value) (a b : List Int) (w : World) {p q : Nat} (ha : IsI p w va a) (hb : IsI q w vb b) (hal : a.length ≤ 1000000) :
    Calls Tryd.prog 38 #[va, vb] w fun e w' => e = .returned (.int .i64 (distZ a b)) ∧ Ext w w' :=
  (dist_any va vb a b w ha hb hal).mono fun _ _ ⟨he, m, hm⟩ => ⟨he, by rw [hm]; exact (Ext.refl _).drewN _⟩
end Go.Proofs.YtcpanmonllhmaaaDoor
/- Sums and multiples of codewords, distances, rows of the call's own beside each other. -/
namespace Go.Proofs.YtcpanmonllhmaaaDoor
open Go.RowKit

/-- An element out of a byte. -/
def u8F (a : Int) : F := F.mk (a.toNat % 32) (Nat.mod_lt _ (by decide))
theorem u8F_n {a : Int} (h0 : 0 ≤ a) : a.tmod 32 = ((u8F a).n : Int) := by
  rw [Int.tmod_eq_emod_of_nonneg h0]
  unfold u8F
  rw [F.n_mk]
  omega
theorem n_beq (a b : F) : (((a.n : Int)) == ((b.n : Int))) = (a == b) := by
  by_cases h : a = b
  · subst h; simp
  · have : a.n ≠ b.n := fun e => h (F.ext e)
    rw [beq_eq_false_iff_ne.2 h, beq_eq_false_iff_ne.2 (by omega)]
theorem n_self {a b : F} (h : a = b) : (((a.n : Int)) == ((b.n : Int))) = true := by rw [h]; exact beq_self_eq_true _
theorem mul_zero_iff (x y : F) : (x * y == 0) = (x == 0 || y == 0) := by
  by_cases hx : x = 0
  · subst hx; rw [F.zero_mul]; simp
  · by_cases hy : y = 0
    · subst hy; rw [F.mul_zero]; simp
    · have : x * y ≠ 0 := fun e => (F.mul_eq_zero _ _ e).elim hx hy
      rw [beq_eq_false_iff_ne.2 hx, beq_eq_false_iff_ne.2 hy, beq_eq_false_iff_ne.2 this]; rfl

theorem mul_F1 (a : F) (w : World) (hT : Tabs w) :
    Calls Tryd.prog 61 #[.int .i64 (a.n : Int), .int .i64 1] w fun e w' => e = .returned (.int .i64 ((a * 1).n : Int)) ∧ ∃ n, w' = w.drewN n := mul_F a 1 w hT

theorem dfTo_count (a b : List F) (k : Nat) : k ≤ a.length → a.length = b.length → dfTo (wI a) (wI b) k = (((List.range k).filter fun i => !(a.getD i 0 == b.getD i 0)).length : Int) := by
  intro hk hl
  induction k with
  | zero => rfl
  | succ k ih =>
    show dfTo (wI a) (wI b) k + _ = _
    rw [ih (by omega), List.range_succ, List.filter_append, List.length_append]
    have e1 : (wI a)[k]? = some ((a.getD k 0).n : Int) := by unfold wI; rw [List.getElem?_map, F.getD_eq (w := a) (by omega)]; rfl
    have e2 : (wI b)[k]? = some ((b.getD k 0).n : Int) := by unfold wI; rw [List.getElem?_map, F.getD_eq (w := b) (by omega)]; rfl
    rw [e1, e2]
    rw [List.filter_cons, List.filter_nil]
    by_cases h : a.getD k 0 = b.getD k 0
    · rw [h, if_pos rfl, if_neg (by simp)]; simp
    · have hn : (a.getD k 0).n ≠ (b.getD k 0).n := fun e => h (F.ext e)
      rw [if_neg (fun e => hn (by injection e with e; omega)), if_pos (by rw [beq_eq_false_iff_ne.2 h]; rfl)]
      simp
theorem dist_diffs {a b : List F} (h : a.length = b.length) : distZ (wI a) (wI b) = ((F.diffs a b).length : Int) := by
  unfold distZ
  rw [if_neg (by rw [wI_len, wI_len]; simpa using h), wI_len, dfTo_count a b _ (Nat.le_refl _) h, diffs_len a b h]
theorem enc_apart {a b : List F} (h : a.length = b.length) (h9 : a.length ≤ 9) (hne : a ≠ b) : 7 ≤ distZ (wI (encF a)) (wI (encF b)) := by
  have hl : (encF a).length = (encF b).length := by rw [encF_len, encF_len, h]
  rw [dist_diffs hl]
  rcases Nat.lt_or_ge (F.diffs (encF a) (encF b)).length 7 with hlt | hge
  · have := F.code_apart (encF_code a) (encF_code b) hl (by rw [encF_len]; omega) (by omega)
    unfold encF at this
    exact absurd (List.append_inj this h).1 hne
  · omega


/-- Two rows lie apart. -/
def Dj (v u : Value) : Prop := ∀ i, v.ownBlock = some i → u.ownBlock ≠ some i
theorem Dj.symm {v u : Value} (h : Dj v u) : Dj u v := fun i hu hv => h i hv hu
theorem own_other {w wa w3 : World} {base e size n : Nat} {v u : Value} {xs : List Value} (hu : w.ownsRow base e size u n xs) (d : Dj v u) (x : Ext w wa) (hg : wa.grownBy w3 v.ownBlock) : w3.ownsRow base e size u n xs :=
  own_apart (own_ext hu x) hg (fun k hk hr => d k hr hk)
theorem dj_new {w : World} {base e size n m c gg : Nat} {v u : Value} {xs : List Value} (hu : w.ownsRow base e size u n xs) (d : Dj v u) (hat : v.ownBlock = some gg ∨ w.heap.size ≤ gg) : Dj (.slice (some ⟨gg, 0, none⟩) m c) u := fun i hi hb => by
  have e : gg = i := by simpa [Value.ownBlock] using hi
  subst e
  rcases hat with h | h
  · exact d _ h hb
  · have := (hu.lt _ hb).2; omega

/-- Sums of a multiple. -/
def lin (m : F) (a b : List F) : List F := List.zipWith (fun q p => q + m * p) b a
theorem lin_len {m : F} {a b : List F} (h : a.length = b.length) : (lin m a b).length = a.length := by unfold lin; rw [List.length_zipWith, h, Nat.min_self]
theorem lin_snoc {m x y : F} {a b : List F} (h : a.length = b.length) : lin m (a ++ [x]) (b ++ [y]) = lin m a b ++ [y + m * x] := by
  unfold lin; rw [List.zipWith_append h.symm]; rfl
theorem lin_code {m : F} {a b : List F} (h : a.length = b.length) (ha : F.Code a) (hb : F.Code b) : F.Code (lin m a b) := fun j h1 h2 => by
  unfold lin
  rw [F.ev_zip _ _ _ _ h.symm, ha j h1 h2, hb j h1 h2, F.mul_zero, F.add_zero]
theorem lin_enc {m : F} {a b : List F} (h : a.length = b.length) (h9 : a.length ≤ 9) : encF (lin m a b) = lin m (encF a) (encF b) := by
  have hle : (encF a).length = (encF b).length := by rw [encF_len, encF_len, h]
  have hl : (encF (lin m a b)).length = (lin m (encF a) (encF b)).length := by rw [encF_len, lin_len h, lin_len hle, encF_len]
  refine F.code_apart (encF_code _) (lin_code hle (encF_code a) (encF_code b)) hl (by rw [encF_len, lin_len h]; omega) ?_
  refine Nat.le_trans (diffs_le (ps := (List.range 6).map fun i => a.length + i) hl fun i hi hne => ?_) (by simp)
  rw [encF_len, lin_len h] at hi
  refine List.mem_map.2 ⟨i - a.length, List.mem_range.2 (by omega), ?_⟩
  rcases Nat.lt_or_ge i a.length with hlt | hge
  · exfalso
    apply hne
    have e1 : encF (lin m a b) = lin m a b ++ F.encRest F.genL (lin m a b) := rfl
    have e2 : lin m (encF a) (encF b) = lin m a b ++ lin m (F.encRest F.genL a) (F.encRest F.genL b) := by
      unfold lin encF; rw [List.zipWith_append h.symm]
    rw [e1, e2, List.getD_eq_getElem?_getD, List.getD_eq_getElem?_getD, List.getElem?_append_left (by rw [lin_len h]; exact hlt), List.getElem?_append_left (by rw [lin_len h]; exact hlt)]
  · omega

theorem own_snoc {base g k c : Nat} {w : World} {fa : List F} {x : F} (hl : fa.length = k) (h : w.ownsRow base 3 1 (.slice (some ⟨g, 0, none⟩) (k + 1) c) (k + 1) ((wI fa).map (Value.int .i64) ++ [.int .i64 (x.n : Int)])) : OwnW base w (.slice (some ⟨g, 0, none⟩) (k + 1) c) (fa ++ [x]) := by
  show World.ownsRow _ _ _ _ _ _ _
  rw [wI_app, List.map_append, List.length_append, hl]; exact h
theorem isF_at {p : Nat} {w : World} {A : Option Addr} {n c k : Nat} {f : List F} (h : IsI p w (.slice A n c) (wI f)) (hk : k < n) : ∃ b off, A = some ⟨b, off, none⟩ ∧ w.cell? ⟨b, off + k, none⟩ = some (.int .i64 ((f.getD k 0).n : Int)) := by
  obtain ⟨b, off, x, ha, hc, hx, _⟩ := h.at_ hk
  refine ⟨b, off, ha, ?_⟩
  rw [hc]
  have e := wI_get f k
  rw [List.getD_eq_getElem?_getD, hx.out] at e
  rw [← e]; rfl
theorem lin_get {m : F} {a b : List F} {j : Nat} (ha : j < a.length) (hb : j < b.length) : (lin m a b).getD j 0 = a.getD j 0 * m + b.getD j 0 := by
  unfold lin
  rw [List.getD_eq_getElem?_getD, List.getD_eq_getElem?_getD, List.getD_eq_getElem?_getD, List.getElem?_zipWith, List.getElem?_eq_getElem ha, List.getElem?_eq_getElem hb]
  show _ + _ = _
  rw [F.add_comm, F.mul_comm]; rfl

end Go.Proofs.YtcpanmonllhmaaaDoor
/- awardingbodyref18: symbols, Syndrome, Codeword. -/
namespace Go.Proofs.YtcpanmonllhmaaaDoor
open Go.RowKit

theorem ev_snoc (x c : F) (l : List F) : F.ev x (l ++ [c]) = F.ev x l * x + c := by
  rw [F.ev_app, show [c].length = 1 from rfl, F.pwr_one]
  congr 1
  show c * F.pwr x 0 + 0 = c
  show c * 1 + 0 = c
  rw [F.mul_one, F.add_zero]
theorem ev_take {x : F} {l : List F} {k : Nat} (h : k < l.length) : F.ev x (l.take (k + 1)) = F.ev x (l.take k) * x + l.getD k 0 := by
  rw [List.take_add_one, F.getD_eq h]
  exact ev_snoc _ _ _

def okTo (f : Int) (l : List Int) (k : Nat) : Prop := ∀ i, i < k → f ≤ l.getD i 0 ∧ l.getD i 0 < 32
theorem okTo_all {f : Int} {l : List Int} {n : Nat} (h : okTo f l n) (hl : l.length = n) (h7 : 7 ≤ n) (h15 : n ≤ 15) : wordB f l = true :=
  mem_word (by omega) (by omega) fun x hx => by
    obtain ⟨i, hi, rfl⟩ := List.getElem_of_mem hx
    have := h i (by omega)
    rw [List.getD_eq_getElem?_getD, List.getElem?_eq_getElem hi] at this
    exact this
theorem word_bad {f x : Int} {l : List Int} {k : Nat} (hx : l[k]? = some x) (h : x < f ∨ 31 < x) : wordB f l = false := by
  rcases Bool.eq_false_or_eq_true (wordB f l) with hb | hb
  · have := (word_mem hb).2.2 x (List.mem_of_getElem? hx)
    omega
  · exact hb
theorem word_len {f : Int} {l : List Int} (h : l.length < 7 ∨ 15 < l.length) : wordB f l = false := by
  rcases Bool.eq_false_or_eq_true (wordB f l) with hb | hb
  · have := word_mem hb
    omega
  · exact hb

set_option maxRecDepth 100000 in
set_option maxHeartbeats 1000000 in
theorem rsymbols_any {p : Nat} (v : Value) (l : List Int) (f : Int) (w : World) (hI : IsI p w v l) (f1 : -10 ≤ f) (f2 : f ≤ 10) :
    Calls Tryd.prog 77 #[v, .int .i64 f] w fun e w' => e = .returned (.bool (wordB f l)) ∧ Ext w w' := by
  obtain ⟨A, n, c, rfl, hnc, hc, hnn, HL⟩ := hI.open_
  have HI := Lib.hid hI
  clear hI
  by_cases h7 : n < 7
  · go_enter Tryd.func77, Tryd.ntmps77
    go_wp2_with fail
    go_ret
    exact ⟨ret_bool (word_len (.inl (by rw [HL.out]; exact h7))).symm, Ext.refl _⟩
  by_cases h15 : 15 < n
  · go_enter Tryd.func77, Tryd.ntmps77
    go_wp2_with fail
    go_ret
    exact ⟨ret_bool (word_len (.inr (by rw [HL.out]; exact h15))).symm, Ext.refl _⟩
  go_enter Tryd.func77, Tryd.ntmps77
  go_wp2_with fail
  go_loopw [5] (fun s5 wr => ∃ (k : Nat), s5 = .int .i64 (k : Int) ∧ k ≤ n ∧ Hid (okTo f l k ∧ Ext w wr)) (fun i _ => n - (intOf i).toNat)
  case atStart => exact ⟨0, rfl, by omega, fun i hi => by omega, Ext.refl _⟩
  case round =>
    obtain ⟨k, rfl, hk, HK⟩ := hrel
    by_cases hkn : k < n
    · obtain ⟨b, off, x, rfl, cx, hx, hx1, hx2⟩ := (HI.out.ext HK.out.2).at_ hkn
      by_cases hlo : x < f
      · go_wp2_with fail
        go_ret
        exact ⟨ret_bool (word_bad hx.out (.inl hlo)).symm, HK.out.2⟩
      by_cases hhi : 31 < x
      · go_wp2_with fail
        go_ret
        exact ⟨ret_bool (word_bad hx.out (.inr hhi)).symm, HK.out.2⟩
      go_wp2_with fail
      go_roundw
      case rel =>
        refine ⟨k + 1, by go_num, by omega, fun i hi => ?_, HK.out.2⟩
        rcases Nat.lt_or_ge i k with h | h
        · exact HK.out.1 i h
        · obtain rfl : i = k := by omega
          rw [List.getD_eq_getElem?_getD, hx.out]
          show f ≤ x ∧ x < 32
          omega
      case measure => simp [intOf]; omega
    · obtain rfl : k = n := by omega
      go_wp2_with fail
      go_ret
      exact ⟨ret_bool (okTo_all HK.out.1 HL.out (by omega) (by omega)).symm, HK.out.2⟩

set_option maxRecDepth 100000 in
set_option maxHeartbeats 1000000 in
theorem rsyn_any {p : Nat} (v : Value) (wd : List F) (j : Nat) (w : World) (hI : IsI p w v (wI wd)) (hj : j ≤ 1000) :
    Calls Tryd.prog 89 #[v, .int .i64 (j : Int)] w fun e w' => e = .returned (.int .i64 ((F.ev (F.gp j) wd).n : Int)) ∧ Ext w w' := by
  obtain ⟨A, n, c, rfl, hnc, hc, hnn, HL0⟩ := hI.open_
  have HL : Hid (wd.length = n) := by have := HL0.out; rw [wI_len] at this; exact this
  have HI := Lib.hid hI
  clear hI HL0
  go_enter Tryd.func89, Tryd.ntmps89
  go_wp2_with fail
  refine (rpower_F j _ (by omega)).mono ?_
  rintro e w1 ⟨rfl, hx1⟩
  replace HI := Lib.hid (HI.out.ext hx1)
  replace hx1 := Lib.hid hx1
  generalize hgx : F.gp j = x
  go_wp2_with fail
  go_loopw [5, 7] (fun s5 s7 wr => ∃ (k : Nat) (y : F), s5 = .int .i64 (y.n : Int) ∧ s7 = .int .i64 (k : Int) ∧ k ≤ n ∧ Hid (y = F.ev x (wd.take k) ∧ Ext w1 wr)) (fun _ i _ => n - (intOf i).toNat)
  case atStart => exact ⟨0, 0, rfl, rfl, by omega, rfl, Ext.refl _⟩
  case round =>
    obtain ⟨k, y, rfl, rfl, hk, HK⟩ := hrel
    by_cases hkn : k < n
    · obtain ⟨b, off, rfl, cx⟩ := isF_at (HI.out.ext HK.out.2) hkn
      have hxor := xor_F (y * x) (wd.getD k 0)
      have HY : Hid (y * x + wd.getD k 0 = F.ev x (wd.take (k + 1))) := by show _ = _; rw [ev_take (by rw [HL.out]; exact hkn), HK.out.1]
      generalize wd.getD k 0 = d at *
      have HQ : Hid (∀ n, Calls Tryd.prog 91 #[.int .i64 (y.n : Int), .int .i64 (x.n : Int)] (wr.drewN n) fun e w' => e = .returned (.int .i64 ((y * x).n : Int)) ∧ ∃ n', w' = (wr.drewN n).drewN n') := fun n => (rmul_F y x _).mono fun _ _ ⟨h1, h2⟩ => ⟨h1, 0, by rw [h2]; rfl⟩
      go_wp2_with fail
      go_quiet ((go_at_call 91; exact Calls.quiet_of (HQ.out _)))
      go_wp2_with fail
      go_roundw
      case rel => exact ⟨k + 1, _, rfl, by go_num, by omega, HY.out, HK.out.2.drewN _⟩
      case measure => simp [intOf]; omega
    · obtain rfl : k = n := by omega
      have HY : Hid (y = F.ev x wd) := by
        have h := HK.out.1
        rw [List.take_of_length_le (by rw [HL.out]; omega)] at h
        exact h
      go_wp2_with fail
      go_ret
      exact ⟨by rw [HY.out, hgx]; rfl, hx1.out.trans HK.out.2⟩

def zeroTo (wd : List F) (k : Nat) : Prop := ∀ j, 1 ≤ j → j ≤ k → F.ev (F.gp j) wd = 0
theorem codeB_of {l : List Int} (hb : wordB 0 l = true) (h : zeroTo (toF l) 6) : codeB l = true := by
  unfold codeB; rw [hb, Bool.true_and]; exact (code_iff _).2 h
theorem codeB_no {l : List Int} {j : Nat} (hb : wordB 0 l = true) (h1 : 1 ≤ j) (h6 : j ≤ 6) (h : F.ev (F.gp j) (toF l) ≠ 0) : codeB l = false := by
  rcases Bool.eq_false_or_eq_true (codeB l) with hc | hc
  · unfold codeB at hc
    rw [hb, Bool.true_and] at hc
    exact absurd ((code_iff _).1 hc j h1 h6) h
  · exact hc

set_option maxRecDepth 100000 in
set_option maxHeartbeats 1000000 in
theorem rcodeword_any {p : Nat} (v : Value) (l : List Int) (w : World) (hI : IsI p w v l) :
    Calls Tryd.prog 92 #[v] w fun e w' => e = .returned (.bool (codeB l)) ∧ Ext w w' := by
  have HI := Lib.hid hI
  clear hI
  rcases Bool.eq_false_or_eq_true (wordB 0 l) with hb | hb
  · have HB := Lib.hid hb
    have HW := Lib.hid (wI_toF (word_mem hb).2.2)
    go_enter Tryd.func92, Tryd.ntmps92
    go_wp2_with fail
    refine (rsymbols_any _ l 0 _ HI.out (by omega) (by omega)).mono ?_
    rintro e w1 ⟨rfl, hx1⟩
    rw [hb]
    replace HI := Lib.hid (HI.out.ext hx1)
    replace hx1 := Lib.hid hx1
    clear hb
    go_wp2_with fail
    go_loopw [3] (fun s3 wr => ∃ (k : Nat), s3 = .int .i64 (k : Int) ∧ 1 ≤ k ∧ k ≤ 7 ∧ Hid (zeroTo (toF l) (k - 1) ∧ Ext w1 wr)) (fun i _ => 7 - (intOf i).toNat)
    case atStart => exact ⟨1, rfl, by omega, by omega, fun j h1 h2 => by omega, Ext.refl _⟩
    case round =>
      obtain ⟨k, rfl, hk1, hk7, HK⟩ := hrel
      by_cases hk : k ≤ 6
      · go_upto_if 14 with (go_at_call 89; refine (rsyn_any _ (toF l) k _ (by rw [HW.out]; exact HI.out.ext HK.out.2) (by omega)).mono ?_; rintro e w2 ⟨rfl, hx2⟩)
        have HX2 := Lib.hid (HK.out.2.trans hx2)
        clear hx2
        by_cases he : F.ev (F.gp k) (toF l) = 0
        · have HZ : Hid (zeroTo (toF l) (k + 1 - 1)) := by
            intro j h1 h2
            rcases Nat.lt_or_ge j k with h | h
            · exact HK.out.1 j h1 (by omega)
            · obtain rfl : j = k := by omega
              exact he
          rw [he]
          have hz0 : ((0 : F).n : Int) = 0 := rfl
          rw [hz0]
          clear he hz0
          go_wp2_with fail
          go_roundw
          case rel => exact ⟨k + 1, by go_num, by omega, by omega, HZ.out, HX2.out⟩
          case measure => simp [intOf]; omega
        · have HC : Hid (codeB l = false) := codeB_no HB.out hk1 hk he
          have hn : (F.ev (F.gp k) (toF l)).n ≠ 0 := fun e => he (F.ext e)
          have hlt := (F.ev (F.gp k) (toF l)).lt
          generalize F.ev (F.gp k) (toF l) = y at *
          clear he
          go_wp2_with fail
          go_ret
          exact ⟨ret_bool HC.out.symm, hx1.out.trans HX2.out⟩
      · have HC : Hid (codeB l = true) := codeB_of HB.out (by rw [show 6 = k - 1 by omega]; exact HK.out.1)
        go_wp2_with fail
        go_ret
        exact ⟨ret_bool HC.out.symm, hx1.out.trans HK.out.2⟩
  · have HF : Hid (codeB l = false) := by show _ = _; unfold codeB; rw [hb]; rfl
    go_enter Tryd.func92, Tryd.ntmps92
    go_wp2_with fail
    refine (rsymbols_any _ l 0 _ HI.out (by omega) (by omega)).mono ?_
    rintro e w1 ⟨rfl, hx1⟩
    rw [hb]
    go_wp2_with fail
    go_ret
    exact ⟨ret_bool HF.out.symm, hx1⟩
end Go.Proofs.YtcpanmonllhmaaaDoor
