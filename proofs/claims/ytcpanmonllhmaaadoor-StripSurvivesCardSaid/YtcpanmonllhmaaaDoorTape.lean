/- The tape of awardingbodymake: New, Raw, Next, Range, Pick, One, Spoil, Wild. What they return is known only by its bounds. -/
import Derived.Test.YtcpanmonllhmaaaDoorRows
import Derived.Test.YtcpanmonllhmaaaDoorBase
set_option linter.unusedSimpArgs false
set_option linter.unusedVariables false
namespace Go.Proofs.YtcpanmonllhmaaaDoor
open Go.RowKit

/-- mk.Cut. -/
def cutZ (x n : Int) : Int := if n < 1 then 0 else x % n
theorem cutZ_lo (x n : Int) : 0 ≤ cutZ x n := by
  unfold cutZ; split
  · omega
  · exact Int.emod_nonneg _ (by omega)
theorem cutZ_hi (x n : Int) (h : 1 ≤ n) : cutZ x n < n := by
  unfold cutZ; rw [if_neg (by omega)]; exact Int.emod_lt_of_pos _ (by omega)

theorem cutZ_max (x n : Int) : cutZ x n < max n 1 := by
  by_cases h : 1 ≤ n
  · have := cutZ_hi x n h; omega
  · unfold cutZ; rw [if_pos (by omega)]; omega

set_option maxRecDepth 100000 in
set_option maxHeartbeats 400000 in
theorem cut_any (x n : Int) (w : World) (hx : -9223372036854775808 ≤ x) (hx' : x ≤ 9223372036854775807) (hn' : n ≤ 9223372036854775807) :
    Calls Tryd.prog 32 #[.int .i64 x, .int .i64 n] w fun e w' => e = .returned (.int .i64 (cutZ x n)) ∧ w = w' := by
  by_cases hn : n < 1
  · go_enter Tryd.func32, Tryd.ntmps32
    go_wp2
    go_ret
    exact ⟨ret_int (by simp [cutZ, hn]), rfl⟩
  have hn1 : 1 ≤ n := by omega
  clear hn
  have hb1 : -n < x.tmod n := Int.lt_tmod_of_pos x (show (0:Int) < n by omega)
  have hb2 : x.tmod n < n := Int.tmod_lt_of_pos x (by omega)
  by_cases h : x.tmod n < 0
  · have HF : Hid (x.tmod n + n = cutZ x n) := by
      show x.tmod n + n = cutZ x n
      unfold cutZ
      rw [if_neg (by omega)]
      have e := @Int.tmod_eq_emod x n
      have := Int.emod_nonneg x (show n ≠ 0 by omega)
      split at e <;> omega
    go_enter Tryd.func32, Tryd.ntmps32
    go_wp2
    go_ret
    exact ⟨ret_int HF.out, rfl⟩
  · have HF : Hid (x.tmod n = cutZ x n) := by
      show x.tmod n = cutZ x n
      unfold cutZ
      rw [if_neg (by omega)]
      have e := @Int.tmod_eq_emod x n
      have := Int.emod_lt_of_pos x (show (0:Int) < n by omega)
      split at e <;> omega
    go_enter Tryd.func32, Tryd.ntmps32
    go_wp2
    go_ret
    exact ⟨ret_int HF.out, rfl⟩

/-- Block p is a tape: its list lies below p. -/
def Tape (w : World) (p : Nat) : Prop :=
  ∃ (A : Option Addr) (n c at_ : Nat) (l : List Int), w.heap[p]? = some (.cells #[.slice A n c, .int .i64 (at_ : Int)] 57 (0, 0)) ∧ at_ ≤ n ∧ n ≤ 600 ∧ IsI p w (.slice A n c) l ∧ (∀ ad, A = some ad → 0 < n → ad.block < p)

theorem Tape.lt {w : World} {p : Nat} (h : Tape w p) : p < w.heap.size := by
  obtain ⟨A, n, c, at_, l, hb, _⟩ := h
  rcases Nat.lt_or_ge p w.heap.size with hlt | hge
  · exact hlt
  · rw [Array.getElem?_eq_none hge] at hb; cases hb
theorem Tape.keep {w w' : World} {p : Nat} (h : Tape w p) (e : ∀ k, k ≤ p → w'.heap[k]? = w.heap[k]?) : Tape w' p := by
  obtain ⟨A, n, c, at_, l, hb, h1, h2, h3, h4⟩ := h
  refine ⟨A, n, c, at_, l, (e p (Nat.le_refl _)).trans hb, h1, h2, ?_, h4⟩
  have hl := h3.len
  obtain ⟨A', c', hv, k1, k2, k3, k5, k4⟩ := h3
  injection hv with ha hn hc
  subst ha; subst hc
  refine ⟨A, c, by rw [hl], k1, k2, k3, k5, fun k x hx => ?_⟩
  obtain ⟨b, off, ha, hb', hc⟩ := k4 k x hx
  have hk := (List.getElem?_eq_some_iff.1 hx).1
  have hbp : b < p := h4 _ ha (by omega)
  exact ⟨b, off, ha, hb', (World.cell?_of_block (w := w) (e b (by omega))).trans hc⟩
theorem Tape.ext {w w' : World} {p : Nat} (h : Tape w p) (e : Ext w w') : Tape w' p :=
  h.keep fun k hk => e.block k (Nat.lt_of_le_of_lt hk h.lt)
theorem Tape.setNew {w : World} {p : Nat} (h : Tape w p) {a : Addr} (ha : p < a.block) (u : Value) : Tape (w.setCell a u) p :=
  h.keep fun k hk => Below.heap_setCell _ _ _ _ (by omega)
theorem Tape.grown {w w' : World} {p : Nat} (h : Tape w p) {row : Option Nat} (hg : w.grownBy w' row) (hr : ∀ k, row = some k → p < k) : Tape w' p :=
  h.keep fun k hk => hg.block k (Nat.lt_of_le_of_lt hk h.lt) (fun e => by have := hr k e.symm; omega)
theorem Tape.opens {w : World} {p : Nat} (h : Tape w p) : ∃ (A : Option Addr) (n c at_ : Nat) (l : List Int), w.heap[p]? = some (.cells #[.slice A n c, .int .i64 (at_ : Int)] 57 (0, 0)) ∧ at_ ≤ n ∧ n ≤ 600 ∧ IsI p w (.slice A n c) l ∧ (∀ ad, A = some ad → 0 < n → ad.block < p) := h
theorem blk_cell {w : World} {g i : Nat} {cs : Array Value} {t : TypeId} {u : Value} (h : w.heap[g]? = some (.cells cs t (0, 0))) (hi : cs[i]? = some u) : w.cell? ⟨g, i, none⟩ = some u := by
  rw [cell_of_row w g i cs t (0, 0) h]; exact hi
theorem blk_frozen {w : World} {g : Nat} {cs : Array Value} {t : TypeId} (h : w.heap[g]? = some (.cells cs t (0, 0))) (i : Nat) : w.frozen? ⟨g, i, none⟩ = false := by
  simp [World.frozen?, h]
theorem blk_set {w : World} {g i : Nat} {cs : Array Value} {t : TypeId} (h : w.heap[g]? = some (.cells cs t (0, 0))) (u : Value) : (w.setCell ⟨g, i, none⟩ u).heap[g]? = some (.cells (cs.setIfInBounds i u) t (0, 0)) := by
  simp [World.setCell, Array.getElem?_modify, h]

instance (x : Int) : Decidable (I64 x) := inferInstanceAs (Decidable (_ ∧ _))
/-- What a method of the tape leaves: some value, of which Q is known; the tape; and nothing else has turned. -/
def TRet (p : Nat) (w : World) (Q : Value → World → Prop) (e : Ending) (w' : World) : Prop := ∃ v, e = .returned v ∧ Q v w' ∧ Tape w' p ∧ XT p w w'

/-- mk.New. -/
theorem new_any (v : Value) (l : List Int) (w : World) (h : IsI w.heap.size w v l) :
    Calls Tryd.prog 12 #[v] w fun e w' => e = .returned (.pointer (some ⟨w.heap.size, 0, none⟩)) ∧ Tape w' w.heap.size ∧ Ext w w' := by
  obtain ⟨A, n, c, rfl, hnc, hc, hnn, HL⟩ := h.open_
  have H := Lib.hid h
  clear h
  by_cases hn : 600 < n
  · go_enter Tryd.func12, Tryd.ntmps12
    go_wp2
    go_ret
    refine ⟨rfl, ⟨A, 600, c, 0, l.take 600, ?_, by omega, by omega, ?_, fun ad ha _ => H.out.lt_ ha (by omega)⟩, (Ext.refl _).alloc _⟩
    · exact heap_alloc_new w _
    · exact (IsI.take H.out (by omega)).ext ((Ext.refl _).alloc _)
  · go_enter Tryd.func12, Tryd.ntmps12
    go_wp2
    go_ret
    exact ⟨rfl, ⟨A, n, c, 0, l, heap_alloc_new w _, by omega, by omega, H.out.ext ((Ext.refl _).alloc _), fun ad ha h0 => H.out.lt_ ha h0⟩, (Ext.refl _).alloc _⟩

set_option maxRecDepth 100000 in
set_option maxHeartbeats 400000 in
theorem raw_any (p : Nat) (w : World) (h : Tape w p) :
    Calls Tryd.prog 63 #[.pointer (some ⟨p, 0, none⟩)] w (TRet p w fun v _ => ∃ x, v = .int .i64 x ∧ I64 x) := by
  obtain ⟨A, n, c, t, l, hb, ht, hn, hi, hbp⟩ := h.opens
  have HBP := Lib.hid hbp
  clear hbp
  have H := Lib.hid h
  have HI := Lib.hid hi
  have HB := Lib.hid hb
  have c0 := blk_cell hb (i := 0) rfl
  have c1 := blk_cell hb (i := 1) rfl
  have f1 := blk_frozen hb 1
  clear h hi hb
  by_cases hlt : t < n
  · obtain ⟨b, off, x, rfl, hcx, HX, hx1, hx2⟩ := HI.out.at_ hlt
    go_enter Tryd.func63, Tryd.ntmps63
    go_wp2
    go_quiet (fail)
    go_wp2
    generalize hw2 : (w.drewN nq).setCell ⟨p, 1, none⟩ (Value.int .i64 (↑t + 1)) = w2
    have HB2 : Hid (w2.heap[p]? = some (.cells #[.slice (some ⟨b, off, none⟩) n c, .int .i64 ((t : Int) + 1)] 57 (0, 0))) := by
      subst hw2; exact blk_set (w := w.drewN nq) (i := 1) HB.out _
    have HX2 : Hid (XT p w w2) := by subst hw2; exact ((XT.refl _ _).drewN _).setCell rfl _
    have HI2 := Lib.hid (HI.out.xt HX2.out)
    obtain ⟨x', hcx', HX', hx1', hx2'⟩ := HI2.out.cell_ hlt
    have d0 := blk_cell HB2.out (i := 0) rfl
    have d1 := blk_cell HB2.out (i := 1) rfl
    clear hw2 c0 c1 f1 hcx HX hx1 hx2
    have e1 : IntKind.i64.wrap ((t : Int) + 1 - 1) = t := by rw [IntWalk.i64_in _ (by omega)]; omega
    go_quiet (fail)
    go_wp2
    go_ret
    exact ⟨_, rfl, ⟨x', rfl, hx1', hx2'⟩, Tape.ext (w := w2) ⟨_, n, c, t + 1, l, by simpa using HB2.out, by omega, hn, HI2.out, HBP.out⟩ ((Ext.refl _).drewN _), HX2.out.drewN _⟩
  · go_enter Tryd.func63, Tryd.ntmps63
    go_wp2
    go_quiet (fail)
    go_wp2
    go_ret
    exact ⟨_, rfl, ⟨0, rfl, by constructor <;> omega⟩, H.out.ext ((Ext.refl _).drewN _), (XT.refl _ _).drewN _⟩

theorem TRet.mono {p : Nat} {w : World} {Q Q' : Value → World → Prop} {e : Ending} {w' : World} (h : TRet p w Q e w') (hq : ∀ v w', Q v w' → Q' v w') : TRet p w Q' e w' := by
  obtain ⟨v, he, hv, r⟩ := h; exact ⟨v, he, hq _ _ hv, r⟩

theorem next_any (p : Nat) (n : Int) (w : World) (h : Tape w p) (hn' : n ≤ 9223372036854775807) :
    Calls Tryd.prog 36 #[.pointer (some ⟨p, 0, none⟩), .int .i64 n] w (TRet p w fun v _ => ∃ r, v = .int .i64 r ∧ 0 ≤ r ∧ r < max n 1) := by
  have H := Lib.hid h
  clear h
  go_enter Tryd.func36, Tryd.ntmps36
  go_wp2_with (first
    | (go_at_call 63; refine (raw_any _ _ H.out).mono ?_; rintro e w1 ⟨v1, rfl, ⟨x, rfl, hx1, hx2⟩, HT, HX⟩)
    | (go_at_call 32; refine (cut_any _ _ _ hx1 hx2 hn').mono ?_; rintro e w2 ⟨rfl, rfl⟩))
  go_ret
  exact ⟨_, rfl, ⟨cutZ x n, rfl, cutZ_lo _ _, cutZ_max _ _⟩, HT, HX⟩

theorem range_any (p : Nat) (lo hi : Int) (w : World) (h : Tape w p) (h1 : -1000000000 ≤ lo) (h2 : lo ≤ 1000000000) (h3 : -1000000000 ≤ hi) (h4 : hi ≤ 1000000000) :
    Calls Tryd.prog 40 #[.pointer (some ⟨p, 0, none⟩), .int .i64 lo, .int .i64 hi] w (TRet p w fun v _ => ∃ r, v = .int .i64 r ∧ lo ≤ r ∧ r ≤ max lo hi) := by
  have H := Lib.hid h
  clear h
  go_enter Tryd.func40, Tryd.ntmps40
  go_wp2_with (go_at_call 36; refine (next_any _ _ _ H.out (by omega)).mono ?_; rintro e w1 ⟨v1, rfl, ⟨r, rfl, hr0, hr1⟩, HT, HX⟩)
  go_ret
  exact ⟨_, rfl, ⟨lo + r, rfl, by omega, by omega⟩, HT, HX⟩

theorem one_any (p : Nat) (n : Int) (w : World) (h : Tape w p) (hn : -1000000000 ≤ n) (hn' : n ≤ 1000000000) :
    Calls Tryd.prog 50 #[.pointer (some ⟨p, 0, none⟩), .int .i64 n] w (TRet p w fun v _ => ∃ b, v = .bool b) := by
  have H := Lib.hid h
  clear h
  go_enter Tryd.func50, Tryd.ntmps50
  go_wp2_with (go_at_call 36; refine (next_any _ _ _ H.out (by omega)).mono ?_; rintro e w1 ⟨v1, rfl, ⟨r, rfl, hr0, hr1⟩, HT, HX⟩; clear hr1)
  go_ret
  exact ⟨_, rfl, ⟨_, rfl⟩, HT, HX⟩

theorem pick_any (p : Nat) (v : Value) (l : List Int) (w : World) (h : Tape w p) (hi : IsI p w v l) (h0 : l ≠ []) :
    Calls Tryd.prog 41 #[.pointer (some ⟨p, 0, none⟩), v] w (TRet p w fun v _ => ∃ x, v = .int .i64 x ∧ x ∈ l) := by
  obtain ⟨A, n, c, rfl, hnc, hc, hnn, HL⟩ := hi.open_
  have hn : 0 < n := by have := HL.out; have := List.length_pos_iff.2 h0; omega
  have H := Lib.hid h
  have HI := Lib.hid hi
  obtain ⟨b, off, x0, rfl, _, _⟩ := hi.at_ hn
  clear h hi h0
  go_enter Tryd.func41, Tryd.ntmps41
  go_wp2_with (go_at_call 36; refine (next_any _ _ _ H.out (by omega)).mono ?_; rintro e w1 ⟨v1, rfl, ⟨r, rfl, hr0, hr1⟩, HT, HX⟩; obtain ⟨k, rfl⟩ := Int.eq_ofNat_of_zero_le hr0; have hk : k < n := (by omega); obtain ⟨x, hcx, HX', hx1, hx2⟩ := (HI.out.xt HX).cell_ hk)
  go_ret
  exact ⟨_, rfl, ⟨x, rfl, List.mem_of_getElem? HX'.out⟩, HT, HX⟩

theorem wild_any (p : Nat) (w : World) (h : Tape w p) :
    Calls Tryd.prog 64 #[.pointer (some ⟨p, 0, none⟩)] w (TRet p w fun v _ => ∃ x, v = .int .i64 x ∧ I64 x) := by
  have H := Lib.hid h
  clear h
  go_enter Tryd.func64, Tryd.ntmps64
  go_wp2_with (go_at_call 41; refine (pick_any p _ [-1, 0, 1, 2, 31, 32, 99, 100, 200, 201, 9999, 10000, 1000000, 1000001, 1152921504606846976, 1152921504606846977, -1152921504606846976, 9223372036854775807, -9223372036854775808] _ (H.out.ext ((Ext.refl _).alloc _)) (IsI.lit _ _ H.out.lt (by decide) (by decide)) (by simp)).mono ?_; rintro e w1 ⟨v1, rfl, ⟨x, rfl, hx⟩, HT, HX⟩; have HM := Lib.hid hx; clear hx)
  go_ret
  exact ⟨_, rfl, ⟨x, rfl, (by decide : ∀ x ∈ ([-1, 0, 1, 2, 31, 32, 99, 100, 200, 201, 9999, 10000, 1000000, 1000001, 1152921504606846976, 1152921504606846977, -1152921504606846976, 9223372036854775807, -9223372036854775808] : List Int), I64 x) x HM.out⟩, HT, XT.trans ((XT.refl _ _).alloc _) HX⟩
theorem Tryd.infoI : (Tryd.prog.info? 3).map (fun i => (i.zero, i.size, i.bytes)) = some (some (.int .i64 0), 1, 8) := by kernel_rfl
end Go.Proofs.YtcpanmonllhmaaaDoor
