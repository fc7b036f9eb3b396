/- bubble.Judge and the reference's Judge. -/
import Derived.Test.YtndmadohffcdiaaBubB
namespace Go.Proofs.Ytndmadohffcdiaa
open Go.RowKit

/-- How many of the first k values are at least d. -/
def drkTo (l : List Int) (d : Int) (k : Nat) : Nat := (l.take k).countP (fun x => decide (d ≤ x))
def drk (l : List Int) (d : Int) : Nat := l.countP (fun x => decide (d ≤ x))
theorem drkTo_le (l : List Int) (d : Int) (k : Nat) : drkTo l d k ≤ k := Nat.le_trans List.countP_le_length (by simp; omega)
theorem drkTo_hit {l : List Int} {d : Int} {k t : Nat} {x : Int} (ht : t = drkTo l d k) (h : l[k]? = some x) (hx : d ≤ x) : t + 1 = drkTo l d (k + 1) := by
  subst ht; unfold drkTo; rw [take_snoc h, List.countP_append]; simp [List.countP_cons, hx]
theorem drkTo_miss {l : List Int} {d : Int} {k t : Nat} {x : Int} (ht : t = drkTo l d k) (h : l[k]? = some x) (hx : x < d) : t = drkTo l d (k + 1) := by
  subst ht; unfold drkTo; rw [take_snoc h, List.countP_append]; have : ¬ d ≤ x := by omega
  simp [List.countP_cons, this]
theorem drk_of {l : List Int} {d : Int} {n t : Nat} (hl : l.length = n) (ht : t = drkTo l d n) : t = drk l d := by subst ht; unfold drkTo drk; rw [take_all hl]

/-- What Judge returns: the option, the error. -/
def judgeV (d f lead : Int) (l : List Int) : Int :=
  if vldB d f lead = false ∨ l.length < 2 ∨ 5 < l.length ∨ l.all valB = false then 0
  else if drk l d = 1 then midx l
  else if drk l d = 0 then (if lds l lead = true ∧ f ≤ mval l then midx l else -1)
  else if lds l lead = true then midx l else -2
def judgeE (d f lead : Int) (l : List Int) : Int :=
  if vldB d f lead = false then 1 else if l.length < 2 ∨ 5 < l.length then 3 else if l.all valB = false then 2 else 0

/-- What is chosen, by the number t of dark values. -/
def jm (t : Nat) (ld : Bool) (f mv mi : Int) : Int := if t = 1 then mi else if t = 0 then (if ld = true ∧ f ≤ mv then mi else -1) else if ld = true then mi else -2
section
variable {t : Nat} {ld : Bool} {f mv mi : Int}
theorem jm_1 (h : ((t : Int) == 1) = true) : mi = jm t ld f mv mi := by
  have : t = 1 := by have := beq_iff_eq.1 h; omega
  simp [jm, this]
theorem jm_n0 (h : t = 0) : -1 = jm t false f mv mi := by simp [jm, h]
theorem jm_n2 (h : ((t : Int) == 1) = false) (h0 : ¬ t = 0) : -2 = jm t false f mv mi := by
  have : t ≠ 1 := by have := beq_eq_false_iff_ne.1 h; omega
  simp [jm, this, h0]
theorem jm_y0 (h : t = 0) (hf : f ≤ mv) : mi = jm t true f mv mi := by simp [jm, h, hf]
theorem jm_y1 (h : t = 0) (hf : mv < f) : -1 = jm t true f mv mi := by
  have : ¬ f ≤ mv := by omega
  simp [jm, h, this]
theorem jm_y2 (h0 : ¬ t = 0) : mi = jm t true f mv mi := by simp [jm, h0]
end
theorem vld_of {d f lead : Int} (h : vldB d f lead = true) : 1 ≤ f ∧ f ≤ d ∧ d ≤ 9 ∧ 1 ≤ lead ∧ lead ≤ 9 := by simpa [vldB] using h

section
variable {d f lead : Int} {l : List Int} {n : Nat}
theorem jV_bad (h : vldB d f lead = false) : 0 = judgeV d f lead l := by simp [judgeV, h]
theorem jE_bad (h : vldB d f lead = false) : 1 = judgeE d f lead l := by simp [judgeE, h]
theorem jV_len (hl : l.length = n) (hn : n < 2 ∨ 5 < n) : 0 = judgeV d f lead l := by
  unfold judgeV; rw [if_pos]; omega
theorem jE_len (h : vldB d f lead = true) (hl : l.length = n) (hn : n < 2 ∨ 5 < n) : 3 = judgeE d f lead l := by
  unfold judgeE; rw [if_neg (by simp [h]), if_pos (by omega)]
theorem jV_val (hv : l.all valB = false) : 0 = judgeV d f lead l := by
  unfold judgeV; rw [if_pos (by simp only [hv]; simp)]
theorem jE_val (h : vldB d f lead = true) (hl : l.length = n) (h2 : 2 ≤ n) (h5 : n ≤ 5) (hv : l.all valB = false) : 2 = judgeE d f lead l := by
  unfold judgeE; rw [if_neg (by simp [h]), if_neg (by omega), if_pos hv]
theorem jE_ok (h : vldB d f lead = true) (hl : l.length = n) (h2 : 2 ≤ n) (h5 : n ≤ 5) (hv : l.all valB = true) : 0 = judgeE d f lead l := by
  unfold judgeE; rw [if_neg (by simp [h]), if_neg (by omega), if_neg (by simp [hv])]
theorem jV_ok (h : vldB d f lead = true) (hl : l.length = n) (h2 : 2 ≤ n) (h5 : n ≤ 5) (hv : l.all valB = true) : judgeV d f lead l = jm (drk l d) (lds l lead) f (mval l) (midx l) := by
  unfold judgeV jm; rw [if_neg (by simp only [h, hv]; simp; omega)]
end

/-- The greatest value is no less than any other. -/
theorem amax_ge (l : List Int) : ∀ k i, i < k → l.getD i 0 ≤ l.getD (amax l k) 0 := by
  intro k
  induction k with
  | zero => intro i hi; omega
  | succ k ih =>
    intro i hi
    unfold amax
    rcases Nat.lt_or_ge i k with h | h
    · have := ih i h; split <;> omega
    · obtain rfl : i = k := by omega
      split <;> omega
theorem mval_ge {l : List Int} {i : Nat} {x : Int} (h : l[i]? = some x) : x ≤ mval l := by
  have hi := (List.getElem?_eq_some_iff.1 h).1
  have := amax_ge l l.length i hi
  rw [getD_of h] at this
  exact this
theorem mval_drk {l : List Int} {d : Int} (h : 0 < drk l d) : d ≤ mval l := by
  obtain ⟨x, hx, hd⟩ := List.countP_pos_iff.1 h
  obtain ⟨i, hi⟩ := List.getElem?_of_mem hx
  have := mval_ge hi
  simp at hd
  omega

set_option maxHeartbeats 1000000 in
theorem judge_any (d f lead : Int) (v : Value) (l : List Int) (w : World) {p : Nat} (h : IsI p w v l) :
    Calls Try.prog 21 #[.agg #[.int .i64 d, .int .i64 f, .int .i64 lead], v] w fun e w' =>
      e = .returned (.tuple #[.int .i64 (judgeV d f lead l), .int .i64 (judgeE d f lead l)]) ∧ Ext w w' := by
  obtain ⟨A, n, c, rfl, hnc, hc, hnn, HL⟩ := h.open_
  have H := Lib.hid h
  clear h
  cases hv : vldB d f lead
  · have HV := Lib.hid hv
    clear hv
    go_enter Try.func21, Try.ntmps21
    go_wp2_with (go_at_call 12; refine (valid_any _ _ _ _).mono ?_; rintro e w1 ⟨rfl, hx1⟩; rw [HV.out])
    go_ret2
    exact ⟨ret_ii (jV_bad HV.out) (jE_bad HV.out), Ext.trans ((Ext.refl _).alloc _) hx1⟩
  · have HV := Lib.hid hv
    clear hv
    by_cases hn : n < 2 ∨ 5 < n
    · go_enter Try.func21, Try.ntmps21
      go_wp2_with (go_at_call 12; refine (valid_any _ _ _ _).mono ?_; rintro e w1 ⟨rfl, hx1⟩; rw [HV.out])
      all_goals (go_ret2; exact ⟨ret_ii (jV_len HL.out (by omega)) (jE_len HV.out HL.out (by omega)), Ext.trans ((Ext.refl _).alloc _) hx1⟩)
    · have hn2 : 2 ≤ n := by omega
      have hn5 : n ≤ 5 := by omega
      clear hn
      cases ha : l.all valB
      · have HA := Lib.hid ha
        clear ha
        go_enter Try.func21, Try.ntmps21
        go_wp2_with (first
          | (go_at_call 12; refine (valid_any _ _ _ _).mono ?_; rintro e w1 ⟨rfl, hx1⟩; rw [HV.out])
          | (go_at_call 40; refine (allValues_any _ l _ (H.out.ext (Ext.trans ((Ext.refl _).alloc _) hx1))).mono ?_; rintro e w2 ⟨rfl, rfl⟩; rw [HA.out]))
        go_ret2
        exact ⟨ret_ii (jV_val HA.out) (jE_val HV.out HL.out hn2 hn5 HA.out), Ext.trans ((Ext.refl _).alloc _) hx1⟩
      · have HA := Lib.hid ha
        clear ha
        have hvd := vld_of HV.out
        go_enter Try.func21, Try.ntmps21
        go_wp2_with (first
          | (go_at_call 12; refine (valid_any _ _ _ _).mono ?_; rintro e w1 ⟨rfl, hx1⟩; rw [HV.out]; have c0 := hx1.cell (a := ⟨w.heap.size, 0, none⟩) (v := .int .i64 d) (by simp); have c1 := hx1.cell (a := ⟨w.heap.size, 1, none⟩) (v := .int .i64 f) (by simp); have c2 := hx1.cell (a := ⟨w.heap.size, 2, none⟩) (v := .int .i64 lead) (by simp); have H1 := Lib.hid (H.out.ext (Ext.trans ((Ext.refl _).alloc _) hx1)); have HE := Lib.hid (Ext.trans ((Ext.refl _).alloc _) hx1); clear hx1)
          | (go_at_call 40; refine (allValues_any _ l _ H1.out).mono ?_; rintro e w2 ⟨rfl, rfl⟩; rw [HA.out]))
        obtain ⟨b, off, x0, rfl, _, _⟩ := H1.out.at_ (show 0 < n by omega)
        go_loop [6, 28] (fun s i => ∃ k t : Nat, k ≤ n ∧ t ≤ k ∧ i = .int .i64 k ∧ s = .int .i64 t ∧ Hid (t = drkTo l d k)) (fun _ i => n - (intOf i).toNat)
        case atStart => exact ⟨0, 0, Nat.zero_le _, Nat.le_refl _, rfl, rfl, by simp [Hid, drkTo]⟩
        case round =>
          obtain ⟨k, t, hk, htk, rfl, rfl, HT⟩ := hrel
          by_cases hlt : k < n
          · obtain ⟨x, hcx, HX, hx1, hx2⟩ := H1.out.cell_ hlt
            go_wp2
            · go_round
              case rel => exact ⟨k + 1, t + 1, by omega, by omega, by go_num, by go_num, drkTo_hit HT.out HX.out (by omega)⟩
              case measure => simp [intOf]; omega
            · go_round
              case rel => exact ⟨k + 1, t, by omega, by omega, by go_num, by go_num, drkTo_miss HT.out HX.out (by omega)⟩
              case measure => simp [intOf]; omega
          · obtain rfl : k = n := by omega
            have HD := Lib.hid (drk_of HL.out HT.out)
            have HJ := Lib.hid (jV_ok HV.out HL.out hn2 hn5 HA.out)
            cases hld : lds l lead
            all_goals
              have HLD := Lib.hid hld
              clear hld
              rw [← HD.out, HLD.out] at HJ
              go_wp2_with (go_at_call 41; refine (leader_any _ l _ _ H1.out HA.out (by intro e; have := HL.out; subst e; simp at this; omega) (by omega) (by omega)).mono ?_; rintro e w2 ⟨rfl, rfl⟩; rw [HLD.out])
              all_goals (go_ret2; refine ⟨ret_ii ?_ (jE_ok HV.out HL.out hn2 hn5 HA.out), HE.out⟩; rw [HJ.out]; first | exact jm_1 ‹_› | exact jm_n0 ‹_› | exact jm_n2 ‹_› ‹_› | exact jm_y0 ‹_› ‹_› | exact jm_y1 ‹_› ‹_› | exact jm_y2 ‹_›)
theorem jr_1 {t : Nat} {ld : Bool} {f mv mi : Int} (h : t = 1) : mi = jm t ld f mv mi := by simp [jm, h]
theorem jr_y {t : Nat} {f mv mi : Int} (hf : f ≤ mv) : mi = jm t true f mv mi := by
  unfold jm; split
  · rfl
  · split <;> simp [hf]
theorem jr_2 {t : Nat} {ld : Bool} {f mv mi : Int} (h : 1 < t) (hf : 0 < t → f ≤ mv) (hl : ld = false ∨ mv < f) : -2 = jm t ld f mv mi := by
  have := hf (by omega)
  obtain rfl : ld = false := by rcases hl with h | h; exact h; omega
  unfold jm; rw [if_neg (by omega), if_neg (by omega)]; simp
theorem jr_0 {t : Nat} {ld : Bool} {f mv mi : Int} (h : t ≤ 1) (h1 : t ≠ 1) (hl : ld = false ∨ mv < f) : -1 = jm t ld f mv mi := by
  obtain rfl : t = 0 := by omega
  unfold jm; rw [if_neg (by omega), if_pos rfl, if_neg]
  rintro ⟨ha, hb⟩
  rcases hl with h | h
  · simp [h] at ha
  · omega
theorem midx_nat {l : List Int} {n : Nat} (hl : l.length = n) (hn : 0 < n) : ∃ a : Nat, a < n ∧ Hid (midx l = a) ∧ Hid (l[a]? = some (mval l)) := by
  have := amax_le l l.length
  have h : amax l l.length < l.length := by omega
  refine ⟨amax l l.length, by omega, rfl, ?_⟩
  show l[amax l l.length]? = some (mval l)
  rw [List.getElem?_eq_getElem h]
  unfold mval
  simp [h]

set_option maxHeartbeats 1000000 in
theorem rjudge_any (d f lead : Int) (v : Value) (l : List Int) (w : World) {p : Nat} (h : IsI p w v l) :
    Calls Try.prog 22 #[.agg #[.int .i64 d, .int .i64 f, .int .i64 lead], v] w fun e w' =>
      e = .returned (.tuple #[.int .i64 (judgeV d f lead l), .int .i64 (judgeE d f lead l)]) ∧ Ext w w' := by
  obtain ⟨A, n, c, rfl, hnc, hc, hnn, HL⟩ := h.open_
  have H := Lib.hid h
  clear h
  cases hv : vldB d f lead
  · have HV := Lib.hid hv
    clear hv
    go_enter Try.func22, Try.ntmps22
    go_wp2_with (go_at_call 13; refine (rvalid_any _ _ _ _).mono ?_; rintro e w1 ⟨rfl, hx1⟩; rw [HV.out])
    go_ret2
    exact ⟨ret_ii (jV_bad HV.out) (jE_bad HV.out), Ext.trans ((Ext.refl _).alloc _) hx1⟩
  · have HV := Lib.hid hv
    clear hv
    by_cases hn : n < 2 ∨ 5 < n
    · go_enter Try.func22, Try.ntmps22
      go_wp2_with (go_at_call 13; refine (rvalid_any _ _ _ _).mono ?_; rintro e w1 ⟨rfl, hx1⟩; rw [HV.out])
      all_goals (go_ret2; exact ⟨ret_ii (jV_len HL.out (by omega)) (jE_len HV.out HL.out (by omega)), Ext.trans ((Ext.refl _).alloc _) hx1⟩)
    · have hn2 : 2 ≤ n := by omega
      have hn5 : n ≤ 5 := by omega
      clear hn
      cases ha : l.all valB
      · have HA := Lib.hid ha
        clear ha
        go_enter Try.func22, Try.ntmps22
        go_wp2_with (first
          | (go_at_call 13; refine (rvalid_any _ _ _ _).mono ?_; rintro e w1 ⟨rfl, hx1⟩; rw [HV.out])
          | (go_at_call 42; refine (dark_any _ l _ (H.out.ext (Ext.trans ((Ext.refl _).alloc _) hx1))).mono ?_; rintro e w2 ⟨rfl, rfl⟩; rw [HA.out]))
        go_ret2
        exact ⟨ret_ii (jV_val HA.out) (jE_val HV.out HL.out hn2 hn5 HA.out), Ext.trans ((Ext.refl _).alloc _) hx1⟩
      · have HA := Lib.hid ha
        clear ha
        have hvd := vld_of HV.out
        go_enter Try.func22, Try.ntmps22
        go_wp2_with (first
          | (go_at_call 13; refine (rvalid_any _ _ _ _).mono ?_; rintro e w1 ⟨rfl, hx1⟩; rw [HV.out]; have c0 := hx1.cell (a := ⟨w.heap.size, 0, none⟩) (v := .int .i64 d) (by simp); have c1 := hx1.cell (a := ⟨w.heap.size, 1, none⟩) (v := .int .i64 f) (by simp); have c2 := hx1.cell (a := ⟨w.heap.size, 2, none⟩) (v := .int .i64 lead) (by simp); have H1 := Lib.hid (H.out.ext (Ext.trans ((Ext.refl _).alloc _) hx1)); have HE := Lib.hid (Ext.trans ((Ext.refl _).alloc _) hx1); clear hx1)
          | (go_at_call 42; refine (dark_any _ l _ H1.out).mono ?_; rintro e w2 ⟨rfl, rfl⟩; rw [HA.out]))
        obtain ⟨b, off, x0, rfl, _, _⟩ := H1.out.at_ (show 0 < n by omega)
        go_loopw [6, 7] (fun s i wr => ∃ k t m : Nat, k ≤ n ∧ t ≤ k ∧ i = .int .i64 k ∧ s = .int .i64 t ∧ Hid (t = drkTo l d k) ∧ wr = w1.drewN m) (fun _ i _ => n - (intOf i).toNat)
        case atStart => exact ⟨0, 0, 0, Nat.zero_le _, Nat.le_refl _, rfl, rfl, by simp [Hid, drkTo], rfl⟩
        case round =>
          obtain ⟨k, t, m, hk, htk, rfl, rfl, HT, rfl⟩ := hrel
          by_cases hlt : k < n
          · obtain ⟨x, hcx, HX, hx1, hx2⟩ := H1.out.cell_ hlt
            go_wp2
            go_quiet (fail)
            go_wp2
            · go_roundw
              case rel => exact ⟨k + 1, t + 1, _, by omega, by omega, by go_num, by go_num, drkTo_hit HT.out HX.out (by omega), rfl⟩
              case measure => simp [intOf]; omega
            · go_roundw
              case rel => exact ⟨k + 1, t, _, by omega, by omega, by go_num, by go_num, drkTo_miss HT.out HX.out (by omega), rfl⟩
              case measure => simp [intOf]; omega
          · obtain rfl : k = n := by omega
            have HD := Lib.hid (drk_of HL.out HT.out)
            have HJ := Lib.hid (jV_ok HV.out HL.out hn2 hn5 HA.out)
            have HF : Hid (0 < t → f ≤ mval l) := fun h => by
              have := mval_drk (l := l) (d := d) (by rw [← HD.out]; exact h); omega
            obtain ⟨a, ha, HM, HMV⟩ := midx_nat HL.out (by omega)
            obtain ⟨y, hcy, HY, hy1, hy2⟩ := H1.out.cell_ ha
            obtain rfl : y = mval l := by have := HY.out; rw [HMV.out] at this; exact (Option.some.inj this).symm
            rw [← HD.out] at HJ
            by_cases ht1 : t = 1
            · have hd1 : ((t : Int) == 1) = true := by simp [ht1]
              have HT1 := Lib.hid ht1
              clear ht1
              go_wp2_with (go_at_call 43; refine (greatest_any _ l _ _ (H1.out.ext ((Ext.refl _).drewN _)) HA.out (by intro e; have := HL.out; subst e; simp at this; omega) (by omega) (by omega)).mono ?_; rintro e w2 ⟨rfl, m2, rfl⟩; rw [HM.out])
              go_quiet (fail)
              go_wp2
              go_ret2
              refine ⟨ret_ii ?_ (jE_ok HV.out HL.out hn2 hn5 HA.out), (by repeat (first | exact HE.out | refine Ext.drewN ?_ _))⟩
              rw [HJ.out, ← HM.out]; exact jr_1 HT1.out
            · have hd1 : ((t : Int) == 1) = false := by simp; omega
              have HT1 := Lib.hid ht1
              clear ht1
              cases hld : lds l lead
              · have HLD := Lib.hid hld
                clear hld
                go_wp2_with (go_at_call 43; refine (greatest_any _ l _ _ (H1.out.ext ((Ext.refl _).drewN _)) HA.out (by intro e; have := HL.out; subst e; simp at this; omega) (by omega) (by omega)).mono ?_; rintro e w2 ⟨rfl, m2, rfl⟩; rw [HM.out, HLD.out])
                go_quiet (fail)
                go_wp2
                all_goals (go_ret2; refine ⟨ret_ii ?_ (jE_ok HV.out HL.out hn2 hn5 HA.out), (by repeat (first | exact HE.out | refine Ext.drewN ?_ _))⟩; rw [HJ.out, HLD.out]; first | exact jr_2 (by omega) HF.out (.inl rfl) | exact jr_0 (by omega) HT1.out (.inl rfl))
              · have HLD := Lib.hid hld
                clear hld
                by_cases hfm : f ≤ mval l
                · go_wp2_with (go_at_call 43; refine (greatest_any _ l _ _ (H1.out.ext ((Ext.refl _).drewN _)) HA.out (by intro e; have := HL.out; subst e; simp at this; omega) (by omega) (by omega)).mono ?_; rintro e w2 ⟨rfl, m2, rfl⟩; rw [HM.out, HLD.out])
                  go_quiet (fail)
                  go_wp2
                  go_ret2
                  refine ⟨ret_ii ?_ (jE_ok HV.out HL.out hn2 hn5 HA.out), (by repeat (first | exact HE.out | refine Ext.drewN ?_ _))⟩
                  rw [HJ.out, ← HM.out, HLD.out]; exact jr_y hfm
                · have hfm' : mval l < f := by omega
                  clear hfm
                  go_wp2_with (go_at_call 43; refine (greatest_any _ l _ _ (H1.out.ext ((Ext.refl _).drewN _)) HA.out (by intro e; have := HL.out; subst e; simp at this; omega) (by omega) (by omega)).mono ?_; rintro e w2 ⟨rfl, m2, rfl⟩; rw [HM.out, HLD.out])
                  go_quiet (fail)
                  go_wp2
                  all_goals (go_ret2; refine ⟨ret_ii ?_ (jE_ok HV.out HL.out hn2 hn5 HA.out), (by repeat (first | exact HE.out | refine Ext.drewN ?_ _))⟩; rw [HJ.out, HLD.out]; first | exact jr_2 (by omega) HF.out (.inr hfm') | exact jr_0 (by omega) HT1.out (.inr hfm'))
end Go.Proofs.Ytndmadohffcdiaa
