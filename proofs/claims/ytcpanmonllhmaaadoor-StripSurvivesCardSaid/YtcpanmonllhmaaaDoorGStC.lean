/- count, marked, Upright of both. -/
import Derived.Test.YtcpanmonllhmaaaDoorStB
import Derived.Test.YtcpanmonllhmaaaDoorGEnc
import Derived.Test.YtcpanmonllhmaaaDoorGRsP
set_option linter.unusedSimpArgs false
set_option linter.unusedVariables false
namespace Go.Proofs.YtcpanmonllhmaaaDoor
open Go.RowKit

theorem count_snoc {l : List UInt8} {k : Nat} {x c : UInt8} (h : l[k]? = some x) : (l.take (k + 1)).count c = (l.take k).count c + (if x = c then 1 else 0) := by
  rw [take_snoc h, List.count_append, List.count_singleton]
  by_cases hx : x = c <;> simp [hx]
theorem scount_any (s : ByteArray) (c : UInt8) (w : World) (n : Nat) (h : (bl s).count c = n) :
    Calls Tryd.prog 72 #[.string s, .string ⟨#[c]⟩] w fun e w' => e = .returned (.int .i64 (n : Int)) ∧ w = w' := by
  subst h; exact sCount s c w
set_option maxRecDepth 100000 in
set_option maxHeartbeats 1000000 in
theorem count_any (s : ByteArray) (c : UInt8) (w : World) (hs : s.size ≤ 1000000) :
    Calls Tryd.prog 54 #[.string s, .int .u8 (c.toNat : Int)] w fun e w' => e = .returned (.int .i64 ((bl s).count c : Int)) ∧ w = w' := by
  have HL := Lib.hid (bl_len s)
  go_enter Tryd.func54, Tryd.ntmps54
  go_wp2_with fail
  go_loop [5, 6] (fun n i => ∃ k m : Nat, k ≤ s.size ∧ i = .int .i64 k ∧ n = .int .i64 m ∧ m ≤ k ∧ Hid (((bl s).take k).count c = m)) (fun _ i => s.size - (intOf i).toNat)
  case atStart => exact ⟨0, 0, Nat.zero_le _, rfl, rfl, Nat.le_refl _, rfl⟩
  case round =>
    obtain ⟨k, m, hk, rfl, rfl, hm, HK⟩ := hrel
    by_cases hlt : k < s.size
    · have HS := Lib.hid (count_snoc (c := c) (bl_at hlt))
      by_cases a1 : s[k] = c
      · rw [if_pos a1] at HS
        rw [HK.out] at HS
        have e1 : ((s[k].toNat : Int) == (c.toNat : Int)) = true := by rw [a1]; simp
        have e2 : s[k].toNat = c.toNat := by rw [a1]
        clear a1
        go_wp2_with fail
        go_round
        case rel => exact ⟨k + 1, m + 1, by omega, by go_num, by go_num, by omega, HS.out⟩
        case measure => simp [intOf]; omega
      · rw [if_neg a1] at HS
        rw [HK.out] at HS
        have e2 : ¬ s[k].toNat = c.toNat := fun e => a1 (UInt8.toNat_inj.1 e)
        have e1 : ((s[k].toNat : Int) == (c.toNat : Int)) = false := beq_eq_false_iff_ne.2 (by omega)
        clear a1
        go_wp2_with fail
        go_round
        case rel => exact ⟨k + 1, m, by omega, by go_num, rfl, by omega, HS.out⟩
        case measure => simp [intOf]; omega
    · obtain rfl : k = s.size := by omega
      rw [take_all HL.out] at HK
      go_wp2_with fail
      go_ret
      exact ⟨ret_int (by rw [HK.out]), rfl⟩
theorem rcount_any (s : ByteArray) (c : UInt8) (w : World) (n : Nat) (h : (bl s).count c = n) (hs : s.size ≤ 1000000) :
    Calls Tryd.prog 54 #[.string s, .int .u8 (c.toNat : Int)] w fun e w' => e = .returned (.int .i64 (n : Int)) ∧ w = w' := by
  subst h; exact count_any s c w hs
theorem rc48 (s : ByteArray) (w : World) (n : Nat) (h : (bl s).count 48 = n) (hs : s.size ≤ 1000000) :
    Calls Tryd.prog 54 #[.string s, .int .u8 48] w fun e w' => e = .returned (.int .i64 (n : Int)) ∧ w = w' := rcount_any s 48 w n h hs
theorem rc49 (s : ByteArray) (w : World) (n : Nat) (h : (bl s).count 49 = n) (hs : s.size ≤ 1000000) :
    Calls Tryd.prog 54 #[.string s, .int .u8 49] w fun e w' => e = .returned (.int .i64 (n : Int)) ∧ w = w' := rcount_any s 49 w n h hs
theorem rc63 (s : ByteArray) (w : World) (n : Nat) (h : (bl s).count 63 = n) (hs : s.size ≤ 1000000) :
    Calls Tryd.prog 54 #[.string s, .int .u8 63] w fun e w' => e = .returned (.int .i64 (n : Int)) ∧ w = w' := rcount_any s 63 w n h hs
theorem mark_eq {s : List UInt8} {b e : UInt8} {n m : Nat} (h1 : (s.take 7).count b = n) (h2 : (s.drop 67).count e = m) : markB s b e = (decide (4 ≤ n) && decide (4 ≤ m)) := by
  unfold markB; rw [h1, h2]
set_option maxRecDepth 100000 in
set_option maxHeartbeats 1000000 in
theorem marked_any (s : ByteArray) (b e : UInt8) (w : World) (hs : s.size = 74) :
    Calls Tryd.prog 52 #[.string s, .string ⟨#[b]⟩, .string ⟨#[e]⟩] w fun r w' => r = .returned (.bool (markB (bl s) b e)) ∧ w = w' := by
  have h74 : 74 ≤ s.size := by omega
  have h75 : s.size ≤ 74 := by omega
  obtain ⟨n, hn⟩ : ∃ n, ((bl s).take 7).count b = n := ⟨_, rfl⟩
  obtain ⟨m, hm⟩ : ∃ m, ((bl s).drop 67).count e = m := ⟨_, rfl⟩
  have HM := Lib.hid (mark_eq hn hm)
  have H1 : Hid ((bl (s.extract 0 7)).count b = n) := by show _ = _; rw [bl_to]; exact hn
  have H2 : Hid ((bl (s.extract 67 s.size)).count e = m) := by show _ = _; rw [bl_from]; exact hm
  clear hs hn hm
  by_cases h4 : 4 ≤ n
  · go_enter Tryd.func52, Tryd.ntmps52
    go_wp2_with fail
    refine (scount_any _ b _ n H1.out).mono ?_
    rintro r w1 ⟨rfl, rfl⟩
    go_wp2_with fail
    refine (scount_any _ e _ m H2.out).mono ?_
    rintro r w1 ⟨rfl, rfl⟩
    go_wp2_with fail
    go_ret
    exact ⟨ret_bool (by rw [HM.out]; simp [h4]; omega), rfl⟩
  · go_enter Tryd.func52, Tryd.ntmps52
    go_wp2_with fail
    refine (scount_any _ b _ n H1.out).mono ?_
    rintro r w1 ⟨rfl, rfl⟩
    go_wp2_with fail
    go_ret
    exact ⟨ret_bool (by rw [HM.out]; simp [h4]), rfl⟩
/-- What Upright returns. -/
def UprRet (s : List UInt8) (w : World) (e : Ending) (w' : World) : Prop := ∃ t k, e = .returned (.tuple #[.string t, .int .i64 k]) ∧ k = uprE s ∧ bl t = uprS s ∧ Ext w w'
theorem upr_not {s : List UInt8} (h : stripB s = false) : uprS s = [] ∧ uprE s = 7 := by unfold uprS uprE; rw [h]; exact ⟨rfl, rfl⟩
theorem upr_up {s : List UInt8} (h : stripB s = true) (h1 : markB s 49 48 = true) : uprS s = s ∧ uprE s = 0 := by unfold uprS uprE; rw [h, h1]; exact ⟨rfl, rfl⟩
theorem upr_down {s : List UInt8} (h : stripB s = true) (h1 : markB s 49 48 = false) (h2 : markB s 48 49 = true) : uprS s = s.reverse ∧ uprE s = 0 := by unfold uprS uprE; rw [h, h1, h2]; exact ⟨rfl, rfl⟩
theorem upr_none {s : List UInt8} (h : stripB s = true) (h1 : markB s 49 48 = false) (h2 : markB s 48 49 = false) : uprS s = [] ∧ uprE s = 26 := by unfold uprS uprE; rw [h, h1, h2]; exact ⟨rfl, rfl⟩
set_option maxRecDepth 100000 in
set_option maxHeartbeats 2000000 in
theorem upright_any (s : ByteArray) (w : World) : Calls Tryd.prog 26 #[.string s] w (UprRet (bl s) w) := by
  rcases Bool.eq_false_or_eq_true (stripB (bl s)) with hb | hb
  · have hs : s.size = 74 := by rw [← bl_len]; exact (strip_iff.1 hb).1
    rcases Bool.eq_false_or_eq_true (markB (bl s) 49 48) with h1 | h1
    · obtain ⟨u1, u2⟩ := upr_up hb h1
      have U1 := Lib.hid u1
      have U2 := Lib.hid u2
      have HS := Lib.hid hs
      clear u1 u2 hs
      go_enter Tryd.func26, Tryd.ntmps26
      go_wp2_with fail
      refine (isStrip_any _ _).mono ?_
      rintro r w1 ⟨rfl, rfl⟩
      rw [hb]
      go_wp2_with fail
      refine (marked_any _ 49 48 _ HS.out).mono ?_
      rintro r w1 ⟨rfl, rfl⟩
      rw [h1]
      go_wp2_with fail
      go_ret2
      exact ⟨s, 0, rfl, U2.out.symm, U1.out.symm, Ext.refl _⟩
    rcases Bool.eq_false_or_eq_true (markB (bl s) 48 49) with h2 | h2
    · obtain ⟨u1, u2⟩ := upr_down hb h1 h2
      have U1 := Lib.hid u1
      have U2 := Lib.hid u2
      have HS := Lib.hid hs
      clear u1 u2 hs
      go_enter Tryd.func26, Tryd.ntmps26
      go_wp2_with fail
      refine (isStrip_any _ _).mono ?_
      rintro r w1 ⟨rfl, rfl⟩
      rw [hb]
      go_wp2_with fail
      refine (marked_any _ 49 48 _ HS.out).mono ?_
      rintro r w1 ⟨rfl, rfl⟩
      rw [h1]
      go_wp2_with fail
      refine (marked_any _ 48 49 _ HS.out).mono ?_
      rintro r w1 ⟨rfl, rfl⟩
      rw [h2]
      go_wp2_with fail
      refine (flip_any s _ (by rw [HS.out]; omega)).mono ?_
      rintro r w1 ⟨t, rfl, ht, hx⟩
      have HT := Lib.hid ht
      have HX := Lib.hid hx
      clear ht hx
      go_wp2_with fail
      go_ret2
      exact ⟨t, 0, rfl, U2.out.symm, by rw [U1.out, HT.out], HX.out⟩
    · obtain ⟨u1, u2⟩ := upr_none hb h1 h2
      have U1 := Lib.hid u1
      have U2 := Lib.hid u2
      have HS := Lib.hid hs
      clear u1 u2 hs
      go_enter Tryd.func26, Tryd.ntmps26
      go_wp2_with fail
      refine (isStrip_any _ _).mono ?_
      rintro r w1 ⟨rfl, rfl⟩
      rw [hb]
      go_wp2_with fail
      refine (marked_any _ 49 48 _ HS.out).mono ?_
      rintro r w1 ⟨rfl, rfl⟩
      rw [h1]
      go_wp2_with fail
      refine (marked_any _ 48 49 _ HS.out).mono ?_
      rintro r w1 ⟨rfl, rfl⟩
      rw [h2]
      go_wp2_with fail
      go_ret2
      exact ⟨_, _, rfl, U2.out.symm, by rw [U1.out]; rfl, Ext.refl _⟩
  · obtain ⟨u1, u2⟩ := upr_not hb
    have U1 := Lib.hid u1
    have U2 := Lib.hid u2
    clear u1 u2
    go_enter Tryd.func26, Tryd.ntmps26
    go_wp2_with fail
    refine (isStrip_any _ _).mono ?_
    rintro r w1 ⟨rfl, rfl⟩
    rw [hb]
    go_wp2_with fail
    go_ret2
    exact ⟨_, _, rfl, U2.out.symm, by rw [U1.out]; rfl, Ext.refl _⟩
/-- How many modules of either kind stand at the two ends. -/
structure Cnts (s : ByteArray) (n1 m1 n2 m2 : Nat) : Prop where
  n1 : (bl (s.extract 0 7)).count 49 = n1
  m1 : (bl (s.extract 67 s.size)).count 48 = m1
  n2 : (bl (s.extract 0 7)).count 48 = n2
  m2 : (bl (s.extract 67 s.size)).count 49 = m2
  e7 : (s.extract 0 7).size ≤ 1000000
  e67 : (s.extract 67 s.size).size ≤ 1000000
set_option maxRecDepth 100000 in
set_option maxHeartbeats 4000000 in
theorem rupright_any (s : ByteArray) (w : World) : Calls Tryd.prog 27 #[.string s] w (UprRet (bl s) w) := by
  rcases Bool.eq_false_or_eq_true (stripB (bl s)) with hb | hb
  · have hs : s.size = 74 := by rw [← bl_len]; exact (strip_iff.1 hb).1
    have h74 : 74 ≤ s.size := by omega
    have h75 : s.size ≤ 74 := by omega
    obtain ⟨n1, hn1⟩ : ∃ n, ((bl s).take 7).count 49 = n := ⟨_, rfl⟩
    obtain ⟨m1, hm1⟩ : ∃ n, ((bl s).drop 67).count 48 = n := ⟨_, rfl⟩
    obtain ⟨n2, hn2⟩ : ∃ n, ((bl s).take 7).count 48 = n := ⟨_, rfl⟩
    obtain ⟨m2, hm2⟩ : ∃ n, ((bl s).drop 67).count 49 = n := ⟨_, rfl⟩
    have HM1 := Lib.hid (mark_eq hn1 hm1)
    have HM2 := Lib.hid (mark_eq hn2 hm2)
    have HC : Cnts s n1 m1 n2 m2 := ⟨by rw [bl_to]; exact hn1, by rw [bl_from]; exact hm1, by rw [bl_to]; exact hn2, by rw [bl_from]; exact hm2, by rw [← bl_len, bl_to, List.length_take, bl_len]; omega, by rw [← bl_len, bl_from, List.length_drop, bl_len]; omega⟩
    clear hs hn1 hm1 hn2 hm2
    by_cases c1 : 4 ≤ n1
    · by_cases c2 : 4 ≤ m1
      · have g1 : markB (bl s) 49 48 = true := by rw [HM1.out]; simp; omega
        obtain ⟨u1, u2⟩ := upr_up hb g1
        have U1 := Lib.hid u1
        have U2 := Lib.hid u2
        clear u1 u2 g1 HM1 HM2
        go_enter Tryd.func27, Tryd.ntmps27
        go_wp2_with fail
        refine (rstrip_any _ _).mono ?_
        rintro r w1 ⟨rfl, rfl⟩
        rw [hb]
        go_wp2_with fail
        refine (rc49 _ _ n1 HC.n1 HC.e7).mono ?_
        rintro r w1 ⟨rfl, rfl⟩
        go_wp2_with fail
        refine (rc48 _ _ m1 HC.m1 HC.e67).mono ?_
        rintro r w1 ⟨rfl, rfl⟩
        go_wp2_with fail
        go_ret2
        exact ⟨s, 0, rfl, U2.out.symm, U1.out.symm, Ext.refl _⟩
      · by_cases c3 : 4 ≤ n2
        · by_cases c4 : 4 ≤ m2
          · have g1 : markB (bl s) 49 48 = false := by rw [HM1.out]; simp; omega
            have g2 : markB (bl s) 48 49 = true := by rw [HM2.out]; simp; omega
            obtain ⟨u1, u2⟩ := upr_down hb g1 g2
            have U1 := Lib.hid u1
            have U2 := Lib.hid u2
            clear u1 u2 g1 HM1 HM2 g2
            go_enter Tryd.func27, Tryd.ntmps27
            go_wp2_with fail
            refine (rstrip_any _ _).mono ?_
            rintro r w1 ⟨rfl, rfl⟩
            rw [hb]
            go_wp2_with fail
            refine (rc49 _ _ n1 HC.n1 HC.e7).mono ?_
            rintro r w1 ⟨rfl, rfl⟩
            go_wp2_with fail
            refine (rc48 _ _ m1 HC.m1 HC.e67).mono ?_
            rintro r w1 ⟨rfl, rfl⟩
            go_wp2_with fail
            refine (rc48 _ _ n2 HC.n2 HC.e7).mono ?_
            rintro r w1 ⟨rfl, rfl⟩
            go_wp2_with fail
            refine (rc49 _ _ m2 HC.m2 HC.e67).mono ?_
            rintro r w1 ⟨rfl, rfl⟩
            go_wp2_with fail
            refine (rflip_any s _ (by omega)).mono ?_
            rintro r w1 ⟨t, rfl, ht, hx⟩
            have HT := Lib.hid ht
            have HX := Lib.hid hx
            clear ht hx
            go_wp2_with fail
            go_ret2
            exact ⟨t, 0, rfl, U2.out.symm, by rw [U1.out, HT.out], HX.out⟩
          · have g1 : markB (bl s) 49 48 = false := by rw [HM1.out]; simp; omega
            have g2 : markB (bl s) 48 49 = false := by rw [HM2.out]; simp; omega
            obtain ⟨u1, u2⟩ := upr_none hb g1 g2
            have U1 := Lib.hid u1
            have U2 := Lib.hid u2
            clear u1 u2 g1 HM1 HM2 g2
            go_enter Tryd.func27, Tryd.ntmps27
            go_wp2_with fail
            refine (rstrip_any _ _).mono ?_
            rintro r w1 ⟨rfl, rfl⟩
            rw [hb]
            go_wp2_with fail
            refine (rc49 _ _ n1 HC.n1 HC.e7).mono ?_
            rintro r w1 ⟨rfl, rfl⟩
            go_wp2_with fail
            refine (rc48 _ _ m1 HC.m1 HC.e67).mono ?_
            rintro r w1 ⟨rfl, rfl⟩
            go_wp2_with fail
            refine (rc48 _ _ n2 HC.n2 HC.e7).mono ?_
            rintro r w1 ⟨rfl, rfl⟩
            go_wp2_with fail
            refine (rc49 _ _ m2 HC.m2 HC.e67).mono ?_
            rintro r w1 ⟨rfl, rfl⟩
            go_wp2_with fail
            go_ret2
            exact ⟨_, _, rfl, U2.out.symm, by rw [U1.out]; rfl, Ext.refl _⟩
        · have g1 : markB (bl s) 49 48 = false := by rw [HM1.out]; simp; omega
          have g2 : markB (bl s) 48 49 = false := by rw [HM2.out]; simp; omega
          obtain ⟨u1, u2⟩ := upr_none hb g1 g2
          have U1 := Lib.hid u1
          have U2 := Lib.hid u2
          clear u1 u2 g1 HM1 HM2 g2
          go_enter Tryd.func27, Tryd.ntmps27
          go_wp2_with fail
          refine (rstrip_any _ _).mono ?_
          rintro r w1 ⟨rfl, rfl⟩
          rw [hb]
          go_wp2_with fail
          refine (rc49 _ _ n1 HC.n1 HC.e7).mono ?_
          rintro r w1 ⟨rfl, rfl⟩
          go_wp2_with fail
          refine (rc48 _ _ m1 HC.m1 HC.e67).mono ?_
          rintro r w1 ⟨rfl, rfl⟩
          go_wp2_with fail
          refine (rc48 _ _ n2 HC.n2 HC.e7).mono ?_
          rintro r w1 ⟨rfl, rfl⟩
          go_wp2_with fail
          go_ret2
          exact ⟨_, _, rfl, U2.out.symm, by rw [U1.out]; rfl, Ext.refl _⟩
    · by_cases c3 : 4 ≤ n2
      · by_cases c4 : 4 ≤ m2
        · have g1 : markB (bl s) 49 48 = false := by rw [HM1.out]; simp; omega
          have g2 : markB (bl s) 48 49 = true := by rw [HM2.out]; simp; omega
          obtain ⟨u1, u2⟩ := upr_down hb g1 g2
          have U1 := Lib.hid u1
          have U2 := Lib.hid u2
          clear u1 u2 g1 HM1 HM2 g2
          go_enter Tryd.func27, Tryd.ntmps27
          go_wp2_with fail
          refine (rstrip_any _ _).mono ?_
          rintro r w1 ⟨rfl, rfl⟩
          rw [hb]
          go_wp2_with fail
          refine (rc49 _ _ n1 HC.n1 HC.e7).mono ?_
          rintro r w1 ⟨rfl, rfl⟩
          go_wp2_with fail
          refine (rc48 _ _ n2 HC.n2 HC.e7).mono ?_
          rintro r w1 ⟨rfl, rfl⟩
          go_wp2_with fail
          refine (rc49 _ _ m2 HC.m2 HC.e67).mono ?_
          rintro r w1 ⟨rfl, rfl⟩
          go_wp2_with fail
          refine (rflip_any s _ (by omega)).mono ?_
          rintro r w1 ⟨t, rfl, ht, hx⟩
          have HT := Lib.hid ht
          have HX := Lib.hid hx
          clear ht hx
          go_wp2_with fail
          go_ret2
          exact ⟨t, 0, rfl, U2.out.symm, by rw [U1.out, HT.out], HX.out⟩
        · have g1 : markB (bl s) 49 48 = false := by rw [HM1.out]; simp; omega
          have g2 : markB (bl s) 48 49 = false := by rw [HM2.out]; simp; omega
          obtain ⟨u1, u2⟩ := upr_none hb g1 g2
          have U1 := Lib.hid u1
          have U2 := Lib.hid u2
          clear u1 u2 g1 HM1 HM2 g2
          go_enter Tryd.func27, Tryd.ntmps27
          go_wp2_with fail
          refine (rstrip_any _ _).mono ?_
          rintro r w1 ⟨rfl, rfl⟩
          rw [hb]
          go_wp2_with fail
          refine (rc49 _ _ n1 HC.n1 HC.e7).mono ?_
          rintro r w1 ⟨rfl, rfl⟩
          go_wp2_with fail
          refine (rc48 _ _ n2 HC.n2 HC.e7).mono ?_
          rintro r w1 ⟨rfl, rfl⟩
          go_wp2_with fail
          refine (rc49 _ _ m2 HC.m2 HC.e67).mono ?_
          rintro r w1 ⟨rfl, rfl⟩
          go_wp2_with fail
          go_ret2
          exact ⟨_, _, rfl, U2.out.symm, by rw [U1.out]; rfl, Ext.refl _⟩
      · have g1 : markB (bl s) 49 48 = false := by rw [HM1.out]; simp; omega
        have g2 : markB (bl s) 48 49 = false := by rw [HM2.out]; simp; omega
        obtain ⟨u1, u2⟩ := upr_none hb g1 g2
        have U1 := Lib.hid u1
        have U2 := Lib.hid u2
        clear u1 u2 g1 HM1 HM2 g2
        go_enter Tryd.func27, Tryd.ntmps27
        go_wp2_with fail
        refine (rstrip_any _ _).mono ?_
        rintro r w1 ⟨rfl, rfl⟩
        rw [hb]
        go_wp2_with fail
        refine (rc49 _ _ n1 HC.n1 HC.e7).mono ?_
        rintro r w1 ⟨rfl, rfl⟩
        go_wp2_with fail
        refine (rc48 _ _ n2 HC.n2 HC.e7).mono ?_
        rintro r w1 ⟨rfl, rfl⟩
        go_wp2_with fail
        go_ret2
        exact ⟨_, _, rfl, U2.out.symm, by rw [U1.out]; rfl, Ext.refl _⟩
  · obtain ⟨u1, u2⟩ := upr_not hb
    have U1 := Lib.hid u1
    have U2 := Lib.hid u2
    clear u1 u2
    go_enter Tryd.func27, Tryd.ntmps27
    go_wp2_with fail
    refine (rstrip_any _ _).mono ?_
    rintro r w1 ⟨rfl, rfl⟩
    rw [hb]
    go_wp2_with fail
    go_ret2
    exact ⟨_, _, rfl, U2.out.symm, by rw [U1.out]; rfl, Ext.refl _⟩
end Go.Proofs.YtcpanmonllhmaaaDoor
/- Valid and Symbols of both. -/
namespace Go.Proofs.YtcpanmonllhmaaaDoor
open Go.RowKit

def symB (n : Int) : Bool := decide (0 ≤ n ∧ n < 32)
/-- Which labels are valid. -/
def labB (p c g v : Int) : Bool := decide ((0 ≤ p ∧ p < 32) ∧ (0 ≤ g ∧ g < 32) ∧ (0 ≤ v ∧ v < 32) ∧ 0 ≤ c ∧ c ≤ 9999)
theorem labB_iff {p c g v : Int} : labB p c g v = true ↔ (0 ≤ p ∧ p < 32) ∧ (0 ≤ g ∧ g < 32) ∧ (0 ≤ v ∧ v < 32) ∧ 0 ≤ c ∧ c ≤ 9999 := by unfold labB; exact decide_eq_true_iff
theorem isSymbol_any (n : Int) (w : World) :
    Calls Tryd.prog 42 #[.int .i64 n] w fun e w' => e = .returned (.bool (symB n)) ∧ w = w' := by
  go_enter Tryd.func42, Tryd.ntmps42
  go_wp2
  all_goals (go_ret; exact ⟨ret_bool (by first | (simp [symB]; omega) | (rw [Bool.eq_iff_iff]; simp [symB]; omega)), rfl⟩)
theorem isSymbol_yes (n : Int) (w : World) (h : 0 ≤ n ∧ n < 32) :
    Calls Tryd.prog 42 #[.int .i64 n] w fun e w' => e = .returned (.bool true) ∧ w = w' :=
  (isSymbol_any n w).mono fun _ _ ⟨he, hw⟩ => ⟨he.trans (ret_bool (by simp [symB, h])), hw⟩
theorem isSymbol_no (n : Int) (w : World) (h : ¬ (0 ≤ n ∧ n < 32)) :
    Calls Tryd.prog 42 #[.int .i64 n] w fun e w' => e = .returned (.bool false) ∧ w = w' :=
  (isSymbol_any n w).mono fun _ _ ⟨he, hw⟩ => ⟨he.trans (ret_bool (by simp only [symB]; exact decide_eq_false h)), hw⟩
theorem inside_any (n m : Int) (w : World) :
    Calls Tryd.prog 43 #[.int .i64 n, .int .i64 m] w fun e w' => e = .returned (.bool (decide (0 ≤ n ∧ n ≤ m))) ∧ w = w' := by
  go_enter Tryd.func43, Tryd.ntmps43
  go_wp2
  all_goals (go_ret; exact ⟨ret_bool (by first | (simp; omega) | (rw [Bool.eq_iff_iff]; simp; omega)), rfl⟩)
theorem inside_yes (n m : Int) (w : World) (h : 0 ≤ n ∧ n ≤ m) :
    Calls Tryd.prog 43 #[.int .i64 n, .int .i64 m] w fun e w' => e = .returned (.bool true) ∧ w = w' :=
  (inside_any n m w).mono fun _ _ ⟨he, hw⟩ => ⟨he.trans (ret_bool (decide_eq_true h)), hw⟩
theorem inside_no (n m : Int) (w : World) (h : ¬ (0 ≤ n ∧ n ≤ m)) :
    Calls Tryd.prog 43 #[.int .i64 n, .int .i64 m] w fun e w' => e = .returned (.bool false) ∧ w = w' :=
  (inside_any n m w).mono fun _ _ ⟨he, hw⟩ => ⟨he.trans (ret_bool (decide_eq_false h)), hw⟩
set_option maxRecDepth 100000 in
set_option maxHeartbeats 1000000 in
theorem stvalid_any (p c g v : Int) (w : World) :
    Calls Tryd.prog 17 #[.agg #[.int .i64 p, .int .i64 c, .int .i64 g, .int .i64 v]] w fun e w' => e = .returned (.bool (labB p c g v)) ∧ Ext w w' := by
  by_cases hp : 0 ≤ p ∧ p < 32
  rotate_left
  · have HB : Hid (labB p c g v = false) := by show _ = _; unfold labB; exact decide_eq_false (by omega)
    go_enter Tryd.func17, Tryd.ntmps17
    go_wp2_with fail
    refine (isSymbol_no p _ hp).mono ?_
    rintro r w1 ⟨rfl, rfl⟩
    go_wp2_with fail
    go_ret
    exact ⟨ret_bool HB.out.symm, (Ext.refl _).alloc _⟩
  by_cases hg : 0 ≤ g ∧ g < 32
  rotate_left
  · have HB : Hid (labB p c g v = false) := by show _ = _; unfold labB; exact decide_eq_false (by omega)
    go_enter Tryd.func17, Tryd.ntmps17
    go_wp2_with fail
    refine (isSymbol_yes p _ hp).mono ?_
    rintro r w1 ⟨rfl, rfl⟩
    go_wp2_with fail
    refine (isSymbol_no g _ hg).mono ?_
    rintro r w1 ⟨rfl, rfl⟩
    go_wp2_with fail
    go_ret
    exact ⟨ret_bool HB.out.symm, (Ext.refl _).alloc _⟩
  by_cases hv : 0 ≤ v ∧ v < 32
  rotate_left
  · have HB : Hid (labB p c g v = false) := by show _ = _; unfold labB; exact decide_eq_false (by omega)
    go_enter Tryd.func17, Tryd.ntmps17
    go_wp2_with fail
    refine (isSymbol_yes p _ hp).mono ?_
    rintro r w1 ⟨rfl, rfl⟩
    go_wp2_with fail
    refine (isSymbol_yes g _ hg).mono ?_
    rintro r w1 ⟨rfl, rfl⟩
    go_wp2_with fail
    refine (isSymbol_no v _ hv).mono ?_
    rintro r w1 ⟨rfl, rfl⟩
    go_wp2_with fail
    go_ret
    exact ⟨ret_bool HB.out.symm, (Ext.refl _).alloc _⟩
  have HB : Hid (labB p c g v = (decide (0 ≤ c) && decide (c ≤ 9999))) := by show _ = _; unfold labB; rw [Bool.eq_iff_iff]; simp; omega
  go_enter Tryd.func17, Tryd.ntmps17
  go_wp2_with fail
  refine (isSymbol_yes p _ hp).mono ?_
  rintro r w1 ⟨rfl, rfl⟩
  go_wp2_with fail
  refine (isSymbol_yes g _ hg).mono ?_
  rintro r w1 ⟨rfl, rfl⟩
  go_wp2_with fail
  refine (isSymbol_yes v _ hv).mono ?_
  rintro r w1 ⟨rfl, rfl⟩
  go_wp2_with fail
  all_goals (go_ret; exact ⟨ret_bool (by rw [HB.out]; first | (simp; omega) | (rw [Bool.eq_iff_iff]; simp; omega)), (Ext.refl _).alloc _⟩)
set_option maxRecDepth 100000 in
set_option maxHeartbeats 1000000 in
theorem rstvalid_any (p c g v : Int) (w : World) :
    Calls Tryd.prog 18 #[.agg #[.int .i64 p, .int .i64 c, .int .i64 g, .int .i64 v]] w fun e w' => e = .returned (.bool (labB p c g v)) ∧ Ext w w' := by
  by_cases hp : 0 ≤ p ∧ p ≤ 31
  rotate_left
  · have HB : Hid (labB p c g v = false) := by show _ = _; unfold labB; exact decide_eq_false (by omega)
    go_enter Tryd.func18, Tryd.ntmps18
    go_wp2_with fail
    refine (inside_no p 31 _ hp).mono ?_
    rintro r w1 ⟨rfl, rfl⟩
    go_wp2_with fail
    go_ret
    exact ⟨ret_bool HB.out.symm, (Ext.refl _).alloc _⟩
  by_cases hg : 0 ≤ g ∧ g ≤ 31
  rotate_left
  · have HB : Hid (labB p c g v = false) := by show _ = _; unfold labB; exact decide_eq_false (by omega)
    go_enter Tryd.func18, Tryd.ntmps18
    go_wp2_with fail
    refine (inside_yes p 31 _ hp).mono ?_
    rintro r w1 ⟨rfl, rfl⟩
    go_wp2_with fail
    refine (inside_no g 31 _ hg).mono ?_
    rintro r w1 ⟨rfl, rfl⟩
    go_wp2_with fail
    go_ret
    exact ⟨ret_bool HB.out.symm, (Ext.refl _).alloc _⟩
  by_cases hv : 0 ≤ v ∧ v ≤ 31
  rotate_left
  · have HB : Hid (labB p c g v = false) := by show _ = _; unfold labB; exact decide_eq_false (by omega)
    go_enter Tryd.func18, Tryd.ntmps18
    go_wp2_with fail
    refine (inside_yes p 31 _ hp).mono ?_
    rintro r w1 ⟨rfl, rfl⟩
    go_wp2_with fail
    refine (inside_yes g 31 _ hg).mono ?_
    rintro r w1 ⟨rfl, rfl⟩
    go_wp2_with fail
    refine (inside_no v 31 _ hv).mono ?_
    rintro r w1 ⟨rfl, rfl⟩
    go_wp2_with fail
    go_ret
    exact ⟨ret_bool HB.out.symm, (Ext.refl _).alloc _⟩
  by_cases hc : 0 ≤ c ∧ c ≤ 9999
  · have HB : Hid (labB p c g v = true) := by show _ = _; unfold labB; exact decide_eq_true (by omega)
    go_enter Tryd.func18, Tryd.ntmps18
    go_wp2_with fail
    refine (inside_yes p 31 _ hp).mono ?_
    rintro r w1 ⟨rfl, rfl⟩
    go_wp2_with fail
    refine (inside_yes g 31 _ hg).mono ?_
    rintro r w1 ⟨rfl, rfl⟩
    go_wp2_with fail
    refine (inside_yes v 31 _ hv).mono ?_
    rintro r w1 ⟨rfl, rfl⟩
    go_wp2_with fail
    refine (inside_yes c 9999 _ hc).mono ?_
    rintro r w1 ⟨rfl, rfl⟩
    go_wp2_with fail
    go_ret
    exact ⟨ret_bool HB.out.symm, (Ext.refl _).alloc _⟩
  · have HB : Hid (labB p c g v = false) := by show _ = _; unfold labB; exact decide_eq_false (by omega)
    go_enter Tryd.func18, Tryd.ntmps18
    go_wp2_with fail
    refine (inside_yes p 31 _ hp).mono ?_
    rintro r w1 ⟨rfl, rfl⟩
    go_wp2_with fail
    refine (inside_yes g 31 _ hg).mono ?_
    rintro r w1 ⟨rfl, rfl⟩
    go_wp2_with fail
    refine (inside_yes v 31 _ hv).mono ?_
    rintro r w1 ⟨rfl, rfl⟩
    go_wp2_with fail
    refine (inside_no c 9999 _ hc).mono ?_
    rintro r w1 ⟨rfl, rfl⟩
    go_wp2_with fail
    go_ret
    exact ⟨ret_bool HB.out.symm, (Ext.refl _).alloc _⟩
/-- The symbols of a label. -/
def symL (p c g v : Int) : List Int := [p, c / 1024, c / 32 % 32, c % 32, g, v]
def symS (p c g v : Int) : List Int := if labB p c g v then symL p c g v else []
def symE (p c g v : Int) : Int := if labB p c g v then 0 else 2
def SymRet (p c g v : Int) (w : World) (e : Ending) (w' : World) : Prop := ∃ A n cc k, e = .returned (.tuple #[.slice A n cc, .int .i64 k]) ∧ k = symE p c g v ∧ IsI w'.heap.size w' (.slice A n cc) (symS p c g v) ∧ Ext w w'
theorem symL_mem {p c g v : Int} (h : labB p c g v = true) : ∀ x ∈ symL p c g v, 0 ≤ x ∧ x < 32 := by
  intro x hx
  have := labB_iff.1 h
  unfold symL at hx
  simp only [List.mem_cons, List.not_mem_nil, or_false] at hx
  omega
theorem symL_i64 {p c g v : Int} (h : labB p c g v = true) : ∀ x ∈ symL p c g v, I64 x := fun x hx => by have := symL_mem h x hx; constructor <;> omega
theorem sym_yes {p c g v : Int} (h : labB p c g v = true) : symS p c g v = symL p c g v ∧ symE p c g v = 0 := by unfold symS symE; rw [h]; exact ⟨rfl, rfl⟩
theorem sym_no {p c g v : Int} (h : labB p c g v = false) : symS p c g v = [] ∧ symE p c g v = 2 := by unfold symS symE; rw [h]; exact ⟨rfl, rfl⟩
theorem IsI.lits {w : World} (l : List Int) (t : TypeId) (hb : ∀ x ∈ l, I64 x) (hl : l.length ≤ 9223372036854775807) : IsI (w.alloc (.cells (l.map (Value.int .i64)).toArray t)).heap.size (w.alloc (.cells (l.map (Value.int .i64)).toArray t)) (.slice (some ⟨w.heap.size, 0, none⟩) l.length l.length) l :=
  ⟨_, _, rfl, Nat.le_refl _, by omega, hl, hb, fun k x hx => ⟨w.heap.size, 0, rfl, by simp, by
    rw [Nat.zero_add, cell_of_row _ _ k _ t (0, 0) (heap_alloc_new w _)]
    simp [hx]⟩⟩
set_option maxRecDepth 100000 in
set_option maxHeartbeats 1000000 in
theorem symbols_any (p c g v : Int) (w : World) :
    Calls Tryd.prog 14 #[.agg #[.int .i64 p, .int .i64 c, .int .i64 g, .int .i64 v]] w (SymRet p c g v w) := by
  rcases Bool.eq_false_or_eq_true (labB p c g v) with hb | hb
  · obtain ⟨⟨hp1, hp2⟩, ⟨hg1, hg2⟩, ⟨hv1, hv2⟩, hc1, hc2⟩ := labB_iff.1 hb
    obtain ⟨s1, s2⟩ := sym_yes hb
    have S1 := Lib.hid s1
    have S2 := Lib.hid s2
    have HM := Lib.hid (symL_i64 hb)
    clear s1 s2
    obtain ⟨w0, hw0⟩ : ∃ w0, w0 = w.alloc (.cells #[.int .i64 p, .int .i64 c, .int .i64 g, .int .i64 v] 26) := ⟨_, rfl⟩
    have cc := fun i => cell_of_row (w := w.alloc (.cells #[.int .i64 p, .int .i64 c, .int .i64 g, .int .i64 v] 26)) w.heap.size i _ _ _ (heap_alloc_new w _)
    rw [← hw0] at cc
    have c0 := cc 0
    have c1 := cc 1
    have c2 := cc 2
    have c3 := cc 3
    simp at c0 c1 c2 c3
    have HE : Hid (Ext w w0) := by rw [hw0]; exact (Ext.refl _).alloc _
    clear cc
    go_enter Tryd.func14, Tryd.ntmps14
    go_wp2_with fail
    rw [← hw0]
    clear hw0
    refine (stvalid_any p c g v _).mono ?_
    rintro r w1 ⟨rfl, hx⟩
    rw [hb]
    replace c0 := hx.cell c0
    replace c1 := hx.cell c1
    replace c2 := hx.cell c2
    replace c3 := hx.cell c3
    have HX := Lib.hid (HE.out.trans hx)
    clear hx HE
    go_wp2_with fail
    go_ret2
    refine ⟨_, _, _, _, rfl, S2.out.symm, ?_, HX.out.alloc _⟩
    rw [S1.out]
    exact IsI.lits (symL p c g v) 3 HM.out (by unfold symL; simp)
  · obtain ⟨s1, s2⟩ := sym_no hb
    have S1 := Lib.hid s1
    have S2 := Lib.hid s2
    clear s1 s2
    go_enter Tryd.func14, Tryd.ntmps14
    go_wp2_with fail
    refine (stvalid_any p c g v _).mono ?_
    rintro r w1 ⟨rfl, hx⟩
    rw [hb]
    have HX := Lib.hid hx
    clear hx
    go_wp2_with fail
    go_ret2
    exact ⟨_, _, _, _, rfl, S2.out.symm, by rw [S1.out]; exact IsI.nil _ _, Ext.trans ((Ext.refl _).alloc _) HX.out⟩
set_option maxRecDepth 100000 in
set_option maxHeartbeats 1000000 in
theorem rsymb_any (p c g v : Int) (w : World) :
    Calls Tryd.prog 15 #[.agg #[.int .i64 p, .int .i64 c, .int .i64 g, .int .i64 v]] w (SymRet p c g v w) := by
  rcases Bool.eq_false_or_eq_true (labB p c g v) with hb | hb
  · obtain ⟨⟨hp1, hp2⟩, ⟨hg1, hg2⟩, ⟨hv1, hv2⟩, hc1, hc2⟩ := labB_iff.1 hb
    obtain ⟨s1, s2⟩ := sym_yes hb
    have S1 := Lib.hid s1
    have S2 := Lib.hid s2
    have HM := Lib.hid (symL_i64 hb)
    clear s1 s2
    obtain ⟨w0, hw0⟩ : ∃ w0, w0 = w.alloc (.cells #[.int .i64 p, .int .i64 c, .int .i64 g, .int .i64 v] 26) := ⟨_, rfl⟩
    have cc := fun i => cell_of_row (w := w.alloc (.cells #[.int .i64 p, .int .i64 c, .int .i64 g, .int .i64 v] 26)) w.heap.size i _ _ _ (heap_alloc_new w _)
    rw [← hw0] at cc
    have c0 := cc 0
    have c1 := cc 1
    have c2 := cc 2
    have c3 := cc 3
    simp at c0 c1 c2 c3
    have HE : Hid (Ext w w0) := by rw [hw0]; exact (Ext.refl _).alloc _
    clear cc
    go_enter Tryd.func15, Tryd.ntmps15
    go_wp2_with fail
    rw [← hw0]
    clear hw0
    refine (rstvalid_any p c g v _).mono ?_
    rintro r w1 ⟨rfl, hx⟩
    rw [hb]
    replace c0 := hx.cell c0
    replace c1 := hx.cell c1
    replace c2 := hx.cell c2
    replace c3 := hx.cell c3
    have HX := Lib.hid (HE.out.trans hx)
    clear hx HE
    go_wp2_with fail
    go_ret2
    refine ⟨_, _, _, _, rfl, S2.out.symm, ?_, HX.out.alloc _⟩
    rw [S1.out]
    exact IsI.lits (symL p c g v) 3 HM.out (by unfold symL; simp)
  · obtain ⟨s1, s2⟩ := sym_no hb
    have S1 := Lib.hid s1
    have S2 := Lib.hid s2
    clear s1 s2
    go_enter Tryd.func15, Tryd.ntmps15
    go_wp2_with fail
    refine (rstvalid_any p c g v _).mono ?_
    rintro r w1 ⟨rfl, hx⟩
    rw [hb]
    have HX := Lib.hid hx
    clear hx
    go_wp2_with fail
    go_ret2
    exact ⟨_, _, _, _, rfl, S2.out.symm, by rw [S1.out]; exact IsI.nil _ _, Ext.trans ((Ext.refl _).alloc _) HX.out⟩
end Go.Proofs.YtcpanmonllhmaaaDoor
/- Modules and Draw of both. -/
namespace Go.Proofs.YtcpanmonllhmaaaDoor
open Go.RowKit

theorem bit_fin : ∀ (n : Fin 32) (j : Fin 5), bits BinOp.and IntKind.i64 ((n.val : Int) / 2 ^ j.val) 1 = ((n.val / 2 ^ j.val % 2 : Nat) : Int) := by decide +kernel
theorem bit_and {n j : Nat} (hn : n < 32) (hj : j < 5) : bits BinOp.and IntKind.i64 ((n : Int) / 2 ^ j) 1 = ((n / 2 ^ j % 2 : Nat) : Int) := bit_fin ⟨n, hn⟩ ⟨j, hj⟩
theorem mods_fin : ∀ (n : Fin 32) (j : Fin 5), (mods n.val).take (5 - j.val) = (mods n.val).take (5 - (j.val + 1)) ++ [mod1 n.val j.val] := by decide +kernel
theorem mods_step {n j : Nat} (hn : n < 32) (hj : j < 5) : (mods n).take (5 - j) = (mods n).take (5 - (j + 1)) ++ [mod1 n j] := mods_fin ⟨n, hn⟩ ⟨j, hj⟩
set_option maxRecDepth 100000 in
set_option maxHeartbeats 1000000 in
theorem modules_any (x : F) (w : World) :
    Calls Tryd.prog 34 #[.int .i64 (x.n : Int)] w fun e w' => ∃ t, e = .returned (.string t) ∧ bl t = mods x.n ∧ w = w' := by
  have hx := x.lt
  obtain ⟨n, hn⟩ : ∃ n, n = x.n := ⟨_, rfl⟩
  rw [← hn] at hx ⊢
  clear hn x
  go_enter Tryd.func34, Tryd.ntmps34
  go_wp2_with fail
  go_loop [3, 4] (fun v i => ∃ (k : Nat) (s : ByteArray), k ≤ 5 ∧ i = .int .i64 ((k : Int) - 1) ∧ v = .string s ∧ Hid (bl s = (mods n).take (5 - k)) ∧ s.size ≤ 5) (fun _ i => ((intOf i) + 1).toNat)
  case atStart => exact ⟨5, _, by omega, rfl, rfl, rfl, by decide⟩
  case round =>
    obtain ⟨k, s, hk, rfl, rfl, HS, hs⟩ := hrel
    by_cases h0 : 0 < k
    · obtain ⟨j, rfl⟩ : ∃ j, k = j + 1 := ⟨k - 1, by omega⟩
      have e1 : (((j + 1 : Nat) : Int) - 1) = (j : Int) := by omega
      rw [e1]
      clear e1
      have hj : j < 64 := by omega
      have HA := Lib.hid (bit_and hx (show j < 5 by omega))
      have HM := Lib.hid (mods_step hx (show j < 5 by omega))
      rcases Nat.mod_two_eq_zero_or_one (n / 2 ^ j) with hb | hb
      · have e1 : (bits BinOp.and IntKind.i64 ((n : Int) / 2 ^ j) 1 == 1) = false := by rw [HA.out, hb]; rfl
        have HN : Hid (bl (s ++ ⟨#[48]⟩) = (mods n).take (5 - j)) := by
          show _ = _
          rw [bl_app, HS.out, HM.out]
          unfold mod1; rw [if_neg (by omega)]; rfl
        have hz : s.size ≤ 4 := by rw [← bl_len, HS.out, List.length_take]; omega
        clear hb HA HM
        go_wp2_with fail
        go_round
        case rel => exact ⟨j, _, by omega, rfl, rfl, HN.out, by rw [ByteArray.size_append, show (ByteArray.mk #[48]).size = 1 from rfl]; omega⟩
        case measure => simp [intOf]
      · have e1 : (bits BinOp.and IntKind.i64 ((n : Int) / 2 ^ j) 1 == 1) = true := by rw [HA.out, hb]; rfl
        have HN : Hid (bl (s ++ ⟨#[49]⟩) = (mods n).take (5 - j)) := by
          show _ = _
          rw [bl_app, HS.out, HM.out]
          unfold mod1; rw [if_pos hb]; rfl
        have hz : s.size ≤ 4 := by rw [← bl_len, HS.out, List.length_take]; omega
        clear hb HA HM
        go_wp2_with fail
        go_round
        case rel => exact ⟨j, _, by omega, rfl, rfl, HN.out, by rw [ByteArray.size_append, show (ByteArray.mk #[49]).size = 1 from rfl]; omega⟩
        case measure => simp [intOf]
    · obtain rfl : k = 0 := by omega
      go_wp2_with fail
      go_ret
      exact ⟨s, rfl, by rw [HS.out]; rfl, rfl⟩
/-- The codeword of a label. -/
def labW (p c g v : Int) : List F := encF (toF (symL p c g v))
theorem labW_len (p c g v : Int) : (labW p c g v).length = 12 := by unfold labW; rw [encF_len, toF_len]; rfl
theorem labW_code (p c g v : Int) : F.Code (labW p c g v) := encF_code _
theorem labW_wI {p c g v : Int} (h : labB p c g v = true) : wI (toF (symL p c g v)) = symL p c g v := wI_toF fun x hx => by have := symL_mem h x hx; omega
theorem labW_enc {p c g v : Int} (h : labB p c g v = true) : encL (symL p c g v) = wI (labW p c g v) ∧ encE (symL p c g v) = 0 := by
  have := encL_ok (d := toF (symL p c g v)) (by rw [toF_len]; unfold symL; simp) (by rw [toF_len]; unfold symL; simp)
  rw [labW_wI h] at this
  exact this
def drwS (p c g v : Int) : List UInt8 := if labB p c g v then drawL (labW p c g v) else []
theorem drw_yes {p c g v : Int} (h : labB p c g v = true) : drwS p c g v = drawL (labW p c g v) := by unfold drwS; rw [h]; rfl
theorem drw_no {p c g v : Int} (h : labB p c g v = false) : drwS p c g v = [] := by unfold drwS; rw [h]; rfl
def DrawRet (p c g v : Int) (w : World) (e : Ending) (w' : World) : Prop := ∃ t k, e = .returned (.tuple #[.string t, .int .i64 k]) ∧ k = symE p c g v ∧ bl t = drwS p c g v ∧ Ext w w'
/-- The drawn strip, as far as symbol k. -/
def drTo (c : List F) (k : Nat) : List UInt8 := List.replicate 7 49 ++ midL (c.take k)
theorem drTo_succ {c : List F} {k : Nat} (h : k < c.length) : drTo c (k + 1) = drTo c k ++ mods (c.getD k 0).n := by
  unfold drTo
  rw [take_snoc (F.getD_eq h), midL_snoc, List.append_assoc]
theorem drTo_all {c : List F} {n : Nat} (h : c.length = n) : drTo c n ++ List.replicate 7 48 = drawL c := by unfold drTo drawL; rw [take_all h]
theorem drTo_len {c : List F} {k : Nat} (h : k ≤ c.length) : (drTo c k).length = 7 + 5 * k := by unfold drTo; rw [List.length_append, midL_len, List.length_take, List.length_replicate]; omega
set_option maxRecDepth 100000 in
set_option maxHeartbeats 2000000 in
theorem rdraw_any (p c g v : Int) (w : World) :
    Calls Tryd.prog 21 #[.agg #[.int .i64 p, .int .i64 c, .int .i64 g, .int .i64 v]] w (DrawRet p c g v w) := by
  rcases Bool.eq_false_or_eq_true (labB p c g v) with hb | hb
  · have S1 := Lib.hid (sym_yes hb)
    have D1 := Lib.hid (drw_yes hb)
    have E1 := Lib.hid (labW_enc hb)
    have hL := labW_len p c g v
    generalize labW p c g v = cw at *
    go_enter Tryd.func21, Tryd.ntmps21
    go_wp2_with fail
    refine (rsymb_any p c g v _).mono ?_
    rintro e w1 ⟨A1, n1, c1, k1, rfl, hk1, hi1, hx1⟩
    rw [S1.out.2] at hk1
    rw [S1.out.1] at hi1
    subst hk1
    have HI := Lib.hid hi1
    have HX := Lib.hid (Ext.trans ((Ext.refl _).alloc _) hx1)
    clear hi1 hx1
    go_wp2_with fail
    refine (rencode_any _ (symL p c g v) _ HI.out).mono ?_
    rintro e w2 ⟨A2, n2, c2, rfl, hn2, hc2, hc2', ho2, hx2⟩
    rw [E1.out.2]
    rw [E1.out.1] at hn2 ho2
    rw [wI_len, hL] at hn2
    subst hn2
    have HJ : Hid (IsI w2.heap.size w2 (.slice A2 12 c2) (wI cw)) := own_isZ ho2 (wI_i64 _) (by rw [wI_len, hL]; omega)
    replace HX := Lib.hid (HX.out.trans hx2)
    have HL := Lib.hid hL
    clear ho2 hx2 HI E1 hL
    go_wp2_with fail
    go_loop [8, 9] (fun s i => ∃ (k : Nat) (t : ByteArray), k ≤ 12 ∧ i = .int .i64 k ∧ s = .string t ∧ Hid (bl t = drTo cw k) ∧ t.size ≤ 67) (fun _ i => 12 - (intOf i).toNat)
    case atStart => exact ⟨0, _, by omega, rfl, rfl, rfl, by decide⟩
    case round =>
      obtain ⟨k, t, hk, rfl, rfl, HT, ht⟩ := hrel
      by_cases hlt : k < 12
      · obtain ⟨b, off, rfl, hc⟩ := isF_at HJ.out hlt
        have HN := Lib.hid (drTo_succ (c := cw) (k := k) (by rw [HL.out]; exact hlt))
        have HNL := Lib.hid (drTo_len (c := cw) (k := k) (by rw [HL.out]; omega))
        generalize cw.getD k 0 = y at *
        go_wp2_with fail
        refine (modules_any y _).mono ?_
        rintro e w3 ⟨m, rfl, hm, rfl⟩
        have hts : t.size = 7 + 5 * k := by rw [← bl_len, HT.out, HNL.out]
        have hms : m.size = 5 := by rw [← bl_len, hm, mods_len]
        have HM : Hid (bl (t ++ m) = drTo cw (k + 1)) := by show _ = _; rw [bl_app, HT.out, hm, HN.out]
        have h1 : t.size ≤ 62 := by omega
        have h2 : m.size ≤ 5 := by omega
        clear hts hms hm HN HNL HT
        go_wp2_with fail
        go_round
        case rel => exact ⟨k + 1, _, by omega, by go_num, rfl, HM.out, by rw [ByteArray.size_append]; omega⟩
        case measure => simp [intOf]; omega
      · obtain rfl : k = 12 := by omega
        have HF : Hid (bl (t ++ ⟨#[48, 48, 48, 48, 48, 48, 48]⟩) = drawL cw) := by
          show _ = _
          rw [bl_app, HT.out, ← drTo_all HL.out]; rfl
        clear HT
        go_wp2_with fail
        go_ret2
        exact ⟨_, 0, rfl, S1.out.2.symm, by rw [D1.out]; exact HF.out, HX.out⟩
  · have S1 := Lib.hid (sym_no hb)
    have D1 := Lib.hid (drw_no hb)
    go_enter Tryd.func21, Tryd.ntmps21
    go_wp2_with fail
    refine (rsymb_any p c g v _).mono ?_
    rintro e w1 ⟨A1, n1, c1, k1, rfl, hk1, hi1, hx1⟩
    rw [S1.out.2] at hk1
    subst hk1
    have HX := Lib.hid (Ext.trans ((Ext.refl _).alloc _) hx1)
    clear hi1 hx1
    go_wp2_with fail
    go_ret2
    exact ⟨_, 2, rfl, S1.out.2.symm, by rw [D1.out]; rfl, HX.out⟩
end Go.Proofs.YtcpanmonllhmaaaDoor
/- strip.Draw. -/
namespace Go.Proofs.YtcpanmonllhmaaaDoor
open Go.RowKit

theorem mods_fin2 : ∀ (n : Fin 32) (j : Fin 5), (mods n.val).take (4 - j.val + 1) = (mods n.val).take (4 - j.val) ++ [mod1 n.val j.val] := by decide +kernel
theorem mods_up {n j m : Nat} (hn : n < 32) (hj : m + j = 4) : (mods n).take (m + 1) = (mods n).take m ++ [mod1 n j] := by
  have := mods_fin2 ⟨n, hn⟩ ⟨j, by omega⟩
  simp only at this
  rw [show 4 - j = m by omega] at this
  exact this
theorem rep_one (b : UInt8) (n : Nat) : Lib.repeatL [b] n = List.replicate n b := by
  induction n with
  | zero => rfl
  | succ n ih => rw [List.replicate_succ, ← ih]; rfl
theorem srep_any (b : UInt8) (n : Nat) (w : World) (hn : n ≤ 1000) :
    Calls Tryd.prog 45 #[.string ⟨#[b]⟩, .int .i64 (n : Int)] w fun e w' => ∃ t, e = .returned (.string t) ∧ bl t = List.replicate n b ∧ Ext w w' :=
  (sRepeat ⟨#[b]⟩ n w (by omega) (by rw [show (ByteArray.mk #[b]).size = 1 from rfl]; omega)).mono fun _ _ ⟨he, hx⟩ => ⟨_, he, by rw [bl_mk]; exact rep_one b n, hx⟩
theorem srep49 (w : World) : Calls Tryd.prog 45 #[.string ⟨#[49]⟩, .int .i64 7] w fun e w' => ∃ t, e = .returned (.string t) ∧ bl t = List.replicate 7 49 ∧ Ext w w' := srep_any 49 7 w (by omega)
theorem srep48 (w : World) : Calls Tryd.prog 45 #[.string ⟨#[48]⟩, .int .i64 7] w fun e w' => ∃ t, e = .returned (.string t) ∧ bl t = List.replicate 7 48 ∧ Ext w w' := srep_any 48 7 w (by omega)
theorem atF_ext {T e : TypeId} {B b : Nat} {p : Value} {bs : List Value} {w w' : World} (h : Lib.BuilderAtF T e B b p bs w) (hx : Ext w w') : Lib.BuilderAtF T e B b p bs w' := by
  obtain ⟨hB, v, hb, hown, hne⟩ := h
  refine ⟨hB, v, hx.blk hb, ⟨hown.1, ?_⟩, hne⟩
  rcases hown.2 with hn | ⟨g, cap, cur, fz, hv, hbg, hg, rest⟩
  · exact .inl hn
  · exact .inr ⟨g, cap, cur, fz, hv, hbg, hx.blk hg, rest⟩
theorem isBF_ext {T e : TypeId} {B b : Nat} {bs : List Value} {w w' : World} (h : Lib.IsBuilderF T e B b bs w) (hx : Ext w w') : Lib.IsBuilderF T e B b bs w' :=
  h.elim (fun x => .inl (atF_ext x hx)) (fun x => .inr (atF_ext x hx))
/-- A builder that holds the bytes l, made after w0. -/
def Bld (w0 w : World) (l : List UInt8) : Prop := Lib.IsBuilderF 63 5 w0.heap.size w0.heap.size (Lib.byteCells l) w ∧ Ext w0 w
theorem Bld.ext {w0 w w' : World} {l : List UInt8} (h : Bld w0 w l) (hx : Ext w w') : Bld w0 w' l := ⟨isBF_ext h.1 hx, h.2.trans hx⟩
theorem Bld.fresh (w : World) : Bld w (w.alloc (.cells #[.pointer none, .slice none 0 0] 63)) [] := ⟨Lib.IsBuilderF.of (Lib.fresh_isBuilder _ _ w), (Ext.refl _).alloc _⟩
theorem wByte (w0 w : World) (l : List UInt8) (c : UInt8) (h : Bld w0 w l) (hl : l.length ≤ 1000000) :
    Calls Tryd.prog 46 #[.pointer (some ⟨w0.heap.size, 0, none⟩), .int .u8 (c.toNat : Int)] w fun e w' => e = .returned .nilIface ∧ Bld w0 w' (l ++ [c]) :=
  (bWriteByte w0.heap.size w0.heap.size _ _ w h.1 (by rw [Lib.byteCells_length]; omega) h.2.size).mono fun _ _ ⟨he, h1, h2, _⟩ => ⟨he, by rw [Lib.byteCells_append]; exact .inr h1, Below.trans h.2 h2⟩
theorem wByte48 (w0 w : World) (l : List UInt8) (h : Bld w0 w l) (hl : l.length ≤ 1000000) :
    Calls Tryd.prog 46 #[.pointer (some ⟨w0.heap.size, 0, none⟩), .int .u8 48] w fun e w' => e = .returned .nilIface ∧ Bld w0 w' (l ++ [48]) := wByte w0 w l 48 h hl
theorem wByte49 (w0 w : World) (l : List UInt8) (h : Bld w0 w l) (hl : l.length ≤ 1000000) :
    Calls Tryd.prog 46 #[.pointer (some ⟨w0.heap.size, 0, none⟩), .int .u8 49] w fun e w' => e = .returned .nilIface ∧ Bld w0 w' (l ++ [49]) := wByte w0 w l 49 h hl
theorem wStr (w0 w : World) (l : List UInt8) (s : ByteArray) (h : Bld w0 w l) (hl : l.length + s.size ≤ 1000000) :
    Calls Tryd.prog 44 #[.pointer (some ⟨w0.heap.size, 0, none⟩), .string s] w fun e w' => ∃ n : Nat, e = .returned (.tuple #[.int .i64 (n : Int), .nilIface]) ∧ Bld w0 w' (l ++ bl s) :=
  (bWriteString w0.heap.size w0.heap.size _ s w h.1 (by rw [Lib.byteCells_length]; omega) h.2.size).mono fun _ _ ⟨he, h1, h2, _⟩ => ⟨_, he, by rw [Lib.byteCells_append]; exact .inr h1, Below.trans h.2 h2⟩
theorem bldStr (w0 w : World) (l : List UInt8) (h : Bld w0 w l) :
    Calls Tryd.prog 47 #[.pointer (some ⟨w0.heap.size, 0, none⟩)] w fun e w' => ∃ t, e = .returned (.string t) ∧ bl t = l ∧ Ext w0 w' :=
  (bString w0.heap.size w0.heap.size l w h.1 h.2.size).mono fun _ _ ⟨he, _, h2, _⟩ => ⟨_, he, bl_mk l, Below.trans h.2 h2⟩
set_option maxRecDepth 100000 in
set_option maxHeartbeats 4000000 in
theorem draw_any (p c g v : Int) (w : World) (hT : Tabs w) :
    Calls Tryd.prog 20 #[.agg #[.int .i64 p, .int .i64 c, .int .i64 g, .int .i64 v]] w (DrawRet p c g v w) := by
  have HT := Lib.hid hT
  clear hT
  rcases Bool.eq_false_or_eq_true (labB p c g v) with hb | hb
  · have S1 := Lib.hid (sym_yes hb)
    have D1 := Lib.hid (drw_yes hb)
    have E1 := Lib.hid (labW_enc hb)
    have hL := labW_len p c g v
    generalize labW p c g v = cw at *
    go_enter Tryd.func20, Tryd.ntmps20
    go_wp2_with fail
    refine (symbols_any p c g v _).mono ?_
    rintro e w1 ⟨A1, n1, c1, k1, rfl, hk1, hi1, hx1⟩
    rw [S1.out.2] at hk1
    rw [S1.out.1] at hi1
    subst hk1
    have HI := Lib.hid hi1
    have HX := Lib.hid (Ext.trans ((Ext.refl _).alloc _) hx1)
    clear hi1 hx1
    go_wp2_with fail
    refine (enc_slice _ (symL p c g v) _ (HT.out.ext HX.out) HI.out).mono ?_
    rintro e w2 ⟨A2, n2, c2, rfl, hn2, hc2, hc2', ho2, hx2⟩
    rw [E1.out.2]
    rw [E1.out.1] at hn2 ho2
    rw [wI_len, hL] at hn2
    subst hn2
    have HJ : Hid (IsI w2.heap.size w2 (.slice A2 12 c2) (wI cw)) := own_isZ ho2 (wI_i64 _) (by rw [wI_len, hL]; omega)
    replace HX := Lib.hid (HX.out.trans hx2)
    have HL := Lib.hid hL
    clear ho2 hx2 HI E1 hL
    go_wp2_with fail
    refine (srep49 _).mono ?_
    rintro e w3 ⟨t3, rfl, ht3, hx3⟩
    have HB := Lib.hid ((Bld.fresh w2).ext hx3)
    have HT3 := Lib.hid ht3
    have hz3 : t3.size ≤ 7 := by rw [← bl_len, ht3]; simp
    clear hx3 ht3
    go_wp2_with fail
    refine (wStr w2 _ _ t3 HB.out (by simp; omega)).mono ?_
    rintro e w4 ⟨n4, rfl, hb4⟩
    rw [HT3.out] at hb4
    have HB4 : Hid (Bld w2 w4 (drTo cw 0)) := by
      show Bld w2 w4 (drTo cw 0)
      have : drTo cw 0 = [] ++ List.replicate 7 49 := by unfold drTo; simp [midL]
      rw [this]; exact hb4
    clear hb4 HB HT3 hz3
    go_wp2_with fail
    go_loopw [9, 10, 31, 35] (fun _ _ i _ wr => ∃ k : Nat, k ≤ 12 ∧ i = .int .i64 k ∧ Hid (Bld w2 wr (drTo cw k))) (fun _ _ i _ _ => 12 - (intOf i).toNat)
    case atStart => exact ⟨0, by omega, rfl, HB4⟩
    case round =>
      obtain ⟨k, hk, rfl, HB⟩ := hrel
      clear HB4
      by_cases hlt : k < 12
      · obtain ⟨b, off, rfl, hc⟩ := isF_at (HJ.out.ext HB.out.2) hlt
        have HN := Lib.hid (drTo_succ (c := cw) (k := k) (by rw [HL.out]; exact hlt))
        have HNL := Lib.hid (drTo_len (c := cw) (k := k) (by rw [HL.out]; omega))
        generalize cw.getD k 0 = y at *
        have hy := y.lt
        generalize y.n = n at *
        have hd : decide ((k : Int) < 12) = true := by simp; omega
        go_wp2_with fail
        obtain ⟨wo, hwo⟩ : ∃ wo : World, wo = wr := ⟨_, rfl⟩
        subst hwo
        go_loopw [10, 35] (fun _ i wr => ∃ m : Nat, m ≤ 5 ∧ i = .int .i64 m ∧ Hid (Bld w2 wr (drTo cw k ++ (mods n).take m))) (fun _ i _ => 5 - (intOf i).toNat)
        case atStart => exact ⟨0, by omega, rfl, by show Bld _ _ _; rw [List.take_zero, List.append_nil]; exact HB.out⟩
        case round =>
          obtain ⟨m, hm, rfl, HBm⟩ := hrel
          by_cases hm5 : m < 5
          · obtain ⟨j, hj⟩ : ∃ j, m + j = 4 := ⟨4 - m, by omega⟩
            have e1 : (4 : Int) - (m : Int) = (j : Int) := by omega
            have HA := Lib.hid (bit_and hy (show j < 5 by omega))
            have HM := Lib.hid (mods_up hy hj)
            have HLm : Hid ((drTo cw k ++ (mods n).take m).length ≤ 1000000) := by
              show _ ≤ _
              rw [List.length_append, HNL.out, List.length_take]; omega
            have hj64 : j < 64 := by omega
            rcases Nat.mod_two_eq_zero_or_one (n / 2 ^ j) with hb2 | hb2
            · have e2 : bits BinOp.and IntKind.i64 ((n : Int) / 2 ^ j) 1 = 0 := by rw [HA.out, hb2]; rfl
              have HMM : Hid (drTo cw k ++ (mods n).take m ++ [48] = drTo cw k ++ (mods n).take (m + 1)) := by
                show _ = _
                rw [HM.out, List.append_assoc]
                unfold mod1; rw [if_neg (by omega)]
              clear hb2 HA HM
              go_wp2_with fail
              refine (wByte48 w2 _ _ HBm.out HLm.out).mono ?_
              rintro e w5 ⟨rfl, hb5⟩
              rw [HMM.out] at hb5
              have HB5 := Lib.hid hb5
              clear hb5 HMM
              go_wp2_with fail
              go_roundw
              case rel => exact ⟨m + 1, by omega, by go_num, HB5⟩
              case measure => simp [intOf]; omega
            · have e2 : bits BinOp.and IntKind.i64 ((n : Int) / 2 ^ j) 1 = 1 := by rw [HA.out, hb2]; rfl
              have HMM : Hid (drTo cw k ++ (mods n).take m ++ [49] = drTo cw k ++ (mods n).take (m + 1)) := by
                show _ = _
                rw [HM.out, List.append_assoc]
                unfold mod1; rw [if_pos hb2]
              clear hb2 HA HM
              go_wp2_with fail
              refine (wByte49 w2 _ _ HBm.out HLm.out).mono ?_
              rintro e w5 ⟨rfl, hb5⟩
              rw [HMM.out] at hb5
              have HB5 := Lib.hid hb5
              clear hb5 HMM
              go_wp2_with fail
              go_roundw
              case rel => exact ⟨m + 1, by omega, by go_num, HB5⟩
              case measure => simp [intOf]; omega
          · obtain rfl : m = 5 := by omega
            have HB5 : Hid (Bld w2 wr (drTo cw (k + 1))) := by
              show Bld _ _ _
              rw [HN.out]; exact HBm.out
            go_wp2_with fail
            go_roundw
            case rel => exact ⟨k + 1, by omega, by go_num, HB5⟩
            case measure => simp [intOf]; omega
      · obtain rfl : k = 12 := by omega
        have HF := Lib.hid (drTo_all HL.out)
        go_wp2_with fail
        refine (srep48 _).mono ?_
        rintro e w6 ⟨t6, rfl, ht6, hx6⟩
        have HB6 := Lib.hid (HB.out.ext hx6)
        have HT6 := Lib.hid ht6
        have hz6 : t6.size ≤ 7 := by rw [← bl_len, ht6]; simp
        have HNL := Lib.hid (drTo_len (c := cw) (k := 12) (by rw [HL.out]; omega))
        clear ht6 hx6
        go_wp2_with fail
        refine (wStr w2 _ _ t6 HB6.out (by rw [HNL.out]; omega)).mono ?_
        rintro e w7 ⟨n7, rfl, hb7⟩
        rw [HT6.out, HF.out] at hb7
        have HB7 := Lib.hid hb7
        clear hb7
        go_wp2_with fail
        refine (bldStr w2 _ _ HB7.out).mono ?_
        rintro e w8 ⟨t8, rfl, ht8, hx8⟩
        have HT8 := Lib.hid ht8
        have HX8 := Lib.hid hx8
        clear ht8 hx8
        go_wp2_with fail
        go_ret2
        exact ⟨_, 0, rfl, S1.out.2.symm, by rw [D1.out]; exact HT8.out, HX.out.trans HX8.out⟩
  · have S1 := Lib.hid (sym_no hb)
    have D1 := Lib.hid (drw_no hb)
    go_enter Tryd.func20, Tryd.ntmps20
    go_wp2_with fail
    refine (symbols_any p c g v _).mono ?_
    rintro e w1 ⟨A1, n1, c1, k1, rfl, hk1, hi1, hx1⟩
    rw [S1.out.2] at hk1
    subst hk1
    have HX := Lib.hid (Ext.trans ((Ext.refl _).alloc _) hx1)
    clear hi1 hx1
    go_wp2_with fail
    go_ret2
    exact ⟨_, 2, rfl, S1.out.2.symm, by rw [D1.out]; rfl, HX.out⟩
end Go.Proofs.YtcpanmonllhmaaaDoor
/- The reference's Word. -/
namespace Go.Proofs.YtcpanmonllhmaaaDoor
open Go.RowKit

def wrdS (s : List UInt8) : List Int := if stripB s then wordL s else []
def wrdE (s : List UInt8) : Int := if stripB s then 0 else 7
theorem wrd_yes {s : List UInt8} (h : stripB s = true) : wrdS s = wordL s ∧ wrdE s = 0 := by unfold wrdS wrdE; rw [h]; exact ⟨rfl, rfl⟩
theorem wrd_no {s : List UInt8} (h : stripB s = false) : wrdS s = [] ∧ wrdE s = 7 := by unfold wrdS wrdE; rw [h]; exact ⟨rfl, rfl⟩
def WordRet (s : List UInt8) (w : World) (e : Ending) (w' : World) : Prop := ∃ A n cc k, e = .returned (.tuple #[.slice A n cc, .int .i64 k]) ∧ k = wrdE s ∧ IsI w'.heap.size w' (.slice A n cc) (wrdS s) ∧ Ext w w'
theorem cut_at {l : List UInt8} {k m : Nat} {x : UInt8} (hm : m < 5) (h : l[7 + 5 * k + m]? = some x) : (cutS l k)[m]? = some x := by
  unfold cutS; rw [List.getElem?_take, if_pos hm, List.getElem?_drop]; exact h
theorem binL_snoc (b : List UInt8) (x : UInt8) : binL (b ++ [x]) = 2 * binL b + (x.toNat - 48) := by unfold binL; rw [List.foldl_append]; rfl
/-- What the bits say, as far as module m, unless one is unreadable. -/
structure Bits5 (c : List UInt8) (m n : Nat) : Prop where
  lt : n < 2 ^ m
  eq : 63 ∉ c.take m → n = binL (c.take m)
theorem Bits5.zero (c : List UInt8) : Bits5 c 0 0 := ⟨by decide, fun _ => rfl⟩
theorem Bits5.step {c : List UInt8} {m n d : Nat} {x : UInt8} (h : Bits5 c m n) (hx : c[m]? = some x) (hd : d < 2) (he : x ≠ 63 → d = x.toNat - 48) : Bits5 c (m + 1) (2 * n + d) := by
  refine ⟨?_, fun hn => ?_⟩
  · have := h.lt
    rw [Nat.pow_succ]; omega
  · rw [take_snoc hx] at hn ⊢
    rw [List.mem_append] at hn
    have h1 : 63 ∉ c.take m := fun e => hn (.inl e)
    have h2 : x ≠ 63 := fun e => hn (.inr (by rw [e]; simp))
    rw [binL_snoc, ← h.eq h1, ← he h2]
theorem symV_yes {c : List UInt8} {n : Nat} (h : c.count 63 = 0) (hb : Bits5 c 5 n) (hl : c.length = 5) : symV c = (n : Int) := by
  have h1 : 63 ∉ c := List.count_eq_zero.1 h
  unfold symV
  rw [if_neg h1, hb.eq (by rw [take_all hl]; exact h1), take_all hl]
theorem symV_no {c : List UInt8} (h : 0 < c.count 63) : symV c = -1 := by
  unfold symV; rw [if_pos (List.count_pos_iff.1 h)]
theorem wordL_take (s : List UInt8) {k : Nat} (h : k < 12) : (wordL s).take (k + 1) = (wordL s).take k ++ [symV (cutS s k)] := take_snoc (wordL_at s h)
theorem wordL_i64 {s : List UInt8} (h : stripB s = true) : ∀ x ∈ wordL s, I64 x := fun x hx => by
  have := (word_mem (word_strip h)).2.2 x hx
  constructor <;> omega
/-- A module of a strip. -/
theorem strip_by {s : ByteArray} {q : Nat} (h : stripB (bl s) = true) (hq : q < s.size) : (s[q].toNat : Int) = 48 ∨ (s[q].toNat : Int) = 49 ∨ (s[q].toNat : Int) = 63 := by
  have := (strip_iff.1 h).2 _ (List.mem_of_getElem? (bl_at hq))
  rcases this with e | e | e <;> rw [e] <;> simp
set_option maxRecDepth 100000 in
set_option maxHeartbeats 4000000 in
theorem rword_any (s : ByteArray) (w : World) : Calls Tryd.prog 29 #[.string s] w (WordRet (bl s) w) := by
  rcases Bool.eq_false_or_eq_true (stripB (bl s)) with hb | hb
  · have hs : s.size = 74 := by rw [← bl_len]; exact (strip_iff.1 hb).1
    have h74 : 74 ≤ s.size := by omega
    have h75 : s.size ≤ 74 := by omega
    have HW : Bx (wrdS (bl s) = wordL (bl s) ∧ wrdE (bl s) = 0) := ⟨wrd_yes hb⟩
    have HB : Bx (stripB (bl s) = true) := ⟨hb⟩
    have HL : Bx ((bl s).length = 74) := ⟨by rw [bl_len]; exact hs⟩
    clear hs
    obtain ⟨i0, hi0, hz0, hz1, hz2⟩ := info_parts Tryd.infoI
    have b0 : bits BinOp.and IntKind.i64 0 1 = 0 := by decide
    have b1 : bits BinOp.and IntKind.i64 1 1 = 1 := by decide
    have b15 : bits BinOp.and IntKind.i64 15 1 = 1 := by decide
    go_enter Tryd.func29, Tryd.ntmps29
    go_wp2_with fail
    refine (rstrip_any _ _).mono ?_
    rintro r w1 ⟨rfl, rfl⟩
    rw [hb]
    go_wp2_with fail
    clear hb
    go_loopw [4, 5, 6, 7] (fun v i _ _ wr => ∃ k q : Nat, k ≤ 12 ∧ q ≤ 7 + 5 * k ∧ 7 + 5 * k ≤ q ∧ i = .int .i64 q ∧ Bx (wr.ownsRow w.heap.size 3 1 v k (((wordL (bl s)).take k).map (Value.int .i64))) ∧ Bx (Ext w wr)) (fun _ i _ _ _ => 67 - (intOf i).toNat)
    case atStart => exact ⟨0, 7, by omega, by omega, by omega, rfl, ⟨World.ownsRow_nil _ _ _ _⟩, ⟨Ext.refl _⟩⟩
    case round =>
      obtain ⟨k, i, hk, hi1, hi2, rfl, HO, HE⟩ := hrel
      by_cases hlt : k < 12
      · have hd : decide ((i : Int) < 67) = true := by simp; omega
        have HT : Bx ((wordL (bl s)).take (k + 1) = (wordL (bl s)).take k ++ [symV (cutS (bl s) k)]) := ⟨wordL_take _ hlt⟩
        have HCL : Bx ((cutS (bl s) k).length = 5) := ⟨cutS_len HL.out hlt⟩
        have HEX : Bx (bl (s.extract i (i + 5)) = cutS (bl s) k) := ⟨by rw [bl_cut]; unfold cutS; rw [show i + 5 - i = 5 by omega, show 7 + 5 * k = i by omega]⟩
        go_wp2_with fail
        obtain ⟨wo, hwo⟩ : ∃ wo : World, wo = wr := ⟨_, rfl⟩
        subst hwo
        go_loop [6, 7] (fun u j => ∃ m n q : Nat, m ≤ 5 ∧ q ≤ i + m ∧ i + m ≤ q ∧ n < 32 ∧ u = .int .i64 n ∧ j = .int .i64 q ∧ Bx (Bits5 (cutS (bl s) k) m n)) (fun _ j => i + 5 - (intOf j).toNat)
        case atStart => exact ⟨0, 0, i, by omega, by omega, by omega, by omega, rfl, rfl, ⟨Bits5.zero _⟩⟩
        case round =>
          obtain ⟨m, n, q, hm, hq1, hq2, hn, rfl, rfl, HB5⟩ := hrel
          by_cases hm5 : m < 5
          · have hq : q < s.size := by omega
            have hnm : n < 16 := by
              have := HB5.out.lt
              have h4 : (2 : Nat) ^ m ≤ 2 ^ 4 := Nat.pow_le_pow_right (by omega) (by omega)
              omega
            have HC : Bx ((cutS (bl s) k)[m]? = some s[q]) := ⟨cut_at hm5 (by rw [show 7 + 5 * k + m = q by omega]; exact bl_at hq)⟩
            rcases strip_by HB.out hq with a1 | a1 | a1
            · have HS : Bx (Bits5 (cutS (bl s) k) (m + 1) (2 * n + 0)) := ⟨HB5.out.step HC.out (by omega) (fun _ => by omega)⟩
              clear HB5 HC
              go_wp2_with fail
              go_round
              case rel => exact ⟨m + 1, 2 * n + 0, q + 1, by omega, by omega, by omega, by omega, by go_num, by go_num, HS⟩
              case measure => simp [intOf]; omega
            · have HS : Bx (Bits5 (cutS (bl s) k) (m + 1) (2 * n + 1)) := ⟨HB5.out.step HC.out (by omega) (fun _ => by omega)⟩
              clear HB5 HC
              go_wp2_with fail
              go_round
              case rel => exact ⟨m + 1, 2 * n + 1, q + 1, by omega, by omega, by omega, by omega, by go_num, by go_num, HS⟩
              case measure => simp [intOf]; omega
            · have HS : Bx (Bits5 (cutS (bl s) k) (m + 1) (2 * n + 1)) := ⟨HB5.out.step HC.out (by omega) (fun hne => absurd (UInt8.toNat_inj.1 (show s[q].toNat = (63 : UInt8).toNat by simp; omega)) hne)⟩
              clear HB5 HC
              go_wp2_with fail
              go_round
              case rel => exact ⟨m + 1, 2 * n + 1, q + 1, by omega, by omega, by omega, by omega, by go_num, by go_num, HS⟩
              case measure => simp [intOf]; omega
          · obtain rfl : m = 5 := by omega
            obtain ⟨c, hc⟩ : ∃ c, (bl (s.extract i (i + 5))).count 63 = c := ⟨_, rfl⟩
            have HC63 : Bx ((bl (s.extract i (i + 5))).count 63 = c) := ⟨hc⟩
            have HCC : Bx ((cutS (bl s) k).count 63 = c) := ⟨by rw [← HEX.out]; exact hc⟩
            have HSZ : Bx ((s.extract i (i + 5)).size ≤ 1000000) := ⟨by rw [← bl_len, HEX.out, HCL.out]; omega⟩
            clear hc
            have e5 : ((i : Int) + 5).toNat = i + 5 := by omega
            go_wp2_with fail
            refine (rc63 _ _ c HC63.out HSZ.out).mono ?_
            rintro r w2 ⟨rfl, rfl⟩
            by_cases hc0 : 0 < c
            · have HV : Bx (symV (cutS (bl s) k) = -1) := ⟨symV_no (by rw [HCC.out]; exact hc0)⟩
              have HT2 : Bx (((wordL (bl s)).take k).map (Value.int .i64) ++ [.int .i64 (-1)] = ((wordL (bl s)).take (k + 1)).map (Value.int .i64)) := ⟨by rw [HT.out, HV.out, List.map_append]; rfl⟩
              clear HT HC63 HCC HSZ HEX HCL
              go_wp2_with (at_builtin; refine wpList_push _ rfl (.tmp 38) (.tmp 40) 22 rfl w.heap.size 3 i0 _ 8 Tryd.underlying22 hi0 hz0 hz1 hz2 rfl _ _ _ rfl (HO.out.alloc _) _ _ rfl (blk_cell (heap_alloc_new _ _) rfl) rfl (by omega) (by omega) (by have := HE.out.size; simp; omega) ?_; intro v' w' hown hg)
              have HO2 : Bx (w'.ownsRow w.heap.size 3 1 v' (k + 1) (((wordL (bl s)).take (k + 1)).map (Value.int .i64))) := ⟨by have h2 : World.ownsRow _ _ _ _ _ _ (_ ++ [Value.int .i64 (-1)]) := hown; rw [HT2.out] at h2; exact h2⟩
              have HE2 : Bx (Ext w w') := ⟨Ext.grown (HE.out.alloc _) hg (fun q hq => own_ge HO.out q hq)⟩
              clear hown hg HO HE HT2
              go_wp2_with fail
              go_roundw
              case rel => exact ⟨k + 1, i + 5, by omega, by omega, by omega, by go_num, HO2, HE2⟩
              case measure => simp [intOf]; omega
            · obtain rfl : c = 0 := by omega
              have HV : Bx (symV (cutS (bl s) k) = (n : Int)) := ⟨symV_yes HCC.out HB5.out HCL.out⟩
              have HT2 : Bx (((wordL (bl s)).take k).map (Value.int .i64) ++ [.int .i64 (n : Int)] = ((wordL (bl s)).take (k + 1)).map (Value.int .i64)) := ⟨by rw [HT.out, HV.out, List.map_append]; rfl⟩
              clear HT HC63 HCC HSZ HEX HCL
              go_wp2_with (at_builtin; refine wpList_push _ rfl (.tmp 38) (.tmp 40) 22 rfl w.heap.size 3 i0 _ 8 Tryd.underlying22 hi0 hz0 hz1 hz2 rfl _ _ _ rfl (HO.out.alloc _) _ _ rfl (blk_cell (heap_alloc_new _ _) rfl) rfl (by omega) (by omega) (by have := HE.out.size; simp; omega) ?_; intro v' w' hown hg)
              have HO2 : Bx (w'.ownsRow w.heap.size 3 1 v' (k + 1) (((wordL (bl s)).take (k + 1)).map (Value.int .i64))) := ⟨by have h2 : World.ownsRow _ _ _ _ _ _ (_ ++ [Value.int .i64 (n : Int)]) := hown; rw [HT2.out] at h2; exact h2⟩
              have HE2 : Bx (Ext w w') := ⟨Ext.grown (HE.out.alloc _) hg (fun q hq => own_ge HO.out q hq)⟩
              clear hown hg HO HE HT2
              go_wp2_with fail
              go_roundw
              case rel => exact ⟨k + 1, i + 5, by omega, by omega, by omega, by go_num, HO2, HE2⟩
              case measure => simp [intOf]; omega
      · obtain rfl : k = 12 := by omega
        have HF : Bx ((wordL (bl s)).take 12 = wordL (bl s)) := ⟨take_all (wordL_len _)⟩
        rw [HF.out] at HO
        obtain ⟨A, cc, rfl, -⟩ := own_shape HO.out
        have hI : Bx (IsI wr.heap.size wr (.slice A 12 cc) (wordL (bl s))) := ⟨own_isZ HO.out (wordL_i64 HB.out) (by rw [wordL_len]; omega)⟩
        clear HO
        go_wp2_with fail
        go_ret2
        exact ⟨_, _, _, _, rfl, HW.out.2.symm, by rw [HW.out.1]; exact hI.out, HE.out⟩
  · have HW : Bx (wrdS (bl s) = [] ∧ wrdE (bl s) = 7) := ⟨wrd_no hb⟩
    go_enter Tryd.func29, Tryd.ntmps29
    go_wp2_with fail
    refine (rstrip_any _ _).mono ?_
    rintro r w1 ⟨rfl, rfl⟩
    rw [hb]
    go_wp2_with fail
    go_ret2
    exact ⟨_, _, _, _, rfl, HW.out.2.symm, by rw [HW.out.1]; exact IsI.nil _ _, Ext.refl _⟩
end Go.Proofs.YtcpanmonllhmaaaDoor
/- strip.Word. -/
namespace Go.Proofs.YtcpanmonllhmaaaDoor
open Go.RowKit

theorem or_fin : ∀ (n : Fin 16) (d : Fin 2), bits BinOp.or IntKind.i64 ((n.val : Int) * 2) (d.val : Int) = ((2 * n.val + d.val : Nat) : Int) := by decide +kernel
/-- The row of Word: k symbols, the current one, zeros. -/
def wTo (l : List UInt8) (k : Nat) (u : Int) : List Int := (wordL l).take k ++ u :: List.replicate (11 - k) 0
theorem wTo_at (l : List UInt8) {k : Nat} (u : Int) (hk : k < 12) : (wTo l k u)[k]? = some u := by
  unfold wTo
  rw [List.getElem?_append_right (by rw [List.length_take, wordL_len]; omega), List.length_take, wordL_len, show k - min k 12 = 0 by omega]; rfl
theorem wTo_set (l : List UInt8) {k : Nat} (u v : Int) (hk : k < 12) : (wTo l k u).set k v = wTo l k v := by
  unfold wTo
  rw [List.set_append_right _ _ (by rw [List.length_take, wordL_len]; omega), List.length_take, wordL_len, show k - min k 12 = 0 by omega]; rfl
theorem wTo_len (l : List UInt8) {k : Nat} (u : Int) (hk : k < 12) : (wTo l k u).length = 12 := by
  unfold wTo; rw [List.length_append, List.length_take, wordL_len, List.length_cons, List.length_replicate]; omega
theorem wTo_next (l : List UInt8) {k : Nat} (hk : k < 11) : wTo l k (symV (cutS l k)) = wTo l (k + 1) 0 := by
  unfold wTo
  rw [wordL_take l (by omega), show 11 - k = (11 - (k + 1)) + 1 by omega, List.replicate_succ, List.append_assoc]; rfl
theorem wTo_last (l : List UInt8) : wTo l 11 (symV (cutS l 11)) = wordL l := by
  have h := wordL_take l (k := 11) (by omega)
  rw [take_all (wordL_len l)] at h
  rw [h]; rfl
theorem wTo_zero (l : List UInt8) : wTo l 0 0 = List.replicate 12 0 := rfl
/-- As far as symbol k: the list in the row. -/
def wAt (l : List UInt8) (k : Nat) : List Int := if k < 12 then wTo l k 0 else wordL l
theorem wAt_succ (l : List UInt8) {k : Nat} (hk : k < 12) : wTo l k (symV (cutS l k)) = wAt l (k + 1) := by
  unfold wAt
  by_cases h : k + 1 < 12
  · rw [if_pos h, wTo_next l (by omega)]
  · rw [if_neg h]
    obtain rfl : k = 11 := by omega
    exact wTo_last l
theorem symV_63 {c : List UInt8} {m : Nat} (h : c[m]? = some 63) : symV c = -1 := by unfold symV; rw [if_pos (List.mem_of_getElem? h)]
/-- No unreadable module among the first m, and what they say. -/
structure Rd5 (c : List UInt8) (m n : Nat) : Prop where
  b : Bits5 c m n
  no : 63 ∉ c.take m
theorem Rd5.step {c : List UInt8} {m n d : Nat} {x : UInt8} (h : Rd5 c m n) (hx : c[m]? = some x) (hd : d < 2) (he : x.toNat = 48 + d) : Rd5 c (m + 1) (2 * n + d) := by
  refine ⟨h.b.step hx hd (fun _ => by omega), ?_⟩
  rw [take_snoc hx, List.mem_append]
  rintro (e | e)
  · exact h.no e
  · simp at e; rw [← e] at he; simp at he; omega
theorem Rd5.all {c : List UInt8} {n : Nat} (h : Rd5 c 5 n) (hl : c.length = 5) : symV c = (n : Int) := by
  have := h.no
  rw [take_all hl] at this
  exact symV_yes (List.count_eq_zero.2 this) h.b hl
set_option maxRecDepth 100000 in
set_option maxHeartbeats 4000000 in
theorem word_str (s : ByteArray) (w : World) : Calls Tryd.prog 28 #[.string s] w (WordRet (bl s) w) := by
  rcases Bool.eq_false_or_eq_true (stripB (bl s)) with hb | hb
  · have hs : s.size = 74 := by rw [← bl_len]; exact (strip_iff.1 hb).1
    have h74 : 74 ≤ s.size := by omega
    have h75 : s.size ≤ 74 := by omega
    have HW : Bx (wrdS (bl s) = wordL (bl s) ∧ wrdE (bl s) = 0) := ⟨wrd_yes hb⟩
    have HB : Bx (stripB (bl s) = true) := ⟨hb⟩
    have HL : Bx ((bl s).length = 74) := ⟨by rw [bl_len]; exact hs⟩
    clear hs
    obtain ⟨z, hz⟩ : ∃ z, z = madeCells #[Value.int .i64 0] 12 := ⟨_, rfl⟩
    have hmk : ∀ w, (Instr.makeSlice 22 (.int .i64 12) (.int .i64 12)).run Tryd.prog w = .ok (.slice (some ⟨w.heap.size, 0, none⟩) 12 12) (w.alloc (.cells z 3)) := by rw [hz]; exact make_ints 12 (by omega)
    have HO0 : Bx ((w.alloc (.cells z 3)).ownsRow w.heap.size 3 1 (.slice (some ⟨w.heap.size, 0, none⟩) 12 12) 12 ((wAt (bl s) 0).map (Value.int .i64))) := ⟨by
      rw [hz, made_zero]
      exact World.ownsRow_lit w _ 12 (Nat.le_refl _) (by unfold maxLen; omega) rfl⟩
    clear hz
    go_enter Tryd.func28, Tryd.ntmps28
    go_wp2_with fail
    refine (isStrip_any _ _).mono ?_
    rintro r w1 ⟨rfl, rfl⟩
    rw [hb]
    go_wp2_with fail
    clear hb
    go_loopw [5, 6, 7, 14, 17] (fun _ _ _ i _ wr => ∃ k : Nat, k ≤ 12 ∧ i = .int .i64 k ∧ Bx (wr.ownsRow w.heap.size 3 1 (.slice (some ⟨w.heap.size, 0, none⟩) 12 12) 12 ((wAt (bl s) k).map (Value.int .i64))) ∧ Bx (Ext w wr)) (fun _ _ _ i _ _ => 12 - (intOf i).toNat)
    case atStart => exact ⟨0, by omega, rfl, HO0, ⟨(Ext.refl _).alloc _⟩⟩
    case round =>
      obtain ⟨k, hk, rfl, HO, HE⟩ := hrel
      clear HO0 hmk
      by_cases hlt : k < 12
      · have hd : decide ((k : Int) < 12) = true := by simp; omega
        have HCL : Bx ((cutS (bl s) k).length = 5) := ⟨cutS_len HL.out hlt⟩
        have HO1 : Bx (wr.ownsRow w.heap.size 3 1 (.slice (some ⟨w.heap.size, 0, none⟩) 12 12) 12 ((wTo (bl s) k ((0 : Nat) : Int)).map (Value.int .i64))) := ⟨by have := HO.out; unfold wAt at this; rw [if_pos hlt] at this; exact this⟩
        clear HO
        go_wp2_with fail
        obtain ⟨wo, hwo⟩ : ∃ wo : World, wo = wr := ⟨_, rfl⟩
        subst hwo
        go_loopw [6, 7, 17] (fun _ _ i wr => ∃ m n : Nat, m ≤ 5 ∧ n < 32 ∧ i = .int .i64 m ∧ Bx (Rd5 (cutS (bl s) k) m n) ∧ Bx (wr.ownsRow w.heap.size 3 1 (.slice (some ⟨w.heap.size, 0, none⟩) 12 12) 12 ((wTo (bl s) k (n : Int)).map (Value.int .i64))) ∧ Bx (Ext w wr)) (fun _ _ i _ => 5 - (intOf i).toNat)
        case atStart => exact ⟨0, 0, by omega, by omega, rfl, ⟨⟨Bits5.zero _, by simp⟩⟩, HO1, HE⟩
        case round =>
          obtain ⟨m, n, hm, hn, rfl, HR, HOm, HEm⟩ := hrel
          clear HO1 HE
          by_cases hm5 : m < 5
          · obtain ⟨q, hq0⟩ : ∃ q, q = 7 + k * 5 + m := ⟨_, rfl⟩
            have hq : q < s.size := by omega
            have HC : Bx ((cutS (bl s) k)[m]? = some s[q]) := ⟨cut_at hm5 (by rw [show 7 + 5 * k + m = q by omega]; exact bl_at hq)⟩
            have eq1 : (7 : Int) + (k : Int) * 5 + (m : Int) = (q : Int) := by omega
            have hnm : n < 16 := by
              have := HR.out.b.lt
              have h4 : (2 : Nat) ^ m ≤ 2 ^ 4 := Nat.pow_le_pow_right (by omega) (by omega)
              omega
            clear hq0
            have cc : wr.cell? ⟨w.heap.size, k, none⟩ = some (.int .i64 (n : Int)) := by rw [HOm.out.cellAt k (by omega)]; simp [wTo_at (bl s) _ hlt]
            have cf := HOm.out.frozenAt k
            rcases strip_by HB.out hq with a1 | a1 | a1
            · have HS : Bx (Rd5 (cutS (bl s) k) (m + 1) (2 * n + 0)) := ⟨HR.out.step HC.out (by omega) (by omega)⟩
              have hor : bits BinOp.or IntKind.i64 ((n : Int) * 2) 0 = ((2 * n + 0 : Nat) : Int) := or_fin ⟨n, hnm⟩ ⟨0, by omega⟩
              obtain ⟨n2, hn2⟩ : ∃ n2, n2 = 2 * n + 0 := ⟨_, rfl⟩
              rw [← hn2] at hor HS
              have h32 : n2 < 32 := by omega
              have HO2 : Bx ((wr.setCell ⟨w.heap.size, k, none⟩ (.int .i64 (n2 : Int))).ownsRow w.heap.size 3 1 (.slice (some ⟨w.heap.size, 0, none⟩) 12 12) 12 ((wTo (bl s) k (n2 : Int)).map (Value.int .i64))) := ⟨by
                rw [← wTo_set (bl s) (n : Int) (n2 : Int) hlt]; exact own_set HOm.out⟩
              have HE2 : Bx (Ext w (wr.setCell ⟨w.heap.size, k, none⟩ (.int .i64 (n2 : Int)))) := ⟨HEm.out.setCell (Nat.le_refl _) _⟩
              clear hn2 HC HR HOm HEm
              go_wp2_with fail
              go_roundw
              case rel => exact ⟨m + 1, n2, by omega, by omega, by go_num, HS, HO2, HE2⟩
              case measure => simp [intOf]; omega
            · have HS : Bx (Rd5 (cutS (bl s) k) (m + 1) (2 * n + 1)) := ⟨HR.out.step HC.out (by omega) (by omega)⟩
              have hor : bits BinOp.or IntKind.i64 ((n : Int) * 2) 1 = ((2 * n + 1 : Nat) : Int) := or_fin ⟨n, hnm⟩ ⟨1, by omega⟩
              obtain ⟨n2, hn2⟩ : ∃ n2, n2 = 2 * n + 1 := ⟨_, rfl⟩
              rw [← hn2] at hor HS
              have h32 : n2 < 32 := by omega
              have HO2 : Bx ((wr.setCell ⟨w.heap.size, k, none⟩ (.int .i64 (n2 : Int))).ownsRow w.heap.size 3 1 (.slice (some ⟨w.heap.size, 0, none⟩) 12 12) 12 ((wTo (bl s) k (n2 : Int)).map (Value.int .i64))) := ⟨by
                rw [← wTo_set (bl s) (n : Int) (n2 : Int) hlt]; exact own_set HOm.out⟩
              have HE2 : Bx (Ext w (wr.setCell ⟨w.heap.size, k, none⟩ (.int .i64 (n2 : Int)))) := ⟨HEm.out.setCell (Nat.le_refl _) _⟩
              clear hn2 HC HR HOm HEm
              go_wp2_with fail
              go_roundw
              case rel => exact ⟨m + 1, n2, by omega, by omega, by go_num, HS, HO2, HE2⟩
              case measure => simp [intOf]; omega
            · have HV : Bx (symV (cutS (bl s) k) = -1) := ⟨symV_63 (by rw [HC.out]; exact congrArg some (UInt8.toNat_inj.1 (show s[q].toNat = (63 : UInt8).toNat by simp; omega)))⟩
              have HO2 : Bx ((wr.setCell ⟨w.heap.size, k, none⟩ (.int .i64 (-1))).ownsRow w.heap.size 3 1 (.slice (some ⟨w.heap.size, 0, none⟩) 12 12) 12 ((wAt (bl s) (k + 1)).map (Value.int .i64))) := ⟨by
                rw [← wAt_succ (bl s) hlt, HV.out, ← wTo_set (bl s) (n : Int) (-1) hlt]; exact own_set HOm.out⟩
              have HE2 : Bx (Ext w (wr.setCell ⟨w.heap.size, k, none⟩ (.int .i64 (-1)))) := ⟨HEm.out.setCell (Nat.le_refl _) _⟩
              clear HC HR HOm HEm
              go_wp2_with fail
              go_roundw
              case rel => exact ⟨k + 1, by omega, by go_num, HO2, HE2⟩
              case measure => simp [intOf]; omega
          · obtain rfl : m = 5 := by omega
            have HO2 : Bx (wr.ownsRow w.heap.size 3 1 (.slice (some ⟨w.heap.size, 0, none⟩) 12 12) 12 ((wAt (bl s) (k + 1)).map (Value.int .i64))) := ⟨by
              rw [← wAt_succ (bl s) hlt, HR.out.all HCL.out]; exact HOm.out⟩
            clear HR HOm
            go_wp2_with fail
            go_roundw
            case rel => exact ⟨k + 1, by omega, by go_num, HO2, HEm⟩
            case measure => simp [intOf]; omega
      · obtain rfl : k = 12 := by omega
        have hI : Bx (IsI wr.heap.size wr (.slice (some ⟨w.heap.size, 0, none⟩) 12 12) (wordL (bl s))) := ⟨own_isZ HO.out (wordL_i64 HB.out) (by rw [wordL_len]; omega)⟩
        clear HO
        go_wp2_with fail
        go_ret2
        exact ⟨_, _, _, _, rfl, HW.out.2.symm, by rw [HW.out.1]; exact hI.out, HE.out⟩
  · have HW : Bx (wrdS (bl s) = [] ∧ wrdE (bl s) = 7) := ⟨wrd_no hb⟩
    go_enter Tryd.func28, Tryd.ntmps28
    go_wp2_with fail
    refine (isStrip_any _ _).mono ?_
    rintro r w1 ⟨rfl, rfl⟩
    rw [hb]
    go_wp2_with fail
    go_ret2
    exact ⟨_, _, _, _, rfl, HW.out.2.symm, by rw [HW.out.1]; exact IsI.nil _ _, Ext.refl _⟩
end Go.Proofs.YtcpanmonllhmaaaDoor
