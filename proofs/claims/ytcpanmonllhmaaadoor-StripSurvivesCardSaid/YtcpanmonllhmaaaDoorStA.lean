/- strip.isStrip and the reference's strip: which texts are strips. -/
import Derived.Test.YtcpanmonllhmaaaDoorTape
import Derived.Test.YtcpanmonllhmaaaDoorStr
import Derived.Test.YtcpanmonllhmaaaDoorGNear
set_option linter.unusedSimpArgs false
set_option linter.unusedVariables false
namespace Go.Proofs.YtcpanmonllhmaaaDoor
open Go.RowKit

theorem okall_snoc {l : List UInt8} {k : Nat} {x : UInt8} (h : l[k]? = some x) : (l.take (k + 1)).all okBy = ((l.take k).all okBy && okBy x) := by
  rw [take_snoc h]; simp
theorem strip_short {s : List UInt8} (h : s.length ≠ 74) : stripB s = false := by unfold stripB; rw [decide_eq_false h]; rfl
theorem strip_full {s : List UInt8} (h : s.length = 74) : stripB s = s.all okBy := by unfold stripB; rw [decide_eq_true h]; rfl
theorem okall_not {l : List UInt8} {k : Nat} {x : UInt8} (h : l[k]? = some x) (hx : okBy x = false) : l.all okBy = false := by
  rw [List.all_eq_false]
  exact ⟨x, List.mem_of_getElem? h, by rw [hx]; simp⟩
theorem okBy_nat (x : UInt8) : okBy x = decide (x.toNat = 48 ∨ x.toNat = 49 ∨ x.toNat = 63) := by
  unfold okBy
  have e : ∀ n : Nat, n < 256 → (x == UInt8.ofNat n) = decide (x.toNat = n) := fun n hn => by
    rw [← u8_eq hn]
    by_cases h : x.toNat = n <;> simp [h]
    omega
  have e1 := e 48 (by omega)
  have e2 := e 49 (by omega)
  have e3 := e 63 (by omega)
  rw [show (48 : UInt8) = UInt8.ofNat 48 from rfl, show (49 : UInt8) = UInt8.ofNat 49 from rfl, show (63 : UInt8) = UInt8.ofNat 63 from rfl, e1, e2, e3]
  simp
set_option maxRecDepth 100000 in
set_option maxHeartbeats 1000000 in
theorem isStrip_any (s : ByteArray) (w : World) :
    Calls Tryd.prog 51 #[.string s] w fun e w' => e = .returned (.bool (stripB (bl s))) ∧ w = w' := by
  by_cases h : s.size = 74
  · have e1 : ((s.size : Int) != 74) = false := by rw [h]; rfl
    have HF := Lib.hid (strip_full ((bl_len s).trans h))
    have HL := Lib.hid ((bl_len s).trans h)
    have h74 : 74 ≤ s.size := by omega
    have h75 : s.size ≤ 74 := by omega
    clear h
    go_enter Tryd.func51, Tryd.ntmps51
    go_wp2_with fail
    go_loop [3, 7] (fun _ i => ∃ k : Nat, k ≤ 74 ∧ i = .int .i64 k ∧ Hid (((bl s).take k).all okBy = true)) (fun _ i => 74 - (intOf i).toNat)
    case atStart => exact ⟨0, by omega, rfl, rfl⟩
    case round =>
      obtain ⟨k, hk, rfl, HK⟩ := hrel
      by_cases hlt : k < 74
      · have hks : k < s.size := by omega
        have HX := Lib.hid (bl_at hks)
        have HO := Lib.hid (okBy_nat s[k])
        have step : okBy s[k] = true → Hid (((bl s).take (k + 1)).all okBy = true) := fun h => by
          show _ = _
          rw [okall_snoc HX.out, HK.out, h]; rfl
        by_cases a1 : (s[k].toNat : Int) = 48
        · have hok : Hid (okBy s[k] = true) := by show _ = _; rw [HO.out]; simp; omega
          have HS := Lib.hid (step hok.out)
          clear step HX HO hok
          go_wp2_with fail
          go_round
          case rel => exact ⟨k + 1, by omega, by go_num, HS.out⟩
          case measure => simp [intOf]; omega
        by_cases a2 : (s[k].toNat : Int) = 49
        · have hok : Hid (okBy s[k] = true) := by show _ = _; rw [HO.out]; simp; omega
          have HS := Lib.hid (step hok.out)
          clear step HX HO hok a1
          go_wp2_with fail
          go_round
          case rel => exact ⟨k + 1, by omega, by go_num, HS.out⟩
          case measure => simp [intOf]; omega
        by_cases a3 : (s[k].toNat : Int) = 63
        · have hok : Hid (okBy s[k] = true) := by show _ = _; rw [HO.out]; simp; omega
          have HS := Lib.hid (step hok.out)
          clear step HX HO hok a1 a2
          go_wp2_with fail
          go_round
          case rel => exact ⟨k + 1, by omega, by go_num, HS.out⟩
          case measure => simp [intOf]; omega
        have hok : Hid (okBy s[k] = false) := by show _ = _; rw [HO.out]; simp; omega
        have HS := Lib.hid (okall_not HX.out hok.out)
        have q1 : ((s[k].toNat : Int) != 48) = true := bne_iff_ne.2 a1
        have q2 : ((s[k].toNat : Int) != 49) = true := bne_iff_ne.2 a2
        have q3 : ((s[k].toNat : Int) != 63) = true := bne_iff_ne.2 a3
        clear step HX HO hok
        go_wp2_with fail
        go_ret
        exact ⟨ret_bool (by rw [HF.out, HS.out]), rfl⟩
      · obtain rfl : k = 74 := by omega
        rw [take_all HL.out] at HK
        go_wp2_with fail
        go_ret
        exact ⟨ret_bool (by rw [HF.out]; exact HK.out.symm), rfl⟩
  · have e1 : ((s.size : Int) != 74) = true := by simp; omega
    have HF := Lib.hid (strip_short (s := bl s) (by rw [bl_len]; exact h))
    clear h
    go_enter Tryd.func51, Tryd.ntmps51
    go_wp2_with fail
    go_ret
    exact ⟨ret_bool HF.out.symm, rfl⟩
set_option maxRecDepth 100000 in
set_option maxHeartbeats 1000000 in
theorem rstrip_any (s : ByteArray) (w : World) :
    Calls Tryd.prog 53 #[.string s] w fun e w' => e = .returned (.bool (stripB (bl s))) ∧ w = w' := by
  by_cases h : s.size = 74
  · have e1 : ((s.size : Int) != 74) = false := by rw [h]; rfl
    have HF := Lib.hid (strip_full ((bl_len s).trans h))
    have HL := Lib.hid ((bl_len s).trans h)
    have h74 : 74 ≤ s.size := by omega
    have h75 : s.size ≤ 74 := by omega
    clear h
    go_enter Tryd.func53, Tryd.ntmps53
    go_wp2_with fail
    go_loop [3] (fun i => ∃ k : Nat, k ≤ 74 ∧ i = .int .i64 k ∧ Hid (((bl s).take k).all okBy = true)) (fun i => 74 - (intOf i).toNat)
    case atStart => exact ⟨0, by omega, rfl, rfl⟩
    case round =>
      obtain ⟨k, hk, rfl, HK⟩ := hrel
      by_cases hlt : k < 74
      · have hks : k < s.size := by omega
        have HX := Lib.hid (bl_at hks)
        have HO := Lib.hid (okBy_nat s[k])
        have step : okBy s[k] = true → Hid (((bl s).take (k + 1)).all okBy = true) := fun h => by
          show _ = _
          rw [okall_snoc HX.out, HK.out, h]; rfl
        by_cases a1 : (s[k].toNat : Int) = 48
        · have hok : Hid (okBy s[k] = true) := by show _ = _; rw [HO.out]; simp; omega
          have HS := Lib.hid (step hok.out)
          clear step HX HO hok
          go_wp2_with fail
          go_round
          case rel => exact ⟨k + 1, by omega, by go_num, HS.out⟩
          case measure => simp [intOf]; omega
        by_cases a2 : (s[k].toNat : Int) = 49
        · have hok : Hid (okBy s[k] = true) := by show _ = _; rw [HO.out]; simp; omega
          have HS := Lib.hid (step hok.out)
          clear step HX HO hok a1
          go_wp2_with fail
          go_round
          case rel => exact ⟨k + 1, by omega, by go_num, HS.out⟩
          case measure => simp [intOf]; omega
        by_cases a3 : (s[k].toNat : Int) = 63
        · have hok : Hid (okBy s[k] = true) := by show _ = _; rw [HO.out]; simp; omega
          have HS := Lib.hid (step hok.out)
          clear step HX HO hok a1 a2
          go_wp2_with fail
          go_round
          case rel => exact ⟨k + 1, by omega, by go_num, HS.out⟩
          case measure => simp [intOf]; omega
        have hok : Hid (okBy s[k] = false) := by show _ = _; rw [HO.out]; simp; omega
        have HS := Lib.hid (okall_not HX.out hok.out)
        have q1 : ((s[k].toNat : Int) != 48) = true := bne_iff_ne.2 a1
        have q2 : ((s[k].toNat : Int) != 49) = true := bne_iff_ne.2 a2
        have q3 : ((s[k].toNat : Int) != 63) = true := bne_iff_ne.2 a3
        clear step HX HO hok
        go_wp2_with fail
        go_ret
        exact ⟨ret_bool (by rw [HF.out, HS.out]), rfl⟩
      · obtain rfl : k = 74 := by omega
        rw [take_all HL.out] at HK
        go_wp2_with fail
        go_ret
        exact ⟨ret_bool (by rw [HF.out]; exact HK.out.symm), rfl⟩
  · have e1 : ((s.size : Int) != 74) = true := by simp; omega
    have HF := Lib.hid (strip_short (s := bl s) (by rw [bl_len]; exact h))
    clear h
    go_enter Tryd.func53, Tryd.ntmps53
    go_wp2_with fail
    go_ret
    exact ⟨ret_bool HF.out.symm, rfl⟩
end Go.Proofs.YtcpanmonllhmaaaDoor
