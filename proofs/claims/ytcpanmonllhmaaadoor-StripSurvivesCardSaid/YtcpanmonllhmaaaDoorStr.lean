/- Strings as lists of bytes. No program. -/
import Derived.Test.YtcpanmonllhmaaaDoorBase
import Derived.Lib.Strings
import Derived.Lib.IndexBytes
set_option linter.unusedSimpArgs false
set_option linter.unusedVariables false
namespace Go.Proofs.YtcpanmonllhmaaaDoor
open Go.RowKit

/-- The bytes of a string. -/
def bl (s : ByteArray) : List UInt8 := s.data.toList
theorem bl_len (s : ByteArray) : (bl s).length = s.size := (Lib.size_eq s).symm
theorem bl_toList (s : ByteArray) : s.toList = bl s := ByteArray.toList_eq s
theorem bl_mk (l : List UInt8) : bl ⟨l.toArray⟩ = l := by simp [bl]
theorem bl_app (a b : ByteArray) : bl (a ++ b) = bl a ++ bl b := by simp [bl, ByteArray.data_append]
theorem bl_cut (s : ByteArray) (a b : Nat) : bl (s.extract a b) = ((bl s).drop a).take (b - a) := Lib.extract_data s a b
theorem bl_from (s : ByteArray) (a : Nat) : bl (s.extract a s.size) = (bl s).drop a := Lib.extract_to_end s a
theorem bl_to (s : ByteArray) (b : Nat) : bl (s.extract 0 b) = (bl s).take b := by rw [bl_cut]; simp
theorem bl_at {s : ByteArray} {k : Nat} (h : k < s.size) : (bl s)[k]? = some s[k] := Lib.data_getElem? s k h
theorem bl_inj {a b : ByteArray} (h : bl a = bl b) : a = b := by
  rw [← Lib.mk_data a, ← Lib.mk_data b]
  unfold bl at h
  rw [h]
theorem bl_beq (a b : ByteArray) : (a.toList == b.toList) = decide (bl a = bl b) := by rw [bl_toList, bl_toList]; by_cases h : bl a = bl b <;> simp [h]
theorem ret_str {a b : ByteArray} (h : bl a = bl b) : Ending.returned (.string a) = .returned (.string b) := by rw [bl_inj h]
theorem u8_ne {x : UInt8} {n : Nat} (hn : n < 256) : (((x.toNat : Nat) : Int) != (n : Int)) = !(x == UInt8.ofNat n) := by
  by_cases h : x = UInt8.ofNat n
  · subst h
    have e : (UInt8.ofNat n).toNat = n := by rw [UInt8.toNat_ofNat']; exact Nat.mod_eq_of_lt hn
    rw [e]; simp
  · have h1 : x.toNat ≠ n := fun e => h (by rw [← e, UInt8.ofNat_toNat])
    have h2 : (x == UInt8.ofNat n) = false := by simpa using h
    rw [h2, bne_iff_ne.2 (by omega)]; rfl
theorem u8_eq {x : UInt8} {n : Nat} (hn : n < 256) : (((x.toNat : Nat) : Int) == (n : Int)) = (x == UInt8.ofNat n) := by
  have := u8_ne (x := x) hn
  rw [bne, Bool.not_eq_eq_eq_not, Bool.not_not] at this
  exact this
theorem lt256 (x : UInt8) : (x.toNat : Int) < 256 := by have := x.toNat_lt; omega
end Go.Proofs.YtcpanmonllhmaaaDoor
