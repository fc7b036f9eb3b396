/- The tape's Order: a permutation. -/
import Derived.Test.YtcpanmonllhmaaaDoorTapeB
import Derived.Test.YtcpanmonllhmaaaDoorBaseB
set_option linter.unusedSimpArgs false
set_option linter.unusedVariables false
namespace Go.Proofs.YtcpanmonllhmaaaDoor
open Go.RowKit

/-- The numbers from 0 to k - 1. -/
def upTo (k : Nat) : List Int := (List.range k).map (fun i : Nat => (i : Int))
theorem upTo_succ (k : Nat) : upTo (k + 1) = upTo k ++ [(k : Int)] := by unfold upTo; rw [List.range_succ]; simp
theorem upTo_mem {k : Nat} {x : Int} (h : x ∈ upTo k) : 0 ≤ x ∧ x < k := by
  unfold upTo at h; simp at h; obtain ⟨i, hi, rfl⟩ := h; omega
theorem perm_ins {l : List Int} {k r : Nat} (h : l.Perm (upTo k)) : (l.take r ++ [(k : Int)] ++ l.drop r).Perm (upTo (k + 1)) := by
  rw [upTo_succ]
  have h1 : (l.take r ++ [(k : Int)] ++ l.drop r).Perm (l.take r ++ l.drop r ++ [(k : Int)]) := by
    rw [List.append_assoc, List.append_assoc]
    exact List.Perm.append_left _ List.perm_append_comm
  rw [List.take_append_drop] at h1
  exact h1.trans (h.append_right _)

def OrdV (w : World) (base : Nat) (n : Nat) (v : Value) : Prop :=
  ∃ l : List Int, w.ownsRow base 3 1 v l.length (l.map (Value.int .i64)) ∧ l.Perm (upTo n)

set_option maxRecDepth 100000 in
set_option maxHeartbeats 1600000 in
theorem order_any (p : Nat) (n : Nat) (w : World) (h : Tape w p) (hn : n ≤ 1000) :
    Calls Tryd.prog 37 #[.pointer (some ⟨p, 0, none⟩), .int .i64 n] w (TRet p w fun v w' => OrdV w' w.heap.size n v) := by
  have hlt := h.lt
  have H := Lib.hid h
  clear h
  obtain ⟨i0, hi0, hz0, hz1, hz2⟩ := info_parts Tryd.infoI
  go_enter Tryd.func37, Tryd.ntmps37
  go_wp2_with fail
  go_loopw [5, 6] (fun v i wr => ∃ (k : Nat) (l : List Int), i = .int .i64 k ∧ k ≤ n ∧ Hid (l.length = k ∧ wr.ownsRow w.heap.size 3 1 v k (l.map (Value.int .i64)) ∧ l.Perm (upTo k) ∧ Tape wr p ∧ XT p w wr)) (fun _ i _ => n - (intOf i).toNat)
  case atStart => exact ⟨0, [], rfl, by omega, rfl, World.ownsRow_nil _ _ _ _, List.Perm.refl _, H.out, XT.refl _ _⟩
  case round =>
    obtain ⟨k, l, rfl, hk, HR⟩ := hrel
    by_cases hkn : k < n
    · obtain ⟨hl, hown, hperm, htape, hxt⟩ := HR.out
      have hI : IsI p wr u5 l := IsI.of_own hown hlt (fun x hx => by have := upTo_mem (hperm.mem_iff.1 hx); exact ⟨by omega, by omega⟩) (by omega)
      obtain ⟨A, n', c, rfl, hnc, hc, hnn, HL⟩ := hI.open_
      obtain rfl : n' = k := by have := HL.out; omega
      have HI := Lib.hid hI
      have HT := Lib.hid htape
      clear hl hown hperm htape hxt hI
      go_wp2_with fail
      refine (next_any p _ _ HT.out (by omega)).mono ?_
      rintro e w2 ⟨v2, rfl, ⟨r, rfl, hr1, hr2⟩, HT2, HX2⟩
      obtain ⟨r, rfl⟩ := Int.eq_ofNat_of_zero_le hr1
      have hrk : r ≤ n' := by omega
      have HI2 := Lib.hid ((HI.out.xt HX2).take hrk)
      have HD2 := Lib.hid ((HI.out.xt HX2).drop hrk)
      go_wp2_with (first
        | (at_builtin; refine wpList_cat _ rfl (.tmp 18) (.tmp 21) 22 rfl w2.heap.size 3 i0 _ 8 Tryd.underlying22 hi0 hz0 hz1 hz2 rfl (.slice none 0 0) 0 [] rfl (World.ownsRow_nil _ _ _ _) p A r c (l.take r) rfl HI2.out (by omega) (by omega) (Nat.le_refl _) ?_; intro v3 w3 hown3 hg3; have HE3 := Lib.hid (Ext.grown (Ext.refl w2) hg3 (by simp [Value.ownBlock])); have HO3 := Lib.hid hown3; clear hown3 hg3)
        | (at_builtin; refine wpList_push _ rfl (.tmp 23) (.tmp 25) 22 rfl w2.heap.size 3 i0 _ 8 Tryd.underlying22 hi0 hz0 hz1 hz2 rfl v3 _ _ rfl (HO3.out.alloc _) _ _ rfl (by simp; rfl) rfl (by omega) (by omega) (by have := HE3.out.size; simp; omega) ?_; intro v4 w4 hown4 hg4; have HE4 := Lib.hid (Ext.grown (HE3.out.alloc _) hg4 (own_ge HO3.out)); have HO4 := Lib.hid hown4; clear hown4 hg4)
        | (at_builtin; refine wpList_cat _ rfl (.tmp 27) (.tmp 30) 22 rfl w2.heap.size 3 i0 _ 8 Tryd.underlying22 hi0 hz0 hz1 hz2 rfl v4 _ _ rfl HO4.out p _ (n' - r) (c - r) (l.drop r) rfl (HD2.out.ext HE4.out) (by omega) (by omega) (HE4.out.size) ?_; intro v5 w5 hown5 hg5; have HE5 := Lib.hid (Ext.grown HE4.out hg5 (own_ge HO4.out)); have HO5 := Lib.hid hown5; clear hown5 hg5))
      go_roundw
      case rel =>
        obtain ⟨hl, hown, hperm, htape, hxt⟩ := HR.out
        refine ⟨n' + 1, l.take r ++ [(n' : Int)] ++ l.drop r, by go_num, by omega, by simp; omega, ?_, perm_ins hperm, HT2.ext HE5.out, (hxt.trans HX2).ext HE5.out⟩
        have h5 := own_base HO5.out (base' := w.heap.size) (by have := hxt.size; have := HX2.size; omega)
        have e : 0 + r + 1 + (n' - r) = n' + 1 := by omega
        rw [e] at h5
        simpa using h5
      case measure => simp [intOf]; omega
    · obtain rfl : k = n := by omega
      go_wp2_with fail
      go_ret
      obtain ⟨hl, hown, hperm, htape, hxt⟩ := HR.out
      exact ⟨_, rfl, ⟨l, by rw [hl]; exact hown, hperm⟩, htape, hxt⟩
end Go.Proofs.YtcpanmonllhmaaaDoor
