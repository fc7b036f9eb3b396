/- The sanity check of the laws on rscode. -/
import Derived.Test.YtlabmdekdhjofaaDoorRsN
import Derived.Test.YtlabmdekdhjofaaDoorInts
namespace Go.Proofs.YtlabmdekdhjofaaDoor
open Go.RowKit

theorem enc_slice {p : Nat} (v : Value) (l : List Int) (w : World) (hT : Tabs w) (hI : IsI p w v l) :
    Calls Tryd.prog 27 #[v] w fun e w' => ∃ A m c, e = .returned (.tuple #[.slice A m c, .int .i64 (encE l)]) ∧ m = (encL l).length ∧ m ≤ c ∧ c ≤ 9223372036854775807 ∧ w'.ownsRow w.heap.size 3 1 (.slice A m c) m ((encL l).map (Value.int .i64)) ∧ Ext w w' :=
  (encode_any v l w hT hI).mono fun e w' ⟨v', he, ho, hx⟩ => by
    obtain ⟨A, c, rfl, h1, h2⟩ := own_shape ho
    exact ⟨A, _, c, he, rfl, h1, h2, ho, hx⟩
theorem encL_i64 (l : List Int) : ∀ x ∈ encL l, I64 x := by
  unfold encL
  split
  · exact wI_i64 _
  · simp
theorem encL_ok {d : List F} (h1 : 1 ≤ d.length) (h9 : d.length ≤ 9) : encL (wI d) = wI (encF d) ∧ encE (wI d) = 0 := by
  have : dataB (wI d) = true := mem_data (by rw [wI_len]; exact h1) (by rw [wI_len]; exact h9) (by
    intro x hx
    unfold wI at hx
    obtain ⟨c, _, rfl⟩ := List.mem_map.1 hx
    have := c.lt
    omega)
  unfold encL encE
  rw [this, toF_wI]
  exact ⟨rfl, rfl⟩
theorem wI_get (cw : List F) (i : Nat) : (wI cw).getD i 0 = ((cw.getD i 0).n : Int) := by
  unfold wI
  rw [List.getD_eq_getElem?_getD, List.getD_eq_getElem?_getD, List.getElem?_map]
  cases cw[i]? <;> rfl
theorem er_code (cw : List F) (k : Nat) : erTo (wI cw) k = [] := by
  rw [List.eq_nil_iff_forall_not_mem]
  intro i hi
  have := (mem_er.1 hi).2
  rw [wI_get] at this
  omega
theorem near_code {cw : List F} (hc : F.Code cw) : Near (wI cw) cw 0 := by
  refine ⟨by rw [wI_len], hc, ?_, by rw [er_code]; decide⟩
  unfold wrongP
  rw [toF_wI, List.length_eq_zero_iff, List.filter_eq_nil_iff]
  intro i _
  simp
theorem word_code {cw : List F} (h7 : 7 ≤ cw.length) (h15 : cw.length ≤ 15) : wordB (-1) (wI cw) = true := mem_word (by rw [wI_len]; exact h7) (by rw [wI_len]; exact h15) (by
  intro x hx
  unfold wI at hx
  obtain ⟨c, _, rfl⟩ := List.mem_map.1 hx
  have := c.lt
  omega)
/-- Decode of a word that is near a codeword. -/
theorem dec_near {q : Nat} (v : Value) (l : List Int) (cw : List F) (k : Nat) (w : World) (hT : Tabs w) (hI : IsI q w v l) (hw : wordB (-1) l = true) (hn : Near l cw k) :
    Calls Tryd.prog 34 #[v] w fun e w' => ∃ A m c, e = .returned (.tuple #[.slice A m c, .int .i64 (k : Int), .int .i64 0]) ∧ IsI w.heap.size w' (.slice A m c) (wI (cw.take (l.length - 6))) ∧ Ext w w' :=
  (decode_any v l w hT hI).mono fun e w' ⟨A, m, c, d, er, kk, he, hi, hx, _, ht⟩ => by
    have h15 := (word_mem hw).2.1
    rcases ht hw with ⟨c', n', h1, h2, h3, h4⟩ | ⟨h1, _⟩
    · obtain ⟨rfl, rfl⟩ := near_uniq (by omega) h1 hn
      subst h2; subst h3; subst h4
      exact ⟨A, m, c, he, hi, hx⟩
    · exact absurd hn (h1 _ _)
def f31 : List F := [F.mk 3 (by decide), F.mk 1 (by decide)]
theorem f31_wI : wI f31 = [3, 1] := rfl
theorem enc31 : (encL [3, 1]) = wI (encF f31) ∧ encE [3, 1] = 0 := by
  have := encL_ok (d := f31) (by decide) (by decide)
  rw [f31_wI] at this
  exact this
theorem enc31_len : (encL [3, 1]).length = 8 := by rw [enc31.1, wI_len, encF_len]; rfl

set_option maxRecDepth 100000 in
set_option maxHeartbeats 2000000 in
theorem awake18_any (w : World) (hT : Tabs w) : Calls Tryd.prog 19 #[] w fun e w' => e = .returned (.bool true) ∧ Ext w w' := by
  have HT := Lib.hid hT
  have b2 : 2 ≤ w.heap.size := hT.lt
  clear hT
  have HE0 := Lib.hid ((Ext.refl w).alloc (.cells #[.int .i64 3, .int .i64 1] 3))
  have HI0 : Hid (IsI 0 (w.alloc (.cells #[.int .i64 3, .int .i64 1] 3)) (.slice (some ⟨w.heap.size, 0, none⟩) 2 2) [3, 1]) := IsI.lit [3, 1] 3 (by omega) (by decide) (by decide)
  have m1 : mulZ 16 2 = 5 := by decide +kernel
  have m2 : invZ 2 = 18 := by decide +kernel
  have HC8 : Hid (codeB (wI (encF f31)) = true) := (codeB_wI (by rw [encF_len]; decide) (by rw [encF_len]; decide)).2 (encF_code _)
  go_enter Tryd.func19, Tryd.ntmps19
  go_upto_region 2 with (go_at_call 27; refine (enc_slice _ [3, 1] _ (HT.out.ext HE0.out) HI0.out).mono ?_; rintro e w1 ⟨A1, m1', c1, rfl, hm1, hc1, hc2, ho1, hx1⟩; rw [enc31_len] at hm1; rw [enc31.2]; subst hm1; rw [enc31.1] at ho1; replace ho1 := Lib.hid ho1; replace hx1 := Lib.hid hx1)
  have HI1 : Hid (IsI 0 w1 (.slice A1 8 c1) (wI (encF f31))) := IsI.of_own' (e := 3) ho1.out (fun h => by have := own_ge ho1.out _ h; simp at this) (wI_i64 _) (by rw [wI_len, encF_len]; decide)
  have HT1 := Lib.hid ((HT.out.ext HE0.out).ext hx1.out)
  go_upto_region 3 with (go_at_call 34; refine (dec_near _ _ (encF f31) 0 _ HT1.out HI1.out (word_code (by rw [encF_len]; decide) (by rw [encF_len]; decide)) (near_code (encF_code _))).mono ?_; rintro e w2 ⟨A2, m2', c2, rfl, hi2, hx2⟩; replace hi2 := Lib.hid hi2; replace hx2 := Lib.hid hx2)
  have he : wI ((encF f31).take ((wI (encF f31)).length - 6)) = [3, 1] := by
    rw [wI_len, encF_len, show f31.length + 6 - 6 = f31.length from rfl]
    unfold encF
    rw [List.take_left' rfl]; rfl
  rw [he] at hi2
  clear he
  have HT2 := Lib.hid (HT1.out.ext hx2.out)
  have HI2 := Lib.hid (HI1.out.ext hx2.out)
  have HE2 := Lib.hid ((HE0.out.trans hx1.out).trans hx2.out)
  have cd : codeB (wI (encF f31)) = true := HC8.out
  obtain ⟨x3, hx3⟩ : ∃ x3, x3 = x3 := ⟨w2, rfl⟩
  clear hx3 x3 HT HE0 HI0 ho1 hx1 HI1 HT1 hx2 HC8
  go_wp2_with (first
    | (go_at_call 15; refine (mul_any 16 2 _ HT2.out (by omega) (by omega) (by omega) (by omega)).mono ?_; rintro e w3 ⟨rfl, n3, hw3⟩; rw [m1]; have HX3 : Hid (Ext w2 w3) := (by rw [hw3]; exact (Ext.refl _).drewN _); clear hw3)
    | (go_at_call 17; refine (inverse_any 2 _ (HT2.out.ext HX3.out) (by omega) (by omega)).mono ?_; rintro e w4 ⟨rfl, hw4⟩; replace hw4 := hw4.symm; subst hw4; rw [m2])
    | (go_at_call 32; refine (codeword_any _ (wI (encF f31)) _ (HT2.out.ext HX3.out) (HI2.out.ext HX3.out)).mono ?_; rintro e w5 ⟨rfl, HX5⟩; rw [cd]; replace HX5 := Lib.hid (HX3.out.trans HX5))
    | (go_at_call 29; refine (ints_ext _ _ [3, 1] [3, 1] _ (hi2.out.ext (HX5.out.alloc _)) (IsI.lit (p := 0) [3, 1] 3 (by have := HX5.out.size; have := HE2.out.size; omega) (by decide) (by decide))).mono ?_; rintro e w6 ⟨rfl, HX6⟩; replace HX6 := Lib.hid ((HX5.out.alloc _).trans HX6)))
  go_ret
  exact ⟨rfl, HE2.out.trans HX6.out⟩
end Go.Proofs.YtlabmdekdhjofaaDoor
