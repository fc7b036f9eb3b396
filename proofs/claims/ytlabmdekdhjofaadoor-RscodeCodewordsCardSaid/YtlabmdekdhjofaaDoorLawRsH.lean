/- The walk of the law RscodeCodewords. -/
import Derived.Test.YtlabmdekdhjofaaDoorRsU
namespace Go.Proofs.YtlabmdekdhjofaaDoor
open Go.RowKit

set_option maxRecDepth 100000 in
set_option maxHeartbeats 4000000 in
theorem walkRscodeCodewords (v0 : Value) (l0 : List Int) (v1 : Value) (l1 : List Int) (w : World) (h0 : IsI w.heap.size w v0 l0) (h1 : IsI w.heap.size w v1 l1) (hT : Tabs w) :
    Calls Tryd.prog 7 #[v0, v1] w fun e w' => e = .returned (.bool true) ∧ Ext w w' := by
  obtain ⟨A, n0, c, rfl, hnc, hc, hnn, HL⟩ := h0.open_
  have H0 := Lib.hid h0
  have H1 := Lib.hid h1
  have HT := Lib.hid hT
  have b2 : 2 ≤ w.heap.size := hT.lt
  clear h0 h1 hT
  obtain ⟨i0, hi0, hz0, hz1, hz2⟩ := info_parts Tryd.infoI
  by_cases h30 : 30 < n0
  · go_enter Tryd.func7, Tryd.ntmps7
    go_wp2_with fail
    go_ret
    exact ⟨rfl, Ext.refl _⟩
  go_enter Tryd.func7, Tryd.ntmps7
  go_wp2_with fail
  refine (new_any _ l1 _ H1.out).mono ?_
  rintro e w1 ⟨rfl, HT1, HE1⟩
  have hlt1 := HT1.lt
  go_wp2_with fail
  refine (next_any _ 2 _ HT1 (by omega)).mono ?_
  rintro e w2 ⟨v2, rfl, ⟨a, rfl, ha0, ha1⟩, HT2, HX2⟩
  obtain ⟨a, rfl⟩ := Int.eq_ofNat_of_zero_le ha0
  have HWD : Calls Tryd.prog 30 #[.pointer (some ⟨w.heap.size, 0, none⟩), .int .i64 (a : Int), .int .i64 0] w2 (WordRet w.heap.size w2 a 0) := word_any w.heap.size a 0 w2 HT2 (by omega) (by omega)
  go_wp2_with fail
  refine (HWD).mono ?_
  rintro e w3 ⟨fd, lx, ord, g, n, cx, Ad, nd, cd, rfl, hfd, hn1, hn9, hnn', hcx1, hcx2, hcd1, hcd2, hod, hox, hlx, hpm, hdm, HT3, HX3⟩
  clear HWD
  have hel : (encF fd).length = n := by rw [encF_len]; omega
  have HBN := Lib.hid (hdm.bnd hpm hel)
  have HE3 := Lib.hid ((HX2.trans HX3).fresh HE1 (Nat.le_refl _))
  have hsz := HX2.size
  have hsz3 := HX3.size
  have HOX := Lib.hid hox
  have HLX := Lib.hid hlx
  have hn7 : 7 ≤ n := by omega
  have hn15 : n ≤ 15 := by omega
  clear hod hox hlx HX2 HX3 HT1 HT2 HE1 hpm hdm hel hnn' hfd
  go_wp2_with fail
  refine (one_any _ 10 _ HT3 (by omega) (by omega)).mono ?_
  rintro e w6 ⟨v6, rfl, ⟨b6, rfl⟩, HT6, HX6⟩
  have HO6 := Lib.hid (own_xt HOX.out HX6 (by omega))
  have HE6 := Lib.hid (HX6.fresh HE3.out (Nat.le_refl _))
  have hs6 := HX6.size
  have hs3 := HE3.out.size
  have q0 : (codeB l0 == codeB l0) = true := by simp
  cases b6 with
  | false =>
    have HXI : Hid (IsI w6.heap.size w6 (.slice (some ⟨g, 0, none⟩) n cx) lx) := IsI.of_own' (p := w6.heap.size) (e := 3) HO6.out (fun h => by have := (HO6.out.lt _ h).2; omega) (fun x hx => by have := HBN.out x hx; constructor <;> omega) (by rw [HLX.out]; omega)
    have q1 : (codeB lx == codeB lx) = true := by simp
    clear HO6
    go_wp2_with fail
    refine (codeword_any _ l0 _ (HT.out.ext HE6.out) (H0.out.ext HE6.out)).mono ?_
    rintro e x1 ⟨rfl, hx1⟩
    go_wp2_with fail
    refine (rcodeword_any _ l0 _ (H0.out.ext (HE6.out.trans hx1))).mono ?_
    rintro e x2 ⟨rfl, hx2⟩
    have HX2 := Lib.hid (hx1.trans hx2)
    clear hx1 hx2
    go_wp2_with fail
    refine (codeword_any _ lx _ (HT.out.ext (HE6.out.trans HX2.out)) (HXI.out.ext HX2.out)).mono ?_
    rintro e x3 ⟨rfl, hx3⟩
    go_wp2_with fail
    refine (rcodeword_any _ lx _ (HXI.out.ext (HX2.out.trans hx3))).mono ?_
    rintro e x4 ⟨rfl, hx4⟩
    have HX4 := Lib.hid (HE6.out.trans (HX2.out.trans (hx3.trans hx4)))
    clear hx3 hx4
    go_wp2_with fail
    refine (awake18_any _ (HT.out.ext HX4.out)).mono ?_
    rintro e x5 ⟨rfl, hx5⟩
    go_wp2_with fail
    go_ret
    exact ⟨rfl, HX4.out.trans hx5⟩
  | true =>
    go_wp2_with fail
    refine (range_any _ (-1) 32 _ HT6 (by omega) (by omega) (by omega) (by omega)).mono ?_
    rintro e w7 ⟨v7, rfl, ⟨r, rfl, hr1, hr2⟩, HT7, HX7⟩
    have HO7 := Lib.hid (own_xt HO6.out HX7 (by omega))
    have HE7 := Lib.hid (HX7.fresh HE6.out (Nat.le_refl _))
    have hs7 := HX7.size
    clear HO6 HX7 HX6
    go_upto_region 7 with (at_builtin; refine wpList_push _ rfl (.tmp 22) (.tmp 25) 27 rfl w2.heap.size 3 i0 _ 8 Tryd.underlying27 hi0 hz0 hz1 hz2 rfl (.slice (some ⟨g, 0, none⟩) n cx) n _ rfl (HO7.out.alloc _) _ _ rfl (by simp; rfl) rfl (by omega) (by omega) (by simp; omega) ?_; intro v8 w8 hown8 hg8; have HE8 := Lib.hid (Ext.grown (HE7.out.alloc _) hg8 (fun k hk => (by have := own_ge HO7.out k hk; omega))); have HO8 := Lib.hid hown8; clear hown8 hg8)
    obtain ⟨ly, hly⟩ : ∃ ly, ly = lx ++ [r] := ⟨_, rfl⟩
    have HO9 : Hid (w8.ownsRow w2.heap.size 3 1 v8 (n + 1) (ly.map (Value.int .i64))) := by
      show World.ownsRow _ _ _ _ _ _ _
      rw [hly, List.map_append]; exact HO8.out
    have HXI : Hid (IsI w8.heap.size w8 v8 ly) := IsI.of_own' (p := w8.heap.size) (e := 3) HO9.out (fun h => by have := (HO9.out.lt _ h).2; omega) (fun x hx => by
      rw [hly] at hx
      rcases List.mem_append.1 hx with h | h
      · have := HBN.out x h; constructor <;> omega
      · simp at h; subst h; constructor <;> omega) (by rw [hly, List.length_append, HLX.out]; simp; omega)
    have q1 : (codeB ly == codeB ly) = true := by simp
    clear HO8 HO9 hly
    go_wp2_with fail
    refine (codeword_any _ l0 _ (HT.out.ext HE8.out) (H0.out.ext HE8.out)).mono ?_
    rintro e x1 ⟨rfl, hx1⟩
    go_wp2_with fail
    refine (rcodeword_any _ l0 _ (H0.out.ext (HE8.out.trans hx1))).mono ?_
    rintro e x2 ⟨rfl, hx2⟩
    have HX2 := Lib.hid (hx1.trans hx2)
    clear hx1 hx2
    go_wp2_with fail
    refine (codeword_any _ ly _ (HT.out.ext (HE8.out.trans HX2.out)) (HXI.out.ext HX2.out)).mono ?_
    rintro e x3 ⟨rfl, hx3⟩
    go_wp2_with fail
    refine (rcodeword_any _ ly _ (HXI.out.ext (HX2.out.trans hx3))).mono ?_
    rintro e x4 ⟨rfl, hx4⟩
    have HX4 := Lib.hid (HE8.out.trans (HX2.out.trans (hx3.trans hx4)))
    clear hx3 hx4
    go_wp2_with fail
    refine (awake18_any _ (HT.out.ext HX4.out)).mono ?_
    rintro e x5 ⟨rfl, hx5⟩
    go_wp2_with fail
    go_ret
    exact ⟨rfl, HX4.out.trans hx5⟩
end Go.Proofs.YtlabmdekdhjofaaDoor
