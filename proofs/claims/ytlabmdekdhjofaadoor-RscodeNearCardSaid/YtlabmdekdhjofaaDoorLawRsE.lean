/- The walk of the law RscodeApart. -/
import Derived.Test.YtlabmdekdhjofaaDoorAwake18
import Derived.Test.YtlabmdekdhjofaaDoorRsDist
import Derived.Test.YtlabmdekdhjofaaDoorTapeB
namespace Go.Proofs.YtlabmdekdhjofaaDoor
open Go.RowKit

theorem dfTo_count (a b : List F) (k : Nat) : k ≤ a.length → a.length = b.length → dfTo (wI a) (wI b) k = (((List.range k).filter fun i => !(a.getD i 0 == b.getD i 0)).length : Int) := by
  intro hk hl
  induction k with
  | zero => rfl
  | succ k ih =>
    show dfTo (wI a) (wI b) k + _ = _
    rw [ih (by omega), List.range_succ, List.filter_append, List.length_append]
    have e1 : (wI a)[k]? = some ((a.getD k 0).n : Int) := by unfold wI; rw [List.getElem?_map, F.getD_eq (w := a) (by omega)]; rfl
    have e2 : (wI b)[k]? = some ((b.getD k 0).n : Int) := by unfold wI; rw [List.getElem?_map, F.getD_eq (w := b) (by omega)]; rfl
    rw [e1, e2]
    rw [List.filter_cons, List.filter_nil]
    by_cases h : a.getD k 0 = b.getD k 0
    · rw [h, if_pos rfl, if_neg (by simp)]; simp
    · have hn : (a.getD k 0).n ≠ (b.getD k 0).n := fun e => h (F.ext e)
      rw [if_neg (fun e => hn (by injection e with e; omega)), if_pos (by rw [beq_eq_false_iff_ne.2 h]; rfl)]
      simp
theorem dist_diffs {a b : List F} (h : a.length = b.length) : distZ (wI a) (wI b) = ((F.diffs a b).length : Int) := by
  unfold distZ
  rw [if_neg (by rw [wI_len, wI_len]; simpa using h), wI_len, dfTo_count a b _ (Nat.le_refl _) h, diffs_len a b h]
theorem enc_apart {a b : List F} (h : a.length = b.length) (h9 : a.length ≤ 9) (hne : a ≠ b) : 7 ≤ distZ (wI (encF a)) (wI (encF b)) := by
  have hl : (encF a).length = (encF b).length := by rw [encF_len, encF_len, h]
  rw [dist_diffs hl]
  rcases Nat.lt_or_ge (F.diffs (encF a) (encF b)).length 7 with hlt | hge
  · have := F.code_apart (encF_code a) (encF_code b) hl (by rw [encF_len]; omega) (by omega)
    unfold encF at this
    exact absurd (List.append_inj this h).1 hne
  · omega

set_option maxRecDepth 100000 in
set_option maxHeartbeats 4000000 in
theorem walkRscodeApart (v0 : Value) (l0 : List Int) (w : World) (h0 : IsI w.heap.size w v0 l0) (hT : Tabs w) :
    Calls Tryd.prog 12 #[v0] w fun e w' => e = .returned (.bool true) ∧ Ext w w' := by
  have H0 := Lib.hid h0
  have HT := Lib.hid hT
  have b2 : 2 ≤ w.heap.size := hT.lt
  clear h0 hT
  obtain ⟨i0, hi0, hz0, hz1, hz2⟩ := info_parts Tryd.infoI
  go_enter Tryd.func12, Tryd.ntmps12
  go_wp2_with fail
  refine (new_any _ l0 _ H0.out).mono ?_
  rintro e w1 ⟨rfl, HT1, HE1⟩
  have hlt1 := HT1.lt
  go_wp2_with fail
  refine (ints_any _ 8 0 31 _ HT1 (by omega) (by omega) (by omega) (by omega) (by omega) (by omega)).mono ?_
  rintro e w2 ⟨v2, rfl, ⟨la, ho2, hl2, hb2⟩, HT2, HX2⟩
  go_wp2_with fail
  refine (next_any _ 32 _ HT2 (by omega)).mono ?_
  rintro e w3 ⟨v3, rfl, ⟨r, rfl, hr0, hr1⟩, HT3, HX3⟩
  have hlae : wI (toF la) = la := wI_toF fun x hx => by have := hb2 x hx; omega
  have HO3 : Hid (OwnW w1.heap.size w3 v2 (toF la)) := by
    show World.ownsRow _ _ _ _ _ _ _
    rw [toF_len, hlae]; exact own_xt ho2 HX3 (by omega)
  have hla8 : (toF la).length ≤ 8 := by rw [toF_len]; omega
  obtain ⟨rf, hrf⟩ : ∃ rf : F, r = (rf.n : Int) := ⟨F.mk r.toNat (by omega), by rw [F.n_mk]; omega⟩
  subst hrf
  generalize toF la = fa at *
  have HX03 := Lib.hid ((HX2.trans HX3).fresh HE1 (Nat.le_refl _))
  have hs3 : w1.heap.size ≤ w3.heap.size := Nat.le_trans HX2.size HX3.size
  replace HT3 := Lib.hid HT3
  clear ho2 hlae hb2 hl2 HT1 HT2 HX2 HX3 HE1 hr0 hr1
  go_upto_region 4 with (at_builtin; refine wpList_append_lies _ rfl _ _ _ rfl w1.heap.size 3 i0 _ 1 8 Tryd.underlying27 hi0 hz0 hz1 hz2 rfl (by omega) v2 fa.length ((wI fa).map (Value.int .i64)) (by rfl) (World.ownsRow.alloc HO3.out _) ⟨w3.heap.size, 0, none⟩ 1 1 [.int .i64 (rf.n : Int)] (by rfl) (by rfl) (World.news_of_block (cs := #[.int .i64 (rf.n : Int)]) (t := 3) (fr := (0, 0)) (heap_alloc_new w3 _)) (by simp [Value.oneCell']) (by omega) (by unfold maxLen; omega) (by omega) (by simp; omega) (w3.heap.size + 1) (by simp) ?_; intro gA cA w4 hown4 hgrow4 hat4 hlt4)
  have HO4 : Hid (OwnW w1.heap.size w4 (.slice (some ⟨gA, 0, none⟩) (fa.length + 1) cA) (fa ++ [rf])) := by
    show World.ownsRow _ _ _ _ _ _ _
    rw [wI_app, List.map_append, List.length_append]; exact hown4
  have hcA := own_cap hown4
  have HE4 := Lib.hid (Ext.grown (HX03.out.alloc _) hgrow4 (fun k hk => by have := own_ge HO3.out k hk; omega))
  have HT4 := Lib.hid ((HT3.out.ext ((Ext.refl w3).alloc (.cells #[.int .i64 (rf.n : Int)] 3))).grown hgrow4 (fun k hk => by have := own_ge HO3.out k hk; omega))
  have hgA : w1.heap.size ≤ gA := own_ge hown4 gA rfl
  have hl4 : (fa ++ [rf]).length = fa.length + 1 := by simp
  generalize fa ++ [rf] = f4 at *
  generalize hn : fa.length + 1 = n at *
  have hn9 : n ≤ 9 := by omega
  have hn1 : 1 ≤ n := by omega
  have HLN := Lib.hid hl4
  clear hn hown4 hgrow4 hat4 HO3 HX03 hl4 HT3 hla8 hs3
  obtain ⟨hcA1, hcA2⟩ := hcA
  have HIA : Hid (IsI w4.heap.size w4 (.slice (some ⟨gA, 0, none⟩) n cA) (wI f4)) := (HO4.out.isI (p := 0) (by omega) (by rw [HLN.out]; omega)).re (Nat.le_refl _)
  have HO : Hid ((w4.alloc (.cells #[] 3)).ownsRow w4.heap.size 3 1 (.slice (some ⟨w4.heap.size, 0, none⟩) 0 0) 0 []) := World.ownsRow_lit w4 #[] 0 (Nat.le_refl _) (by unfold maxLen; omega) rfl
  go_upto_region 5 with (at_builtin; refine wpList_cat _ rfl (.tmp 21) (.tmp 22) 27 rfl w4.heap.size 3 i0 _ 8 Tryd.underlying27 hi0 hz0 hz1 hz2 rfl _ 0 [] rfl HO.out w4.heap.size (some ⟨gA, 0, none⟩) n cA (wI f4) rfl (HIA.out.ext ((Ext.refl _).alloc _)) (by omega) (by omega) (by simp) ?_; intro vB w5 hownB hgB)
  rw [Nat.zero_add, List.nil_append] at hownB
  have HE45 : Hid (Ext w4 w5) := Ext.grown ((Ext.refl w4).alloc _) hgB (fun k hk => by have := own_ge HO.out k hk; omega)
  obtain ⟨AB, cB, rfl, hcB1, hcB2⟩ := own_shape hownB
  obtain ⟨gB, rfl⟩ : ∃ gB, AB = some ⟨gB, 0, none⟩ := by
    rcases hownB.2 with ⟨e, h0⟩ | ⟨g', cap', cur, e, _⟩
    · omega
    · injection e with e1; exact ⟨g', e1⟩
  have hgB : w4.heap.size ≤ gB := own_ge hownB gB rfl
  have HB5 : Hid (OwnW w4.heap.size w5 (.slice (some ⟨gB, 0, none⟩) n cB) f4) := by show World.ownsRow _ _ _ _ _ _ _; rw [HLN.out]; exact hownB
  have HA5 := Lib.hid (HO4.out.ext HE45.out)
  have HT5 := Lib.hid (HT4.out.ext HE45.out)
  have HE5 := Lib.hid (HE4.out.trans HE45.out)
  have hgAB : gA < gB := by omega
  have hwp : w.heap.size < w4.heap.size := HT4.out.lt
  clear hownB HO HIA HE45 HE4 HT4 HO4
  go_wp2_with fail
  go_loopw [6] (fun s6 wr => ∃ (k : Nat), s6 = .int .i64 k ∧ k ≤ n ∧ Hid (∃ fb : List F, fb.length = n ∧ OwnW w4.heap.size wr (.slice (some ⟨gB, 0, none⟩) n cB) fb ∧ OwnW w1.heap.size wr (.slice (some ⟨gA, 0, none⟩) n cA) f4 ∧ Tape wr w.heap.size ∧ Ext w wr)) (fun i _ => n - (intOf i).toNat)
  case atStart => exact ⟨0, rfl, by omega, f4, HLN.out, HB5.out, HA5.out, HT5.out, HE5.out⟩
  case round =>
    clear HB5 HA5 HT5 HE5
    obtain ⟨k, rfl, hk, HK⟩ := hrel
    obtain ⟨fb, k1, k2, k3, k4, k5⟩ := HK.out
    have HLB := Lib.hid k1
    have HB := Lib.hid k2
    have HA := Lib.hid k3
    have HTp := Lib.hid k4
    have HE := Lib.hid k5
    clear HK k1 k2 k3 k4 k5
    by_cases hkn : k < n
    · go_upto_if 31 with (go_at_call 24; refine (one_any _ 3 _ HTp.out (by omega) (by omega)).mono ?_; rintro e w6 ⟨v6, rfl, ⟨b6, rfl⟩, HT6, HX6⟩)
      have HB6 := Lib.hid (HB.out.xt HX6 (by omega))
      have HA6 := Lib.hid (HA.out.xt HX6 (by omega))
      have HE6 := Lib.hid (HX6.fresh HE.out (Nat.le_refl _))
      replace HT6 := Lib.hid HT6
      clear HX6 HB HA HE HTp
      cases b6 with
      | false =>
        go_wp2_with fail
        go_roundw
        case rel => exact ⟨k + 1, by go_num, by omega, fb, HLB.out, HB6.out, HA6.out, HT6.out, HE6.out⟩
        case measure => simp [intOf]; omega
      | true =>
        go_wp2_with fail
        refine (next_any _ 32 _ HT6.out (by omega)).mono ?_
        rintro e w7 ⟨v7, rfl, ⟨r, rfl, hr0, hr1⟩, HT7, HX7⟩
        obtain ⟨rf2, hrf⟩ : ∃ rf : F, r = (rf.n : Int) := ⟨F.mk r.toNat (by omega), by rw [F.n_mk]; omega⟩
        subst hrf
        have HB7 := Lib.hid (HB6.out.xt HX7 (by omega))
        have HA7 := Lib.hid (HA6.out.xt HX7 (by omega))
        have HE7 := Lib.hid (HX7.fresh HE6.out (Nat.le_refl _))
        obtain ⟨yb, hyb⟩ : ∃ y, fb[k]? = some y := ⟨_, List.getElem?_eq_getElem (by have := HLB.out; omega)⟩
        have cb := HB7.out.cell HLB.out hyb
        have cf := HB7.out.froz HLB.out k
        have HB8 := Lib.hid (HB7.out.put HLB.out k rf2)
        have HA8 := Lib.hid (show OwnW w1.heap.size (w7.setCell ⟨gB, k, none⟩ (.int .i64 (rf2.n : Int))) (.slice (some ⟨gA, 0, none⟩) n cA) f4 from own_far' HA7.out (by simp [Value.ownBlock]; omega) _)
        have HT8 := Lib.hid (HT7.setNew (a := ⟨gB, k, none⟩) (by simp; omega) (.int .i64 (rf2.n : Int)))
        have HE8 := Lib.hid (HE7.out.setCell (p := ⟨gB, k, none⟩) (by simp; omega) (.int .i64 (rf2.n : Int)))
        have HLB8 : Hid ((fb.set k rf2).length = n) := by show _ = _; rw [List.length_set]; exact HLB.out
        clear hyb HB6 HA6 HE6 HT6 HT7 HX7
        go_wp2_with fail
        go_roundw
        case rel => exact ⟨k + 1, by go_num, by omega, _, HLB8.out, HB8.out, HA8.out, HT8.out, HE8.out⟩
        case measure => simp [intOf]; omega
    · have hke : k = n := by omega
      clear hke
      have HIA : Hid (IsI wr.heap.size wr (.slice (some ⟨gA, 0, none⟩) n cA) (wI f4)) := (HA.out.isI (p := 0) (by omega) (by rw [HLN.out]; omega)).re (Nat.le_refl _)
      have HIB : Hid (IsI wr.heap.size wr (.slice (some ⟨gB, 0, none⟩) n cB) (wI fb)) := (HB.out.isI (p := 0) (by omega) (by rw [HLB.out]; omega)).re (Nat.le_refl _)
      have HTr := Lib.hid (HT.out.ext HE.out)
      have ea := encL_ok (d := f4) (by rw [HLN.out]; omega) (by rw [HLN.out]; omega)
      have eb := encL_ok (d := fb) (by rw [HLB.out]; omega) (by rw [HLB.out]; omega)
      go_wp2_with fail
      refine (enc_slice _ (wI f4) _ HTr.out HIA.out).mono ?_
      rintro e x1 ⟨A1, m1, c1, rfl, hm1, hc1, hc2, ho1, hx1⟩
      rw [ea.2]
      rw [ea.1] at ho1 hm1
      have HIA1 := Lib.hid (HIA.out.ext hx1)
      have HIB1 := Lib.hid (HIB.out.ext hx1)
      have HE1 := Lib.hid (HE.out.trans hx1)
      replace ho1 := Lib.hid ho1
      replace hx1 := Lib.hid hx1
      clear hm1
      go_wp2_with fail
      refine (enc_slice _ (wI fb) _ (HT.out.ext HE1.out) HIB1.out).mono ?_
      rintro e x2 ⟨A2, m2, c2, rfl, hm2, hc3, hc4, ho2, hx2⟩
      rw [eb.2]
      rw [eb.1] at ho2 hm2
      have HIA2 := Lib.hid (HIA1.out.ext hx2)
      have HIB2 := Lib.hid (HIB1.out.ext hx2)
      have HE2 := Lib.hid (HE1.out.trans hx2)
      have HX2 : Hid (IsI x2.heap.size x2 (.slice A1 m1 c1) (wI (encF f4))) := (IsI.of_own' (p := x2.heap.size) (e := 3) (own_ext ho1.out hx2) (fun h => by have := ((own_ext ho1.out hx2).lt _ h).2; omega) (wI_i64 _) (by rw [wI_len, encF_len, HLN.out]; omega))
      have HY2 : Hid (IsI x2.heap.size x2 (.slice A2 m2 c2) (wI (encF fb))) := (IsI.of_own' (p := x2.heap.size) (e := 3) ho2 (fun h => by have := (ho2.lt _ h).2; omega) (wI_i64 _) (by rw [wI_len, encF_len, HLB.out]; omega))
      clear hm2 ho1 ho2 hx1 hx2 ea eb
      go_wp2_with fail
      refine (dist_ext _ _ (wI (encF f4)) (wI (encF fb)) _ HX2.out HY2.out (by rw [wI_len, encF_len, HLN.out]; omega)).mono ?_
      rintro e x3 ⟨rfl, hx3⟩
      have HE3 := Lib.hid (HE2.out.trans hx3)
      go_wp2_with fail
      refine (ints_ext _ _ (wI f4) (wI fb) _ (HIA2.out.ext hx3) (HIB2.out.ext hx3)).mono ?_
      rintro e x4 ⟨rfl, hx4⟩
      have HE4 := Lib.hid (HE3.out.trans hx4)
      clear hx3 hx4
      by_cases heq : f4 = fb
      · have d1 : decide (wI f4 = wI fb) = true := by rw [heq]; simp
        have d2 : (distZ (wI (encF f4)) (wI (encF fb)) == 0) = true := by rw [heq, distZ_self]; rfl
        rw [d1]
        clear heq
        go_wp2_with fail
        refine (awake18_any _ (HT.out.ext HE4.out)).mono ?_
        rintro e x5 ⟨rfl, hx5⟩
        go_wp2_with fail
        go_ret
        exact ⟨rfl, HE4.out.trans hx5⟩
      · have d1 : decide (wI f4 = wI fb) = false := by simp; exact fun e => heq (wI_inj e)
        have d2 := enc_apart (by rw [HLN.out, HLB.out]) (by rw [HLN.out]; omega) heq
        rw [d1]
        clear heq
        go_wp2_with fail
        refine (awake18_any _ (HT.out.ext HE4.out)).mono ?_
        rintro e x5 ⟨rfl, hx5⟩
        go_wp2_with fail
        go_ret
        exact ⟨rfl, HE4.out.trans hx5⟩
end Go.Proofs.YtlabmdekdhjofaaDoor
