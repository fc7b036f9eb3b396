/- BookletOnce: the walk of the law. -/
import Derived.Test.YtpbfbkkalemmiaaLawMakes
import Derived.Test.YtpbfbkkalemmiaaOnPage
import Derived.Test.YtpbfbkkalemmiaaFields
import Derived.Test.YtpbfbkkalemmiaaOrders
namespace Go.Proofs.Ytpbfbkkalemmiaa
open Go.RowKit

theorem opt_bd {ps : List Part} (hv : ps.all vpB = true) (x : Int) : 0 ≤ optOf ps x ∧ optOf ps x ≤ 5 := by
  unfold optOf
  split
  · rename_i q hq
    have := vp_of (List.all_eq_true.1 hv q (List.mem_of_getElem? hq))
    omega
  · omega
def wantTo (ps : List Part) (l : List Int) (k : Nat) : Int := ((l.take k).map (optOf ps)).sum
theorem wantTo_succ {ps : List Part} {l : List Int} {k : Nat} {x : Int} (h : l[k]? = some x) : wantTo ps l (k + 1) = wantTo ps l k + optOf ps x := by
  unfold wantTo; rw [take_snoc h]; simp

theorem partF_len {ps : List Part} (hv : ps.all vpB = true) (x : Int) : (partF ps x).length ≤ 5 := by
  unfold partF
  split
  · rename_i q hq
    have := vp_of (List.all_eq_true.1 hv q (List.mem_of_getElem? hq))
    split
    · simp; omega
    · simp
  · simp
theorem flds_iv_len {ps : List Part} (hv : ps.all vpB = true) (k : Nat) : (fldsOf ps (iv 0 k)).length ≤ 5 * k := by
  induction k with
  | zero => simp [iv, fldsOf]
  | succ k ih =>
    rw [iv_succ, flds_app, flds_one, List.length_append]
    have := partF_len hv ((0 + k : Nat) : Int)
    omega
theorem consP_le {ns : List Int} {pgs : List (List Int)} (hok : okPages ns 0 pgs) (j : Nat) : consP pgs j ≤ ns.length := by
  have h := (okPages_at pgs 0 hok).2
  rcases Nat.lt_or_ge pgs.length j with hj | hj
  · rw [consP_end (by omega)]; omega
  · have : consP pgs j ≤ consP pgs pgs.length := by
      obtain ⟨m, hm⟩ : ∃ m, pgs.length = j + m := ⟨pgs.length - j, by omega⟩
      unfold consP
      rw [hm, List.take_add, List.map_append, List.sum_append]; omega
    omega

/-- A reading in w is away from every block that w does not have yet. -/
theorem IsI.re {p q : Nat} {w : World} {v : Value} {l : List Int} (h : IsI p w v l) (hq : w.heap.size ≤ q) : IsI q w v l := by
  obtain ⟨A, c, hv, h1, h2, h3, h5, h4⟩ := h
  exact ⟨A, c, hv, h1, h2, h3, h5, fun k x hx => by obtain ⟨b, off, ha, hb, hc⟩ := h4 k x hx; have := lt_of_cell hc; simp at this; exact ⟨b, off, ha, by omega, hc⟩⟩
theorem IsS.re {α : Type} {p q size : Nat} {R R' : World → List Value → α → Prop} {w : World} {v : Value} {xs : List α} (h : IsS p size R w v xs) (hs : 0 < size) (hR : ∀ cs x, R w cs x → R' w cs x) (hq : w.heap.size ≤ q) : IsS q size R' w v xs := by
  obtain ⟨A, c, hv, h1, h2, h4⟩ := h
  refine ⟨A, c, hv, h1, h2, fun k x hx => ?_⟩
  obtain ⟨b, off, cs, ha, hb, hl, hc, hr⟩ := h4 k x hx
  have h0 := hc 0 cs[0] (List.getElem?_eq_getElem (by omega))
  have := lt_of_cell h0
  simp at this
  exact ⟨b, off, cs, ha, by omega, hl, hc, hR _ _ hr⟩
theorem IsP.re {p q : Nat} {w : World} {v : Value} {xs : List (List Int)} (h : IsP p w v xs) (hq : w.heap.size ≤ q) : IsP q w v xs :=
  IsS.re h (by decide) (fun cs x hr => by obtain ⟨u, rfl, hi⟩ := hr; exact ⟨u, rfl, hi.re hq⟩) hq
theorem IsQ.re {p q : Nat} {w : World} {v : Value} {xs : List Part} (h : IsQ p w v xs) (hq : w.heap.size ≤ q) : IsQ q w v xs := IsS.re h (by decide) (fun _ _ hr => hr) hq

set_option maxRecDepth 100000 in
set_option maxHeartbeats 8000000 in
theorem walkBookletOnce (v0 : Value) (l0 : List Int) (w : World) (h0 : IsI w.heap.size w v0 l0) :
    Calls Try.prog 10 #[v0] w fun e w' => e = .returned (.bool true) ∧ Ext w w' := by
  have H0 := Lib.hid h0
  clear h0
  go_enter Try.func10, Try.ntmps10
  go_wp2_with fail
  refine (new_any _ l0 _ H0.out).mono ?_
  rintro e w1 ⟨rfl, HT1, HE1⟩
  have hlt1 := HT1.lt
  go_wp2_with fail
  refine (long_any _ _ HT1).mono ?_
  rintro e w2 ⟨v2, rfl, ⟨pw, ps, rfl, hO, hv⟩, HT2, HX2⟩
  obtain ⟨A, c, rfl⟩ := hO.form
  have HQ := Lib.hid (hO.isQ hlt1 (vpa_wf hv))
  have hn24 : ps.length ≤ 24 := (vpa_of hv).2.2.2.2.2.1
  have hall := (vpa_of hv).2.2.2.2.2.2.1
  generalize hn : ps.length = n at *
  have HN := Lib.hid hn
  clear hn
  have HE := Lib.hid ((Ext.refl w2).alloc (.cells #[.int .i64 0, .int .i64 0, .slice A n c] 33))
  have HE2 := Lib.hid ((HX2.fresh HE1 (Nat.le_refl _)).trans HE.out)
  have HB2 := Lib.hid (show QBox (w2.alloc (.cells #[.int .i64 0, .int .i64 0, .slice A n c] 33)) w2.heap.size 0 0 (.slice A n c) from heap_alloc_new w2 _)
  replace HQ := Lib.hid ((HQ.out.ext (RPart.stab _) HE.out))
  have hlt2 := HT2.lt
  replace hv := Lib.hid hv
  replace hall := Lib.hid hall
  clear HT1 HX2 HE1 HT2 hO hlt1 HE
  go_upto_region 2 with (fail)
  generalize hW : w2.alloc (.cells #[.int .i64 0, .int .i64 0, .slice A n c] 33) = W2 at *
  clear hW
  obtain ⟨c0, c1, c2⟩ := HB2.out.cells
  have hw2W : w2.heap.size < W2.heap.size := HB2.out.lt
  have hltW : w.heap.size < W2.heap.size := by omega
  go_wp2_with fail
  refine (make_any _ _ _ ps _ hltW HQ.out).mono ?_
  rintro e w6 ⟨va, pgs, ea, rfl, hPa, hEa, ha1, ha2⟩
  obtain ⟨Aa, na, ca, rfl, _, _, _, HLa⟩ := hPa.open_
  have HM := Lib.hid (ha2 hv.out)
  have HE := Lib.hid (hEa.alloc (.cells #[.slice Aa na ca] 38))
  have k6 := Lib.hid (box1 (a := .slice Aa na ca) rfl (Ext.refl (w6.alloc (.cells #[.slice Aa na ca] 38))))
  replace hPa := Lib.hid hPa
  replace hPa := Lib.hid (hPa.out.ext (RI.stab _) ((Ext.refl _).alloc (.cells #[.slice Aa na ca] 38)))
  replace HQ := Lib.hid ((HQ.out.ext (RPart.stab _) HE.out))
  replace HB2 := Lib.hid (HB2.out.ext HE.out)
  replace HE2 := Lib.hid (HE2.out.trans HE.out)
  have hp6 : w.heap.size < (w6.alloc (.cells #[.slice Aa na ca] 38)).heap.size := by have := hEa.size; simp; omega
  clear hEa HE c0 c1 c2 ha1 ha2
  go_upto_region 3 with (fail)
  generalize hW : w6.alloc (.cells #[.slice Aa na ca] 38) = W6 at *
  clear hW
  by_cases hl12 : (makeP ps).length ≤ 12
  case neg =>
    obtain ⟨hpa, rfl⟩ := HM.out.1 (by omega)
    go_wp2_with fail
    refine (awake_any _ (by omega)).mono ?_
    rintro e x3 ⟨rfl, hx3⟩
    go_wp2_with fail
    go_ret
    exact ⟨rfl, HE2.out.trans hx3⟩
  obtain ⟨hpa, rfl⟩ := HM.out.2 hl12
  have hbk := bk_true (make_ok hv.out hl12)
  rw [← hpa] at hbk
  have hna : na ≤ 12 := by have := HLa.out; rw [hpa] at this; omega
  have hok := (bk_of hbk).2.2.2.2
  replace hbk := Lib.hid hbk
  replace hok := Lib.hid hok
  clear hpa HM hl12
  obtain ⟨c0, c1, c2⟩ := HB2.out.cells
  go_wp2_with fail
  refine (choices_any _ _ _ ps _ hp6 HQ.out hv.out).mono ?_
  rintro e x1 ⟨vc, rfl, hIc, hx1⟩
  obtain ⟨Ac, nc, cc, rfl, _, _, _, HLc⟩ := hIc.open_
  have hnc : nc ≤ 24 := by have := chTo_len ps ps.length; have := HLc.out; have := HN.out; omega
  replace hIc := Lib.hid hIc
  replace HQ := Lib.hid ((HQ.out.ext (RPart.stab _) hx1))
  replace HB2 := Lib.hid (HB2.out.ext hx1)
  replace HE2 := Lib.hid (HE2.out.trans hx1)
  replace hPa := Lib.hid ((hPa.out.ext (RI.stab _) hx1))
  replace k6 := Lib.hid ((hx1.cell k6.out))
  have hp1 : w.heap.size < x1.heap.size := Nat.lt_of_lt_of_le hp6 hx1.size
  clear c0 c1 c2 hx1
  obtain ⟨wo, rfl⟩ : ∃ wo : World, wo = x1 := ⟨_, rfl⟩
  go_wp2_with fail
  go_loopw [7, 9] (fun s7 s9 wr => ∃ (k m : Nat) (t : Int), s7 = .int .i64 t ∧ s9 = .int .i64 k ∧ k ≤ nc ∧ 0 ≤ t ∧ t ≤ 5 * k ∧ wr = wo.drewN m ∧ Hid (t = wantTo ps (chTo ps ps.length) k)) (fun _ i _ => nc - (intOf i).toNat)
  case atStart => exact ⟨0, 0, 0, rfl, rfl, by omega, by omega, by omega, rfl, by simp [Hid, wantTo]⟩
  case round =>
    obtain ⟨k, m, t, rfl, rfl, hk, ht0, ht5, rfl, HT⟩ := hrel
    obtain ⟨c0, c1, c2⟩ := HB2.out.cells
    by_cases hkn : k < nc
    · obtain ⟨bc, oc, z0, rfl, _⟩ := hIc.out.at_ hkn
      obtain ⟨x, hcx, HX, _, _⟩ := hIc.out.cell_ hkn
      obtain ⟨i, q, rfl, hi, hq, hk2⟩ := chTo_mem (List.mem_of_getElem? HX.out)
      have hin : i < n := by have := HN.out; omega
      obtain ⟨bq, oq, cs0, q0, rfl, _⟩ := HQ.out.at_ hin
      obtain ⟨q', d0, d1, d2, d3, d4, d5, _, HQq⟩ := HQ.out.part hin
      obtain rfl : q' = q := by have := HQq.out; rw [hq] at this; exact (Option.some.inj this).symm
      have hob : optOf ps (i : Int) = q'.opts := by unfold optOf; simp [hq]
      have hb5 := opt_bd hall.out (i : Int)
      rw [hob] at hb5
      obtain ⟨hb0, hb5⟩ := hb5
      have HS := Lib.hid (wantTo_succ (ps := ps) HX.out)
      rw [hob] at HS
      clear hq hk2 hob
      have hwr : IntKind.i64.wrap (t + q'.opts) = t + q'.opts := IntWalk.i64_in _ (by omega)
      have e1 : (0 : Int) ≤ (k : Int) := Int.natCast_nonneg _
      have e2 : (k : Int) < (nc : Int) := by omega
      have e3 : (0 : Int) ≤ (i : Int) := Int.natCast_nonneg _
      have e4 : (i : Int) < (n : Int) := by omega
      have hS : (wo.drewN m).drew.cell? ⟨w2.heap.size, 2, none⟩ = some (.slice (some ⟨bq, oq, none⟩) n c) ∧ (wo.drewN m).drew.cell? ⟨bc, oc + k, none⟩ = some (.int .i64 (i : Int)) ∧ (wo.drewN m).drew.cell? ⟨bq, oq + i * 6 + 4, none⟩ = some (.int .i64 q'.opts) := ⟨c2, hcx, d4⟩
      replace hS := Lib.hid hS
      go_wp2_with fail
      refine wp_region_k 99 (fun w' => w'.cell? ⟨w2.heap.size, 2, none⟩ = some (.slice (some ⟨bq, oq, none⟩) n c) ∧ w'.cell? ⟨bc, oc + k, none⟩ = some (.int .i64 (i : Int)) ∧ w'.cell? ⟨bq, oq + i * 6 + 4, none⟩ = some (.int .i64 q'.opts)) (by kernel_rfl) ?_
      refine wpAnyK_take 0 (some 37) (v := ?kv1) rfl rfl (by kernel_rfl) (by kernel_rfl) (by kernel_rfl) (by decide) (by kernel_rfl) (fun _ _ _ h => h) (by rfl) ?ky1 hS.out ?kr1
      case ky1 => ((intro wk hk); (try dsimp only at hk); go_simp; try with_reducible rfl)
      try simp only [Act.put, List.setIfInBounds_toArray, List.set_cons_zero, List.set_cons_succ]
      refine wpAnyK_take 1 (some 38) (v := ?kv2) rfl rfl (by kernel_rfl) (by kernel_rfl) (by kernel_rfl) (by decide) (by kernel_rfl) (fun _ _ _ h => h) (by rfl) ?ky2 hS.out ?kr2
      case ky2 => ((intro wk hk); (try dsimp only at hk); go_simp; try with_reducible rfl)
      try simp only [Act.put, List.setIfInBounds_toArray, List.set_cons_zero, List.set_cons_succ]
      refine wpAnyK_take 2 (some 39) (v := ?kv3) rfl rfl (by kernel_rfl) (by kernel_rfl) (by kernel_rfl) (by decide) (by kernel_rfl) (fun _ _ _ h => h) (by rfl) ?ky3 hS.out ?kr3
      case ky3 => ((intro wk hk); (try dsimp only at hk); go_simp; try with_reducible rfl)
      try simp only [Act.put, List.setIfInBounds_toArray, List.set_cons_zero, List.set_cons_succ]
      refine wpAnyK_take 3 (some 40) (v := ?kv4) rfl rfl (by kernel_rfl) (by kernel_rfl) (by kernel_rfl) (by decide) (by kernel_rfl) (fun _ _ _ h => h) (by rfl) ?ky4 hS.out ?kr4
      case ky4 => ((intro wk hk); (try dsimp only at hk); go_simp; try with_reducible rfl)
      try simp only [Act.put, List.setIfInBounds_toArray, List.set_cons_zero, List.set_cons_succ]
      refine wpAnyK_take 4 (some 41) (v := ?kv5) rfl rfl (by kernel_rfl) (by kernel_rfl) (by kernel_rfl) (by decide) (by kernel_rfl) (fun _ _ _ h => h) (by rfl) ?ky5 hS.out ?kr5
      case ky5 => ((intro wk hk); (try dsimp only at hk); go_simp; try with_reducible rfl)
      try simp only [Act.put, List.setIfInBounds_toArray, List.set_cons_zero, List.set_cons_succ]
      refine wpAnyK_take 5 (some 42) (v := ?kv6) rfl rfl (by kernel_rfl) (by kernel_rfl) (by kernel_rfl) (by decide) (by kernel_rfl) (fun _ _ _ h => h) (by rfl) ?ky6 hS.out ?kr6
      case ky6 => ((intro wk hk); (try dsimp only at hk); go_simp; try with_reducible rfl)
      try simp only [Act.put, List.setIfInBounds_toArray, List.set_cons_zero, List.set_cons_succ]
      refine wpAnyK_take 6 (some 43) (v := ?kv7) rfl rfl (by kernel_rfl) (by kernel_rfl) (by kernel_rfl) (by decide) (by kernel_rfl) (fun _ _ _ h => h) (by rfl) ?ky7 hS.out ?kr7
      case ky7 => ((intro wk hk); (try dsimp only at hk); go_simp; try with_reducible rfl)
      try simp only [Act.put, List.setIfInBounds_toArray, List.set_cons_zero, List.set_cons_succ]
      refine wpAnyK_take 7 (some 44) (v := ?kv8) rfl rfl (by kernel_rfl) (by kernel_rfl) (by kernel_rfl) (by decide) (by kernel_rfl) (fun _ _ _ h => h) (by rfl) ?ky8 hS.out ?kr8
      case ky8 => ((intro wk hk); (try dsimp only at hk); go_simp; try with_reducible rfl)
      try simp only [Act.put, List.setIfInBounds_toArray, List.set_cons_zero, List.set_cons_succ]
      refine wpAnyK_take 8 (some 45) (v := ?kv9) rfl rfl (by kernel_rfl) (by kernel_rfl) (by kernel_rfl) (by decide) (by kernel_rfl) (fun _ _ _ h => h) (by rfl) ?ky9 hS.out ?kr9
      case ky9 => ((intro wk hk); (try dsimp only at hk); go_simp; try with_reducible rfl)
      try simp only [Act.put, List.setIfInBounds_toArray, List.set_cons_zero, List.set_cons_succ]
      refine wpAnyK_take 9 (some 46) (v := ?kv10) rfl rfl (by kernel_rfl) (by kernel_rfl) (by kernel_rfl) (by decide) (by kernel_rfl) (fun _ _ _ h => h) (by rfl) ?ky10 hS.out ?kr10
      case ky10 => ((intro wk hk); (try dsimp only at hk); go_simp; try with_reducible rfl)
      try simp only [Act.put, List.setIfInBounds_toArray, List.set_cons_zero, List.set_cons_succ]
      refine wpAnyK_take 10 (some 47) (v := ?kv11) rfl rfl (by kernel_rfl) (by kernel_rfl) (by kernel_rfl) (by decide) (by kernel_rfl) (fun _ _ _ h => h) (by rfl) ?ky11 hS.out ?kr11
      case ky11 => ((intro wk hk); (try dsimp only at hk); go_simp; try with_reducible rfl)
      try simp only [Act.put, List.setIfInBounds_toArray, List.set_cons_zero, List.set_cons_succ]
      refine wpAnyK_take 11 (some 7) (v := ?kv12) rfl rfl (by kernel_rfl) (by kernel_rfl) (by kernel_rfl) (by decide) (by kernel_rfl) (fun _ _ _ h => h) (by rfl) ?ky12 hS.out ?kr12
      case ky12 => ((intro wk hk); (try dsimp only at hk); go_simp; try with_reducible rfl)
      try simp only [Act.put, List.setIfInBounds_toArray, List.set_cons_zero, List.set_cons_succ]
      refine wpAnyK_done (by kernel_rfl) ?_ _
      clear hwr hS
      go_wp2_with fail
      go_roundw
      case rel => exact ⟨k + 1, m + 1, t + q'.opts, rfl, by go_num, by omega, by omega, by omega, rfl, by show _ = _; rw [HS.out, ← HT.out]⟩
      case measure => simp [intOf]; omega
    · obtain rfl : k = nc := by omega
      have HTW : Hid (t = ((fldsOf ps (iv 0 n)).length : Int)) := by
        show _ = _
        rw [HT.out]
        unfold wantTo
        rw [take_all HLc.out, want_eq ps hall.out _ (Nat.le_refl _), HN.out]
      clear HT
      have HB2o := Lib.hid HB2.out
      have k6o := Lib.hid k6.out
      have hzv : ∀ w, (zeroValue 57).run Try.prog w = .ok (.agg (seenC []).toArray) w := fun _ => by kernel_rfl
      generalize hsc : seenC [] = sc at hzv
      have HSC := Lib.hid hsc
      clear hsc
      go_upto_region 12 with (fail)
      have HSB : Hid (((wo.drewN m).alloc (.cells sc.toArray 57)).heap[wo.heap.size]? = some (.cells (seenC (fldTo ps pgs 0)).toArray 57 (0, 0))) := by
        show _ = _
        rw [fldTo_zero, HSC.out]; exact heap_alloc_new (wo.drewN m) _
      have HEW : Hid (Ext wo ((wo.drewN m).alloc (.cells sc.toArray 57))) := ((Ext.refl _).drewN _).alloc _
      generalize hW : (wo.drewN m).alloc (.cells sc.toArray 57) = W at *
      clear hW hzv HSC
      have HQs := Lib.hid ((IsQ.re HQ.out (Nat.le_refl _)).ext (RPart.stab _) HEW.out)
      have HPs := Lib.hid ((IsP.re hPa.out (Nat.le_refl _)).ext (RI.stab _) HEW.out)
      replace HB2 := Lib.hid (HB2.out.ext HEW.out)
      replace k6 := Lib.hid (HEW.out.cell k6.out)
      have HE3 := Lib.hid (HE2.out.trans HEW.out)
      have hSW : wo.heap.size < W.heap.size := lt_of_blk HSB.out
      have hw2o : w2.heap.size ≠ wo.heap.size := by have := lt_of_blk (show wo.heap[w2.heap.size]? = _ from HB2o.out); omega
      have hw6o : w6.heap.size ≠ wo.heap.size := by have := lt_of_cell k6o.out; simp at this; omega
      clear HQ hPa HE2
      have hns : (ps.map need).length = n := by rw [List.length_map]; exact HN.out
      go_wp2_with fail
      go_loopw [8, 11] (fun s8 s11 wr => ∃ (i g : Nat), s8 = .int .i64 g ∧ s11 = .int .i64 i ∧ i ≤ na ∧ g ≤ 1000 ∧ Hid (g = (fldTo ps pgs i).length ∧ wr.heap[wo.heap.size]? = some (.cells (seenC (fldTo ps pgs i)).toArray 57 (0, 0)) ∧ XT wo.heap.size W wr)) (fun _ i _ => na - (intOf i).toNat)
      case atStart => exact ⟨0, 0, rfl, rfl, by omega, by omega, by rw [fldTo_zero]; rfl, HSB.out, XT.refl _ _⟩
      case round =>
        obtain ⟨i, g, rfl, rfl, hi, hg, HR⟩ := hrel
        obtain ⟨r1, r2, r3⟩ := HR.out
        replace r1 := Lib.hid r1
        replace r2 := Lib.hid r2
        replace r3 := Lib.hid r3
        clear HR HSB HEW
        obtain ⟨c0, c1, c2⟩ := (HB2.out.xt r3.out hw2o).cells
        have k9 := r3.out.cell k6.out hw6o
        by_cases hin : i < na
        · obtain ⟨pg, hpg⟩ : ∃ pg, pgs[i]? = some pg := ⟨_, List.getElem?_eq_getElem (by have := HLa.out; omega)⟩
          have hlr : wo.heap.size < wr.heap.size := by have := r3.out.size; omega
          have hFI := fieldsP_in hbk.out hpg
          replace hpg := Lib.hid hpg
          go_wp2_with fail
          refine (fields_any _ _ _ _ _ ps pgs _ hlr (HQs.out.xt (RPart.stab _) r3.out) (HPs.out.xt (RI.stab _) r3.out) ⟨by omega, by omega⟩).mono ?_
          rintro e x2 ⟨vf, rfl, hF, hx2⟩
          rw [hFI] at hF
          replace hFI := Lib.hid hFI
          obtain ⟨Af, nf, cf, rfl, _, _, _, HLF⟩ := hF.open_
          have hlen : g + nf ≤ 1000 := by
            have h1 : (fldTo ps pgs (i + 1)).length ≤ 5 * consP pgs (i + 1) := flds_iv_len hall.out _
            rw [fldTo_succ hok.out hpg.out, List.length_append] at h1
            have h2 := consP_le hok.out (i + 1)
            have := HLF.out
            have := r1.out
            omega
          replace hF := Lib.hid hF
          replace r2 := Lib.hid (hx2.blk r2.out)
          replace r3 := Lib.hid (r3.out.ext hx2)
          clear c0 c1 c2 k9 hx2
          obtain ⟨wy, rfl⟩ : ∃ wy : World, wy = x2 := ⟨_, rfl⟩
          go_wp2_with fail
          go_loopw [8, 13] (fun s8 s13 wr => ∃ (k : Nat), s8 = .int .i64 ((g + k : Nat) : Int) ∧ s13 = .int .i64 k ∧ k ≤ nf ∧ Hid (wr.heap[wo.heap.size]? = some (.cells (seenC (fldTo ps pgs i ++ (fldsOf ps pg).take k)).toArray 57 (0, 0)) ∧ XT wo.heap.size W wr ∧ IsF wo.heap.size wr (.slice Af nf cf) (fldsOf ps pg))) (fun _ i _ => nf - (intOf i).toNat)
          case atStart => exact ⟨0, rfl, rfl, by omega, by simpa using r2.out, r3.out, hF.out⟩
          case round =>
            obtain ⟨k2, rfl, rfl, hk2, HR⟩ := hrel
            clear r2 r3
            obtain ⟨r2, r3, r4⟩ := HR.out
            replace r2 := Lib.hid r2
            replace r3 := Lib.hid r3
            replace r4 := Lib.hid r4
            clear HR
            by_cases hkf : k2 < nf
            · obtain ⟨bf, of, cs1, z1, rfl, _⟩ := r4.out.at_ hkf
              obtain ⟨q, f0, f1, HF, _, _⟩ := r4.out.fld hkf
              obtain ⟨u, o, hqp, hqo, hun, ⟨r, hr, hor⟩, ho5, hpo, hsn, hky⟩ := fld_facts hok.out hall.out hpg.out HF.out
              have hun' : u < n := by have := HN.out; omega
              have HQr := Lib.hid (HQs.out.xt (RPart.stab _) r3.out)
              have HPr := Lib.hid (HPs.out.xt (RI.stab _) r3.out)
              obtain ⟨bq, oq, cs0, q0, rfl, _⟩ := HQr.out.at_ hun'
              obtain ⟨q', d0, d1, d2, d3, d4, d5, _, HQq⟩ := HQr.out.part hun'
              obtain rfl : q' = r := by have := HQq.out; rw [hr] at this; exact (Option.some.inj this).symm
              rw [hqp] at f0
              rw [hqo] at f1
              obtain ⟨c0, c1, c2⟩ := (HB2.out.xt r3.out hw2o).cells
              have k9 := r3.out.cell k6.out hw6o
              have g0 : wr.cell? ⟨wo.heap.size, u * 5 + o, none⟩ = some (.bool false) := blk_cell r2.out (by rw [List.getElem?_toArray, seenC_at _ (by omega), hsn])
              have hd1 : decide ((u : Int) < 0) = false := by simp
              have hd2 : decide ((n : Int) ≤ (u : Int)) = false := by simp; omega
              have hd2' : decide (n ≤ u) = false := by simp; omega
              have hd3 : decide ((o : Int) < 0) = false := by simp
              have hd4 : decide (q'.opts ≤ (o : Int)) = false := by simp; omega
              have hpi : (pageOf pgs (u : Int) != (i : Int)) = false := by rw [hpo]; simp
              have e1 : (0 : Int) ≤ (k2 : Int) := Int.natCast_nonneg _
              have e2 : (k2 : Int) < (nf : Int) := by omega
              have e3 : (0 : Int) ≤ (u : Int) := Int.natCast_nonneg _
              have e4 : (u : Int) < (n : Int) := by omega
              have e5 : (u : Int) < 24 := by omega
              have e6 : (0 : Int) ≤ (o : Int) := Int.natCast_nonneg _
              have e7 : (o : Int) < 5 := by omega
              have hS : wr.drew.cell? ⟨w2.heap.size, 2, none⟩ = some (.slice (some ⟨bq, oq, none⟩) n c) ∧ wr.drew.cell? ⟨w6.heap.size, 0, none⟩ = some (.slice Aa na ca) ∧ wr.drew.cell? ⟨bf, of + k2 * 2, none⟩ = some (.int .i64 (u : Int)) ∧ wr.drew.cell? ⟨bf, of + k2 * 2 + 1, none⟩ = some (.int .i64 (o : Int)) ∧ wr.drew.cell? ⟨bq, oq + u * 6 + 4, none⟩ = some (.int .i64 q'.opts) ∧ wr.drew.cell? ⟨wo.heap.size, u * 5 + o, none⟩ = some (.bool false) := ⟨c2, k9, f0, f1, d4, g0⟩
              replace hS := Lib.hid hS
              replace hr := Lib.hid hr
              replace hor := Lib.hid hor
              replace hsn := Lib.hid hsn
              replace hky := Lib.hid hky
              replace hqp := Lib.hid hqp
              replace hqo := Lib.hid hqo
              clear c0 c1 c2 k9 d0 d1 d2 d3 d4 d5 g0 hpo HQq HQr
              go_upto_region 19 with (fail)
              refine wp_region_k 99 (fun w' => w'.cell? ⟨w2.heap.size, 2, none⟩ = some (.slice (some ⟨bq, oq, none⟩) n c) ∧ w'.cell? ⟨w6.heap.size, 0, none⟩ = some (.slice Aa na ca) ∧ w'.cell? ⟨bf, of + k2 * 2, none⟩ = some (.int .i64 (u : Int)) ∧ w'.cell? ⟨bf, of + k2 * 2 + 1, none⟩ = some (.int .i64 (o : Int)) ∧ w'.cell? ⟨bq, oq + u * 6 + 4, none⟩ = some (.int .i64 q'.opts) ∧ w'.cell? ⟨wo.heap.size, u * 5 + o, none⟩ = some (.bool false)) (by kernel_rfl) ?_
              refine wpAnyK_take 0 (some 65) (v := ?kv13) rfl rfl (by kernel_rfl) (by kernel_rfl) (by kernel_rfl) (by decide) (by kernel_rfl) (fun _ _ _ h => h) (by rfl) ?ky13 hS.out ?kr13
              case ky13 => ((intro wk hk); (try dsimp only at hk); go_simp; try with_reducible rfl)
              try simp only [Act.put, List.setIfInBounds_toArray, List.set_cons_zero, List.set_cons_succ]
              refine wpAnyK_take 1 (some 66) (v := ?kv14) rfl rfl (by kernel_rfl) (by kernel_rfl) (by kernel_rfl) (by decide) (by kernel_rfl) (fun _ _ _ h => h) (by rfl) ?ky14 hS.out ?kr14
              case ky14 => ((intro wk hk); (try dsimp only at hk); go_simp; try with_reducible rfl)
              try simp only [Act.put, List.setIfInBounds_toArray, List.set_cons_zero, List.set_cons_succ]
              refine wpAnyK_take 2 (some 67) (v := ?kv15) rfl rfl (by kernel_rfl) (by kernel_rfl) (by kernel_rfl) (by decide) (by kernel_rfl) (fun _ _ _ h => h) (by rfl) ?ky15 hS.out ?kr15
              case ky15 => ((intro wk hk); (try dsimp only at hk); go_simp; try with_reducible rfl)
              try simp only [Act.put, List.setIfInBounds_toArray, List.set_cons_zero, List.set_cons_succ]
              refine wpAnyK_take 3 (some 68) (v := ?kv16) rfl rfl (by kernel_rfl) (by kernel_rfl) (by kernel_rfl) (by decide) (by kernel_rfl) (fun _ _ _ h => h) (by rfl) ?ky16 hS.out ?kr16
              case ky16 => ((intro wk hk); (try dsimp only at hk); go_simp; try with_reducible rfl)
              try simp only [Act.put, List.setIfInBounds_toArray, List.set_cons_zero, List.set_cons_succ]
              refine wpAnyK_take 4 (some 69) (v := ?kv17) rfl rfl (by kernel_rfl) (by kernel_rfl) (by kernel_rfl) (by decide) (by kernel_rfl) (fun _ _ _ h => h) (by rfl) ?ky17 hS.out ?kr17
              case ky17 => ((intro wk hk); (try dsimp only at hk); go_simp; try with_reducible rfl)
              try simp only [Act.put, List.setIfInBounds_toArray, List.set_cons_zero, List.set_cons_succ]
              refine wpAnyK_take 5 (some 70) (v := ?kv18) rfl rfl (by kernel_rfl) (by kernel_rfl) (by kernel_rfl) (by decide) (by kernel_rfl) (fun _ _ _ h => h) (by rfl) ?ky18 hS.out ?kr18
              case ky18 => ((intro wk hk); (try dsimp only at hk); go_simp; try with_reducible rfl)
              try simp only [Act.put, List.setIfInBounds_toArray, List.set_cons_zero, List.set_cons_succ]
              refine wpAnyK_take 6 (some 71) (v := ?kv19) rfl rfl (by kernel_rfl) (by kernel_rfl) (by kernel_rfl) (by decide) (by kernel_rfl) (fun _ _ _ h => h) (by rfl) ?ky19 hS.out ?kr19
              case ky19 => ((intro wk hk); (try dsimp only at hk); go_simp; try with_reducible rfl)
              try simp only [Act.put, List.setIfInBounds_toArray, List.set_cons_zero, List.set_cons_succ]
              refine wpAnyK_take 7 (some 72) (v := ?kv20) rfl rfl (by kernel_rfl) (by kernel_rfl) (by kernel_rfl) (by decide) (by kernel_rfl) (fun _ _ _ h => h) (by rfl) ?ky20 hS.out ?kr20
              case ky20 => ((intro wk hk); (try dsimp only at hk); go_simp; try with_reducible rfl)
              try simp only [Act.put, List.setIfInBounds_toArray, List.set_cons_zero, List.set_cons_succ]
              refine wpAnyK_take 8 (some 73) (v := ?kv21) rfl rfl (by kernel_rfl) (by kernel_rfl) (by kernel_rfl) (by decide) (by kernel_rfl) (fun _ _ _ h => h) (by rfl) ?ky21 hS.out ?kr21
              case ky21 => ((intro wk hk); (try dsimp only at hk); go_simp; try with_reducible rfl)
              try simp only [Act.put, List.setIfInBounds_toArray, List.set_cons_zero, List.set_cons_succ]
              refine wpAnyK_take 9 (some 74) (v := ?kv22) rfl rfl (by kernel_rfl) (by kernel_rfl) (by kernel_rfl) (by decide) (by kernel_rfl) (fun _ _ _ h => h) (by rfl) ?ky22 hS.out ?kr22
              case ky22 => ((intro wk hk); (try dsimp only at hk); go_simp; try with_reducible rfl)
              try simp only [Act.put, List.setIfInBounds_toArray, List.set_cons_zero, List.set_cons_succ]
              refine wpAnyK_take 10 (some 75) (v := ?kv23) rfl rfl (by kernel_rfl) (by kernel_rfl) (by kernel_rfl) (by decide) (by kernel_rfl) (fun _ _ _ h => h) (by rfl) ?ky23 hS.out ?kr23
              case ky23 => ((intro wk hk); (try dsimp only at hk); go_simp; try with_reducible rfl)
              try simp only [Act.put, List.setIfInBounds_toArray, List.set_cons_zero, List.set_cons_succ]
              refine wpAnyK_take 11 (some 76) (v := ?kv24) rfl rfl (by kernel_rfl) (by kernel_rfl) (by kernel_rfl) (by decide) (by kernel_rfl) (fun _ _ _ h => h) (by rfl) ?ky24 hS.out ?kr24
              case ky24 => ((intro wk hk); (try dsimp only at hk); go_simp; try with_reducible rfl)
              try simp only [Act.put, List.setIfInBounds_toArray, List.set_cons_zero, List.set_cons_succ]
              refine wpAnyK_take 12 (some 77) (v := ?kv25) rfl rfl (by kernel_rfl) (by kernel_rfl) (by kernel_rfl) (by decide) (by kernel_rfl) (fun _ _ _ h => h) (by rfl) ?ky25 hS.out ?kr25
              case ky25 => ((intro wk hk); (try dsimp only at hk); go_simp; try with_reducible rfl)
              try simp only [Act.put, List.setIfInBounds_toArray, List.set_cons_zero, List.set_cons_succ]
              refine wpAnyK_take 13 (some 78) (v := ?kv26) rfl rfl (by kernel_rfl) (by kernel_rfl) (by kernel_rfl) (by decide) (by kernel_rfl) (fun _ _ _ h => h) (by rfl) ?ky26 hS.out ?kr26
              case ky26 => ((intro wk hk); (try dsimp only at hk); go_simp; try with_reducible rfl)
              try simp only [Act.put, List.setIfInBounds_toArray, List.set_cons_zero, List.set_cons_succ]
              refine wpAnyK_take 14 (some 79) (v := ?kv27) rfl rfl (by kernel_rfl) (by kernel_rfl) (by kernel_rfl) (by decide) (by kernel_rfl) (fun _ _ _ h => h) (by rfl) ?ky27 hS.out ?kr27
              case ky27 => ((intro wk hk); (try dsimp only at hk); go_simp; try with_reducible rfl)
              try simp only [Act.put, List.setIfInBounds_toArray, List.set_cons_zero, List.set_cons_succ]
              refine wpAnyK_take 15 (some 80) (v := ?kv28) rfl rfl (by kernel_rfl) (by kernel_rfl) (by kernel_rfl) (by decide) (by kernel_rfl) (fun _ _ _ h => h) (by rfl) ?ky28 hS.out ?kr28
              case ky28 => ((intro wk hk); (try dsimp only at hk); go_simp; try with_reducible rfl)
              try simp only [Act.put, List.setIfInBounds_toArray, List.set_cons_zero, List.set_cons_succ]
              refine wpAnyK_take 16 (some 81) (v := ?kv29) rfl rfl (by kernel_rfl) (by kernel_rfl) (by kernel_rfl) (by decide) (by kernel_rfl) (fun _ _ _ h => h) (by rfl) ?ky29 hS.out ?kr29
              case ky29 => ((intro wk hk); (try dsimp only at hk); go_simp; try with_reducible rfl)
              try simp only [Act.put, List.setIfInBounds_toArray, List.set_cons_zero, List.set_cons_succ]
              refine wpAnyK_take 17 (some 82) (v := ?kv30) rfl rfl (by kernel_rfl) (by kernel_rfl) (by kernel_rfl) (by decide) (by kernel_rfl) (fun _ _ _ h => h) (by rfl) ?ky30 hS.out ?kr30
              case ky30 => ((intro wk hk); (try dsimp only at hk); go_simp; try with_reducible rfl)
              try simp only [Act.put, List.setIfInBounds_toArray, List.set_cons_zero, List.set_cons_succ]
              refine wpAnyK_take 18 (some 83) (v := ?kv31) rfl rfl (by kernel_rfl) (by kernel_rfl) (by kernel_rfl) (by decide) (by kernel_rfl) (fun _ _ _ h => h) (by rfl) ?ky31 hS.out ?kr31
              case ky31 => ((intro wk hk); (try dsimp only at hk); go_simp; try with_reducible rfl)
              try simp only [Act.put, List.setIfInBounds_toArray, List.set_cons_zero, List.set_cons_succ]
              refine wpAnyK_take 19 (some 84) (v := ?kv32) rfl rfl (by kernel_rfl) (by kernel_rfl) (by kernel_rfl) (by decide) (by kernel_rfl) (fun _ _ _ h => h) (by rfl) ?ky32 hS.out ?kr32
              case ky32 => ((intro wk hk); (try dsimp only at hk); go_simp; try with_reducible rfl)
              try simp only [Act.put, List.setIfInBounds_toArray, List.set_cons_zero, List.set_cons_succ]
              refine wpAnyK_take 20 (some 85) (v := ?kv33) rfl rfl (by kernel_rfl) (by kernel_rfl) (by kernel_rfl) (by decide) (by kernel_rfl) (fun _ _ _ h => h) (by rfl) ?ky33 hS.out ?kr33
              case ky33 => ((intro wk hk); (try dsimp only at hk); go_simp; try with_reducible rfl)
              try simp only [Act.put, List.setIfInBounds_toArray, List.set_cons_zero, List.set_cons_succ]
              refine wpAnyK_take 21 (some 86) (v := ?kv34) rfl rfl (by kernel_rfl) (by kernel_rfl) (by kernel_rfl) (by decide) (by kernel_rfl) (fun _ _ _ h => h) (by rfl) ?ky34 hS.out ?kr34
              case ky34 => ((intro wk hk); (try dsimp only at hk); go_simp; try with_reducible rfl)
              try simp only [Act.put, List.setIfInBounds_toArray, List.set_cons_zero, List.set_cons_succ]
              refine wpAnyK_take 22 (some 87) (v := ?kv35) rfl rfl (by kernel_rfl) (by kernel_rfl) (by kernel_rfl) (by decide) (by kernel_rfl) (fun _ _ _ h => h) (by rfl) ?ky35 hS.out ?kr35
              case ky35 => ((intro wk hk); (try dsimp only at hk); go_simp; try with_reducible rfl)
              try simp only [Act.put, List.setIfInBounds_toArray, List.set_cons_zero, List.set_cons_succ]
              refine wpAnyK_take 23 (some 88) (v := ?kv36) rfl rfl (by kernel_rfl) (by kernel_rfl) (by kernel_rfl) (by decide) (by kernel_rfl) (fun _ _ _ h => h) (by rfl) ?ky36 hS.out ?kr36
              case ky36 => ((intro wk hk); (try dsimp only at hk); go_simp; try with_reducible rfl)
              try simp only [Act.put, List.setIfInBounds_toArray, List.set_cons_zero, List.set_cons_succ]
              refine wpAnyK_take 24 (some 89) (v := ?kv37) rfl rfl (by kernel_rfl) (by kernel_rfl) (by kernel_rfl) (by decide) (by kernel_rfl) (fun _ _ _ h => h) (by rfl) ?ky37 hS.out ?kr37
              case ky37 => ((intro wk hk); (try dsimp only at hk); go_simp; try with_reducible rfl)
              try simp only [Act.put, List.setIfInBounds_toArray, List.set_cons_zero, List.set_cons_succ]
              refine wpAnyK_take 25 (some 90) (v := ?kv38) rfl rfl (by kernel_rfl) (by kernel_rfl) (by kernel_rfl) (by decide) (by kernel_rfl) (fun _ _ _ h => h) (by rfl) ?ky38 hS.out ?kr38
              case ky38 => ((intro wk hk); (try dsimp only at hk); go_simp; try with_reducible rfl)
              try simp only [Act.put, List.setIfInBounds_toArray, List.set_cons_zero, List.set_cons_succ]
              refine wpAnyK_take 26 (some 91) (v := ?kv39) rfl rfl (by kernel_rfl) (by kernel_rfl) (by kernel_rfl) (by decide) (by kernel_rfl) (fun _ _ _ h => h) (by rfl) ?ky39 hS.out ?kr39
              case ky39 => ((intro wk hk); (try dsimp only at hk); go_simp; try with_reducible rfl)
              try simp only [Act.put, List.setIfInBounds_toArray, List.set_cons_zero, List.set_cons_succ]
              refine wpAnyK_take 27 (some 92) (v := ?kv40) rfl rfl (by kernel_rfl) (by kernel_rfl) (by kernel_rfl) (by decide) (by kernel_rfl) (fun _ _ _ h => h) (by rfl) ?ky40 hS.out ?kr40
              case ky40 => ((intro wk hk); (try dsimp only at hk); go_simp; try with_reducible rfl)
              try simp only [Act.put, List.setIfInBounds_toArray, List.set_cons_zero, List.set_cons_succ]
              refine wpAnyK_take 28 (some 93) (v := ?kv41) rfl rfl (by kernel_rfl) (by kernel_rfl) (by kernel_rfl) (by decide) (by kernel_rfl) (fun _ _ _ h => h) (by rfl) ?ky41 hS.out ?kr41
              case ky41 => ((intro wk hk); (try dsimp only at hk); go_simp; try with_reducible rfl)
              try simp only [Act.put, List.setIfInBounds_toArray, List.set_cons_zero, List.set_cons_succ]
              refine wpAnyK_take 29 (some 94) (v := ?kv42) rfl rfl (by kernel_rfl) (by kernel_rfl) (by kernel_rfl) (by decide) (by kernel_rfl) (fun _ _ _ h => h) (by rfl) ?ky42 hS.out ?kr42
              case ky42 => ((intro wk hk); (try dsimp only at hk); go_simp; try with_reducible rfl)
              try simp only [Act.put, List.setIfInBounds_toArray, List.set_cons_zero, List.set_cons_succ]
              refine wpAnyK_take 30 (some 95) (v := ?kv43) rfl rfl (by kernel_rfl) (by kernel_rfl) (by kernel_rfl) (by decide) (by kernel_rfl) (fun _ _ _ h => h) (by rfl) ?ky43 hS.out ?kr43
              case ky43 => ((intro wk hk); (try dsimp only at hk); go_simp; try with_reducible rfl)
              try simp only [Act.put, List.setIfInBounds_toArray, List.set_cons_zero, List.set_cons_succ]
              refine wpAnyK_take 31 (some 96) (v := ?kv44) rfl rfl (by kernel_rfl) (by kernel_rfl) (by kernel_rfl) (by decide) (by kernel_rfl) (fun _ _ _ h => h) (by rfl) ?ky44 hS.out ?kr44
              case ky44 => ((intro wk hk); (try dsimp only at hk); go_simp; try with_reducible rfl)
              try simp only [Act.put, List.setIfInBounds_toArray, List.set_cons_zero, List.set_cons_succ]
              refine wpAnyK_take 32 (some 97) (v := ?kv45) rfl rfl (by kernel_rfl) (by kernel_rfl) (by kernel_rfl) (by decide) (by kernel_rfl) (fun _ _ _ h => h) (by rfl) ?ky45 hS.out ?kr45
              case ky45 => ((intro wk hk); (try dsimp only at hk); go_simp; try with_reducible rfl)
              try simp only [Act.put, List.setIfInBounds_toArray, List.set_cons_zero, List.set_cons_succ]
              refine wpAnyK_take 33 (some 98) (v := ?kv46) rfl rfl (by kernel_rfl) (by kernel_rfl) (by kernel_rfl) (by decide) (by kernel_rfl) (fun _ _ _ h => h) (by rfl) ?ky46 hS.out ?kr46
              case ky46 => ((intro wk hk); (try dsimp only at hk); go_simp; try with_reducible rfl)
              try simp only [Act.put, List.setIfInBounds_toArray, List.set_cons_zero, List.set_cons_succ]
              refine wpAnyK_take 34 (some 99) (v := ?kv47) rfl rfl (by kernel_rfl) (by kernel_rfl) (by kernel_rfl) (by decide) (by kernel_rfl) (fun _ _ _ h => h) (by rfl) ?ky47 hS.out ?kr47
              case ky47 => ((intro wk hk); (try dsimp only at hk); go_simp; try with_reducible rfl)
              try simp only [Act.put, List.setIfInBounds_toArray, List.set_cons_zero, List.set_cons_succ]
              refine wpAnyK_take 35 (some 100) (v := ?kv48) rfl rfl (by kernel_rfl) (by kernel_rfl) (by kernel_rfl) (by decide) (by kernel_rfl) (fun _ _ _ h => h) (by rfl) ?ky48 hS.out ?kr48
              case ky48 => ((intro wk hk); (try dsimp only at hk); go_simp; try with_reducible rfl)
              try simp only [Act.put, List.setIfInBounds_toArray, List.set_cons_zero, List.set_cons_succ]
              refine wpAnyK_take 36 (some 101) (v := ?kv49) rfl rfl (by kernel_rfl) (by kernel_rfl) (by kernel_rfl) (by decide) (by kernel_rfl) (fun _ _ _ h => h) (by rfl) ?ky49 hS.out ?kr49
              case ky49 => ((intro wk hk); (try dsimp only at hk); go_simp; try with_reducible rfl)
              try simp only [Act.put, List.setIfInBounds_toArray, List.set_cons_zero, List.set_cons_succ]
              refine wpAnyK_take 37 (some 102) (v := ?kv50) rfl rfl (by kernel_rfl) (by kernel_rfl) (by kernel_rfl) (by decide) (by kernel_rfl) (fun _ _ _ h => h) (by rfl) ?ky50 hS.out ?kr50
              case ky50 => ((intro wk hk); (try dsimp only at hk); go_simp; try with_reducible rfl)
              try simp only [Act.put, List.setIfInBounds_toArray, List.set_cons_zero, List.set_cons_succ]
              refine wpAnyK_take 38 (some 103) (v := ?kv51) rfl rfl (by kernel_rfl) (by kernel_rfl) (by kernel_rfl) (by decide) (by kernel_rfl) (fun _ _ _ h => h) (by rfl) ?ky51 hS.out ?kr51
              case ky51 => ((intro wk hk); (try dsimp only at hk); go_simp; try with_reducible rfl)
              try simp only [Act.put, List.setIfInBounds_toArray, List.set_cons_zero, List.set_cons_succ]
              refine wpAnyK_take 39 (some 104) (v := ?kv52) rfl rfl (by kernel_rfl) (by kernel_rfl) (by kernel_rfl) (by decide) (by kernel_rfl) (fun _ _ _ h => h) (by rfl) ?ky52 hS.out ?kr52
              case ky52 => ((intro wk hk); (try dsimp only at hk); go_simp; try with_reducible rfl)
              try simp only [Act.put, List.setIfInBounds_toArray, List.set_cons_zero, List.set_cons_succ]
              refine wpAnyK_take 40 (some 105) (v := ?kv53) rfl rfl (by kernel_rfl) (by kernel_rfl) (by kernel_rfl) (by decide) (by kernel_rfl) (fun _ _ _ h => h) (by rfl) ?ky53 hS.out ?kr53
              case ky53 => ((intro wk hk); (try dsimp only at hk); go_simp; try with_reducible rfl)
              try simp only [Act.put, List.setIfInBounds_toArray, List.set_cons_zero, List.set_cons_succ]
              refine wpAnyK_take 41 (some 106) (v := ?kv54) rfl rfl (by kernel_rfl) (by kernel_rfl) (by kernel_rfl) (by decide) (by kernel_rfl) (fun _ _ _ h => h) (by rfl) ?ky54 hS.out ?kr54
              case ky54 => ((intro wk hk); (try dsimp only at hk); go_simp; try with_reducible rfl)
              try simp only [Act.put, List.setIfInBounds_toArray, List.set_cons_zero, List.set_cons_succ]
              refine wpAnyK_take 42 (some 107) (v := ?kv55) rfl rfl (by kernel_rfl) (by kernel_rfl) (by kernel_rfl) (by decide) (by kernel_rfl) (fun _ _ _ h => h) (by rfl) ?ky55 hS.out ?kr55
              case ky55 => ((intro wk hk); (try dsimp only at hk); go_simp; try with_reducible rfl)
              try simp only [Act.put, List.setIfInBounds_toArray, List.set_cons_zero, List.set_cons_succ]
              refine wpAnyK_take 43 (some 108) (v := ?kv56) rfl rfl (by kernel_rfl) (by kernel_rfl) (by kernel_rfl) (by decide) (by kernel_rfl) (fun _ _ _ h => h) (by rfl) ?ky56 hS.out ?kr56
              case ky56 => ((intro wk hk); (try dsimp only at hk); go_simp; try with_reducible rfl)
              try simp only [Act.put, List.setIfInBounds_toArray, List.set_cons_zero, List.set_cons_succ]
              refine wpAnyK_take 44 (some 109) (v := ?kv57) rfl rfl (by kernel_rfl) (by kernel_rfl) (by kernel_rfl) (by decide) (by kernel_rfl) (fun _ _ _ h => h) (by rfl) ?ky57 hS.out ?kr57
              case ky57 => ((intro wk hk); (try dsimp only at hk); go_simp; try with_reducible rfl)
              try simp only [Act.put, List.setIfInBounds_toArray, List.set_cons_zero, List.set_cons_succ]
              refine wpAnyK_take 45 (some 110) (v := ?kv58) rfl rfl (by kernel_rfl) (by kernel_rfl) (by kernel_rfl) (by decide) (by kernel_rfl) (fun _ _ _ h => h) (by rfl) ?ky58 hS.out ?kr58
              case ky58 => ((intro wk hk); (try dsimp only at hk); go_simp; try with_reducible rfl)
              try simp only [Act.put, List.setIfInBounds_toArray, List.set_cons_zero, List.set_cons_succ]
              refine wpAnyK_take 46 (some 111) (v := ?kv59) rfl rfl (by kernel_rfl) (by kernel_rfl) (by kernel_rfl) (by decide) (by kernel_rfl) (fun _ _ _ h => h) (by rfl) ?ky59 hS.out ?kr59
              case ky59 => ((intro wk hk); (try dsimp only at hk); go_simp; try with_reducible rfl)
              try simp only [Act.put, List.setIfInBounds_toArray, List.set_cons_zero, List.set_cons_succ]
              refine wpAnyK_take 47 (some 112) (v := ?kv60) rfl rfl (by kernel_rfl) (by kernel_rfl) (by kernel_rfl) (by decide) (by kernel_rfl) (fun _ _ _ h => h) (by rfl) ?ky60 hS.out ?kr60
              case ky60 => ((intro wk hk); (try dsimp only at hk); go_simp; try with_reducible rfl)
              try simp only [Act.put, List.setIfInBounds_toArray, List.set_cons_zero, List.set_cons_succ]
              refine wpAnyK_take 48 (some 113) (v := ?kv61) rfl rfl (by kernel_rfl) (by kernel_rfl) (by kernel_rfl) (by decide) (by kernel_rfl) (fun _ _ _ h => h) (by rfl) ?ky61 hS.out ?kr61
              case ky61 => ((intro wk hk); (try dsimp only at hk); go_simp; try with_reducible rfl)
              try simp only [Act.put, List.setIfInBounds_toArray, List.set_cons_zero, List.set_cons_succ]
              refine wpAnyK_take 49 (some 114) (v := ?kv62) rfl rfl (by kernel_rfl) (by kernel_rfl) (by kernel_rfl) (by decide) (by kernel_rfl) (fun _ _ _ h => h) (by rfl) ?ky62 hS.out ?kr62
              case ky62 => ((intro wk hk); (try dsimp only at hk); go_simp; try with_reducible rfl)
              try simp only [Act.put, List.setIfInBounds_toArray, List.set_cons_zero, List.set_cons_succ]
              refine wpAnyK_take 50 (some 115) (v := ?kv63) rfl rfl (by kernel_rfl) (by kernel_rfl) (by kernel_rfl) (by decide) (by kernel_rfl) (fun _ _ _ h => h) (by rfl) ?ky63 hS.out ?kr63
              case ky63 => ((intro wk hk); (try dsimp only at hk); go_simp; try with_reducible rfl)
              try simp only [Act.put, List.setIfInBounds_toArray, List.set_cons_zero, List.set_cons_succ]
              refine wpAnyK_take 51 (some 116) (v := ?kv64) rfl rfl (by kernel_rfl) (by kernel_rfl) (by kernel_rfl) (by decide) (by kernel_rfl) (fun _ _ _ h => h) (by rfl) ?ky64 hS.out ?kr64
              case ky64 => ((intro wk hk); (try dsimp only at hk); go_simp; try with_reducible rfl)
              try simp only [Act.put, List.setIfInBounds_toArray, List.set_cons_zero, List.set_cons_succ]
              refine wpAnyK_take 52 (some 117) (v := ?kv65) rfl rfl (by kernel_rfl) (by kernel_rfl) (by kernel_rfl) (by decide) (by kernel_rfl) (fun _ _ _ h => h) (by rfl) ?ky65 hS.out ?kr65
              case ky65 => ((intro wk hk); (try dsimp only at hk); go_simp; try with_reducible rfl)
              try simp only [Act.put, List.setIfInBounds_toArray, List.set_cons_zero, List.set_cons_succ]
              refine wpAnyK_take 53 (some 118) (v := ?kv66) rfl rfl (by kernel_rfl) (by kernel_rfl) (by kernel_rfl) (by decide) (by kernel_rfl) (fun _ _ _ h => h) (by rfl) ?ky66 hS.out ?kr66
              case ky66 => ((intro wk hk); (try dsimp only at hk); go_simp; try with_reducible rfl)
              try simp only [Act.put, List.setIfInBounds_toArray, List.set_cons_zero, List.set_cons_succ]
              refine wpAnyK_take 54 (some 119) (v := ?kv67) rfl rfl (by kernel_rfl) (by kernel_rfl) (by kernel_rfl) (by decide) (by kernel_rfl) (fun _ _ _ h => h) (by rfl) ?ky67 hS.out ?kr67
              case ky67 => ((intro wk hk); (try dsimp only at hk); go_simp; try with_reducible rfl)
              try simp only [Act.put, List.setIfInBounds_toArray, List.set_cons_zero, List.set_cons_succ]
              refine wpAnyK_take 55 (some 120) (v := ?kv68) rfl rfl (by kernel_rfl) (by kernel_rfl) (by kernel_rfl) (by decide) (by kernel_rfl) (fun _ _ _ h => h) (by rfl) ?ky68 hS.out ?kr68
              case ky68 => ((intro wk hk); (try dsimp only at hk); go_simp; try with_reducible rfl)
              try simp only [Act.put, List.setIfInBounds_toArray, List.set_cons_zero, List.set_cons_succ]
              refine wpAnyK_take 56 (some 121) (v := ?kv69) rfl rfl (by kernel_rfl) (by kernel_rfl) (by kernel_rfl) (by decide) (by kernel_rfl) (fun _ _ _ h => h) (by rfl) ?ky69 hS.out ?kr69
              case ky69 => ((intro wk hk); (try dsimp only at hk); go_simp; try with_reducible rfl)
              try simp only [Act.put, List.setIfInBounds_toArray, List.set_cons_zero, List.set_cons_succ]
              refine wpAnyK_take 57 (some 122) (v := ?kv70) rfl rfl (by kernel_rfl) (by kernel_rfl) (by kernel_rfl) (by decide) (by kernel_rfl) (fun _ _ _ h => h) (by rfl) ?ky70 hS.out ?kr70
              case ky70 => ((intro wk hk); (try dsimp only at hk); go_simp; try with_reducible rfl)
              try simp only [Act.put, List.setIfInBounds_toArray, List.set_cons_zero, List.set_cons_succ]
              refine wpAnyK_take 58 (some 123) (v := ?kv71) rfl rfl (by kernel_rfl) (by kernel_rfl) (by kernel_rfl) (by decide) (by kernel_rfl) (fun _ _ _ h => h) (by rfl) ?ky71 hS.out ?kr71
              case ky71 => ((intro wk hk); (try dsimp only at hk); go_simp; try with_reducible rfl)
              try simp only [Act.put, List.setIfInBounds_toArray, List.set_cons_zero, List.set_cons_succ]
              refine wpAnyK_take 59 (some 124) (v := ?kv72) rfl rfl (by kernel_rfl) (by kernel_rfl) (by kernel_rfl) (by decide) (by kernel_rfl) (fun _ _ _ h => h) (by rfl) ?ky72 hS.out ?kr72
              case ky72 => ((intro wk hk); (try dsimp only at hk); go_simp; try with_reducible rfl)
              try simp only [Act.put, List.setIfInBounds_toArray, List.set_cons_zero, List.set_cons_succ]
              refine wpAnyK_take 60 (some 125) (v := ?kv73) rfl rfl (by kernel_rfl) (by kernel_rfl) (by kernel_rfl) (by decide) (by kernel_rfl) (fun _ _ _ h => h) (by rfl) ?ky73 hS.out ?kr73
              case ky73 => ((intro wk hk); (try dsimp only at hk); go_simp; try with_reducible rfl)
              try simp only [Act.put, List.setIfInBounds_toArray, List.set_cons_zero, List.set_cons_succ]
              refine wpAnyK_take 61 (some 126) (v := ?kv74) rfl rfl (by kernel_rfl) (by kernel_rfl) (by kernel_rfl) (by decide) (by kernel_rfl) (fun _ _ _ h => h) (by rfl) ?ky74 hS.out ?kr74
              case ky74 => ((intro wk hk); (try dsimp only at hk); go_simp; try with_reducible rfl)
              try simp only [Act.put, List.setIfInBounds_toArray, List.set_cons_zero, List.set_cons_succ]
              refine wpAnyK_take 62 (some 127) (v := ?kv75) rfl rfl (by kernel_rfl) (by kernel_rfl) (by kernel_rfl) (by decide) (by kernel_rfl) (fun _ _ _ h => h) (by rfl) ?ky75 hS.out ?kr75
              case ky75 => ((intro wk hk); (try dsimp only at hk); go_simp; try with_reducible rfl)
              try simp only [Act.put, List.setIfInBounds_toArray, List.set_cons_zero, List.set_cons_succ]
              refine wpAnyK_take 63 (some 128) (v := ?kv76) rfl rfl (by kernel_rfl) (by kernel_rfl) (by kernel_rfl) (by decide) (by kernel_rfl) (fun _ _ _ h => h) (by rfl) ?ky76 hS.out ?kr76
              case ky76 => ((intro wk hk); (try dsimp only at hk); go_simp; try with_reducible rfl)
              try simp only [Act.put, List.setIfInBounds_toArray, List.set_cons_zero, List.set_cons_succ]
              refine wpAnyK_take 64 (some 129) (v := ?kv77) rfl rfl (by kernel_rfl) (by kernel_rfl) (by kernel_rfl) (by decide) (by kernel_rfl) (fun _ _ _ h => h) (by rfl) ?ky77 hS.out ?kr77
              case ky77 => ((intro wk hk); (try dsimp only at hk); go_simp; try with_reducible rfl)
              try simp only [Act.put, List.setIfInBounds_toArray, List.set_cons_zero, List.set_cons_succ]
              refine wpAnyK_take 66 (some 131) (v := ?kv78) rfl rfl (by kernel_rfl) (by kernel_rfl) (by kernel_rfl) (by decide) (by kernel_rfl) (fun _ _ _ h => h) (by rfl) ?ky78 hS.out ?kr78
              case ky78 => ((intro wk hk); (try dsimp only at hk); go_simp; try with_reducible rfl)
              try simp only [Act.put, List.setIfInBounds_toArray, List.set_cons_zero, List.set_cons_succ]
              refine wpAnyK_one 65 (by kernel_rfl) rfl (fun K hK => ?_)
              go_simp
              refine (pageOf_any _ pgs _ _ (HPr.out.ext (RI.stab _) (Ext.refl wr).drew)).mono ?_
              rintro e x4 ⟨rfl, hx4⟩
              replace hS := Lib.hid (show x4.cell? ⟨w2.heap.size, 2, none⟩ = some (.slice (some ⟨bq, oq, none⟩) n c) ∧ x4.cell? ⟨w6.heap.size, 0, none⟩ = some (.slice Aa na ca) ∧ x4.cell? ⟨bf, of + k2 * 2, none⟩ = some (.int .i64 (u : Int)) ∧ x4.cell? ⟨bf, of + k2 * 2 + 1, none⟩ = some (.int .i64 (o : Int)) ∧ x4.cell? ⟨bq, oq + u * 6 + 4, none⟩ = some (.int .i64 q'.opts) ∧ x4.cell? ⟨wo.heap.size, u * 5 + o, none⟩ = some (.bool false) from ⟨hx4.cell hS.out.1, hx4.cell hS.out.2.1, hx4.cell hS.out.2.2.1, hx4.cell hS.out.2.2.2.1, hx4.cell hS.out.2.2.2.2.1, hx4.cell hS.out.2.2.2.2.2⟩)
              replace hx4 := Lib.hid ((Ext.refl wr).drew.trans hx4)
              refine hK.out _ _ (fun _ => hS.out) ?_
              clear hK K
              try simp only [Act.put, List.setIfInBounds_toArray, List.set_cons_zero, List.set_cons_succ]
              refine wpAnyK_take 67 (some 132) (v := ?kv79) rfl rfl (by kernel_rfl) (by kernel_rfl) (by kernel_rfl) (by decide) (by kernel_rfl) (fun _ _ _ h => h) (by rfl) ?ky79 hS.out ?kr79
              case ky79 => ((intro wk hk); (try dsimp only at hk); go_simp; try with_reducible rfl)
              try simp only [Act.put, List.setIfInBounds_toArray, List.set_cons_zero, List.set_cons_succ]
              refine wpAnyK_take 68 (some 133) (v := ?kv80) rfl rfl (by kernel_rfl) (by kernel_rfl) (by kernel_rfl) (by decide) (by kernel_rfl) (fun _ _ _ h => h) (by rfl) ?ky80 hS.out ?kr80
              case ky80 => ((intro wk hk); (try dsimp only at hk); go_simp; try with_reducible rfl)
              try simp only [Act.put, List.setIfInBounds_toArray, List.set_cons_zero, List.set_cons_succ]
              refine wpAnyK_done (by kernel_rfl) ?_ _
              replace r2 := Lib.hid (hx4.out.blk r2.out)
              replace r3 := Lib.hid (r3.out.ext hx4.out)
              replace r4 := Lib.hid (r4.out.ext (RFld.stab _) hx4.out)
              have hS2 : x4.drew.cell? ⟨bf, of + k2 * 2, none⟩ = some (.int .i64 (u : Int)) ∧ x4.drew.cell? ⟨bf, of + k2 * 2 + 1, none⟩ = some (.int .i64 (o : Int)) := ⟨hS.out.2.2.1, hS.out.2.2.2.1⟩
              have gf : x4.drew.frozen? ⟨wo.heap.size, u * 5 + o, none⟩ = false := blk_frozen (((Ext.refl x4).drew).blk r2.out) _
              have gx : x4.drew.cell? ⟨wo.heap.size, u * 5 + o, none⟩ = some (.bool false) := hS.out.2.2.2.2.2
              replace hS2 := Lib.hid hS2
              have HAF : Hid (∀ v, (x4.drew.setCell ⟨wo.heap.size, u * 5 + o, none⟩ v).cell? ⟨bf, of + k2 * 2, none⟩ = some (.int .i64 (u : Int)) ∧ (x4.drew.setCell ⟨wo.heap.size, u * 5 + o, none⟩ v).cell? ⟨bf, of + k2 * 2 + 1, none⟩ = some (.int .i64 (o : Int))) := by
                intro v
                obtain ⟨q2, g0, g1, G, _, _⟩ := ((r4.out.ext (RFld.stab _) (Ext.refl _).drew).xt (RFld.stab _) ((XT.refl _ _).setCell (a := ⟨wo.heap.size, u * 5 + o, none⟩) rfl v)).fld hkf
                obtain rfl : q2 = q := by have h1 := G.out; rw [HF.out] at h1; exact (Option.some.inj h1).symm
                rw [hqp.out] at g0
                rw [hqo.out] at g1
                exact ⟨g0, g1⟩
              clear hS hx4 HPr f0 f1
              go_upto_region 21 with (fail)
              refine wp_region_k 99 (fun w' => w'.cell? ⟨bf, of + k2 * 2, none⟩ = some (.int .i64 (u : Int)) ∧ w'.cell? ⟨bf, of + k2 * 2 + 1, none⟩ = some (.int .i64 (o : Int))) (by kernel_rfl) ?_
              refine wpAnyK_take 0 (some 134) (v := ?kv81) rfl rfl (by kernel_rfl) (by kernel_rfl) (by kernel_rfl) (by decide) (by kernel_rfl) (fun _ _ _ h => h) (by rfl) ?ky81 hS2.out ?kr81
              case ky81 => ((intro wk hk); (try dsimp only at hk); go_simp; try with_reducible rfl)
              try simp only [Act.put, List.setIfInBounds_toArray, List.set_cons_zero, List.set_cons_succ]
              refine wpAnyK_take 1 (some 135) (v := ?kv82) rfl rfl (by kernel_rfl) (by kernel_rfl) (by kernel_rfl) (by decide) (by kernel_rfl) (fun _ _ _ h => h) (by rfl) ?ky82 hS2.out ?kr82
              case ky82 => ((intro wk hk); (try dsimp only at hk); go_simp; try with_reducible rfl)
              try simp only [Act.put, List.setIfInBounds_toArray, List.set_cons_zero, List.set_cons_succ]
              refine wpAnyK_take 2 (some 136) (v := ?kv83) rfl rfl (by kernel_rfl) (by kernel_rfl) (by kernel_rfl) (by decide) (by kernel_rfl) (fun _ _ _ h => h) (by rfl) ?ky83 hS2.out ?kr83
              case ky83 => ((intro wk hk); (try dsimp only at hk); go_simp; try with_reducible rfl)
              try simp only [Act.put, List.setIfInBounds_toArray, List.set_cons_zero, List.set_cons_succ]
              refine wpAnyK_take 3 (some 137) (v := ?kv84) rfl rfl (by kernel_rfl) (by kernel_rfl) (by kernel_rfl) (by decide) (by kernel_rfl) (fun _ _ _ h => h) (by rfl) ?ky84 hS2.out ?kr84
              case ky84 => ((intro wk hk); (try dsimp only at hk); go_simp; try with_reducible rfl)
              try simp only [Act.put, List.setIfInBounds_toArray, List.set_cons_zero, List.set_cons_succ]
              refine wpAnyK_take 4 (some 138) (v := ?kv85) rfl rfl (by kernel_rfl) (by kernel_rfl) (by kernel_rfl) (by decide) (by kernel_rfl) (fun _ _ _ h => h) (by rfl) ?ky85 hS2.out ?kr85
              case ky85 => ((intro wk hk); (try dsimp only at hk); go_simp; try with_reducible rfl)
              try simp only [Act.put, List.setIfInBounds_toArray, List.set_cons_zero, List.set_cons_succ]
              refine wpAnyK_take 5 (some 139) (v := ?kv86) rfl rfl (by kernel_rfl) (by kernel_rfl) (by kernel_rfl) (by decide) (by kernel_rfl) (fun _ _ _ h => h) (by rfl) ?ky86 hS2.out ?kr86
              case ky86 => ((intro wk hk); (try dsimp only at hk); go_simp; try with_reducible rfl)
              try simp only [Act.put, List.setIfInBounds_toArray, List.set_cons_zero, List.set_cons_succ]
              refine wpAnyK_take 6 (some 140) (v := ?kv87) rfl rfl (by kernel_rfl) (by kernel_rfl) (by kernel_rfl) (by decide) (by kernel_rfl) (fun _ _ _ h => h) (by rfl) ?ky87 hS2.out ?kr87
              case ky87 => ((intro wk hk); (try dsimp only at hk); go_simp; try with_reducible rfl)
              try simp only [Act.put, List.setIfInBounds_toArray, List.set_cons_zero, List.set_cons_succ]
              refine wpAnyK_take 7 (some 141) (v := ?kv88) rfl rfl (by kernel_rfl) (by kernel_rfl) (by kernel_rfl) (by decide) (by kernel_rfl) (fun _ _ _ h => h) (by rfl) ?ky88 hS2.out ?kr88
              case ky88 => ((intro wk hk); (try dsimp only at hk); go_simp; try with_reducible rfl)
              try simp only [Act.put, List.setIfInBounds_toArray, List.set_cons_zero, List.set_cons_succ]
              refine wpAnyK_take 8 (some 142) (v := ?kv89) rfl rfl (by kernel_rfl) (by kernel_rfl) (by kernel_rfl) (by decide) (by kernel_rfl) (fun _ _ _ h => h) (by rfl) ?ky89 hS2.out ?kr89
              case ky89 => ((intro wk hk); (try dsimp only at hk); go_simp; try with_reducible rfl)
              try simp only [Act.put, List.setIfInBounds_toArray, List.set_cons_zero, List.set_cons_succ]
              refine wpAnyK_take 9 (some 143) (v := ?kv90) rfl rfl (by kernel_rfl) (by kernel_rfl) (by kernel_rfl) (by decide) (by kernel_rfl) (fun _ _ _ h => h) (by rfl) ?ky90 hS2.out ?kr90
              case ky90 => ((intro wk hk); (try dsimp only at hk); go_simp; try with_reducible rfl)
              try simp only [Act.put, List.setIfInBounds_toArray, List.set_cons_zero, List.set_cons_succ]
              refine wpAnyK_one 10 (by kernel_rfl) rfl (fun K hK => ?_)
              go_simp
              refine hK.out _ _ (fun _ => hS2.out) ?_
              clear hK K
              try simp only [Act.put, List.setIfInBounds_toArray, List.set_cons_zero, List.set_cons_succ]
              refine wpAnyK_one 11 (by kernel_rfl) rfl (fun K hK => ?_)
              go_simp
              refine hK.out _ _ (fun _ => hS2.out) ?_
              clear hK K
              try simp only [Act.put, List.setIfInBounds_toArray, List.set_cons_zero, List.set_cons_succ]
              refine wpAnyK_one 12 (by kernel_rfl) rfl (fun K hK => ?_)
              go_simp
              refine hK.out _ _ (fun _ => HAF.out _) ?_
              clear hK K
              try simp only [Act.put, List.setIfInBounds_toArray, List.set_cons_zero, List.set_cons_succ]
              refine wpAnyK_done (by kernel_rfl) ?_ _
              replace r2 := Lib.hid (blk_set (i := u * 5 + o) (((Ext.refl x4).drew).blk r2.out) (.bool true))
              rw [List.setIfInBounds_toArray] at r2
              clear hS2
              go_wp2_with fail
              go_roundw
              case rel =>
                refine ⟨k2 + 1, by go_num, by go_num, by omega, ?_, (r3.out.ext (Ext.refl _).drew).setCell rfl _, ?_⟩
                · rw [take_snoc HF.out, ← List.append_assoc, ← seenC_set _ _ (by rw [hky.out]; omega), hky.out]; exact r2.out
                · exact (r4.out.ext (RFld.stab _) (Ext.refl _).drew).xt (RFld.stab _) ((XT.refl _ _).setCell rfl _)
              case measure => simp [intOf]; omega
            · obtain rfl : k2 = nf := by omega
              go_wp2_with fail
              go_roundw
              case rel => exact ⟨i + 1, g + k2, rfl, by go_num, by omega, by omega, by rw [fldTo_succ hok.out hpg.out, List.length_append, HLF.out, ← r1.out], by rw [fldTo_succ hok.out hpg.out]; have := r2.out; rw [take_all HLF.out] at this; exact this, r3.out⟩
              case measure => simp [intOf]; omega
        · obtain rfl : i = na := by omega
          have hgt : ((g : Int) == t) = true := by
            rw [beq_iff_eq, HTW.out, r1.out]
            unfold fldTo
            have h := (okPages_at pgs 0 hok.out).2
            rw [HLa.out, Nat.zero_add, hns] at h
            rw [h]
          go_wp2_with fail
          refine (awake_any _ (by have := r3.out.size; omega)).mono ?_
          rintro e x5 ⟨rfl, hx5⟩
          go_wp2_with fail
          go_ret
          exact ⟨rfl, (r3.out.fresh HE3.out (by omega)).trans hx5⟩
end Go.Proofs.Ytpbfbkkalemmiaa
