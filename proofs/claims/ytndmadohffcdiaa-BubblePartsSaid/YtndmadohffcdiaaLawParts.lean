/- BubbleParts: the walk of the law. -/
import Derived.Test.YtndmadohffcdiaaLawBPages
import Derived.Test.YtndmadohffcdiaaPartsP
import Derived.Test.YtndmadohffcdiaaMake
import Derived.Test.YtndmadohffcdiaaMakeV
import Derived.Test.YtndmadohffcdiaaOrders
namespace Go.Proofs.Ytndmadohffcdiaa
open Go.RowKit

theorem sm_le {ps : List Part} (h : ∀ q ∈ ps, vpB q = true ∧ q.max ≤ 12) : sm ps ≤ 12 * ps.length := by
  unfold sm
  induction ps with
  | nil => simp
  | cons q ps ih =>
    have := ih (fun x hx => h x (by simp [hx]))
    have := (h q (by simp)).2
    simp; omega
theorem paper_vpa {ps : List Part} (h1 : 1 ≤ ps.length) (h6 : ps.length ≤ 6) (h : ∀ q ∈ ps, vpB q = true ∧ q.max ≤ 12) : vpaB 0 0 ps = true := by
  have hs := sm_le h
  have ha : ps.all vpB = true := List.all_eq_true.2 (fun q hq => (h q hq).1)
  unfold vpaB
  rw [ha]
  simp; omega

set_option maxRecDepth 100000 in
set_option maxHeartbeats 8000000 in
theorem walkBubbleParts (v0 : Value) (l0 : List Int) (w : World) (h0 : IsI w.heap.size w v0 l0) :
    Calls Try.prog 10 #[v0] w fun e w' => e = .returned (.bool true) ∧ Ext w w' := by
  obtain ⟨i0, hi0, hz0, hz1, hz2⟩ := info_parts Try.infoI
  have H0 := Lib.hid h0
  clear h0
  go_enter Try.func10, Try.ntmps10
  go_wp2_with fail
  refine (new_any _ l0 _ H0.out).mono ?_
  rintro e w1 ⟨rfl, HT1, HE1⟩
  have hlt1 := HT1.lt
  go_wp2_with fail
  refine (paper_any _ _ _ _ HT1).mono ?_
  rintro e w2 ⟨v2', rfl, ⟨pv, ps, rfl, hO, hl1, hl6, hwf⟩, HT2, HX2⟩
  obtain ⟨A, c, rfl⟩ := hO.form
  have hvpa := paper_vpa hl1 hl6 hwf
  have HQ := Lib.hid (hO.isQ hlt1 (fun q hq => vp_wf (hwf q hq).1))
  generalize hn : ps.length = n at *
  have HN := Lib.hid hn
  clear hn
  have HE := Lib.hid ((Ext.refl w2).alloc (.cells #[.int .i64 0, .int .i64 0, .slice A n c] 53))
  have HE2 := Lib.hid ((HX2.fresh HE1 (Nat.le_refl _)).trans HE.out)
  have HB2 := Lib.hid (show QBox (w2.alloc (.cells #[.int .i64 0, .int .i64 0, .slice A n c] 53)) w2.heap.size 0 0 (.slice A n c) from heap_alloc_new w2 _)
  have HT := Lib.hid (HT2.ext HE.out)
  replace HQ := Lib.hid ((HQ.out.ext (RPart.stab _) HE.out))
  have hlt2 := HT2.lt
  replace hvpa := Lib.hid hvpa
  clear HT1 HX2 HE1 HT2 hO hwf hlt1 HE
  go_upto_region 3 with (fail)
  generalize hW : w2.alloc (.cells #[.int .i64 0, .int .i64 0, .slice A n c] 53) = W2 at *
  clear hW
  obtain ⟨c0, c1, c2'⟩ := HB2.out.cells
  have hw2W : w2.heap.size < W2.heap.size := HB2.out.lt
  have hltW := HT.out.lt
  go_wp2_with fail
  refine (make_any _ _ _ ps _ hltW HQ.out).mono ?_
  rintro e w4 ⟨vb, pb, eb, rfl, hPb, hEb, hb1, hb2⟩
  have hml : (makeP ps).length ≤ 12 := by have := (makeP_bd ps).1; have := HN.out; omega
  obtain ⟨hpb, rfl⟩ := (hb2 hvpa.out).2 hml
  subst hpb
  have hbk := bk_true (make_ok hvpa.out hml)
  have hlen4 : 4 ≤ (makeP ps).length := by
    have h1 := (bk_of hbk).2.2.1
    have h2 : 0 < (makeP ps).length := by unfold makeP pad pagesOf; simp; omega
    omega
  obtain ⟨Ab, nb, cb, rfl, hncb, hcb, hnnb, HLb⟩ := hPb.open_
  replace hPb := Lib.hid hPb
  replace hbk := Lib.hid hbk
  replace hlen4 := Lib.hid hlen4
  have hs4 := hEb.size
  replace HQ := Lib.hid ((HQ.out.ext (RPart.stab _) hEb))
  replace HB2 := Lib.hid (HB2.out.ext hEb)
  replace HT := Lib.hid (HT.out.ext hEb)
  replace HE2 := Lib.hid (HE2.out.trans hEb)
  have E4 := Lib.hid ((Ext.refl w4).alloc (.cells #[.slice Ab nb cb] 56))
  have HB4 := Lib.hid (show BBx (w4.alloc (.cells #[.slice Ab nb cb] 56)) w4.heap.size (.slice Ab nb cb) from heap_alloc_new w4 _)
  replace HQ := Lib.hid ((HQ.out.ext (RPart.stab _) E4.out))
  replace HB2 := Lib.hid (HB2.out.ext E4.out)
  replace HT := Lib.hid (HT.out.ext E4.out)
  replace HE2 := Lib.hid (HE2.out.trans E4.out)
  replace hPb := Lib.hid ((hPb.out.ext (RI.stab _) E4.out))
  clear c0 c1 c2' hb1 hb2 hEb E4 hml
  generalize hpgs : makeP ps = pgs at *
  clear hpgs
  go_upto_region 4 with (fail)
  generalize hW : w4.alloc (.cells #[.slice Ab nb cb] 56) = W4 at *
  clear hW
  have hw4W : w4.heap.size < W4.heap.size := lt_of_blk HB4.out
  go_wp2_with fail
  refine (threshold_any _ _ _ HT.out (by omega) (by omega)).mono ?_
  rintro e w5 ⟨v5, rfl, ⟨d, f, ld, rfl, _, _, _, hthr⟩, HT5, HX5⟩
  have hvl : vldB d f ld = true := by have := hthr rfl; simp [vldB]; omega
  replace hvl := Lib.hid hvl
  have hs5 := HX5.size
  replace HQ := Lib.hid ((HQ.out.xt (RPart.stab _) HX5))
  replace HB2 := Lib.hid ((HB2.out.xt HX5 (by omega)))
  replace HB4 := Lib.hid ((HB4.out.xt HX5 (by omega)))
  replace HE2 := Lib.hid (HX5.fresh HE2.out (Nat.le_refl _))
  replace hPb := Lib.hid ((hPb.out.xt (RI.stab _) HX5))
  have E5 := Lib.hid ((Ext.refl w5).alloc (.cells #[.int .i64 d, .int .i64 f, .int .i64 ld] 23))
  have HTB := Lib.hid (show TBx (w5.alloc (.cells #[.int .i64 d, .int .i64 f, .int .i64 ld] 23)) w5.heap.size d f ld from heap_alloc_new w5 _)
  replace HQ := Lib.hid ((HQ.out.ext (RPart.stab _) E5.out))
  replace HB2 := Lib.hid (HB2.out.ext E5.out)
  replace HB4 := Lib.hid (HB4.out.ext E5.out)
  replace HE2 := Lib.hid (HE2.out.trans E5.out)
  replace hPb := Lib.hid ((hPb.out.ext (RI.stab _) E5.out))
  replace HT := Lib.hid (HT5.ext E5.out)
  clear HX5 HT5 E5 hthr
  go_upto_region 5 with (fail)
  generalize hW : w5.alloc (.cells #[.int .i64 d, .int .i64 f, .int .i64 ld] 23) = W5 at *
  clear hW
  go_wp2_with fail
  refine (next_any _ _ _ HT.out (by omega)).mono ?_
  rintro e w6 ⟨v6, rfl, ⟨pg0, rfl, hk1, hk2⟩, HT6, HX6⟩
  obtain ⟨j, rfl⟩ := Int.eq_ofNat_of_zero_le hk1
  have hj4 : j < 4 := by omega
  replace HQ := Lib.hid ((HQ.out.xt (RPart.stab _) HX6))
  replace HB2 := Lib.hid ((HB2.out.xt HX6 (by omega)))
  replace HB4 := Lib.hid ((HB4.out.xt HX6 (by omega)))
  replace HE2 := Lib.hid (HX6.fresh HE2.out (Nat.le_refl _))
  replace hPb := Lib.hid ((hPb.out.xt (RI.stab _) HX6))
  replace HTB := Lib.hid ((HTB.out.xt HX6 (by have := HT.out.lt; have := lt_of_blk HTB.out; omega)))
  replace HT6 := Lib.hid HT6
  have hlt6 := HT6.out.lt
  clear HX6 HT hk1 hk2
  obtain ⟨pg, hpg⟩ : ∃ pg, pgs[j]? = some pg := ⟨_, List.getElem?_eq_getElem (by have := hlen4.out; omega)⟩
  replace hpg := Lib.hid hpg
  obtain ⟨c0, c1, c2'⟩ := HB2.out.cells
  have k9 := HB4.out.cell
  have hkk : I64 (j : Int) := ⟨by omega, by omega⟩
  replace hkk := Lib.hid hkk
  go_wp2_with fail
  refine (fields_any _ _ _ _ _ ps pgs _ hlt6 HQ.out hPb.out hkk.out).mono ?_
  rintro e w7 ⟨vf, rfl, hF, hx7⟩
  obtain ⟨Af, nf, cf, rfl, hncf, hcf, hnnf, HLF⟩ := hF.open_
  have hnf : nf ≤ 120 := by have := HLF.out; have := fieldsP_len (code := 0) (var := 0) (ps := ps) (pgs := pgs) (page := (j : Int)); omega
  replace hF := Lib.hid hF
  replace HQ := Lib.hid ((HQ.out.ext (RPart.stab _) hx7))
  replace HB2 := Lib.hid (HB2.out.ext hx7)
  replace HB4 := Lib.hid (HB4.out.ext hx7)
  replace HE2 := Lib.hid (HE2.out.trans hx7)
  replace hPb := Lib.hid ((hPb.out.ext (RI.stab _) hx7))
  replace HTB := Lib.hid (HTB.out.ext hx7)
  replace HT6 := Lib.hid (HT6.out.ext hx7)
  have hs7 := hx7.size
  clear c0 c1 c2' k9 hx7
  obtain ⟨wo, rfl⟩ : ∃ wo : World, wo = w7 := ⟨_, rfl⟩
  go_wp2_with fail
  go_loopw [10, 11] (fun s10 s11 wr => ∃ (kk : Nat) (cl : List Int), s11 = .int .i64 kk ∧ kk ≤ nf ∧ Hid (cl.length = kk ∧ wr.ownsRow wo.heap.size 3 1 s10 kk (cl.map (Value.int .i64)) ∧ cl.all valB = true ∧ Tape wr w.heap.size ∧ XT w.heap.size wo wr)) (fun _ i _ => nf - (intOf i).toNat)
  case atStart => exact ⟨0, [], rfl, by omega, rfl, World.ownsRow_nil _ _ _ _, rfl, HT6.out, XT.refl _ _⟩
  case round =>
    obtain ⟨kk, cl, rfl, hkl, HR⟩ := hrel
    obtain ⟨q0, q1, q2, q3, q4⟩ := HR.out
    replace q0 := Lib.hid q0
    replace q1 := Lib.hid q1
    replace q2 := Lib.hid q2
    replace q3 := Lib.hid q3
    replace q4 := Lib.hid q4
    clear HR HT6
    by_cases hk0 : kk < nf
    · go_wp2_with fail
      refine (next_any _ _ _ q3.out (by omega)).mono ?_
      rintro e w8 ⟨v8, rfl, ⟨x, rfl, hx1, hx2⟩, HT8, HX8⟩
      replace q1 := Lib.hid (own_xt q1.out HX8 (by omega))
      replace q4 := Lib.hid (q4.out.trans HX8)
      have hs8 := q4.out.size
      replace HT8 := Lib.hid HT8
      clear HX8 q3
      go_wp2_with (at_builtin; refine wpList_push _ rfl (.tmp 42) (.tmp 45) 28 rfl wo.heap.size 3 i0 _ 8 Try.underlying28 hi0 hz0 hz1 hz2 rfl _ _ _ rfl (q1.out.alloc _) _ _ rfl (by simp; rfl) rfl (by omega) (by omega) (by simp; omega) ?_; intro v9 w9 hown9 hg9)
      go_roundw
      case rel =>
        refine ⟨kk + 1, cl ++ [x], by go_num, by omega, by have := q0.out; simp; omega, by simpa using hown9, ?_, ?_, ?_⟩
        · rw [List.all_append, q2.out]; simp [valB]; omega
        · exact (HT8.out.ext ((Ext.refl _).alloc _)).grown hg9 (fun k hk => by have := own_ge q1.out k hk; omega)
        · exact XT.grown (q4.out.alloc _) hg9 (own_ge q1.out)
      case measure => simp [intOf]; omega
    · obtain rfl : kk = nf := by omega
      have hI10 : IsI w.heap.size wr u10 cl := IsI.of_own (n := kk) q1.out (by omega) (fun x hx => by have := List.all_eq_true.1 q2.out x hx; simp [valB] at this; exact ⟨by omega, by omega⟩) (by have := q0.out; omega)
      obtain ⟨Ac, nc, cc, hv10, _, _, _, HLC⟩ := hI10.open_
      subst hv10
      obtain rfl : nc = kk := by rw [← HLC.out, q0.out]
      replace hI10 := Lib.hid hI10
      have hxs := q4.out.size
      replace HQ := Lib.hid ((HQ.out.xt (RPart.stab _) q4.out))
      replace HB2 := Lib.hid ((HB2.out.xt q4.out (by omega)))
      replace HB4 := Lib.hid ((HB4.out.xt q4.out (by omega)))
      replace HE2 := Lib.hid (q4.out.fresh HE2.out (Nat.le_refl _))
      replace hPb := Lib.hid ((hPb.out.xt (RI.stab _) q4.out))
      replace HTB := Lib.hid ((HTB.out.xt q4.out (by omega)))
      replace hF := Lib.hid ((hF.out.xt (RFld.stab _) q4.out))
      have hlr : w.heap.size < wr.heap.size := by omega
      clear q1 q3 q4
      have HLN : Hid (cl.length = (fieldsP 0 0 ps pgs (j : Int)).length) := by show _ = _; rw [HLC.out, HLF.out]
      have HPG := Lib.hid (page_0 (code := 0) (var := 0) (ps := ps) (pgs := pgs) (d := d) (f := f) (ld := ld) (page := (j : Int)) (cs := cl) ⟨hvl.out, hbk.out⟩ ⟨by omega, by have := hlen4.out; omega⟩ HLN.out q2.out)
      have HRS := Lib.hid (rest_start (J := judgeV d f ld) hbk.out hpg.out HLN.out q2.out)
      obtain ⟨c0, c1, c2'⟩ := HB2.out.cells
      obtain ⟨t0, t1, t2⟩ := cell3 HTB.out
      have k9 := HB4.out.cell
      go_wp2_with fail
      refine (page_any _ _ _ _ _ _ _ _ _ ps pgs cl _ hlr HQ.out hPb.out hI10.out hkk.out).mono ?_
      rintro e x1 ⟨va, rfl, hIa, hx1⟩
      rw [← HPG.out.1] at hIa
      rw [← HPG.out.2]
      obtain ⟨Aa, na, ca, rfl, _, _, _, HLa⟩ := hIa.open_
      obtain rfl : na = n := by rw [← HLa.out]; unfold refA; simp; exact HN.out
      replace hIa := Lib.hid hIa
      have hl1 : w.heap.size < x1.heap.size := Nat.lt_of_lt_of_le hlr hx1.size
      replace HQ := Lib.hid ((HQ.out.ext (RPart.stab _) hx1))
      replace HB2 := Lib.hid (HB2.out.ext hx1)
      replace HB4 := Lib.hid (HB4.out.ext hx1)
      replace HE2 := Lib.hid (HE2.out.trans hx1)
      replace hPb := Lib.hid ((hPb.out.ext (RI.stab _) hx1))
      replace HTB := Lib.hid (HTB.out.ext hx1)
      replace hF := Lib.hid ((hF.out.ext (RFld.stab _) hx1))
      replace hI10 := Lib.hid (hI10.out.ext hx1)
      clear c0 c1 c2' t0 t1 t2 k9 hx1
      go_wp2_with fail
      refine (split_any _ _ _ cl _ hl1 hF.out hI10.out (by have := HLC.out; omega)).mono ?_
      rintro e x2 ⟨vr, rs, er, rfl, hPr, hx2, hr1, hr2⟩
      obtain ⟨hrs, rfl⟩ := hr2 HLN.out.symm
      rw [← hrs] at HRS
      obtain ⟨Ar, nr, cr, rfl, hncr, hcr, hnnr, HLR⟩ := hPr.open_
      replace hPr := Lib.hid hPr
      replace HQ := Lib.hid ((HQ.out.ext (RPart.stab _) hx2))
      replace HB2 := Lib.hid (HB2.out.ext hx2)
      replace HB4 := Lib.hid (HB4.out.ext hx2)
      replace HE2 := Lib.hid (HE2.out.trans hx2)
      replace hPb := Lib.hid ((hPb.out.ext (RI.stab _) hx2))
      replace HTB := Lib.hid (HTB.out.ext hx2)
      replace hIa := Lib.hid (hIa.out.ext hx2)
      clear hx2 hr1 hr2 hrs hF hI10
      obtain ⟨c0, c1, c2'⟩ := HB2.out.cells
      have hn0 : ((0 : Int) != 0) = false := rfl
      have hnn0 : ((na : Int) != na) = false := by simp
      obtain ⟨wx, rfl⟩ : ∃ wx : World, wx = x2 := ⟨_, rfl⟩
      generalize hA : refA (judgeV d f ld) ps.length (fieldsP 0 0 ps pgs (j : Int)) cl = AA at *
      clear hA
      go_wp2_with fail
      go_loopw [16, 17] (fun s16 s17 wr => ∃ (i at_ : Nat) (G : List (Nat × Nat)) (cs' : List Int), s16 = .int .i64 at_ ∧ s17 = .int .i64 i ∧ i ≤ na ∧ at_ ≤ nr ∧ Hid (Rest ps pgs (judgeV d f ld) (j : Int) AA rs i at_ G cs' ∧ Ext wx wr)) (fun _ i _ => na - (intOf i).toNat)
      case atStart => exact ⟨0, 0, groups ps pg, cl, rfl, rfl, by omega, by omega, HRS.out, Ext.refl _⟩
      case round =>
        obtain ⟨i, at_, G, cs', rfl, rfl, hi, hat, HR⟩ := hrel
        clear c0 c1 c2' HRS
        obtain ⟨r1, r2⟩ := HR.out
        replace r1 := Lib.hid r1
        replace r2 := Lib.hid r2
        clear HR
        obtain ⟨c0, c1, c2'⟩ := (HB2.out.ext r2.out).cells
        by_cases hin : i < na
        · obtain ⟨bq, oq, cs1, z1, rfl, _⟩ := HQ.out.at_ hin
          obtain ⟨q, d0, d1, d2, d3, d4, d5, _, HQq⟩ := (HQ.out.ext (RPart.stab _) r2.out).part hin
          obtain ⟨ba, oa, za, rfl, _⟩ := hIa.out.at_ hin
          have hip : i < ps.length := by have := HN.out; omega
          by_cases hk2 : q.kind = 2
          · have hkb : (q.kind == 2) = true := by simp [hk2]
            replace hk2 := Lib.hid hk2
            have k9 := (HB4.out.ext r2.out).cell
            go_wp2_with fail
            refine (pageOf_any _ pgs _ _ (hPb.out.ext (RI.stab _) r2.out)).mono ?_
            rintro e x3 ⟨rfl, hx3⟩
            replace r2 := Lib.hid (r2.out.trans hx3)
            clear hx3 k9 d0 d1 d2 d3 d4 d5 c0 c1 c2'
            by_cases hpo : pageOf pgs (i : Int) = (j : Int)
            · have hpb : (pageOf pgs (i : Int) == (j : Int)) = true := by simp [hpo]
              have hmem := (r1.out.mem i q (Nat.le_refl _) HQq.out).1 ⟨hk2.out, hpo⟩
              obtain ⟨run, G', cs2, hrun, hatl, hr2, hr5, hrv, hAi, hrest⟩ := r1.out.take hip hmem
              have hatn : at_ < nr := by have := HLR.out; omega
              replace hpo := Lib.hid hpo
              replace hmem := Lib.hid hmem
              replace hrun := Lib.hid hrun
              replace hrv := Lib.hid hrv
              replace hAi := Lib.hid hAi
              replace hrest := Lib.hid hrest
              clear hatl r1
              obtain ⟨br, or, cs3, z3, rfl, _⟩ := hPr.out.at_ hatn
              obtain ⟨u, l, hcu, hIu, HX⟩ := (hPr.out.ext (RI.stab _) r2.out).page hatn
              obtain rfl : l = run := by have := HX.out; rw [hrun.out] at this; exact (Option.some.inj this).symm
              replace hIu := Lib.hid hIu
              obtain ⟨t0, t1, t2⟩ := cell3 (HTB.out.ext r2.out)
              have hb0 : (0 : Int) ≤ (at_ : Int) := Int.natCast_nonneg _
              have hb1 : (at_ : Int) < (nr : Int) := by omega
              have hS : x3.drew.cell? ⟨w5.heap.size, 0, none⟩ = some (.int .i64 d) ∧ x3.drew.cell? ⟨w5.heap.size, 1, none⟩ = some (.int .i64 f) ∧ x3.drew.cell? ⟨w5.heap.size, 2, none⟩ = some (.int .i64 ld) ∧ x3.drew.cell? ⟨br, or + at_, none⟩ = some u := ⟨t0, t1, t2, hcu⟩
              replace hS := Lib.hid hS
              go_upto_region 24 with (fail)
              refine wp_region_k 99 (fun w' => w'.cell? ⟨w5.heap.size, 0, none⟩ = some (.int .i64 d) ∧ w'.cell? ⟨w5.heap.size, 1, none⟩ = some (.int .i64 f) ∧ w'.cell? ⟨w5.heap.size, 2, none⟩ = some (.int .i64 ld) ∧ w'.cell? ⟨br, or + at_, none⟩ = some u) (by kernel_rfl) ?_
              refine wpAnyK_take 0 (some 106) (v := ?kv1) rfl rfl (by kernel_rfl) (by kernel_rfl) (by kernel_rfl) (by decide) (by kernel_rfl) (fun _ _ _ h => h) (by rfl) ?ky1 hS.out ?kr1
              case ky1 => ((intro wk hk); (try dsimp only at hk); go_simp; try with_reducible rfl)
              try simp only [Act.put, List.setIfInBounds_toArray, List.set_cons_zero, List.set_cons_succ]
              refine wpAnyK_take 1 (some 107) (v := ?kv2) rfl rfl (by kernel_rfl) (by kernel_rfl) (by kernel_rfl) (by decide) (by kernel_rfl) (fun _ _ _ h => h) (by rfl) ?ky2 hS.out ?kr2
              case ky2 => ((intro wk hk); (try dsimp only at hk); go_simp; try with_reducible rfl)
              try simp only [Act.put, List.setIfInBounds_toArray, List.set_cons_zero, List.set_cons_succ]
              refine wpAnyK_take 2 (some 108) (v := ?kv3) rfl rfl (by kernel_rfl) (by kernel_rfl) (by kernel_rfl) (by decide) (by kernel_rfl) (fun _ _ _ h => h) (by rfl) ?ky3 hS.out ?kr3
              case ky3 => ((intro wk hk); (try dsimp only at hk); go_simp; try with_reducible rfl)
              try simp only [Act.put, List.setIfInBounds_toArray, List.set_cons_zero, List.set_cons_succ]
              refine wpAnyK_take 3 (some 109) (v := ?kv4) rfl rfl (by kernel_rfl) (by kernel_rfl) (by kernel_rfl) (by decide) (by kernel_rfl) (fun _ _ _ h => h) (by rfl) ?ky4 hS.out ?kr4
              case ky4 => ((intro wk hk); (try dsimp only at hk); go_simp; try with_reducible rfl)
              try simp only [Act.put, List.setIfInBounds_toArray, List.set_cons_zero, List.set_cons_succ]
              refine wpAnyK_take 4 (some 110) (v := ?kv5) rfl rfl (by kernel_rfl) (by kernel_rfl) (by kernel_rfl) (by decide) (by kernel_rfl) (fun _ _ _ h => h) (by rfl) ?ky5 hS.out ?kr5
              case ky5 => ((intro wk hk); (try dsimp only at hk); go_simp; try with_reducible rfl)
              try simp only [Act.put, List.setIfInBounds_toArray, List.set_cons_zero, List.set_cons_succ]
              refine wpAnyK_one 5 (by kernel_rfl) rfl (fun K hK => ?_)
              go_simp
              refine (judge_any _ _ _ _ l x3.drew (hIu.out.ext (Ext.refl _).drew)).mono ?_
              rintro e x4 ⟨rfl, hx4⟩
              replace hS := Lib.hid (show x4.cell? ⟨w5.heap.size, 0, none⟩ = some (.int .i64 d) ∧ x4.cell? ⟨w5.heap.size, 1, none⟩ = some (.int .i64 f) ∧ x4.cell? ⟨w5.heap.size, 2, none⟩ = some (.int .i64 ld) ∧ x4.cell? ⟨br, or + at_, none⟩ = some u from ⟨hx4.cell hS.out.1, hx4.cell hS.out.2.1, hx4.cell hS.out.2.2.1, hx4.cell hS.out.2.2.2⟩)
              replace r2 := Lib.hid ((r2.out.drew).trans hx4)
              clear t0 t1 t2 hcu hx4
              refine hK.out _ _ (fun _ => hS.out) ?_
              clear hK K
              try simp only [Act.put, List.setIfInBounds_toArray, List.set_cons_zero, List.set_cons_succ]
              refine wpAnyK_take 6 (some 105) (v := ?kv6) rfl rfl (by kernel_rfl) (by kernel_rfl) (by kernel_rfl) (by decide) (by kernel_rfl) (fun _ _ _ h => h) (by rfl) ?ky6 hS.out ?kr6
              case ky6 => ((intro wk hk); (try dsimp only at hk); go_simp; try with_reducible rfl)
              try simp only [Act.put, List.setIfInBounds_toArray, List.set_cons_zero, List.set_cons_succ]
              refine wpAnyK_take 7 (some 112) (v := ?kv7) rfl rfl (by kernel_rfl) (by kernel_rfl) (by kernel_rfl) (by decide) (by kernel_rfl) (fun _ _ _ h => h) (by rfl) ?ky7 hS.out ?kr7
              case ky7 => ((intro wk hk); (try dsimp only at hk); go_simp; try with_reducible rfl)
              try simp only [Act.put, List.setIfInBounds_toArray, List.set_cons_zero, List.set_cons_succ]
              refine wpAnyK_take 8 (some 113) (v := ?kv8) rfl rfl (by kernel_rfl) (by kernel_rfl) (by kernel_rfl) (by decide) (by kernel_rfl) (fun _ _ _ h => h) (by rfl) ?ky8 hS.out ?kr8
              case ky8 => ((intro wk hk); (try dsimp only at hk); go_simp; try with_reducible rfl)
              try simp only [Act.put, List.setIfInBounds_toArray, List.set_cons_zero, List.set_cons_succ]
              refine wpAnyK_one 9 (by kernel_rfl) rfl (fun K hK => ?_)
              go_simp
              refine hK.out _ _ (fun _ => hS.out) ?_
              clear hK K
              try simp only [Act.put, List.setIfInBounds_toArray, List.set_cons_zero, List.set_cons_succ]
              refine wpAnyK_done (by kernel_rfl) ?_ _
              clear hS
              obtain ⟨y, hcy, HY, _, _⟩ := (hIa.out.ext r2.out).cell_ hin
              obtain rfl : y = judgeV d f ld l := by have := HY.out; rw [hAi.out] at this; exact (Option.some.inj this).symm
              generalize judgeV d f ld l = jv at *
              have hjj : (jv != jv) = false := by simp
              go_wp2_with fail
              go_roundw
              case rel => exact ⟨i + 1, at_ + 1, G', cs2, by go_num, by go_num, by omega, by omega, hrest.out, r2.out⟩
              case measure => simp [intOf]; omega
            · have hpb : (pageOf pgs (i : Int) == (j : Int)) = false := by simp [hpo]
              have hsk := r1.out.skip hip (fun g hg e => hpo ((r1.out.mem i q (Nat.le_refl _) HQq.out).2 ⟨g, hg, e⟩).2)
              obtain ⟨y, hcy, HY, _, _⟩ := (hIa.out.ext r2.out).cell_ hin
              obtain rfl : y = -1 := by have := HY.out; rw [hsk.1] at this; exact (Option.some.inj this).symm
              replace hsk := Lib.hid hsk
              replace hpo := Lib.hid hpo
              clear r1
              have hjj : ((-1 : Int) != -1) = false := by simp
              go_wp2_with fail
              go_roundw
              case rel => exact ⟨i + 1, at_, G, cs', rfl, by go_num, by omega, by omega, hsk.out.2, r2.out⟩
              case measure => simp [intOf]; omega
          · have hkb : (q.kind == 2) = false := by simp [hk2]
            have hsk := r1.out.skip hip (fun g hg e => hk2 ((r1.out.mem i q (Nat.le_refl _) HQq.out).2 ⟨g, hg, e⟩).1)
            obtain ⟨y, hcy, HY, _, _⟩ := (hIa.out.ext r2.out).cell_ hin
            obtain rfl : y = -1 := by have := HY.out; rw [hsk.1] at this; exact (Option.some.inj this).symm
            replace hsk := Lib.hid hsk
            replace hk2 := Lib.hid hk2
            clear r1
            have hjj : ((-1 : Int) != -1) = false := by simp
            go_wp2_with fail
            go_roundw
            case rel => exact ⟨i + 1, at_, G, cs', rfl, by go_num, by omega, by omega, hsk.out.2, r2.out⟩
            case measure => simp [intOf]; omega
        · obtain rfl : i = na := by omega
          obtain rfl : at_ = nr := by have := r1.out.fin (by have := HN.out; omega); have := HLR.out; omega
          have hjj : ((at_ : Int) == at_) = true := by simp
          go_wp2_with fail
          refine (awake_any _).mono ?_
          rintro e x5 ⟨rfl, hx5⟩
          go_wp2_with fail
          go_ret
          exact ⟨rfl, (HE2.out.trans r2.out).trans hx5⟩
end Go.Proofs.Ytndmadohffcdiaa
