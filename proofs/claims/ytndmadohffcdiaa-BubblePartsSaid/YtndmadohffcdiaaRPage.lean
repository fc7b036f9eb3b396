/- The reference's Page. -/
import Derived.Test.YtndmadohffcdiaaPage
import Derived.Test.YtndmadohffcdiaaRFields
namespace Go.Proofs.Ytndmadohffcdiaa
open Go.RowKit

/-- The values of part i among the first k fields. -/
def valsTo (fs : List Fld) (cs : List Int) (i : Int) (k : Nat) : List Int := ((fs.zip cs).take k).filterMap fun x => if x.1.part = i then some x.2 else none
section
variable {fs : List Fld} {cs : List Int} {i : Int} {k : Nat} {q : Fld} {x : Int}
theorem zip_at (hq : fs[k]? = some q) (hx : cs[k]? = some x) : (fs.zip cs)[k]? = some (q, x) := by
  rw [List.getElem?_zip_eq_some]; exact ⟨hq, hx⟩
theorem valsTo_yes (hq : fs[k]? = some q) (hx : cs[k]? = some x) (h : q.part = i) : valsTo fs cs i (k + 1) = valsTo fs cs i k ++ [x] := by
  unfold valsTo; rw [take_snoc (zip_at hq hx)]; simp [h]
theorem valsTo_no (hq : fs[k]? = some q) (hx : cs[k]? = some x) (h : ¬ q.part = i) : valsTo fs cs i (k + 1) = valsTo fs cs i k := by
  unfold valsTo; rw [take_snoc (zip_at hq hx)]; simp [h]
theorem valsTo_all (h : fs.length ≤ k) : valsTo fs cs i k = valsOf fs cs i := by
  unfold valsTo valsOf; rw [List.take_of_length_le (by simp; omega)]
theorem valsOf_mem (h : x ∈ valsOf fs cs i) : x ∈ cs := by
  unfold valsOf at h
  obtain ⟨y, hy, he⟩ := List.mem_filterMap.1 h
  split at he
  · injection he with he; subst he; exact (List.of_mem_zip hy).2
  · cases he
theorem refA_yes {J : List Int → Int} {n j : Nat} (hj : j < n) (h : valsOf fs cs (j : Int) ≠ []) : (refA J n fs cs)[j]? = some (J (valsOf fs cs (j : Int))) := by
  unfold refA; rw [List.getElem?_map, List.getElem?_range hj]; simp [h]
theorem refA_no {J : List Int → Int} {n j : Nat} (hj : j < n) (h : valsOf fs cs (j : Int) = []) : (refA J n fs cs)[j]? = some (-1) := by
  unfold refA; rw [List.getElem?_map, List.getElem?_range hj]; simp [h]
end

set_option maxRecDepth 100000 in
set_option maxHeartbeats 4000000 in
theorem rpage_any (code var d f ld page : Int) (v vb vc : Value) (ps : List Part) (pgs : List (List Int)) (cs : List Int) (w : World) {p : Nat} (hp : p < w.heap.size) (h : IsQ p w v ps) (hb : IsP p w vb pgs) (hc : IsI p w vc cs) (hpg : I64 page) :
    Calls Try.prog 33 #[.agg #[.int .i64 code, .int .i64 var, v], .agg #[vb], .agg #[.int .i64 d, .int .i64 f, .int .i64 ld], .int .i64 page, vc] w (PageRet p w (pageL code var ps pgs d f ld page cs) (pageE code var ps pgs d f ld page cs)) := by
  obtain ⟨A, n, c, rfl, hnc, hcc, hnn, HL⟩ := h.open_
  obtain ⟨Ab, m, cb, rfl, hmc, hcb, hmm, HM⟩ := hb.open_
  obtain ⟨Ac, nc, ccc, rfl, hncc, hccc, hnnc, HC⟩ := hc.open_
  have HE : Hid (Ext w (((w.alloc (.cells #[.int .i64 code, .int .i64 var, .slice A n c] 53)).alloc (.cells #[.slice Ab m cb] 56)).alloc (.cells #[.int .i64 d, .int .i64 f, .int .i64 ld] 23))) := (((Ext.refl _).alloc _).alloc _).alloc _
  have HB := Lib.hid (PgBox.start w code var d f ld (.slice A n c) (.slice Ab m cb) 53 56 23)
  have HQ := Lib.hid (h.ext (RPart.stab p) HE.out)
  have HP := Lib.hid (hb.ext (RI.stab p) HE.out)
  have HI := Lib.hid (hc.ext HE.out)
  have hpw := Nat.lt_of_lt_of_le hp HE.out.size
  have HPG := Lib.hid hpg
  clear h hb hc hpg
  go_enter Try.func33, Try.ntmps33
  go_upto_region 1 with (fail)
  generalize hW : ((w.alloc (.cells #[.int .i64 code, .int .i64 var, .slice A n c] 53)).alloc (.cells #[.slice Ab m cb] 56)).alloc (.cells #[.int .i64 d, .int .i64 f, .int .i64 ld] 23) = W at *
  clear hW
  go_cut [31] (fun s34 wx => ∃ b : Bool, s34 = .bool b ∧ Hid ((b = false ↔ vldB d f ld = true ∧ bkB code var ps pgs = true) ∧ Ext W wx))
  case first =>
    obtain ⟨⟨b0, b1, b2⟩, b3, b4, b5, b6⟩ := HB.out
    go_wp2_with fail
    refine (rvalidPaper_any _ _ _ ps _ HQ.out).mono ?_
    rintro e w1 ⟨rfl, hx1⟩
    cases hv : vpaB code var ps with
    | false =>
      have hnb : bkB code var ps pgs = false := bk_false fun x => by have := x.1; rw [hv] at this; cases this
      replace hv := Lib.hid hv
      replace hnb := Lib.hid hnb
      go_wp2_with fail
      go_meet
      exact ⟨true, rfl, by simp [hnb.out], hx1⟩
    | true =>
      replace hv := Lib.hid hv
      replace HB := Lib.hid (HB.out.ext hx1)
      have HE1 := Lib.hid hx1
      clear b0 b1 b2 b3 b4 b5 b6 hx1
      obtain ⟨⟨b0, b1, b2⟩, b3, b4, b5, b6⟩ := HB.out
      go_wp2_with fail
      refine (rvalid_any _ _ _ _).mono ?_
      rintro e w2 ⟨rfl, hx2⟩
      replace HE1 := Lib.hid (HE1.out.trans hx2)
      replace HB := Lib.hid (HB.out.ext hx2)
      clear b0 b1 b2 b3 b4 b5 b6 hx2
      cases ht : vldB d f ld with
      | false =>
        replace ht := Lib.hid ht
        go_wp2_with fail
        go_meet
        exact ⟨true, rfl, by simp [ht.out], HE1.out⟩
      | true =>
        replace ht := Lib.hid ht
        obtain ⟨⟨b0, b1, b2⟩, b3, b4, b5, b6⟩ := HB.out
        go_wp2_with fail
        refine (rbkvalid_any _ _ _ _ ps pgs _ (HQ.out.ext (RPart.stab p) HE1.out) (HP.out.ext (RI.stab p) HE1.out)).mono ?_
        rintro e w3 ⟨rfl, hx3⟩
        go_wp2_with fail
        go_meet
        exact ⟨!bkB code var ps pgs, rfl, by simp [ht.out], HE1.out.trans hx3⟩
  case rest =>
  obtain ⟨b, rfl, HR⟩ := hcut
  have HT := Lib.hid HR.out.1
  replace HB := Lib.hid (HB.out.ext HR.out.2)
  replace HQ := Lib.hid ((HQ.out.ext (RPart.stab p) HR.out.2))
  replace HP := Lib.hid ((HP.out.ext (RI.stab p) HR.out.2))
  replace HI := Lib.hid (HI.out.ext HR.out.2)
  replace HE := Lib.hid (HE.out.trans HR.out.2)
  replace hpw := Nat.lt_of_lt_of_le hpw HR.out.2.size
  clear HR
  cases b
  case true =>
    have H1 := Lib.hid (page_1 (code := code) (var := var) (ps := ps) (pgs := pgs) (d := d) (f := f) (ld := ld) (page := page) (cs := cs) (fun x => by have := HT.out.2 x; cases this))
    go_wp2_with fail
    exact bodyPost_ret (v := .tuple #[.slice none 0 0, .int .i64 1]) (by simp [results, Try.results33, go_sem]) rfl (PageRet.mk0 H1.out HE.out)
  have HV := Lib.hid (HT.out.1 rfl)
  clear HT
  obtain ⟨⟨b0, b1, b2⟩, b3, b4, b5, b6⟩ := HB.out
  by_cases hin : 0 ≤ page ∧ page < m
  case neg =>
    have H4 := Lib.hid (page_4 (page := page) (cs := cs) HV.out (by rw [HM.out]; exact hin))
    have hin' : page < 0 ∨ (m : Int) ≤ page := by omega
    clear hin
    by_cases hneg : page < 0
    · clear hin'
      go_wp2_with fail
      exact bodyPost_ret (v := .tuple #[.slice none 0 0, .int .i64 4]) (by simp [results, Try.results33, go_sem]) rfl (PageRet.mk0 H4.out HE.out)
    · have hge : (m : Int) ≤ page := by omega
      clear hin'
      go_wp2_with fail
      exact bodyPost_ret (v := .tuple #[.slice none 0 0, .int .i64 4]) (by simp [results, Try.results33, go_sem]) rfl (PageRet.mk0 H4.out HE.out)
  have HIN : Hid (0 ≤ page ∧ page < pgs.length) := by show _ ∧ _; rw [HM.out]; exact hin
  obtain ⟨hi0, hi1⟩ := hin
  go_wp2_with fail
  refine (rfields_any _ _ _ _ _ ps pgs _ hpw HQ.out HP.out HPG.out).mono ?_
  rintro e w4 ⟨vf, rfl, hF, hx4⟩
  obtain ⟨Af, nf, cf, rfl, hncf, hcf, hnnf, HLF⟩ := hF.open_
  replace hF := Lib.hid hF
  replace HB := Lib.hid (HB.out.ext hx4)
  replace HQ := Lib.hid ((HQ.out.ext (RPart.stab p) hx4))
  replace HI := Lib.hid (HI.out.ext hx4)
  replace HE := Lib.hid (HE.out.trans hx4)
  replace hpw := Nat.lt_of_lt_of_le hpw hx4.size
  clear b0 b1 b2 b3 b4 b5 b6 hx4 HP
  by_cases hlen : nc = nf
  case neg =>
    have H22 := Lib.hid (page_22 (cs := cs) HV.out HIN.out (by rw [HC.out, HLF.out]; exact hlen))
    have hne : ((nc : Int) != nf) = true := by simp; omega
    clear hlen
    go_wp2_with fail
    exact bodyPost_ret (v := .tuple #[.slice none 0 0, .int .i64 22]) (by simp [results, Try.results33, go_sem]) rfl (PageRet.mk0 H22.out HE.out)
  subst hlen
  have HLN : Hid (cs.length = (fieldsP code var ps pgs page).length) := by show _ = _; rw [HC.out, HLF.out]
  have hnn0 : ((nc : Int) != nc) = false := by simp
  go_wp2_with fail
  refine (dark_any _ cs _ HI.out).mono ?_
  rintro e w' ⟨rfl, rfl⟩
  cases hall : cs.all valB with
  | false =>
    have H2 := Lib.hid (page_2 HV.out HIN.out HLN.out hall)
    replace hall := Lib.hid hall
    go_wp2_with fail
    exact bodyPost_ret (v := .tuple #[.slice none 0 0, .int .i64 2]) (by simp [results, Try.results33, go_sem]) rfl (PageRet.mk0 H2.out HE.out)
  | true =>
  have H0 := Lib.hid (page_0 HV.out HIN.out HLN.out hall)
  replace hall := Lib.hid hall
  have hps := (vpa_of (bk_of HV.out.2).1)
  have hn24 : n ≤ 24 := by have := hps.2.2.2.2.2.1; have := HL.out; omega
  clear hps
  obtain ⟨i0, hi0', hz0, hz1, hz2⟩ := info_parts Try.infoI
  have hnc120 : nc ≤ 1000 := by
    have hnn : 0 ≤ page ∧ page < pgs.length := HIN.out
    obtain ⟨j, hj⟩ := Int.eq_ofNat_of_zero_le hi0
    obtain ⟨pg, hpgj⟩ : ∃ pg, pgs[j]? = some pg := ⟨_, List.getElem?_eq_getElem (by have := hnn.2; omega)⟩
    have h1 := HLF.out
    rw [hj, fieldsP_in HV.out.2 hpgj, flds_groups ps pg (groups_ok HV.out.2 hpgj).2] at h1
    have h2 := groups_len _ (groups_ok HV.out.2 hpgj).1
    have h3 : (groups ps pg).length ≤ pg.length := List.length_filterMap_le _ _
    have h4 := (page_parts HV.out.2 hpgj).1
    omega
  generalize hfs : fieldsP code var ps pgs page = fs at *
  have HFS := Lib.hid hfs
  clear hfs
  go_wp2_with fail
  go_loopw [13, 14] (fun s13 s14 wr => ∃ (i : Nat), s14 = .int .i64 i ∧ i ≤ n ∧ Hid (wr.ownsRow w4.heap.size 3 1 s13 i (((refA (judgeV d f ld) n fs cs).take i).map (Value.int .i64)) ∧ Ext w4 wr)) (fun _ i _ => n - (intOf i).toNat)
  case atStart => exact ⟨0, rfl, by omega, World.ownsRow_nil _ _ _ _, Ext.refl _⟩
  case round =>
    obtain ⟨i, rfl, hi, HR⟩ := hrel
    obtain ⟨⟨b0, b1, b2⟩, b3, b4, b5, b6⟩ := HB.out.ext HR.out.2
    by_cases hin : i < n
    · obtain ⟨q1, q2⟩ := HR.out
      replace q1 := Lib.hid q1
      replace q2 := Lib.hid q2
      clear HR
      obtain ⟨wo, rfl⟩ : ∃ wo : World, wo = wr := ⟨_, rfl⟩
      have hso : w4.heap.size ≤ wo.heap.size := q2.out.size
      go_wp2_with fail
      go_loopw [15, 16] (fun s15 s16 wr => ∃ (k : Nat) (vals : List Int), s16 = .int .i64 k ∧ k ≤ nc ∧ vals.length ≤ k ∧ Hid (vals = valsTo fs cs i k ∧ wr.ownsRow wo.heap.size 3 1 s15 vals.length (vals.map (Value.int .i64)) ∧ Ext wo wr)) (fun _ i _ => nc - (intOf i).toNat)
      case atStart => exact ⟨0, [], rfl, by omega, by simp, by simp [valsTo], World.ownsRow_nil _ _ _ _, Ext.refl _⟩
      case round =>
        obtain ⟨k, vals, rfl, hk, hvl, HS⟩ := hrel
        by_cases hkn : k < nc
        · obtain ⟨bf, of, cs1, z1, rfl, _⟩ := hF.out.at_ hkn
          obtain ⟨bc, oc, z2, rfl, _⟩ := HI.out.at_ hkn
          obtain ⟨q, cq, _, HQ, hqi, _⟩ := ((hF.out.ext (RFld.stab p) q2.out).ext (RFld.stab p) HS.out.2.2).fld hkn
          obtain ⟨x, hcx, HX, hx1, hx2⟩ := ((HI.out.ext q2.out).ext HS.out.2.2).cell_ hkn
          by_cases hqp : q.part = (i : Int)
          · have hqb : (q.part == (i : Int)) = true := by simp [hqp]
            replace hqp := Lib.hid hqp
            have hso2 := HS.out.2.2.size
            go_wp2_with (at_builtin; refine wpList_push _ rfl (.tmp 73) (.tmp 78) 28 rfl wo.heap.size 3 i0 _ 8 Try.underlying28 hi0' hz0 hz1 hz2 rfl _ _ _ rfl (HS.out.2.1.alloc _) _ _ rfl (by simp; rfl) rfl (by omega) (by omega) (by simp; omega) ?_; intro v7 w7 hown7 hg7)
            go_roundw
            case rel => first | exact ⟨k + 1, vals ++ [x], by go_num, by omega, by simp; omega, by rw [valsTo_yes HQ.out HX.out hqp.out, HS.out.1], by simpa using hown7, Ext.grown (HS.out.2.2.alloc _) hg7 (own_ge HS.out.2.1)⟩ | exact ⟨k + 1, by omega, by omega, vals ++ [x], by simp; omega, by rw [valsTo_yes HQ.out HX.out hqp.out, HS.out.1], by simpa using hown7, Ext.grown (HS.out.2.2.alloc _) hg7 (own_ge HS.out.2.1)⟩
            case measure => simp [intOf]; omega
          · have hqb : (q.part == (i : Int)) = false := by simp [hqp]
            replace hqp := Lib.hid hqp
            go_wp2_with fail
            go_roundw
            case rel => first | exact ⟨k + 1, vals, by go_num, by omega, by omega, by rw [valsTo_no HQ.out HX.out hqp.out]; exact HS.out.1, HS.out.2⟩ | exact ⟨k + 1, by omega, by omega, vals, by omega, by rw [valsTo_no HQ.out HX.out hqp.out]; exact HS.out.1, HS.out.2⟩
            case measure => simp [intOf]; omega
        · obtain rfl : k = nc := by omega
          have hve : vals = valsOf fs cs (i : Int) := by rw [HS.out.1]; exact valsTo_all (by have := HC.out; have := HLF.out; omega)
          have hvi : ∀ x ∈ vals, I64 x := by
            intro x hx
            rw [hve] at hx
            exact HI.out.mem (valsOf_mem hx)
          have hIv : IsI p wr u15 vals := IsI.of_own HS.out.2.1 (by omega) hvi (by omega)
          have q8 := Lib.hid (own_ext q1.out HS.out.2.2)
          have q9 := Lib.hid (q2.out.trans HS.out.2.2)
          obtain ⟨Av, nv, cv, hv15, _, _, _, HLv⟩ := hIv.open_
          subst hv15
          replace hve := Lib.hid hve
          replace hIv := Lib.hid hIv
          clear HS hvi
          obtain ⟨⟨b0, b1, b2⟩, b3, b4, b5, b6⟩ := HB.out.ext q9.out
          have hs9 := q9.out.size
          by_cases hv0 : 0 < nv
          · have hat : Hid ((refA (judgeV d f ld) n fs cs)[i]? = some (judgeV d f ld vals)) := by
              show _ = _
              rw [hve.out]
              refine refA_yes hin ?_
              rw [← hve.out]
              intro e
              have := HLv.out
              rw [e] at this
              simp at this
              omega
            have hjb := judgeV_bd d f ld vals
            go_wp2_with fail
            refine (rjudge_any _ _ _ _ vals _ hIv.out).mono ?_
            rintro e x1 ⟨rfl, hx1⟩
            generalize hjv : judgeV d f ld vals = jv at *
            replace q8 := Lib.hid (own_ext q8.out hx1)
            replace q9 := Lib.hid (q9.out.trans hx1)
            have hs10 := hx1.size
            clear b0 b1 b2 b3 b4 b5 b6 hx1 hjv
            go_wp2_with (at_builtin; refine wpList_push _ rfl (.tmp 89) (.tmp 91) 28 rfl w4.heap.size 3 i0 _ 8 Try.underlying28 hi0' hz0 hz1 hz2 rfl _ _ _ rfl (q8.out.alloc _) _ _ rfl (by simp; rfl) rfl (by omega) (by omega) (by simp; omega) ?_; intro v7 w7 hown7 hg7)
            go_roundw
            case rel => exact ⟨i + 1, by go_num, by omega, by rw [take_snoc hat.out]; simpa using hown7, Ext.grown (q9.out.alloc _) hg7 (own_ge q8.out)⟩
            case measure => simp [intOf]; omega
          · have hat : Hid ((refA (judgeV d f ld) n fs cs)[i]? = some (-1)) := by
              show _ = _
              refine refA_no hin ?_
              rw [← hve.out]
              exact List.eq_nil_of_length_eq_zero (by have := HLv.out; omega)
            go_wp2_with (at_builtin; refine wpList_push _ rfl (.tmp 89) (.tmp 91) 28 rfl w4.heap.size 3 i0 _ 8 Try.underlying28 hi0' hz0 hz1 hz2 rfl _ _ _ rfl (q8.out.alloc _) _ _ rfl (by simp; rfl) rfl (by omega) (by omega) (by simp; omega) ?_; intro v7 w7 hown7 hg7)
            go_roundw
            case rel => exact ⟨i + 1, by go_num, by omega, by rw [take_snoc hat.out]; simpa using hown7, Ext.grown (q9.out.alloc _) hg7 (own_ge q8.out)⟩
            case measure => simp [intOf]; omega
    · obtain rfl : i = n := by omega
      obtain ⟨q1, q2⟩ := HR.out
      have hlr : (refA (judgeV d f ld) i fs cs).length = i := by simp [refA]
      rw [List.take_of_length_le (by omega)] at q1
      have hI9 : IsI p wr u13 (refA (judgeV d f ld) i fs cs) := IsI.of_own q1 hpw (refA_i64 _ _ _) (by omega)
      obtain ⟨Av, nv, cv, hv13, _, _, _, HLv⟩ := hI9.open_
      subst hv13
      replace hI9 := Lib.hid hI9
      replace q2 := Lib.hid q2
      clear q1 HR
      go_wp2_with fail
      refine bodyPost_ret (v := .tuple #[.slice Av nv cv, .int .i64 0]) (by simp [results, Try.results33, go_sem]) rfl ⟨_, by rw [← H0.out.2], by rw [← H0.out.1, HL.out]; exact hI9.out, HE.out.trans q2.out⟩
end Go.Proofs.Ytndmadohffcdiaa
