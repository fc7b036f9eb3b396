/- bubble.Page. -/
import Derived.Test.YtndmadohffcdiaaPageP
import Derived.Test.YtndmadohffcdiaaRepeat
import Derived.Test.YtndmadohffcdiaaFields
import Derived.Test.YtndmadohffcdiaaBubD
namespace Go.Proofs.Ytndmadohffcdiaa
open Go.RowKit

/-- The three blocks of Page's arguments. -/
def PgBox (w : World) (code var : Int) (sv bv : Value) (d f ld : Int) (wx : World) : Prop :=
  (wx.cell? ⟨w.heap.size, 0, none⟩ = some (.int .i64 code) ∧ wx.cell? ⟨w.heap.size, 1, none⟩ = some (.int .i64 var) ∧ wx.cell? ⟨w.heap.size, 2, none⟩ = some sv) ∧ wx.cell? ⟨w.heap.size + 1, 0, none⟩ = some bv ∧
  wx.cell? ⟨w.heap.size + 1 + 1, 0, none⟩ = some (.int .i64 d) ∧ wx.cell? ⟨w.heap.size + 1 + 1, 1, none⟩ = some (.int .i64 f) ∧ wx.cell? ⟨w.heap.size + 1 + 1, 2, none⟩ = some (.int .i64 ld)
theorem PgBox.ext {w wx w' : World} {code var d f ld : Int} {sv bv : Value} (h : PgBox w code var sv bv d f ld wx) (hx : Ext wx w') : PgBox w code var sv bv d f ld w' :=
  ⟨⟨hx.cell h.1.1, hx.cell h.1.2.1, hx.cell h.1.2.2⟩, hx.cell h.2.1, hx.cell h.2.2.1, hx.cell h.2.2.2.1, hx.cell h.2.2.2.2⟩
theorem PgBox.start (w : World) (code var d f ld : Int) (sv bv : Value) (t1 t2 t3 : TypeId) :
    PgBox w code var sv bv d f ld (((w.alloc (.cells #[.int .i64 code, .int .i64 var, sv] t1)).alloc (.cells #[bv] t2)).alloc (.cells #[.int .i64 d, .int .i64 f, .int .i64 ld] t3)) := by
  obtain ⟨h1, h2, h3, h4⟩ := boxPB (w := w) (o := .cells #[.int .i64 code, .int .i64 var, sv] t1) (o' := .cells #[bv] t2) rfl rfl ((Ext.refl _).alloc (.cells #[.int .i64 d, .int .i64 f, .int .i64 ld] t3))
  have h5 := cell3 (heap_alloc_new ((w.alloc (.cells #[.int .i64 code, .int .i64 var, sv] t1)).alloc (.cells #[bv] t2)) (.cells #[.int .i64 d, .int .i64 f, .int .i64 ld] t3))
  exact ⟨⟨h1, h2, h3⟩, h4, by simpa using h5⟩

/-- What Page leaves. -/
def PageRet (p : Nat) (w : World) (l : List Int) (er : Int) (e : Ending) (w' : World) : Prop := ∃ v, e = .returned (.tuple #[v, .int .i64 er]) ∧ IsI p w' v l ∧ Ext w w'

theorem PageRet.mk0 {p : Nat} {w w' : World} {l : List Int} {er k : Int} (h : [] = l ∧ k = er) (hE : Ext w w') : PageRet p w l er (.returned (.tuple #[.slice none 0 0, .int .i64 k])) w' := by
  obtain ⟨rfl, rfl⟩ := h
  exact ⟨_, rfl, IsI.nil _ _, hE⟩
theorem groups_len {n : Nat} : ∀ (G : List (Nat × Nat)), GOk n G → (flatG G).length ≤ 5 * G.length := by
  intro G
  induction G with
  | nil => simp [flatG]
  | cons g G ih =>
    intro h
    have := ih ⟨(List.pairwise_cons.1 h.1).2, fun x hx => h.2 x (by simp [hx])⟩
    have := (h.2 g (by simp)).2.2
    rw [flatG_cons, List.length_append, grp_len]
    simp; omega

set_option maxRecDepth 100000 in
set_option maxHeartbeats 4000000 in
theorem page_any (code var d f ld page : Int) (v vb vc : Value) (ps : List Part) (pgs : List (List Int)) (cs : List Int) (w : World) {p : Nat} (hp : p < w.heap.size) (h : IsQ p w v ps) (hb : IsP p w vb pgs) (hc : IsI p w vc cs) (hpg : I64 page) :
    Calls Try.prog 32 #[.agg #[.int .i64 code, .int .i64 var, v], .agg #[vb], .agg #[.int .i64 d, .int .i64 f, .int .i64 ld], .int .i64 page, vc] w (PageRet p w (pageL code var ps pgs d f ld page cs) (pageE code var ps pgs d f ld page cs)) := by
  obtain ⟨A, n, c, rfl, hnc, hcc, hnn, HL⟩ := h.open_
  obtain ⟨Ab, m, cb, rfl, hmc, hcb, hmm, HM⟩ := hb.open_
  obtain ⟨Ac, nc, ccc, rfl, hncc, hccc, hnnc, HC⟩ := hc.open_
  have HE : Hid (Ext w (((w.alloc (.cells #[.int .i64 code, .int .i64 var, .slice A n c] 53)).alloc (.cells #[.slice Ab m cb] 56)).alloc (.cells #[.int .i64 d, .int .i64 f, .int .i64 ld] 23))) := (((Ext.refl _).alloc _).alloc _).alloc _
  have HB := Lib.hid (PgBox.start w code var d f ld (.slice A n c) (.slice Ab m cb) 53 56 23)
  have HQ := Lib.hid (h.ext (RPart.stab p) HE.out)
  have HP := Lib.hid (hb.ext (RI.stab p) HE.out)
  have HI := Lib.hid (hc.ext HE.out)
  have hpw := Nat.lt_of_lt_of_le hp HE.out.size
  have HPG := Lib.hid hpg
  clear h hb hc hpg
  go_enter Try.func32, Try.ntmps32
  go_upto_region 1 with (fail)
  generalize hW : ((w.alloc (.cells #[.int .i64 code, .int .i64 var, .slice A n c] 53)).alloc (.cells #[.slice Ab m cb] 56)).alloc (.cells #[.int .i64 d, .int .i64 f, .int .i64 ld] 23) = W at *
  clear hW
  go_cut [34] (fun s34 wx => ∃ b : Bool, s34 = .bool b ∧ Hid ((b = false ↔ vldB d f ld = true ∧ bkB code var ps pgs = true) ∧ Ext W wx))
  case first =>
    obtain ⟨⟨b0, b1, b2⟩, b3, b4, b5, b6⟩ := HB.out
    go_wp2_with fail
    refine (validPaper_any _ _ _ ps _ HQ.out).mono ?_
    rintro e w1 ⟨rfl, hx1⟩
    cases hv : vpaB code var ps with
    | false =>
      have hnb : bkB code var ps pgs = false := bk_false fun x => by have := x.1; rw [hv] at this; cases this
      replace hv := Lib.hid hv
      replace hnb := Lib.hid hnb
      go_wp2_with fail
      go_meet
      exact ⟨true, rfl, by simp [hnb.out], hx1⟩
    | true =>
      replace hv := Lib.hid hv
      replace HB := Lib.hid (HB.out.ext hx1)
      have HE1 := Lib.hid hx1
      clear b0 b1 b2 b3 b4 b5 b6 hx1
      obtain ⟨⟨b0, b1, b2⟩, b3, b4, b5, b6⟩ := HB.out
      go_wp2_with fail
      refine (valid_any _ _ _ _).mono ?_
      rintro e w2 ⟨rfl, hx2⟩
      replace HE1 := Lib.hid (HE1.out.trans hx2)
      replace HB := Lib.hid (HB.out.ext hx2)
      clear b0 b1 b2 b3 b4 b5 b6 hx2
      cases ht : vldB d f ld with
      | false =>
        replace ht := Lib.hid ht
        go_wp2_with fail
        go_meet
        exact ⟨true, rfl, by simp [ht.out], HE1.out⟩
      | true =>
        replace ht := Lib.hid ht
        obtain ⟨⟨b0, b1, b2⟩, b3, b4, b5, b6⟩ := HB.out
        go_wp2_with fail
        refine (bkvalid_any _ _ _ _ ps pgs _ (HQ.out.ext (RPart.stab p) HE1.out) (HP.out.ext (RI.stab p) HE1.out)).mono ?_
        rintro e w3 ⟨rfl, hx3⟩
        go_wp2_with fail
        go_meet
        exact ⟨!bkB code var ps pgs, rfl, by simp [ht.out], HE1.out.trans hx3⟩
  case rest =>
  obtain ⟨b, rfl, HR⟩ := hcut
  have HT := Lib.hid HR.out.1
  replace HB := Lib.hid (HB.out.ext HR.out.2)
  replace HQ := Lib.hid ((HQ.out.ext (RPart.stab p) HR.out.2))
  replace HP := Lib.hid ((HP.out.ext (RI.stab p) HR.out.2))
  replace HI := Lib.hid (HI.out.ext HR.out.2)
  replace HE := Lib.hid (HE.out.trans HR.out.2)
  replace hpw := Nat.lt_of_lt_of_le hpw HR.out.2.size
  clear HR
  cases b
  case true =>
    have H1 := Lib.hid (page_1 (code := code) (var := var) (ps := ps) (pgs := pgs) (d := d) (f := f) (ld := ld) (page := page) (cs := cs) (fun x => by have := HT.out.2 x; cases this))
    go_wp2_with fail
    exact bodyPost_ret (v := .tuple #[.slice none 0 0, .int .i64 1]) (by simp [results, Try.results32, go_sem]) rfl (PageRet.mk0 H1.out HE.out)
  have HV := Lib.hid (HT.out.1 rfl)
  clear HT
  obtain ⟨⟨b0, b1, b2⟩, b3, b4, b5, b6⟩ := HB.out
  by_cases hin : 0 ≤ page ∧ page < m
  case neg =>
    have H4 := Lib.hid (page_4 (page := page) (cs := cs) HV.out (by rw [HM.out]; exact hin))
    have hin' : page < 0 ∨ (m : Int) ≤ page := by omega
    clear hin
    by_cases hneg : page < 0
    · clear hin'
      go_wp2_with fail
      exact bodyPost_ret (v := .tuple #[.slice none 0 0, .int .i64 4]) (by simp [results, Try.results32, go_sem]) rfl (PageRet.mk0 H4.out HE.out)
    · have hge : (m : Int) ≤ page := by omega
      clear hin'
      go_wp2_with fail
      exact bodyPost_ret (v := .tuple #[.slice none 0 0, .int .i64 4]) (by simp [results, Try.results32, go_sem]) rfl (PageRet.mk0 H4.out HE.out)
  have HIN : Hid (0 ≤ page ∧ page < pgs.length) := by show _ ∧ _; rw [HM.out]; exact hin
  obtain ⟨hi0, hi1⟩ := hin
  go_wp2_with fail
  refine (fields_any _ _ _ _ _ ps pgs _ hpw HQ.out HP.out HPG.out).mono ?_
  rintro e w4 ⟨vf, rfl, hF, hx4⟩
  obtain ⟨Af, nf, cf, rfl, hncf, hcf, hnnf, HLF⟩ := hF.open_
  replace hF := Lib.hid hF
  replace HB := Lib.hid (HB.out.ext hx4)
  replace HQ := Lib.hid ((HQ.out.ext (RPart.stab p) hx4))
  replace HI := Lib.hid (HI.out.ext hx4)
  replace HE := Lib.hid (HE.out.trans hx4)
  replace hpw := Nat.lt_of_lt_of_le hpw hx4.size
  clear b0 b1 b2 b3 b4 b5 b6 hx4 HP
  by_cases hlen : nc = nf
  case neg =>
    have H22 := Lib.hid (page_22 (cs := cs) HV.out HIN.out (by rw [HC.out, HLF.out]; exact hlen))
    have hne : ((nc : Int) != nf) = true := by simp; omega
    clear hlen
    go_wp2_with fail
    exact bodyPost_ret (v := .tuple #[.slice none 0 0, .int .i64 22]) (by simp [results, Try.results32, go_sem]) rfl (PageRet.mk0 H22.out HE.out)
  subst hlen
  have HLN : Hid (cs.length = (fieldsP code var ps pgs page).length) := by show _ = _; rw [HC.out, HLF.out]
  have hnn0 : ((nc : Int) != nc) = false := by simp
  go_wp2_with fail
  refine (allValues_any _ cs _ HI.out).mono ?_
  rintro e w' ⟨rfl, rfl⟩
  cases hall : cs.all valB with
  | false =>
    have H2 := Lib.hid (page_2 HV.out HIN.out HLN.out hall)
    replace hall := Lib.hid hall
    go_wp2_with fail
    exact bodyPost_ret (v := .tuple #[.slice none 0 0, .int .i64 2]) (by simp [results, Try.results32, go_sem]) rfl (PageRet.mk0 H2.out HE.out)
  | true =>
  have H0 := Lib.hid (page_0 HV.out HIN.out HLN.out hall)
  replace hall := Lib.hid hall
  obtain ⟨j, rfl⟩ := Int.eq_ofNat_of_zero_le hi0
  have hjm : j < m := by omega
  obtain ⟨pg, hpgj⟩ : ∃ pg, pgs[j]? = some pg := ⟨_, List.getElem?_eq_getElem (by have := HM.out; omega)⟩
  have HFI := Lib.hid (fieldsP_in HV.out.2 hpgj)
  have HGO := Lib.hid (groups_ok HV.out.2 hpgj)
  have HFG : Hid (fieldsP code var ps pgs (j : Int) = flatG (groups ps pg)) := by show _ = _; rw [HFI.out]; exact flds_groups ps pg HGO.out.2
  have hps := (vpa_of (bk_of HV.out.2).1)
  have hn24 : n ≤ 24 := by have := hps.2.2.2.2.2.1; have := HL.out; omega
  have hn1 : 1 ≤ n := by have := hps.2.2.2.2.1; have := HL.out; omega
  clear hps
  have hnc120 : nc ≤ 1000 := by
    have h1 := HLF.out
    rw [HFG.out] at h1
    have h2 := groups_len _ HGO.out.1
    have h3 : (groups ps pg).length ≤ pg.length := List.length_filterMap_le _ _
    have h4 := (page_parts HV.out.2 hpgj).1
    omega
  clear hpgj
  go_wp2_with fail
  refine (split_any _ _ _ cs _ hpw hF.out HI.out (by have := HC.out; omega)).mono ?_
  rintro e w5 ⟨vr, rs, er, rfl, hPr, hx5, hr1, hr2⟩
  obtain ⟨hrs, rfl⟩ := hr2 HLN.out.symm
  obtain ⟨Ar, nr, cr, rfl, hncr, hcr, hnnr, HLR⟩ := hPr.open_
  have HRS : Hid (rs = chunks (groups ps pg) cs) := by
    show _ = _
    rw [hrs]
    exact runs_all HLN.out.symm HGO.out.1.1 (fun g hg => (HGO.out.1.2 g hg).2.1) HFG.out
  replace hPr := Lib.hid hPr
  replace HB := Lib.hid (HB.out.ext hx5)
  replace HE := Lib.hid (HE.out.trans hx5)
  replace hF := Lib.hid ((hF.out.ext (RFld.stab p) hx5))
  replace hpw := Nat.lt_of_lt_of_le hpw hx5.size
  clear hr1 hr2 hrs hx5 HI
  obtain ⟨⟨b0, b1, b2⟩, b3, b4, b5, b6⟩ := HB.out
  have ba : ∀ o, (w5.alloc o).cell? ⟨w.heap.size, 2, none⟩ = some (.slice A n c) := fun o => Ext.cell ((Ext.refl _).alloc o) b2
  have HE5 := Lib.hid ((Ext.refl w5).alloc (.cells #[.int .i64 (-1)] 3))
  go_wp2_with fail
  refine (repeat_any w5.heap.size 0 1 n (-1) _ hn24 (blk_cell (heap_alloc_new w5 (.cells #[.int .i64 (-1)] 3)) (i := 0) rfl) (by omega) (by omega)).mono ?_
  rintro e w6 ⟨va, rfl, hown, hx6⟩
  obtain ⟨g, cap, rfl, hgb, hgl⟩ := own_form hown (by omega)
  have hx56 := Lib.hid (HE5.out.trans hx6)
  have HOWN := Lib.hid (own_base hown (base' := w5.heap.size) (by simp))
  have hgw : w5.heap.size ≤ g := by simp at hgb; omega
  have hpg : p < w5.heap.size := hpw
  clear b0 b1 b2 b3 b4 b5 b6 ba hown hx6 HE5 hgb hgl HQ
  have HANS : Hid (ansF (judgeV d f ld) (groups ps pg) cs (List.replicate n (-1)) = pageL code var ps pgs d f ld (j : Int) cs) := by
    show _ = _
    rw [← H0.out.1, HFG.out, ← HL.out]
    exact ans_ref HGO.out.1 (by rw [← HFG.out]; exact HLN.out.symm)
  go_wp2_with fail
  go_loopw [16, 72] (fun s16 s72 wr => ∃ (r nx : Nat) (G' : List (Nat × Nat)) (cs' acc : List Int), s16 = .int .i64 nx ∧ s72 = .int .i64 r ∧ r ≤ nr ∧ nx ≤ nc ∧
      Hid (rs.drop r = chunks G' cs' ∧ (fieldsP code var ps pgs (j : Int)).drop nx = flatG G' ∧ GOk n G' ∧ (flatG G').length = cs'.length ∧ cs'.all valB = true ∧ ansF (judgeV d f ld) G' cs' acc = pageL code var ps pgs d f ld (j : Int) cs ∧ acc.length = n ∧ wr.ownsRow w5.heap.size 3 1 (.slice (some ⟨g, 0, none⟩) n cap) n (acc.map (Value.int .i64)) ∧ Ext w5 wr)) (fun _ i _ => nr - (intOf i).toNat)
  case atStart => exact ⟨0, 0, groups ps pg, cs, List.replicate n (-1), rfl, rfl, by omega, by omega, by simpa using HRS.out, by simpa using HFG.out, by have := HGO.out.1; rw [HL.out] at this; exact this, by rw [← HFG.out]; exact HLN.out.symm, hall.out, HANS.out, by simp, HOWN.out, hx56.out⟩
  case round =>
    obtain ⟨r, nx, G', cs', acc, rfl, rfl, hr, hnx, HR⟩ := hrel
    clear HOWN hx56 HRS HANS HFI HGO
    obtain ⟨q1, q2, q3, q4, q5, q6, q7, q8, q9⟩ := HR.out
    by_cases hrn : r < nr
    · cases G' with
      | nil =>
        exfalso
        have := congrArg List.length q1
        have := HLR.out
        simp [chunks] at *
        omega
      | cons gg G'' =>
      have hgo := q3.2 gg (by simp)
      have hlg : gg.2 ≤ cs'.length := by rw [flatG_cons, List.length_append, grp_len] at q4; omega
      have hrun : rs[r]? = some (cs'.take gg.2) := by
        have := congrArg (fun l => l[0]?) q1
        simpa [chunks] using this
      have hfld : (fieldsP code var ps pgs (j : Int))[nx]? = some ⟨(gg.1 : Int), 0⟩ := by
        have h0 : ((fieldsP code var ps pgs (j : Int)).drop nx)[0]? = some ⟨(gg.1 : Int), 0⟩ := by
          rw [q2, flatG_cons, List.getElem?_append_left (by rw [grp_len]; omega)]
          unfold grp
          rw [List.getElem?_map, List.getElem?_range (by omega)]; rfl
        rw [List.getElem?_drop] at h0
        simpa using h0
      have hnxl : nx < nc := by have := (List.getElem?_eq_some_iff.1 hfld).1; have := HLF.out; omega
      have hnxs : nx + gg.2 ≤ nc := by
        have h1 := congrArg List.length q2
        rw [flatG_cons, List.length_append, grp_len, List.length_drop] at h1
        have := HLF.out
        omega
      obtain ⟨br, or, cs0, l0, rfl, _⟩ := hPr.out.at_ hrn
      obtain ⟨bf, of, cs1, z1, rfl, _⟩ := hF.out.at_ hnxl
      obtain ⟨u, l, hcu, hIu, HX⟩ := (hPr.out.ext (RI.stab p) q9).page hrn
      obtain rfl : l = cs'.take gg.2 := by have := HX.out; rw [hrun] at this; exact (Option.some.inj this).symm
      have htl : (cs'.take gg.2).length = gg.2 := by rw [List.length_take]; omega
      obtain ⟨Au, nu, cu, rfl, _, _, _, HLu⟩ := hIu.open_
      obtain rfl : nu = gg.2 := by rw [← HLu.out, htl]
      have htv : (cs'.take gg.2).all valB = true := by
        rw [List.all_eq_true] at *
        exact fun x hx => q5 x (List.mem_of_mem_take hx)
      have hje := jE_ok (d := d) (f := f) (lead := ld) HV.out.1 htl hgo.2.1 hgo.2.2 htv
      have hjb := judgeV_bd d f ld (cs'.take gg.2)
      have HNEXT : Hid (ansF (judgeV d f ld) G'' (cs'.drop gg.2) (acc.set gg.1 (judgeV d f ld (cs'.take gg.2))) = pageL code var ps pgs d f ld (j : Int) cs) := q6
      have hdv : (cs'.drop gg.2).all valB = true := by
        rw [List.all_eq_true] at *
        exact fun x hx => q5 x (List.mem_of_mem_drop hx)
      have hd1 : rs.drop (r + 1) = chunks G'' (cs'.drop gg.2) := by
        rw [← List.drop_drop, q1]; rfl
      have hd2 : (fieldsP code var ps pgs (j : Int)).drop (nx + gg.2) = flatG G'' := by
        rw [← List.drop_drop, q2, flatG_cons, List.drop_append, List.drop_eq_nil_of_le (by rw [grp_len]; omega), grp_len]; simp
      have hd4 : (flatG G'').length = (cs'.drop gg.2).length := by
        rw [flatG_cons, List.length_append, grp_len] at q4; rw [List.length_drop]; omega
      have hg3 : GOk n G'' := ⟨(List.pairwise_cons.1 q3.1).2, fun x hx => q3.2 x (by simp [hx])⟩
      obtain ⟨hgn, hg2, hg5⟩ := hgo
      generalize hjv : judgeV d f ld (cs'.take gg.2) = jv at *
      replace q7 := Lib.hid q7
      replace q8 := Lib.hid q8
      replace q9 := Lib.hid q9
      replace hje := Lib.hid hje
      replace hrun := Lib.hid hrun
      replace hfld := Lib.hid hfld
      replace htl := Lib.hid htl
      replace hIu := Lib.hid hIu
      replace HNEXT := Lib.hid HNEXT
      replace hdv := Lib.hid hdv
      replace hd1 := Lib.hid hd1
      replace hd2 := Lib.hid hd2
      replace hd4 := Lib.hid hd4
      replace hg3 := Lib.hid hg3
      replace hjv := Lib.hid hjv
      replace htv := Lib.hid htv
      clear q1 q2 q3 q4 q5 q6 HR hlg
      obtain ⟨⟨b0, b1, b2⟩, b3, b4, b5, b6⟩ := HB.out.ext q9.out
      go_wp2_with fail
      refine (judge_any _ _ _ _ (cs'.take gg.2) _ hIu.out).mono ?_
      rintro e x1 ⟨rfl, hx1⟩
      rw [← hje.out, hjv.out]
      replace q9 := Lib.hid (q9.out.trans hx1)
      replace q8 := Lib.hid (own_ext q8.out hx1)
      obtain ⟨q, cq, _, HQ, _, _⟩ := (hF.out.ext (RFld.stab p) q9.out).fld hnxl
      obtain rfl : q = ⟨(gg.1 : Int), 0⟩ := by have := HQ.out; rw [hfld.out] at this; exact (Option.some.inj this).symm
      simp only at cq
      obtain ⟨y, hcy⟩ : ∃ y, x1.cell? ⟨g, gg.1, none⟩ = some y := by
        have := q8.out.cellAt gg.1 (by omega)
        exact ⟨_, this.trans (List.getElem?_eq_getElem (by have := q7.out; simp; omega))⟩
      have hfy := q8.out.frozenAt gg.1
      have HS := Lib.hid (own_set (k := gg.1) (x := jv) q8.out)
      have HE9 := Lib.hid (q9.out.setCell (p := ⟨g, gg.1, none⟩) hgw (.int .i64 jv))
      have hzz : ((0 : Int) != 0) = false := rfl
      clear b0 b1 b2 b3 b4 b5 b6 hx1 HQ HX hcu
      go_wp2_with fail
      go_roundw
      case rel => exact ⟨r + 1, nx + gg.2, G'', cs'.drop gg.2, acc.set gg.1 jv, by go_num, by go_num, by omega, by omega, hd1.out, hd2.out, hg3.out, hd4.out, hdv.out, HNEXT.out, by have := q7.out; simp; omega, HS.out, HE9.out⟩
      case measure => simp [intOf]; omega
    · obtain rfl : r = nr := by omega
      have hG : G' = [] := by
        cases G' with
        | nil => rfl
        | cons gg G'' =>
          exfalso
          rw [List.drop_of_length_le (by have := HLR.out; omega)] at q1
          simp [chunks] at q1
      subst hG
      have hacc : acc = pageL code var ps pgs d f ld (j : Int) cs := q6
      have hI9 : IsI p wr (.slice (some ⟨g, 0, none⟩) n cap) acc := IsI.of_own q8 hpg (by rw [hacc, ← H0.out.1]; exact refA_i64 _ _ _) (by omega)
      replace q9 := Lib.hid q9
      replace hacc := Lib.hid hacc
      replace hI9 := Lib.hid hI9
      clear q1 q2 q3 q4 q5 q6 q7 q8 HR
      go_wp2_with fail
      refine bodyPost_ret (v := .tuple #[.slice (some ⟨g, 0, none⟩) n cap, .int .i64 0]) (by simp [results, Try.results32, go_sem]) rfl ⟨_, by rw [← H0.out.2], by rw [← hacc.out]; exact hI9.out, HE.out.trans q9.out⟩
end Go.Proofs.Ytndmadohffcdiaa
