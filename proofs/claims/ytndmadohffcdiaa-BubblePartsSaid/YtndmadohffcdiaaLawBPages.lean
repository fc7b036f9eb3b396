/- BubblePages: the walk of the law. -/
import Derived.Test.YtndmadohffcdiaaRPage
import Derived.Test.YtndmadohffcdiaaRMake
import Derived.Test.YtndmadohffcdiaaTapeR
import Derived.Test.YtndmadohffcdiaaTapeB
import Derived.Test.YtndmadohffcdiaaInts
namespace Go.Proofs.Ytndmadohffcdiaa
open Go.RowKit

theorem fieldsP_len {code var : Int} {ps : List Part} {pgs : List (List Int)} {page : Int} : (fieldsP code var ps pgs page).length ≤ 120 := by
  unfold fieldsP
  split
  · rename_i h
    split
    · rename_i pg hpg
      rw [flds_groups ps pg (groups_ok h.1 hpg).2]
      have h2 := groups_len _ (groups_ok h.1 hpg).1
      have h3 : (groups ps pg).length ≤ pg.length := List.length_filterMap_le _ _
      have h4 := (page_parts h.1 hpg).1
      omega
    · simp
  · simp
/-- All but the first row. -/
theorem IsS.tail1 {α : Type} {p : Nat} {R : World → List Value → α → Prop} {w : World} {b off n c : Nat} {xs : List α} (h : IsS p 1 R w (.slice (some ⟨b, off, none⟩) n c) xs) (hn : 1 ≤ n) : IsS p 1 R w (.slice (some ⟨b, off + 1, none⟩) (n - 1) (c - 1)) (xs.drop 1) := by
  have hl := h.len
  obtain ⟨A', c', hv, h1, h2, h4⟩ := h
  injection hv with ha hn' hc
  subst ha; subst hc
  refine ⟨_, c - 1, by rw [List.length_drop, hl], by rw [List.length_drop]; omega, by omega, fun i x hx => ?_⟩
  rw [List.getElem?_drop] at hx
  obtain ⟨b', off', cs, ha, hb, hcl, hcell, hr⟩ := h4 _ x hx
  injection ha with ha
  injection ha with e1 e2
  subst e1; subst e2
  refine ⟨b, off + 1, cs, rfl, hb, hcl, fun j u hu => ?_, hr⟩
  have := hcell j u hu
  rw [show off + 1 + i * 1 + j = off + (1 + i) * 1 + j by omega]
  exact this
/-- Block b holds a booklet. -/
def BBx (w : World) (b : Nat) (v : Value) : Prop := w.heap[b]? = some (.cells #[v] 56 (0, 0))
theorem BBx.cell {w : World} {b : Nat} {v : Value} (h : BBx w b v) : w.cell? ⟨b, 0, none⟩ = some v := blk_cell h (i := 0) rfl
theorem BBx.set {w : World} {b : Nat} {v : Value} (h : BBx w b v) (x : Value) : BBx (w.setCell ⟨b, 0, none⟩ x) b x := by unfold BBx at *; rw [blk_set h]; rfl
theorem BBx.xt {w w' : World} {b p : Nat} {v : Value} (h : BBx w b v) (hx : XT p w w') (hb : b ≠ p) : BBx w' b v := hx.blk h hb
theorem BBx.ext {w w' : World} {b : Nat} {v : Value} (h : BBx w b v) (hx : Ext w w') : BBx w' b v := hx.blk h
/-- Block b holds a threshold. -/
def TBx (w : World) (b : Nat) (d f ld : Int) : Prop := w.heap[b]? = some (.cells #[.int .i64 d, .int .i64 f, .int .i64 ld] 23 (0, 0))
theorem TBx.xt {w w' : World} {b p : Nat} {d f ld : Int} (h : TBx w b d f ld) (hx : XT p w w') (hb : b ≠ p) : TBx w' b d f ld := hx.blk h hb
theorem TBx.ext {w w' : World} {b : Nat} {d f ld : Int} (h : TBx w b d f ld) (hx : Ext w w') : TBx w' b d f ld := hx.blk h

set_option maxRecDepth 100000 in
set_option maxHeartbeats 8000000 in
theorem walkBubblePages (v0 : Value) (l0 : List Int) (a1 : Int) (v2 : Value) (l2 : List Int) (w : World) (h0 : IsI w.heap.size w v0 l0) (h1 : I64 a1) (h2 : IsI w.heap.size w v2 l2) :
    Calls Try.prog 9 #[v0, .int .i64 a1, v2] w fun e w' => e = .returned (.bool true) ∧ Ext w w' := by
  obtain ⟨i0, hi0, hz0, hz1, hz2⟩ := info_parts Try.infoI
  obtain ⟨A2, n2, c2, rfl, hnc2, hc2, hnn2, HL2⟩ := h2.open_
  have H0 := Lib.hid h0
  have H1 := Lib.hid h1
  have H2 := Lib.hid h2
  clear h0 h1 h2
  go_enter Try.func9, Try.ntmps9
  go_wp2_with fail
  refine (new_any _ l0 _ H0.out).mono ?_
  rintro e w1 ⟨rfl, HT1, HE1⟩
  have hlt1 := HT1.lt
  go_wp2_with fail
  refine (loosePaper_any _ _ _ HT1 (by omega) (by omega)).mono ?_
  rintro e w2 ⟨v2', rfl, ⟨code, var, pv, ps, rfl, _, _, hO, hl12, hwf⟩, HT2, HX2⟩
  obtain ⟨A, c, rfl⟩ := hO.form
  have HQ := Lib.hid (hO.isQ hlt1 hwf)
  have HE := Lib.hid ((Ext.refl w2).alloc (.cells #[.int .i64 code, .int .i64 var, .slice A ps.length c] 53))
  have HE2 := Lib.hid ((HX2.fresh HE1 (Nat.le_refl _)).trans HE.out)
  have HB2 := Lib.hid (show QBox (w2.alloc (.cells #[.int .i64 code, .int .i64 var, .slice A ps.length c] 53)) w2.heap.size code var (.slice A ps.length c) from heap_alloc_new w2 _)
  have HT := Lib.hid (HT2.ext HE.out)
  replace HQ := Lib.hid ((HQ.out.ext (RPart.stab _) HE.out))
  have hlt2 := HT2.lt
  clear HT1 HX2 HE1 HT2 hO hwf hlt1 HE
  go_upto_region 3 with (fail)
  generalize hW : w2.alloc (.cells #[.int .i64 code, .int .i64 var, .slice A ps.length c] 53) = W2 at *
  clear hW
  obtain ⟨c0, c1, c2'⟩ := HB2.out.cells
  have hw2W : w2.heap.size < W2.heap.size := HB2.out.lt
  have hltW := HT.out.lt
  go_wp2_with fail
  refine (rmake_any _ _ _ ps _ hltW HQ.out).mono ?_
  rintro e w4 ⟨vb, pb, eb, rfl, hPb, hEb, hb1, hb2⟩
  obtain ⟨Ab, nb, cb, rfl, hncb, hcb, hnnb, HLb⟩ := hPb.open_
  replace hPb := Lib.hid hPb
  have hs4 := hEb.size
  replace HQ := Lib.hid ((HQ.out.ext (RPart.stab _) hEb))
  replace HB2 := Lib.hid (HB2.out.ext hEb)
  replace HT := Lib.hid (HT.out.ext hEb)
  replace HE2 := Lib.hid (HE2.out.trans hEb)
  have HQ4 := Lib.hid HQ.out
  have E4 := Lib.hid ((Ext.refl w4).alloc (.cells #[.slice Ab nb cb] 56))
  have HB4 := Lib.hid (show BBx (w4.alloc (.cells #[.slice Ab nb cb] 56)) w4.heap.size (.slice Ab nb cb) from heap_alloc_new w4 _)
  replace HQ := Lib.hid ((HQ.out.ext (RPart.stab _) E4.out))
  replace HB2 := Lib.hid (HB2.out.ext E4.out)
  replace HT := Lib.hid (HT.out.ext E4.out)
  replace HE2 := Lib.hid (HE2.out.trans E4.out)
  clear c0 c1 c2' hb1 hb2 hEb
  go_upto_region 4 with (fail)
  generalize hW : w4.alloc (.cells #[.slice Ab nb cb] 56) = W4 at *
  clear hW
  go_cut [36] (fun s36 wx => ∃ b : Bool, s36 = .bool b ∧ Hid ((b = true → 0 < nb) ∧ Tape wx w.heap.size ∧ XT w.heap.size W4 wx))
  case first =>
    have k9 := HB4.out.cell
    go_wp2_with fail
    refine (one_any _ _ _ HT.out (by omega) (by omega)).mono ?_
    rintro e w5 ⟨v5, rfl, ⟨b, rfl⟩, HT5, HX5⟩
    have k9' := HX5.cell k9 (by simp; omega)
    clear k9
    cases b
    · go_wp2_with fail
      go_meet
      exact ⟨false, rfl, (fun h => (by cases h)), HT5, HX5⟩
    · by_cases hn : 0 < nb
      · go_wp2_with fail
        go_meet
        exact ⟨true, rfl, fun _ => hn, HT5, HX5⟩
      · go_wp2_with fail
        go_meet
        exact ⟨false, rfl, (fun h => (by cases h)), HT5, HX5⟩
  case rest =>
  obtain ⟨b, rfl, HR⟩ := hcut
  have HX4 := Lib.hid ((E4.out.xt (p := w.heap.size)).trans HR.out.2.2)
  have HTn := Lib.hid HR.out.2.1
  have HBn := Lib.hid HR.out.1
  replace HQ := Lib.hid ((HQ.out.xt (RPart.stab _) HR.out.2.2))
  replace HB2 := Lib.hid ((HB2.out.xt HR.out.2.2 (by omega)))
  replace HB4 := Lib.hid ((HB4.out.xt HR.out.2.2 (by omega)))
  replace HE2 := Lib.hid (HR.out.2.2.fresh HE2.out (Nat.le_refl _))
  clear HR HT E4
  go_upto_if 36 with (fail)
  go_cut [] (fun wx => ∃ (A9 : Option Addr) (n9 c9 : Nat) (pgs : List (List Int)), Hid (BBx wx w4.heap.size (.slice A9 n9 c9) ∧ IsP w.heap.size wx (.slice A9 n9 c9) pgs ∧ QBox wx w2.heap.size code var (.slice A ps.length c) ∧ IsQ w.heap.size wx (.slice A ps.length c) ps ∧ Tape wx w.heap.size ∧ Ext w wx))
  case first =>
    cases b
    · go_wp2_with fail
      go_meet
      exact ⟨Ab, nb, cb, pb, HB4.out, hPb.out.xt (RI.stab _) HX4.out, HB2.out, HQ.out, HTn.out, HE2.out⟩
    · have hnb : 0 < nb := HBn.out (by trivial)
      obtain ⟨bb, ob, cs0, z0, rfl, _⟩ := hPb.out.at_ hnb
      have k9 := HB4.out.cell
      have f9 : wc.frozen? ⟨w4.heap.size, 0, none⟩ = false := blk_frozen HB4.out 0
      have hns : w2.heap.size ≠ w4.heap.size := by omega
      have fin : ∀ (A9 : Option Addr) (n9 c9 : Nat) (pgs : List (List Int)), IsP w.heap.size w4 (.slice A9 n9 c9) pgs →
          Hid (BBx (wc.setCell ⟨w4.heap.size, 0, none⟩ (.slice A9 n9 c9)) w4.heap.size (.slice A9 n9 c9) ∧ IsP w.heap.size (wc.setCell ⟨w4.heap.size, 0, none⟩ (.slice A9 n9 c9)) (.slice A9 n9 c9) pgs ∧ QBox (wc.setCell ⟨w4.heap.size, 0, none⟩ (.slice A9 n9 c9)) w2.heap.size code var (.slice A ps.length c) ∧ IsQ w.heap.size (wc.setCell ⟨w4.heap.size, 0, none⟩ (.slice A9 n9 c9)) (.slice A ps.length c) ps ∧ Tape (wc.setCell ⟨w4.heap.size, 0, none⟩ (.slice A9 n9 c9)) w.heap.size ∧ Ext w (wc.setCell ⟨w4.heap.size, 0, none⟩ (.slice A9 n9 c9))) :=
        fun A9 n9 c9 pgs hP9 => ⟨HB4.out.set _, hP9.xt (RI.stab _) (HX4.out.setNew (by simp) _), HB2.out.far (by simpa using hns) _, HQ4.out.xt (RPart.stab _) (HX4.out.setNew (by simp) _), HTn.out.setNew (by simp; omega) _, HE2.out.setCell (by simp; omega) _⟩
      replace fin := Lib.hid fin
      by_cases hc1 : cb = 1
      · subst hc1
        obtain rfl : nb = 1 := by omega
        have hP1 := Lib.hid (IsS.tail1 hPb.out (by omega))
        go_wp2_with fail
        go_meet
        refine ⟨some ⟨bb, ob, none⟩, 0, 0, [], (fin.out _ _ _ _ ?_).out⟩
        exact ⟨some ⟨bb, ob, none⟩, 0, rfl, by simp, by omega, fun k x hx => by simp at hx⟩
      · have hcb1 : (1 : Int) ≤ (nb : Int) := by omega
        have hcb2 : (1 : Int) ≤ (cb : Int) := by omega
        go_wp2_with fail
        go_meet
        exact ⟨some ⟨bb, ob + 1, none⟩, nb - 1, cb - 1, pb.drop 1, (fin.out _ _ _ _ (IsS.tail1 hPb.out (by omega))).out⟩
  case rest =>
  obtain ⟨A9, n9, c9, pgs, HC⟩ := hcut
  clear HQ HB2 HB4 HE2 HTn HBn HX4 HQ4 hPb HLb
  obtain ⟨r1, r2, r3, r4, r5, r6⟩ := HC.out
  replace r1 := Lib.hid r1
  replace r2 := Lib.hid r2
  replace r3 := Lib.hid r3
  replace r4 := Lib.hid r4
  replace r5 := Lib.hid r5
  replace r6 := Lib.hid r6
  clear HC
  have hltc := r5.out.lt
  go_wp2_with fail
  refine (threshold_any _ _ _ r5.out (by omega) (by omega)).mono ?_
  rintro e w5 ⟨v5, rfl, ⟨d, f, ld, rfl, _, _, _, _⟩, HT5, HX5⟩
  have hlt5 := HT5.lt
  have hs5 := HX5.size
  have hlt2c : w2.heap.size < wc.heap.size := r3.out.lt
  have hlt4c : w4.heap.size < wc.heap.size := lt_of_blk r1.out
  replace r1 := Lib.hid ((r1.out.xt HX5 (by omega)))
  replace r2 := Lib.hid ((r2.out.xt (RI.stab _) HX5))
  replace r3 := Lib.hid ((r3.out.xt HX5 (by omega)))
  replace r4 := Lib.hid ((r4.out.xt (RPart.stab _) HX5))
  replace r6 := Lib.hid (HX5.fresh r6.out (Nat.le_refl _))
  have E5 := Lib.hid ((Ext.refl w5).alloc (.cells #[.int .i64 d, .int .i64 f, .int .i64 ld] 23))
  have HTB := Lib.hid (show TBx (w5.alloc (.cells #[.int .i64 d, .int .i64 f, .int .i64 ld] 23)) w5.heap.size d f ld from heap_alloc_new w5 _)
  replace r1 := Lib.hid (r1.out.ext E5.out)
  replace r2 := Lib.hid ((r2.out.ext (RI.stab _) E5.out))
  replace r3 := Lib.hid (r3.out.ext E5.out)
  replace r4 := Lib.hid ((r4.out.ext (RPart.stab _) E5.out))
  replace r6 := Lib.hid (r6.out.trans E5.out)
  have HT := Lib.hid (HT5.ext E5.out)
  clear HX5 HT5 r5 E5
  go_upto_region 7 with (fail)
  generalize hW : w5.alloc (.cells #[.int .i64 d, .int .i64 f, .int .i64 ld] 23) = W5 at *
  clear hW
  go_wp2_with fail
  refine (range_any _ _ _ _ HT.out (by omega) (by omega) (by omega) (by omega)).mono ?_
  rintro e w6 ⟨v6, rfl, ⟨k, rfl, hk1, hk2⟩, HT6, HX6⟩
  replace HT6 := Lib.hid HT6
  replace r1 := Lib.hid ((r1.out.xt HX6 (by omega)))
  replace r2 := Lib.hid ((r2.out.xt (RI.stab _) HX6))
  replace r3 := Lib.hid ((r3.out.xt HX6 (by omega)))
  replace r4 := Lib.hid ((r4.out.xt (RPart.stab _) HX6))
  replace r6 := Lib.hid (HX6.fresh r6.out (Nat.le_refl _))
  replace HTB := Lib.hid ((HTB.out.xt HX6 (by omega)))
  have hlt6 := HT6.out.lt
  clear HX6 HT
  obtain ⟨c0, c1, c2'⟩ := r3.out.cells
  have k9 := r1.out.cell
  have hkk : I64 k := ⟨by omega, by omega⟩
  replace hkk := Lib.hid hkk
  go_wp2_with fail
  refine (rfields_any _ _ _ _ _ ps pgs _ hlt6 r4.out r2.out hkk.out).mono ?_
  rintro e w7 ⟨vf, rfl, hF, hx7⟩
  obtain ⟨Af, nf, cf, rfl, _, _, _, HLF⟩ := hF.open_
  have hnf : nf ≤ 120 := by have := HLF.out; have := fieldsP_len (code := code) (var := var) (ps := ps) (pgs := pgs) (page := k); omega
  replace r1 := Lib.hid (r1.out.ext hx7)
  replace r2 := Lib.hid ((r2.out.ext (RI.stab _) hx7))
  replace r3 := Lib.hid (r3.out.ext hx7)
  replace r4 := Lib.hid ((r4.out.ext (RPart.stab _) hx7))
  replace r6 := Lib.hid (r6.out.trans hx7)
  replace HTB := Lib.hid (HTB.out.ext hx7)
  replace HT6 := Lib.hid (HT6.out.ext hx7)
  have hs7 := hx7.size
  clear c0 c1 c2' k9 hx7 hF HLF
  obtain ⟨wo, rfl⟩ : ∃ wo : World, wo = w7 := ⟨_, rfl⟩
  go_wp2_with fail
  go_loopw [13, 14] (fun s13 s14 wr => ∃ (kk : Nat) (cl : List Int), s14 = .int .i64 kk ∧ cl.length + kk ≤ 120 ∧ Hid (wr.ownsRow wo.heap.size 3 1 s13 cl.length (cl.map (Value.int .i64)) ∧ (∀ x ∈ cl, I64 x) ∧ Tape wr w.heap.size ∧ XT w.heap.size wo wr)) (fun _ i _ => (intOf i).toNat)
  case atStart => exact ⟨nf, [], rfl, by simpa using hnf, World.ownsRow_nil _ _ _ _, by simp, HT6.out, XT.refl _ _⟩
  case round =>
    obtain ⟨kk, cl, rfl, hkl, HR⟩ := hrel
    obtain ⟨q1, q2, q3, q4⟩ := HR.out
    replace q1 := Lib.hid q1
    replace q2 := Lib.hid q2
    replace q3 := Lib.hid q3
    replace q4 := Lib.hid q4
    clear HR HT6
    by_cases hk0 : 0 < kk
    · have hltr := q3.out.lt
      go_wp2_with fail
      refine (pick_any _ _ [0, 0, 9, 8, 4, 1] _ (q3.out.ext ((Ext.refl _).alloc _)) (IsI.litg _ _ _ rfl hltr (by decide) (by decide)) (by simp)).mono ?_
      rintro e w8 ⟨v8, rfl, ⟨x, rfl, hx⟩, HT8, HX8⟩
      have hxi : I64 x := (by decide : ∀ y ∈ ([0, 0, 9, 8, 4, 1] : List Int), I64 y) x hx
      have HX := Lib.hid ((Ext.xt (p := w.heap.size) ((Ext.refl wr).alloc _)).trans HX8)
      replace hxi := Lib.hid hxi
      replace HT8 := Lib.hid HT8
      clear hx HX8 q3
      replace q1 := Lib.hid (own_xt q1.out HX.out (by omega))
      replace q4 := Lib.hid (q4.out.trans HX.out)
      have hs8 := q4.out.size
      go_wp2_with (at_builtin; refine wpList_push _ rfl (.tmp 54) (.tmp 58) 28 rfl wo.heap.size 3 i0 _ 8 Try.underlying28 hi0 hz0 hz1 hz2 rfl _ _ _ rfl (q1.out.alloc _) _ _ rfl (by simp; rfl) rfl (by omega) (by omega) (by simp; omega) ?_; intro v9 w9 hown9 hg9)
      go_roundw
      case rel =>
        refine ⟨kk - 1, cl ++ [x], by congr; omega, by simp; omega, by simpa using hown9, ?_, ?_, ?_⟩
        · intro y hy
          rcases List.mem_append.1 hy with hy | hy
          · exact q2.out y hy
          · simp at hy; subst hy; exact hxi.out
        · exact (HT8.out.ext ((Ext.refl _).alloc _)).grown hg9 (fun k hk => by have := own_ge q1.out k hk; omega)
        · exact XT.grown (q4.out.alloc _) hg9 (own_ge q1.out)
      case measure => simp [intOf]; omega
    · obtain rfl : kk = 0 := by omega
      have hclen : cl.length ≤ 120 := by omega
      go_wp2_with fail
      refine (one_any _ _ _ q3.out (by omega) (by omega)).mono ?_
      rintro e w8 ⟨v8, rfl, ⟨b, rfl⟩, HT8, HX8⟩
      replace q1 := Lib.hid (own_xt q1.out HX8 (by omega))
      replace q4 := Lib.hid (q4.out.trans HX8)
      replace HT8 := Lib.hid HT8
      clear HX8 q3
      go_upto_if 61 with (fail)
      go_cut [13] (fun s13 wx => ∃ (A3 : Option Addr) (n3 c3 : Nat) (cl' : List Int), s13 = .slice A3 n3 c3 ∧ Hid (IsI w.heap.size wx (.slice A3 n3 c3) cl' ∧ XT w.heap.size wo wx))
      case first =>
        cases b
        · have hI := IsI.of_own (p := w.heap.size) q1.out (by omega) q2.out (by omega)
          obtain ⟨A3, n3, c3, hv, _⟩ := hI.open_
          subst hv
          replace hI := Lib.hid hI
          go_wp2_with fail
          go_meet
          exact ⟨A3, n3, c3, cl, rfl, hI.out, q4.out⟩
        · go_wp2_with fail
          refine (range_any _ _ _ _ HT8.out (by omega) (by omega) (by omega) (by omega)).mono ?_
          rintro e w9 ⟨v9, rfl, ⟨x, rfl, hx1, hx2⟩, HT9, HX9⟩
          replace q1 := Lib.hid (own_xt q1.out HX9 (by omega))
          replace q4 := Lib.hid (q4.out.trans HX9)
          have hs9 := q4.out.size
          clear HX9 HT9 HT8
          go_wp2_with (at_builtin; refine wpList_push _ rfl (.tmp 62) (.tmp 65) 28 rfl wo.heap.size 3 i0 _ 8 Try.underlying28 hi0 hz0 hz1 hz2 rfl _ _ _ rfl (q1.out.alloc _) _ _ rfl (by simp; rfl) rfl (by omega) (by omega) (by simp; omega) ?_; intro va wa howna hga; obtain ⟨ga, capa, rfl, _, _⟩ := own_form howna (by omega))
          go_meet
          refine ⟨_, _, _, cl ++ [x], rfl, ?_, XT.grown (q4.out.alloc _) hga (own_ge q1.out)⟩
          have hI := IsI.of_own (p := w.heap.size) (l := cl ++ [x]) (n := cl.length + 1) (by simpa using howna) (by omega) (by
            intro y hy
            rcases List.mem_append.1 hy with hy | hy
            · exact q2.out y hy
            · simp at hy; subst hy; exact ⟨by omega, by omega⟩) (by simp; omega)
          exact hI
      case rest =>
      obtain ⟨A3, n3, c3, cl', rfl, HC⟩ := hcut
      clear q1 q2 q4 HT8
      obtain ⟨hI3, hX3⟩ := HC.out
      have hs3 := hX3.size
      replace r1 := Lib.hid ((r1.out.xt hX3 (by omega)))
      replace r2 := Lib.hid ((r2.out.xt (RI.stab _) hX3))
      replace r3 := Lib.hid ((r3.out.xt hX3 (by omega)))
      replace r4 := Lib.hid ((r4.out.xt (RPart.stab _) hX3))
      replace r6 := Lib.hid (hX3.fresh r6.out (Nat.le_refl _))
      replace HTB := Lib.hid ((HTB.out.xt hX3 (by omega)))
      replace hI3 := Lib.hid hI3
      clear HC hX3
      have hI2 := Lib.hid (H2.out.ext r6.out)
      by_cases h60 : 60 < n2
      · go_wp2_with fail
        go_ret
        exact ⟨rfl, r6.out⟩
      have hltc2 : w.heap.size < wc.heap.size := by omega
      obtain ⟨wx, rfl⟩ : ∃ wx : World, wx = wc := ⟨_, rfl⟩
      go_wp2_with fail
      go_loopw [12, 13, 15] (fun s12 s13 s15 wr => ∃ (i : Nat) (pg : Int) (A4 : Option Addr) (n4 c4 : Nat) (cc : List Int), s12 = .int .i64 pg ∧ s13 = .slice A4 n4 c4 ∧ s15 = .int .i64 i ∧ i ≤ 2 ∧ Hid (I64 pg ∧ IsI w.heap.size wr (.slice A4 n4 c4) cc ∧ Ext wx wr)) (fun _ _ i _ => 2 - (intOf i).toNat)
      case atStart => exact ⟨0, k, A3, n3, c3, cl', rfl, rfl, rfl, by omega, hkk.out, hI3.out, Ext.refl _⟩
      case round =>
        obtain ⟨i, pg, A4, n4, c4, cc, rfl, rfl, rfl, hi, HR⟩ := hrel
        obtain ⟨q1, q2, q3⟩ := HR.out
        replace q1 := Lib.hid q1
        replace q2 := Lib.hid q2
        replace q3 := Lib.hid q3
        clear HR hI3
        by_cases hi2 : i < 2
        · have hlr : w.heap.size < wr.heap.size := by have := q3.out.size; omega
          have R2 := Lib.hid (r2.out.ext (RI.stab _) q3.out)
          have R4 := Lib.hid (r4.out.ext (RPart.stab _) q3.out)
          have R3 := Lib.hid (r3.out.ext q3.out)
          have R1 := Lib.hid (r1.out.ext q3.out)
          have RT := Lib.hid (HTB.out.ext q3.out)
          obtain ⟨c0, c1, c2'⟩ := R3.out.cells
          obtain ⟨t0, t1, t2⟩ := cell3 RT.out
          have k9 := R1.out.cell
          go_wp2_with fail
          refine (page_any _ _ _ _ _ _ _ _ _ ps pgs cc _ hlr R4.out R2.out q2.out q1.out).mono ?_
          rintro e x1 ⟨va, rfl, hIa, hx1⟩
          obtain ⟨Aa, na, ca, rfl, _, _, _, _⟩ := hIa.open_
          replace hIa := Lib.hid hIa
          have hl1 : w.heap.size < x1.heap.size := Nat.lt_of_lt_of_le hlr hx1.size
          replace R1 := Lib.hid (R1.out.ext hx1)
          replace R2 := Lib.hid ((R2.out.ext (RI.stab _) hx1))
          replace R3 := Lib.hid (R3.out.ext hx1)
          replace R4 := Lib.hid ((R4.out.ext (RPart.stab _) hx1))
          replace RT := Lib.hid (RT.out.ext hx1)
          replace q2 := Lib.hid (q2.out.ext hx1)
          replace q3 := Lib.hid (q3.out.trans hx1)
          clear c0 c1 c2' t0 t1 t2 k9 hx1
          obtain ⟨c0, c1, c2'⟩ := R3.out.cells
          obtain ⟨t0, t1, t2⟩ := cell3 RT.out
          have k9 := R1.out.cell
          generalize hpE : pageE code var ps pgs d f ld pg cc = er at *
          have HPE := Lib.hid hpE
          clear hpE
          go_wp2_with fail
          refine (rpage_any _ _ _ _ _ _ _ _ _ ps pgs cc _ hl1 R4.out R2.out q2.out q1.out).mono ?_
          rintro e x2 ⟨vb, rfl, hIb, hx2⟩
          rw [HPE.out]
          obtain ⟨Ab2, nb2, cb2, rfl, _, _, _, _⟩ := hIb.open_
          replace hIb := Lib.hid hIb
          replace hIa := Lib.hid (hIa.out.ext hx2)
          replace q3 := Lib.hid (q3.out.trans hx2)
          clear c0 c1 c2' t0 t1 t2 k9 hx2 R1 R2 R3 R4 RT
          go_wp2_with fail
          refine (ints_ext _ _ _ _ _ hIa.out hIb.out).mono ?_
          rintro e x3 ⟨rfl, hx3⟩
          rw [decide_eq_true rfl]
          replace q3 := Lib.hid (q3.out.trans hx3)
          have hee : (er != er) = false := by simp
          clear hx3
          go_wp2_with fail
          go_roundw
          case rel => exact ⟨i + 1, a1, A2, n2, c2, l2, rfl, rfl, by go_num, by omega, H1.out, hI2.out.ext q3.out, q3.out⟩
          case measure => simp [intOf]; omega
        · go_wp2_with fail
          refine (awake_any _).mono ?_
          rintro e x5 ⟨rfl, hx5⟩
          go_wp2_with fail
          go_ret
          exact ⟨rfl, (r6.out.trans q3.out).trans hx5⟩
end Go.Proofs.Ytndmadohffcdiaa
