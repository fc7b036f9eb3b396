/- awardingbodyref18: search, Decode. -/
import Derived.Test.YtlabmdekdhjofaaDoorRsR
namespace Go.Proofs.YtlabmdekdhjofaaDoor
open Go.RowKit

theorem off_zer {a c : List F} {ps : List Nat} : F.Off (zer 0 a ps) c ps ↔ F.Off a c ps := by
  unfold F.Off
  rw [zer_len]
  refine and_congr Iff.rfl (forall_congr' fun i => imp_congr_right fun hi => ?_)
  rw [zer_at, if_neg (fun h => hi h.2)]
/-- The places from k on that are not erased. -/
def whD (l : List Int) (k : Nat) : List Nat := ((List.range l.length).drop k).filter fun i => !(l.getD i 0 == -1)
theorem whD_zero (l : List Int) : whD l 0 = whTo l l.length := rfl
theorem whD_end {l : List Int} {k : Nat} (h : l.length ≤ k) : whD l k = [] := by
  unfold whD; rw [List.drop_eq_nil_of_le (by simpa using h)]; rfl
theorem whD_cons {l : List Int} {k : Nat} {x : Int} (h : l[k]? = some x) : whD l k = (if x = -1 then whD l (k + 1) else k :: whD l (k + 1)) := by
  have hk := (List.getElem?_eq_some_iff.1 h).1
  unfold whD
  rw [List.drop_eq_getElem_cons (by simpa using hk), List.filter_cons, List.getElem_range, getD_int h]
  by_cases e : x = -1
  · rw [if_pos e, e]; rfl
  · rw [if_neg e, if_pos (by simp [e])]
theorem sub_cons {α : Type} {S l : List α} {x : α} (h : S.Sublist (x :: l)) : S.Sublist l ∨ ∃ S', S = x :: S' ∧ S'.Sublist l := by
  cases h with
  | cons _ h => exact .inl h
  | cons_cons _ h => exact .inr ⟨_, rfl, h⟩

/-- What a search of the reference returns. -/
def RSRet (w : World) (l : List Int) (ps : List Nat) (more frm : Nat) (e : Ending) (w' : World) : Prop :=
  ∃ (A : Option Addr) (n c : Nat) (b : Bool), e = .returned (.tuple #[.slice A n c, .bool b]) ∧ Ext w w' ∧
    (b = true → ∃ (cw : List F) (S : List Nat) (g : Nat), A = some ⟨g, 0, none⟩ ∧ n = l.length ∧ n ≤ c ∧ c ≤ 9223372036854775807 ∧ cw.length = l.length ∧ OwnW w.heap.size w' (.slice A n c) cw ∧ S.length ≤ more ∧ F.Off (toF l) cw (ps ++ S) ∧ F.Code cw) ∧
    (b = false → ∀ S, S.Sublist (whD l frm) → S.length ≤ more → ∀ c, F.Off (toF l) c (ps ++ S) → ¬ F.Code c)

set_option maxRecDepth 100000 in
set_option maxHeartbeats 4000000 in
theorem rsearch_any (l : List Int) (hb : wordB (-1) l = true) : ∀ (more frm : Nat) (v vp : Value) (ps : List Nat) (w : World) (q q' : Nat), IsI q w v l → IsI q' w vp (psI ps) → frm ≤ l.length → ps.length + more ≤ 6 → ps.Nodup →
    (∀ p ∈ ps, p < l.length ∧ (l.getD p 0 = -1 ∨ p < frm)) → (∀ i, i < l.length → l.getD i 0 = -1 → i ∈ ps) →
    Calls Tryd.prog 54 #[v, vp, .int .i64 (more : Int), .int .i64 (frm : Int)] w (RSRet w l ps more frm) := by
  intro more
  induction more with
  | zero =>
    intro frm v vp ps w q q' hI hP hfr h6 hd hps her
    obtain ⟨A, n, c, rfl, hnc, hc, hnn, HL⟩ := hI.open_
    obtain ⟨Ap, u, cp, rfl, hpc, hpp, hpn, HLp⟩ := hP.open_
    have hm := word_mem hb
    have HF := Lib.hid (rfill_any (.slice A n c) (.slice Ap u cp) l ps w hI hP (by omega) (by omega) hd (fun p hp => (hps p hp).1) (by omega) (fun i x hi hx => by
      have h1 := hm.2.2 x (List.mem_of_getElem? hx)
      have h2 : x ≠ -1 := fun e => hi (her i (List.getElem?_eq_some_iff.1 hx).1 (by rw [getD_int hx, e]))
      omega))
    go_enter Tryd.func54, Tryd.ntmps54
    go_upto_if 22 with (go_at_call 45; refine HF.out.mono ?_; rintro e w1 ⟨g, cp1, cw, rfl, hg1, hg2, hcl, hown, hx1, hoff, huq⟩)
    have hcb := codeB_wI (wd := cw) (by omega) (by omega)
    replace hown := Lib.hid hown
    rcases Bool.eq_false_or_eq_true (codeB (wI cw)) with hcc | hcc
    · rw [hcc]
      go_wp2_with fail
      go_ret2
      exact ⟨_, _, _, true, rfl, hx1, fun _ => ⟨cw, [], g, rfl, rfl, hg1, hg2, hcl, hown.out, Nat.le_refl _, by rw [List.append_nil]; exact off_zer.1 hoff, hcb.1 hcc⟩, fun h => by cases h⟩
    · rw [hcc]
      go_wp2_with fail
      go_ret2
      refine ⟨none, 0, 0, false, rfl, hx1, (fun h => by cases h), fun _ S hS hl c ho hc => ?_⟩
      obtain rfl : S = [] := List.eq_nil_of_length_eq_zero (by omega)
      rw [List.append_nil] at ho
      have := huq c (off_zer.2 ho) hc
      subst this
      rw [hcb.2 hc] at hcc
      cases hcc
  | succ m ih =>
    intro frm v vp ps w q q' hI hP hfr h6 hd hps her
    have HIH := Lib.hid ih
    clear ih
    obtain ⟨A, n, c, rfl, hnc, hc, hnn, HL⟩ := hI.open_
    obtain ⟨Ap, u, cp, rfl, hpc, hpp, hpn, HLp⟩ := hP.open_
    have hm := word_mem hb
    have HF := Lib.hid (rfill_any (.slice A n c) (.slice Ap u cp) l ps w hI hP (by omega) (by omega) hd (fun p hp => (hps p hp).1) (by omega) (fun i x hi hx => by
      have h1 := hm.2.2 x (List.mem_of_getElem? hx)
      have h2 : x ≠ -1 := fun e => hi (her i (List.getElem?_eq_some_iff.1 hx).1 (by rw [getD_int hx, e]))
      omega))
    rw [HL.out] at HF
    obtain ⟨mm, hmm⟩ : ∃ mm : Nat, mm = m + 1 := ⟨_, rfl⟩
    rw [← hmm]
    have hn7 : 7 ≤ n := by have := HL.out; omega
    have hn15 : n ≤ 15 := by have := HL.out; omega
    have hu6 : u + mm ≤ 6 := by have := HLp.out; rw [psI_len] at this; omega
    have HUL : Hid (ps.length = u) := by have := HLp.out; rw [psI_len] at this; exact this
    have hz : ((mm : Int) == 0) = false := by simp; omega
    have hm1 : (mm : Int) - 1 = (m : Int) := by omega
    have hmb : mm ≤ 6 := by omega
    have hm6 : m ≤ 5 := by omega
    have HMM := Lib.hid hmm
    clear hmm
    have hfn : frm ≤ n := by have := HL.out; omega
    have HM := Lib.hid hm.2.2
    have HD := Lib.hid hd
    have HPS := Lib.hid hps
    have HER := Lib.hid her
    have HI := Lib.hid hI
    have HP := Lib.hid hP
    clear hI hP hd hps her hm h6 hfr HLp
    obtain ⟨i0, hi0, hz0, hz1, hz2⟩ := info_parts Tryd.infoI
    go_enter Tryd.func54, Tryd.ntmps54
    go_upto_if 22 with (go_at_call 45; refine HF.out.mono ?_; rintro e w1 ⟨g, cp1, cw, rfl, hg1, hg2, hcl, hown, hx1, hoff, huq⟩)
    have hcb := codeB_wI (wd := cw) (by omega) (by omega)
    replace hown := Lib.hid hown
    replace hoff := Lib.hid hoff
    replace huq := Lib.hid huq
    replace hcb := Lib.hid hcb
    replace hcl := Lib.hid hcl
    replace hx1 := Lib.hid hx1
    clear HF
    rcases Bool.eq_false_or_eq_true (codeB (wI cw)) with hcc | hcc
    · rw [hcc]
      go_wp2_with fail
      go_ret2
      exact ⟨_, _, _, true, rfl, hx1.out, fun _ => ⟨cw, [], g, rfl, HL.out.symm, hg1, hg2, hcl.out.trans HL.out.symm, hown.out, Nat.zero_le _, by rw [List.append_nil]; exact off_zer.1 hoff.out, hcb.out.1 hcc⟩, fun h => by cases h⟩
    rw [hcc]
    have HNIL : Hid (∀ c, F.Off (toF l) c ps → ¬ F.Code c) := fun c ho hc => by
      have := huq.out c (off_zer.2 ho) hc
      subst this
      rw [hcb.out.2 hc] at hcc
      cases hcc
    clear hcc hcb huq hoff hown hcl
    go_wp2_with fail
    go_loopw [12] (fun s12 wr => ∃ (k : Nat), s12 = .int .i64 (k : Int) ∧ frm ≤ k ∧ k ≤ n ∧ Hid (Ext w wr ∧ ∀ S, S.Sublist (whD l frm) → S.length ≤ mm → (∀ c, F.Off (toF l) c (ps ++ S) → ¬ F.Code c) ∨ S.Sublist (whD l k))) (fun i _ => n - (intOf i).toNat)
    case atStart => exact ⟨frm, rfl, by omega, by omega, hx1.out, fun S h _ => .inr h⟩
    case round =>
      clear hx1
      obtain ⟨k, rfl, hk0, hk, HK⟩ := hrel
      have HE := Lib.hid HK.out.1
      have HNO := Lib.hid HK.out.2
      clear HK
      by_cases hkn : k < n
      · obtain ⟨b, off, x, rfl, cx, hx, hx1, hx2⟩ := (HI.out.ext HE.out).at_ hkn
        have hxb := HM.out x (List.mem_of_getElem? hx.out)
        by_cases hlo : x < 0
        · have HH : Hid (whD l k = whD l (k + 1)) := by show _ = _; rw [whD_cons hx.out, if_pos (by omega)]
          go_wp2_with fail
          go_roundw
          case rel => exact ⟨k + 1, by go_num, by omega, by omega, HE.out, fun S h1 h2 => by rw [← HH.out]; exact HNO.out S h1 h2⟩
          case measure => simp [intOf]; omega
        · have HH : Hid (whD l k = k :: whD l (k + 1)) := by show _ = _; rw [whD_cons hx.out, if_neg (by omega)]
          have HPr := Lib.hid (HP.out.ext HE.out)
          have HKN : Hid (k ∉ ps) := fun hmem => by
            rcases (HPS.out k hmem).2 with h | h
            · rw [getD_int hx.out] at h; omega
            · omega
          have HE3r := Lib.hid (Ext.refl wr)
          go_upto_region 13 with (first
            | (at_builtin; refine wpList_cat _ rfl (.tmp 38) (.tmp 39) 27 rfl wr.heap.size 3 i0 _ 8 Tryd.underlying27 hi0 hz0 hz1 hz2 rfl (.slice none 0 0) 0 [] rfl (World.ownsRow_nil _ _ _ _) q' Ap u cp (psI ps) rfl HPr.out (by omega) (by omega) (Nat.le_refl _) ?_; intro v3 w3 hown3 hg3; have HE3 := Lib.hid (Ext.grown HE3r.out hg3 (by simp [Value.ownBlock])); have HO3 := Lib.hid hown3; clear hown3 hg3)
            | (at_builtin; refine wpList_push _ rfl (.tmp 41) (.tmp 43) 27 rfl wr.heap.size 3 i0 _ 8 Tryd.underlying27 hi0 hz0 hz1 hz2 rfl v3 _ _ rfl (HO3.out.alloc _) _ _ rfl (by simp; rfl) rfl (by omega) (by omega) (by have := HE3.out.size; simp; omega) ?_; intro v4 w4 hown4 hg4; have HE4 := Lib.hid (Ext.grown (HE3.out.alloc _) hg4 (own_ge HO3.out)); have HO4 := Lib.hid hown4; clear hown4 hg4))
          have HO5 : Hid (w4.ownsRow wr.heap.size 3 1 v4 (u + 1) ((psI (ps ++ [k])).map (Value.int .i64))) := by
            have e : psI (ps ++ [k]) = psI ps ++ [(k : Int)] := by simp [psI]
            have h := HO4.out
            rw [Nat.zero_add, List.nil_append] at h
            show World.ownsRow _ _ _ _ _ _ _
            rw [e, List.map_append]; exact h
          obtain ⟨A4, c4, rfl, hA1, hA2⟩ := own_shape HO5.out
          have HEw4 := Lib.hid (HE.out.trans HE4.out)
          have HCA : Hid (Calls Tryd.prog 54 #[.slice (some ⟨b, off, none⟩) n c, .slice A4 (u + 1) c4, .int .i64 (m : Int), .int .i64 ((k : Int) + 1)] w4 (RSRet w4 l (ps ++ [k]) m (k + 1))) := by
            have h := HIH.out (k + 1) (.slice (some ⟨b, off, none⟩) n c) (.slice A4 (u + 1) c4) (ps ++ [k]) w4 w4.heap.size w4.heap.size ((HI.out.ext HEw4.out).re (Nat.le_refl _))
              (IsI.of_own' (p := w4.heap.size) (e := 3) HO5.out (fun h => by have := (HO5.out.lt _ h).2; omega) (psI_i64 fun p hp => by
                rcases List.mem_append.1 hp with h | h
                · have := (HPS.out p h).1; rw [HL.out] at this; omega
                · simp at h; omega) (by rw [psI_len, List.length_append, HUL.out]; simp; omega))
              (by rw [HL.out]; omega) (by rw [List.length_append, HUL.out]; simp; have := HMM.out; omega)
              (by
                rw [List.nodup_append]
                refine ⟨HD.out, by simp, fun a ha b hb' e => ?_⟩
                simp at hb'
                subst e; subst hb'
                exact HKN.out ha)
              (fun p hp => by
                rcases List.mem_append.1 hp with h | h
                · have h1 := HPS.out p h
                  exact ⟨h1.1, h1.2.imp id (fun e => by omega)⟩
                · simp at h; subst h; exact ⟨by rw [HL.out]; exact hkn, .inr (by omega)⟩)
              (fun i h1 h2 => List.mem_append_left _ (HER.out i h1 h2))
            rw [show (((k + 1 : Nat)) : Int) = (k : Int) + 1 by omega] at h
            exact h
          have hs4 : w.heap.size ≤ w4.heap.size := HEw4.out.size
          clear HO3 HO4 HO5 HE3 HE4 HPr
          go_upto_if 55 with (go_at_call 54; refine HCA.out.mono ?_; rintro e w5 ⟨A5, n5, c5, b5, rfl, hx5, ht5, hf5⟩)
          replace ht5 := Lib.hid ht5
          replace hf5 := Lib.hid hf5
          have HE5 := Lib.hid (HEw4.out.trans hx5)
          clear hx5 HCA HEw4
          cases b5 with
          | true =>
            go_wp2_with fail
            go_ret2
            obtain ⟨cw', S, g', t1, t2, t3, t4, t5, t6, t7, t8, t9⟩ := ht5.out trivial
            refine ⟨A5, n5, c5, true, rfl, HE5.out, fun _ => ⟨cw', k :: S, g', t1, t2, t3, t4, t5, own_mono t6 hs4, by rw [HMM.out]; simp; omega, by simpa using t8, t9⟩, fun h => by cases h⟩
          | false =>
            go_wp2_with fail
            go_roundw
            case rel =>
              refine ⟨k + 1, by go_num, by omega, by omega, HE5.out, fun S h1 h2 => ?_⟩
              rcases HNO.out S h1 h2 with h | h
              · exact .inl h
              · rw [HH.out] at h
                rcases sub_cons h with h | ⟨S', rfl, hs'⟩
                · exact .inr h
                · refine .inl fun c ho hc => hf5.out rfl S' hs' (by have := HMM.out; simp at h2; omega) c (by simpa using ho) hc
            case measure => simp [intOf]; omega
      · obtain rfl : k = n := by omega
        go_wp2_with fail
        go_ret2
        refine ⟨none, 0, 0, false, rfl, HE.out, (fun h => by cases h), fun _ S hS hl c ho hc => ?_⟩
        rcases HNO.out S hS hl with h | h
        · exact h c ho hc
        · rw [whD_end (by rw [HL.out]; exact Nat.le_refl _)] at h
          obtain rfl := List.eq_nil_of_sublist_nil h
          rw [List.append_nil] at ho
          exact HNIL.out c ho hc

theorem wrong_le {l : List Int} {c : List F} {S : List Nat} (hlen : c.length = l.length) (ho : F.Off (toF l) c (erTo l l.length ++ S)) : (wrongP l c).length ≤ S.length := by
  refine nodup_len _ _ ((List.nodup_append.1 (er_wh_nodup l l.length)).2.1.sublist (wrong_sub l c)) fun i hi => ?_
  obtain ⟨h1, h2⟩ := List.mem_filter.1 hi
  obtain ⟨h3, h4⟩ := mem_wh.1 h1
  refine Classical.byContradiction fun hns => ?_
  have h5 := ho.2 i (fun hm => by
    rcases List.mem_append.1 hm with h | h
    · exact h4 (mem_er.1 h).2
    · exact hns h)
  rw [F.getD_eq (w := c) (by omega), F.getD_eq (w := toF l) (by rw [toF_len]; exact h3)] at h5
  injection h5 with h5
  rw [h5] at h2
  simp at h2

/-- What Decode of the program and of the reference returns. -/
def DecR (w : World) (l : List Int) (e : Ending) (w' : World) : Prop :=
  ∃ (A : Option Addr) (m c : Nat) (d : List F) (er k : Int), e = .returned (.tuple #[.slice A m c, .int .i64 er, .int .i64 k]) ∧ IsI w'.heap.size w' (.slice A m c) (wI d) ∧ Ext w w' ∧
    (wordB (-1) l = false → d = [] ∧ er = 0 ∧ k = 2) ∧
    (wordB (-1) l = true → (∃ (cw : List F) (n : Nat), Near l cw n ∧ d = cw.take (l.length - 6) ∧ er = n ∧ k = 0) ∨ ((∀ cw n, ¬ Near l cw n) ∧ d = [] ∧ er = 0 ∧ k = 25))
theorem dec_r {q : Nat} (v : Value) (l : List Int) (w : World) (hT : Tabs w) (hI : IsI q w v l) : Calls Tryd.prog 34 #[v] w (DecR w l) :=
  (decode_any v l w hT hI).mono fun e w' ⟨A, m, c, d, er, k, he, hi, hx, h⟩ => ⟨A, m, c, d, er, k, he, hi.re (Nat.le_refl _), hx, h⟩

set_option maxRecDepth 100000 in
set_option maxHeartbeats 4000000 in
theorem rdecode_any {q : Nat} (v : Value) (l : List Int) (w : World) (hI : IsI q w v l) :
    Calls Tryd.prog 35 #[v] w (DecR w l) := by
  have h0 := hI.re (q := w.heap.size) (Nat.le_refl _)
  obtain ⟨A, n, c, rfl, hnc, hc, hnn, HL⟩ := hI.open_
  have HI := Lib.hid h0
  clear hI h0
  rcases Bool.eq_false_or_eq_true (wordB (-1) l) with hb | hb
  case inr =>
    go_enter Tryd.func35, Tryd.ntmps35
    go_wp2_with (go_at_call 49; refine (rsymbols_any _ l (-1) _ HI.out (by omega) (by omega)).mono ?_; rintro e w1 ⟨rfl, HX1⟩; rw [hb])
    go_ret3
    exact ⟨none, 0, 0, [], 0, 2, rfl, IsI.nil _ _, HX1, fun _ => ⟨rfl, rfl, rfl⟩, fun h => by rw [hb] at h; cases h⟩
  have hm := word_mem hb
  have HBW := Lib.hid hb
  have hn7 : 7 ≤ n := by have := HL.out; omega
  have hn15 : n ≤ 15 := by have := HL.out; omega
  clear hm
  go_enter Tryd.func35, Tryd.ntmps35
  go_upto_if 15 with (first
    | (go_at_call 49; refine (rsymbols_any _ l (-1) _ HI.out (by omega) (by omega)).mono ?_; rintro e w1 ⟨rfl, HX1⟩; rw [hb]; replace HX1 := Lib.hid HX1)
    | (go_at_call 53; refine (rerased_any _ l _ (HI.out.ext HX1.out) hb).mono ?_; rintro e w2 ⟨A2, m2, c2, rfl, hm2, hc21, hc22, ho2, hx2⟩; replace ho2 := Lib.hid ho2; have HE2 := Lib.hid (HX1.out.trans hx2); replace hm2 := Lib.hid hm2))
  have hm2l : m2 ≤ n := by have := erTo_len l l.length; have := hm2.out; have := HL.out; omega
  by_cases h6 : 6 < m2
  · go_wp2_with fail
    go_ret3
    refine ⟨none, 0, 0, [], 0, 25, rfl, IsI.nil _ _, HE2.out, fun h => (by rw [hb] at h; cases h), fun _ => .inr ⟨fun cw k hk => ?_, rfl, rfl, rfl⟩⟩
    have := hk.near
    have := hm2.out
    omega
  obtain ⟨mo, hmo⟩ : ∃ mo : Nat, mo = (6 - m2) / 2 := ⟨_, rfl⟩
  have hmo2 : 2 * mo + m2 ≤ 6 := by omega
  have hmo3 : 6 < 2 * (mo + 1) + m2 := by omega
  have hq : Int.tdiv (6 - (m2 : Int)) 2 = (mo : Int) := by rw [hmo, Int.tdiv_eq_ediv_of_nonneg (by omega)]; omega
  have hs2 := HE2.out.size
  have HCA := Lib.hid (rsearch_any l hb mo 0 (.slice A n c) (.slice A2 m2 c2) (erTo l l.length) w2 w2.heap.size w2.heap.size ((HI.out.ext HE2.out).re (Nat.le_refl _))
    (IsI.of_own' (p := w2.heap.size) (e := 3) ho2.out (fun h => by have := (ho2.out.lt _ h).2; omega) (psI_i64 fun p hp => by have := erTo_lt hp; have := HL.out; omega) (by rw [psI_len]; have := hm2.out; omega))
    (Nat.zero_le _) (by have := hm2.out; omega) ((List.nodup_append.1 (er_wh_nodup l l.length)).1) (fun p hp => ⟨erTo_lt hp, .inl (mem_er.1 hp).2⟩) (fun i h1 h2 => mem_er.2 ⟨h1, h2⟩))
  clear hmo
  go_upto_if 27 with (go_at_call 54; refine HCA.out.mono ?_; rintro e w3 ⟨A3, n3, c3, b3, rfl, hx3, ht3, hf3⟩)
  replace ht3 := Lib.hid ht3
  replace hf3 := Lib.hid hf3
  have HE3 := Lib.hid (HE2.out.trans hx3)
  clear hx3 HCA
  cases b3 with
  | false =>
    go_wp2_with fail
    go_ret3
    refine ⟨none, 0, 0, [], 0, 25, rfl, IsI.nil _ _, HE3.out, fun h => (by rw [hb] at h; cases h), fun _ => .inr ⟨fun cw k hk => ?_, rfl, rfl, rfl⟩⟩
    have h1 := hk.near
    have h2 := hm2.out
    exact hf3.out trivial (wrongP l cw) (by rw [whD_zero]; exact wrong_sub l cw) (by rw [hk.err]; omega) cw (off_wrong hk.len) hk.code
  | true =>
    obtain ⟨cw, S, g, rfl, hn3, hc31, hc32, hcl, ho3, hSl, hoff, hcode⟩ := ht3.out rfl
    obtain rfl : n3 = n := hn3.trans HL.out
    have HO3 := Lib.hid ho3
    have HCL := Lib.hid hcl
    have HNR : Hid (Near l cw (wrongP l cw).length) := by
      have h1 := wrong_le hcl hoff
      have h2 := hm2.out
      exact ⟨hcl, hcode, rfl, by omega⟩
    have HCI : Hid (IsI w3.heap.size w3 (.slice (some ⟨g, 0, none⟩) n3 c3) (wI cw)) := IsI.of_own' (p := w3.heap.size) (e := 3) ho3 (fun h => by have := (ho3.lt _ h).2; omega) (wI_i64 _) (by rw [wI_len, hcl]; have := HL.out; omega)
    have HQ : Hid (∀ m, Calls Tryd.prog 55 #[.slice A n3 c, .slice (some ⟨g, 0, none⟩) n3 c3] (w3.drewN m) fun e w' => e = .returned (.int .i64 ((wrongP l cw).length : Int)) ∧ ∃ k, w' = (w3.drewN m).drewN k) := fun m =>
      rerrors_any _ _ l cw _ ((HI.out.ext HE3.out).ext ((Ext.refl _).drewN m)) (HCI.out.ext ((Ext.refl _).drewN m)) hcl hb
    clear ho3 hcl hcode hoff hSl hn3 ht3 hf3
    go_wp2_with fail
    go_quiet ((go_at_call 55; exact Calls.quiet_of (HQ.out _)))
    go_wp2_with fail
    go_ret3
    have HT : Hid (IsI w3.heap.size w3 (.slice (some ⟨g, 0, none⟩) (n3 - 6) c3) (wI (cw.take (n3 - 6)))) := by
      have h := HCI.out.take (k := n3 - 6) (by omega)
      rw [show (wI cw).take (n3 - 6) = wI (cw.take (n3 - 6)) from by simp [wI, List.map_take]] at h
      exact h
    trace_state
    exact ⟨some ⟨g, 0, none⟩, n3 - 6, c3, cw.take (n3 - 6), _, 0, rfl, HT.out.ext ((Ext.refl _).drewN _), HE3.out.drewN _, fun h => (by rw [hb] at h; cases h), fun _ => .inl ⟨cw, _, HNR.out, by rw [HL.out], rfl, rfl⟩⟩
end Go.Proofs.YtlabmdekdhjofaaDoor
