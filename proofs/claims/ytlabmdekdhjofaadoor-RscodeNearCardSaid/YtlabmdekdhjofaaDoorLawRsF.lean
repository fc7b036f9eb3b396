/- The walk of the law RscodeLinear. -/
import Derived.Test.YtlabmdekdhjofaaDoorLawRsE
import Derived.Test.YtlabmdekdhjofaaDoorLawRsC
namespace Go.Proofs.YtlabmdekdhjofaaDoor
open Go.RowKit

/-- Two rows lie apart. -/
def Dj (v u : Value) : Prop := ∀ i, v.ownBlock = some i → u.ownBlock ≠ some i
theorem Dj.symm {v u : Value} (h : Dj v u) : Dj u v := fun i hu hv => h i hv hu
theorem own_other {w wa w3 : World} {base e size n : Nat} {v u : Value} {xs : List Value} (hu : w.ownsRow base e size u n xs) (d : Dj v u) (x : Ext w wa) (hg : wa.grownBy w3 v.ownBlock) : w3.ownsRow base e size u n xs :=
  own_apart (own_ext hu x) hg (fun k hk hr => d k hr hk)
theorem dj_new {w : World} {base e size n m c gg : Nat} {v u : Value} {xs : List Value} (hu : w.ownsRow base e size u n xs) (d : Dj v u) (hat : v.ownBlock = some gg ∨ w.heap.size ≤ gg) : Dj (.slice (some ⟨gg, 0, none⟩) m c) u := fun i hi hb => by
  have e : gg = i := by simpa [Value.ownBlock] using hi
  subst e
  rcases hat with h | h
  · exact d _ h hb
  · have := (hu.lt _ hb).2; omega

/-- Sums of a multiple. -/
def lin (m : F) (a b : List F) : List F := List.zipWith (fun q p => q + m * p) b a
theorem lin_len {m : F} {a b : List F} (h : a.length = b.length) : (lin m a b).length = a.length := by unfold lin; rw [List.length_zipWith, h, Nat.min_self]
theorem lin_snoc {m x y : F} {a b : List F} (h : a.length = b.length) : lin m (a ++ [x]) (b ++ [y]) = lin m a b ++ [y + m * x] := by
  unfold lin; rw [List.zipWith_append h.symm]; rfl
theorem lin_code {m : F} {a b : List F} (h : a.length = b.length) (ha : F.Code a) (hb : F.Code b) : F.Code (lin m a b) := fun j h1 h2 => by
  unfold lin
  rw [F.ev_zip _ _ _ _ h.symm, ha j h1 h2, hb j h1 h2, F.mul_zero, F.add_zero]
theorem lin_enc {m : F} {a b : List F} (h : a.length = b.length) (h9 : a.length ≤ 9) : encF (lin m a b) = lin m (encF a) (encF b) := by
  have hle : (encF a).length = (encF b).length := by rw [encF_len, encF_len, h]
  have hl : (encF (lin m a b)).length = (lin m (encF a) (encF b)).length := by rw [encF_len, lin_len h, lin_len hle, encF_len]
  refine F.code_apart (encF_code _) (lin_code hle (encF_code a) (encF_code b)) hl (by rw [encF_len, lin_len h]; omega) ?_
  refine Nat.le_trans (diffs_le (ps := (List.range 6).map fun i => a.length + i) hl fun i hi hne => ?_) (by simp)
  rw [encF_len, lin_len h] at hi
  refine List.mem_map.2 ⟨i - a.length, List.mem_range.2 (by omega), ?_⟩
  rcases Nat.lt_or_ge i a.length with hlt | hge
  · exfalso
    apply hne
    have e1 : encF (lin m a b) = lin m a b ++ F.encRest F.genL (lin m a b) := rfl
    have e2 : lin m (encF a) (encF b) = lin m a b ++ lin m (F.encRest F.genL a) (F.encRest F.genL b) := by
      unfold lin encF; rw [List.zipWith_append h.symm]
    rw [e1, e2, List.getD_eq_getElem?_getD, List.getD_eq_getElem?_getD, List.getElem?_append_left (by rw [lin_len h]; exact hlt), List.getElem?_append_left (by rw [lin_len h]; exact hlt)]
  · omega

theorem own_snoc {base g k c : Nat} {w : World} {fa : List F} {x : F} (hl : fa.length = k) (h : w.ownsRow base 3 1 (.slice (some ⟨g, 0, none⟩) (k + 1) c) (k + 1) ((wI fa).map (Value.int .i64) ++ [.int .i64 (x.n : Int)])) : OwnW base w (.slice (some ⟨g, 0, none⟩) (k + 1) c) (fa ++ [x]) := by
  show World.ownsRow _ _ _ _ _ _ _
  rw [wI_app, List.map_append, List.length_append, hl]; exact h
theorem isF_at {p : Nat} {w : World} {A : Option Addr} {n c k : Nat} {f : List F} (h : IsI p w (.slice A n c) (wI f)) (hk : k < n) : ∃ b off, A = some ⟨b, off, none⟩ ∧ w.cell? ⟨b, off + k, none⟩ = some (.int .i64 ((f.getD k 0).n : Int)) := by
  obtain ⟨b, off, x, ha, hc, hx, _⟩ := h.at_ hk
  refine ⟨b, off, ha, ?_⟩
  rw [hc]
  have e := wI_get f k
  rw [List.getD_eq_getElem?_getD, hx.out] at e
  rw [← e]; rfl
theorem lin_get {m : F} {a b : List F} {j : Nat} (ha : j < a.length) (hb : j < b.length) : (lin m a b).getD j 0 = a.getD j 0 * m + b.getD j 0 := by
  unfold lin
  rw [List.getD_eq_getElem?_getD, List.getD_eq_getElem?_getD, List.getD_eq_getElem?_getD, List.getElem?_zipWith, List.getElem?_eq_getElem ha, List.getElem?_eq_getElem hb]
  show _ + _ = _
  rw [F.add_comm, F.mul_comm]; rfl

set_option maxRecDepth 100000 in
set_option maxHeartbeats 4000000 in
theorem walkRscodeLinear (v0 : Value) (l0 : List Int) (by_ : Int) (w : World) (h0 : IsI w.heap.size w v0 l0) (hby : 0 ≤ by_ ∧ by_ ≤ 255) (hT : Tabs w) :
    Calls Tryd.prog 11 #[v0, .int .u8 by_] w fun e w' => e = .returned (.bool true) ∧ Ext w w' := by
  have H0 := Lib.hid h0
  have HT := Lib.hid hT
  have b2 : 2 ≤ w.heap.size := hT.lt
  obtain ⟨by1, by2⟩ := hby
  clear h0 hT
  obtain ⟨i0, hi0, hz0, hz1, hz2⟩ := info_parts Tryd.infoI
  have em := u8F_n by1
  generalize u8F by_ = m at *
  have lm := m.lt
  go_enter Tryd.func11, Tryd.ntmps11
  go_wp2_with fail
  refine (new_any _ l0 _ H0.out).mono ?_
  rintro e w1 ⟨rfl, HT1, HE1⟩
  have hlt1 := HT1.lt
  go_wp2_with fail
  refine (range_any _ 1 9 _ HT1 (by omega) (by omega) (by omega) (by omega)).mono ?_
  rintro e w2 ⟨v2, rfl, ⟨r, rfl, hr0, hr1⟩, HT2, HX2⟩
  obtain ⟨rn, rfl⟩ := Int.eq_ofNat_of_zero_le (show 0 ≤ r by omega)
  have hrn1 : 1 ≤ rn := by omega
  have hrn9 : rn ≤ 9 := by omega
  have HE2 := Lib.hid (HX2.fresh HE1 (Nat.le_refl _))
  have hs2 : w1.heap.size ≤ w2.heap.size := HX2.size
  replace HT2 := Lib.hid HT2
  clear HT1 HE1 HX2 hr0 hr1
  go_wp2_with fail
  go_loopw [6, 7, 8, 10] (fun s6 s7 s8 s10 wr => ∃ (i k : Nat) (Aa : Option Addr) (ca : Nat) (Ab : Option Addr) (cb : Nat) (Ac : Option Addr) (cc : Nat), s6 = .slice Aa k ca ∧ s7 = .slice Ab k cb ∧ s8 = .slice Ac k cc ∧ s10 = .int .i64 (i : Int) ∧ k ≤ 9 ∧ k ≤ ca ∧ k ≤ cb ∧ k ≤ cc ∧ ca ≤ 9223372036854775807 ∧ cb ≤ 9223372036854775807 ∧ cc ≤ 9223372036854775807 ∧ i ≤ 9 ∧ Hid (k + i = rn ∧ ∃ fa fb : List F, fa.length = k ∧ fb.length = k ∧ OwnW w1.heap.size wr (.slice Aa k ca) fa ∧ OwnW w1.heap.size wr (.slice Ab k cb) fb ∧ OwnW w1.heap.size wr (.slice Ac k cc) (lin m fa fb) ∧ Dj (.slice Aa k ca) (.slice Ab k cb) ∧ Dj (.slice Aa k ca) (.slice Ac k cc) ∧ Dj (.slice Ab k cb) (.slice Ac k cc) ∧ Tape wr w.heap.size ∧ Ext w wr ∧ w1.heap.size ≤ wr.heap.size)) (fun _ _ _ i _ => (intOf i).toNat)
  case atStart =>
    refine ⟨rn, 0, none, 0, none, 0, none, 0, rfl, rfl, rfl, rfl, by omega, by omega, by omega, by omega, by omega, by omega, by omega, by omega, by omega, [], [], rfl, rfl, World.ownsRow_nil _ _ _ _, World.ownsRow_nil _ _ _ _, World.ownsRow_nil _ _ _ _, ?_, ?_, ?_, HT2.out, HE2.out, hs2⟩ <;> (intro i hi; simp [Value.ownBlock] at hi)
  case round =>
    clear HT2 HE2 hs2
    obtain ⟨i, k, Aa, ca, Ab, cb, Ac, cc, rfl, rfl, rfl, rfl, hk9, hka, hkb, hkc, hca, hcb, hcc, hi9, HK⟩ := hrel
    obtain ⟨hki, fa, fb, q1, q2, q3, q4, q5, q6, q7, q8, q9, q10, q11⟩ := HK.out
    have HKI := Lib.hid hki
    have HLA := Lib.hid q1
    have HLB := Lib.hid q2
    have HA := Lib.hid q3
    have HB := Lib.hid q4
    have HC := Lib.hid q5
    have DAB := Lib.hid q6
    have DAC := Lib.hid q7
    have DBC := Lib.hid q8
    have HTp := Lib.hid q9
    have HE := Lib.hid q10
    have hsz := q11
    clear HK hki q1 q2 q3 q4 q5 q6 q7 q8 q9 q10 q11
    by_cases hi : 0 < i
    · have hk8 : k ≤ 8 := by have := HKI.out; omega
      go_wp2_with fail
      refine (next_any _ 32 _ HTp.out (by omega)).mono ?_
      rintro e w3 ⟨v3, rfl, ⟨x, rfl, hx0, hx1⟩, HT3, HX3⟩
      go_wp2_with fail
      refine (next_any _ 32 _ HT3 (by omega)).mono ?_
      rintro e w4 ⟨v4, rfl, ⟨y, rfl, hy0, hy1⟩, HT4, HX4⟩
      obtain ⟨xf, hxf⟩ : ∃ xf : F, x = (xf.n : Int) := ⟨F.mk x.toNat (by omega), by rw [F.n_mk]; omega⟩
      obtain ⟨yf, hyf⟩ : ∃ yf : F, y = (yf.n : Int) := ⟨F.mk y.toNat (by omega), by rw [F.n_mk]; omega⟩
      subst hxf
      subst hyf
      have HX := HX3.trans HX4
      have HA4 := Lib.hid (HA.out.xt HX (by omega))
      have HB4 := Lib.hid (HB.out.xt HX (by omega))
      have HC4 := Lib.hid (HC.out.xt HX (by omega))
      have HE4 := Lib.hid (HX.fresh HE.out (Nat.le_refl _))
      have hs4 : w1.heap.size ≤ w4.heap.size := Nat.le_trans hsz HX.size
      replace HT4 := Lib.hid HT4
      clear HX HX3 HX4 HT3 HTp HA HB HC HE hx0 hx1 hy0 hy1 hsz
      have HA4k : Hid (w4.ownsRow w1.heap.size 3 1 (.slice Aa k ca) k ((wI fa).map (Value.int .i64))) := by have h := HA4.out; unfold OwnW at h; rw [HLA.out] at h; exact h
      have HB4k : Hid (w4.ownsRow w1.heap.size 3 1 (.slice Ab k cb) k ((wI fb).map (Value.int .i64))) := by have h := HB4.out; unfold OwnW at h; rw [HLB.out] at h; exact h
      have HC4k : Hid (w4.ownsRow w1.heap.size 3 1 (.slice Ac k cc) k ((wI (lin m fa fb)).map (Value.int .i64))) := by have h := HC4.out; unfold OwnW at h; rw [lin_len (HLA.out.trans HLB.out.symm), HLA.out] at h; exact h
      clear HA4 HB4 HC4
      go_upto_region 6 with (first
        | (at_builtin; refine wpList_append_lies _ rfl _ _ _ rfl w1.heap.size 3 i0 _ 1 8 Tryd.underlying27 hi0 hz0 hz1 hz2 rfl (by omega) (.slice Ac k cc) k ((wI (lin m fa fb)).map (Value.int .i64)) (by rfl) (World.ownsRow.alloc HC7.out _) ⟨w7.heap.size, 0, none⟩ 1 1 [.int .i64 ((xf * m + yf).n : Int)] (by rfl) (by rfl) (World.news_of_block (cs := #[.int .i64 ((xf * m + yf).n : Int)]) (t := 3) (fr := (0, 0)) (heap_alloc_new w7 _)) (by simp [Value.oneCell']) (by omega) (by unfold maxLen; omega) (by omega) (by simp; omega) (w7.heap.size + 1) (by simp) ?_; intro gc cgc w8 hown hgrow hat hltg; have E1 := ((Ext.refl w7).alloc (.cells #[.int .i64 ((xf * m + yf).n : Int)] 3)); have HC8 := Lib.hid hown; have HA8 := Lib.hid (own_other HA7.out DAC5.out.symm E1 hgrow); have HB8 := Lib.hid (own_other HB7.out DBC6.out.symm E1 hgrow); have DAC8 := Lib.hid (dj_new (m := k + 1) (c := cgc) HA7.out DAC5.out.symm (hat.imp id (fun e => (by omega)))); have DBC8 := Lib.hid (dj_new (m := k + 1) (c := cgc) HB7.out DBC6.out.symm (hat.imp id (fun e => (by omega)))); have HE8 := Lib.hid (Ext.grown (HE7.out.trans E1) hgrow (fun j hj => (by have := own_ge HC7.out j hj; omega))); have HT8 := Lib.hid ((HT7.out.ext E1).grown hgrow (fun j hj => (by have := own_ge HC7.out j hj; omega))); have hs8 : w1.heap.size ≤ w8.heap.size := (by have := hgrow.size; have := E1.size; omega); have hcc8 := own_cap hown; clear hown hgrow hat hltg E1)
        | (go_at_call 15; refine (mul_F xf m _ (HT.out.ext HE6.out)).mono ?_; rintro e w7 ⟨rfl, n7, hw7⟩; have HX7 : Ext w6 w7 := (by rw [hw7]; exact (Ext.refl _).drewN _); have HA7 := Lib.hid (own_ext HA6.out HX7); have HB7 := Lib.hid (own_ext HB6.out HX7); have HC7 := Lib.hid (own_ext HC6.out HX7); have HE7 := Lib.hid (HE6.out.trans HX7); have HT7 := Lib.hid (HT6.out.ext HX7); have hs7 : w1.heap.size ≤ w7.heap.size := (by have := HX7.size; omega); have hxor := xor_F (xf * m) yf; clear hw7 HX7)
        | (at_builtin; refine wpList_append_lies _ rfl _ _ _ rfl w1.heap.size 3 i0 _ 1 8 Tryd.underlying27 hi0 hz0 hz1 hz2 rfl (by omega) (.slice Ab k cb) k ((wI (fb)).map (Value.int .i64)) (by rfl) (World.ownsRow.alloc HB5.out _) ⟨w5.heap.size, 0, none⟩ 1 1 [.int .i64 (yf.n : Int)] (by rfl) (by rfl) (World.news_of_block (cs := #[.int .i64 (yf.n : Int)]) (t := 3) (fr := (0, 0)) (heap_alloc_new w5 _)) (by simp [Value.oneCell']) (by omega) (by unfold maxLen; omega) (by omega) (by simp; omega) (w5.heap.size + 1) (by simp) ?_; intro gb cgb w6 hown hgrow hat hltg; have E1 := ((Ext.refl w5).alloc (.cells #[.int .i64 (yf.n : Int)] 3)); have HB6 := Lib.hid hown; have HA6 := Lib.hid (own_other HA5.out DAB5.out.symm E1 hgrow); have HC6 := Lib.hid (own_other HC5.out DBC.out E1 hgrow); have DAB6 := Lib.hid (dj_new (m := k + 1) (c := cgb) HA5.out DAB5.out.symm (hat.imp id (fun e => (by omega)))); have DBC6 := Lib.hid (dj_new (m := k + 1) (c := cgb) HC5.out DBC.out (hat.imp id (fun e => (by omega)))); have HE6 := Lib.hid (Ext.grown (HE5.out.trans E1) hgrow (fun j hj => (by have := own_ge HB5.out j hj; omega))); have HT6 := Lib.hid ((HT5.out.ext E1).grown hgrow (fun j hj => (by have := own_ge HB5.out j hj; omega))); have hs6 : w1.heap.size ≤ w6.heap.size := (by have := hgrow.size; have := E1.size; omega); have hcb6 := own_cap hown; clear hown hgrow hat hltg E1)
        | (at_builtin; refine wpList_append_lies _ rfl _ _ _ rfl w1.heap.size 3 i0 _ 1 8 Tryd.underlying27 hi0 hz0 hz1 hz2 rfl (by omega) (.slice Aa k ca) k ((wI (fa)).map (Value.int .i64)) (by rfl) (World.ownsRow.alloc HA4k.out _) ⟨w4.heap.size, 0, none⟩ 1 1 [.int .i64 (xf.n : Int)] (by rfl) (by rfl) (World.news_of_block (cs := #[.int .i64 (xf.n : Int)]) (t := 3) (fr := (0, 0)) (heap_alloc_new w4 _)) (by simp [Value.oneCell']) (by omega) (by unfold maxLen; omega) (by omega) (by simp; omega) (w4.heap.size + 1) (by simp) ?_; intro ga cga w5 hown hgrow hat hltg; have E1 := ((Ext.refl w4).alloc (.cells #[.int .i64 (xf.n : Int)] 3)); have HA5 := Lib.hid hown; have HB5 := Lib.hid (own_other HB4k.out DAB.out E1 hgrow); have HC5 := Lib.hid (own_other HC4k.out DAC.out E1 hgrow); have DAB5 := Lib.hid (dj_new (m := k + 1) (c := cga) HB4k.out DAB.out (hat.imp id (fun e => (by omega)))); have DAC5 := Lib.hid (dj_new (m := k + 1) (c := cga) HC4k.out DAC.out (hat.imp id (fun e => (by omega)))); have HE5 := Lib.hid (Ext.grown (HE4.out.trans E1) hgrow (fun j hj => (by have := own_ge HA4k.out j hj; omega))); have HT5 := Lib.hid ((HT4.out.ext E1).grown hgrow (fun j hj => (by have := own_ge HA4k.out j hj; omega))); have hs5 : w1.heap.size ≤ w5.heap.size := (by have := hgrow.size; have := E1.size; omega); have hca5 := own_cap hown; clear hown hgrow hat hltg E1))
      obtain ⟨ca1, ca2⟩ := hca5
      obtain ⟨cb1, cb2⟩ := hcb6
      obtain ⟨cc1, cc2⟩ := hcc8
      go_wp2_with fail
      go_roundw
      case rel =>
        refine ⟨i - 1, k + 1, some ⟨ga, 0, none⟩, cga, some ⟨gb, 0, none⟩, cgb, some ⟨gc, 0, none⟩, cgc, rfl, rfl, rfl, ?_, by omega, ca1, cb1, cc1, ca2, cb2, cc2, by omega, by have := HKI.out; omega, fa ++ [xf], fb ++ [yf], by rw [List.length_append, HLA.out]; rfl, by rw [List.length_append, HLB.out]; rfl, own_snoc HLA.out HA8.out, own_snoc HLB.out HB8.out, ?_, DAB6.out.symm, DAC8.out.symm, DBC8.out.symm, HT8.out, HE8.out, hs8⟩
        · go_num
        · rw [lin_snoc (HLA.out.trans HLB.out.symm), show yf + m * xf = xf * m + yf from by rw [F.add_comm, F.mul_comm]]
          exact own_snoc (by rw [lin_len (HLA.out.trans HLB.out.symm), HLA.out]) HC8.out
      case measure => simp [intOf]; omega
    · have hk1 : 1 ≤ k := by have := HKI.out; omega
      have HLC : Hid ((lin m fa fb).length = k) := by show _ = _; rw [lin_len (HLA.out.trans HLB.out.symm), HLA.out]
      have HLN := Lib.hid (lin_enc (m := m) (HLA.out.trans HLB.out.symm) (by rw [HLA.out]; omega))
      have HIA : Hid (IsI wr.heap.size wr (.slice Aa k ca) (wI fa)) := (HA.out.isI (p := 0) (by omega) (by rw [HLA.out]; omega)).re (Nat.le_refl _)
      have HIB : Hid (IsI wr.heap.size wr (.slice Ab k cb) (wI fb)) := (HB.out.isI (p := 0) (by omega) (by rw [HLB.out]; omega)).re (Nat.le_refl _)
      have HIC : Hid (IsI wr.heap.size wr (.slice Ac k cc) (wI (lin m fa fb))) := (HC.out.isI (p := 0) (by omega) (by rw [HLC.out]; omega)).re (Nat.le_refl _)
      have HTr := Lib.hid (HT.out.ext HE.out)
      generalize lin m fa fb = fc at HIC HLC HLN
      have ea := encL_ok (d := fa) (by rw [HLA.out]; omega) (by rw [HLA.out]; omega)
      have eb := encL_ok (d := fb) (by rw [HLB.out]; omega) (by rw [HLB.out]; omega)
      have ec := encL_ok (d := fc) (by rw [HLC.out]; omega) (by rw [HLC.out]; omega)
      clear HA HB HC DAB DAC DBC HTp
      have hi0' : i = 0 := by omega
      subst hi0'
      clear hi
      go_wp2_with fail
      refine (enc_slice _ (wI fa) _ HTr.out HIA.out).mono ?_
      rintro e x1 ⟨A1, m1, c1, rfl, hm1, hc1, hc2, ho1, hx1⟩
      rw [ea.2]
      rw [ea.1] at ho1 hm1
      rw [wI_len, encF_len, HLA.out] at hm1
      subst hm1
      have HIA1 := Lib.hid (HIA.out.ext hx1)
      have HIB1 := Lib.hid (HIB.out.ext hx1)
      have HIC1 := Lib.hid (HIC.out.ext hx1)
      have HE1 := Lib.hid (HE.out.trans hx1)
      have HP1 : Hid (IsI x1.heap.size x1 (.slice A1 (k + 6) c1) (wI (encF fa))) := (IsI.of_own' (p := x1.heap.size) (e := 3) ho1 (fun h => by have := (ho1.lt _ h).2; omega) (wI_i64 _) (by rw [wI_len, encF_len, HLA.out]; omega))
      obtain ⟨g1, rfl⟩ : ∃ g, A1 = some ⟨g, 0, none⟩ := by
        rcases ho1.2 with ⟨e, h0⟩ | ⟨g', cap', cur, e, _⟩
        · omega
        · injection e with e1; exact ⟨g', e1⟩
      clear hx1 ho1 HIA HIB HIC HE
      go_wp2_with fail
      refine (enc_slice _ (wI fb) _ (HT.out.ext HE1.out) HIB1.out).mono ?_
      rintro e x2 ⟨A2, m2, c2, rfl, hm2, hc3, hc4, ho2, hx2⟩
      rw [eb.2]
      rw [eb.1] at ho2 hm2
      rw [wI_len, encF_len, HLB.out] at hm2
      subst hm2
      have HIA2 := Lib.hid (HIA1.out.ext hx2)
      have HIC2 := Lib.hid (HIC1.out.ext hx2)
      have HP2 := Lib.hid (HP1.out.ext hx2)
      have HE2 := Lib.hid (HE1.out.trans hx2)
      have HQ2 : Hid (IsI x2.heap.size x2 (.slice A2 (k + 6) c2) (wI (encF fb))) := (IsI.of_own' (p := x2.heap.size) (e := 3) ho2 (fun h => by have := (ho2.lt _ h).2; omega) (wI_i64 _) (by rw [wI_len, encF_len, HLB.out]; omega))
      clear hx2 ho2 HIA1 HIB1 HIC1 HE1 HP1
      go_wp2_with fail
      refine (enc_slice _ (wI fc) _ (HT.out.ext HE2.out) HIC2.out).mono ?_
      rintro e x3 ⟨A3, m3, c3, rfl, hm3, hc5, hc6, ho3, hx3⟩
      rw [ec.2]
      rw [ec.1] at ho3 hm3
      rw [wI_len, encF_len, HLC.out] at hm3
      subst hm3
      have HIA3 := Lib.hid (HIA2.out.ext hx3)
      have HP3 := Lib.hid (HP2.out.ext hx3)
      have HQ3 := Lib.hid (HQ2.out.ext hx3)
      have HE3 := Lib.hid (HE2.out.trans hx3)
      have HR3 : Hid (IsI x3.heap.size x3 (.slice A3 (k + 6) c3) (wI (encF fc))) := (IsI.of_own' (p := x3.heap.size) (e := 3) ho3 (fun h => by have := (ho3.lt _ h).2; omega) (wI_i64 _) (by rw [wI_len, encF_len, HLC.out]; omega))
      clear hx3 ho3 HIA2 HIC2 HE2 HP2 HQ2 ea eb ec
      go_wp2_with fail
      go_loopw [19] (fun s19 wq => ∃ (j : Nat), s19 = .int .i64 (j : Int) ∧ j ≤ k + 6 ∧ Hid (Ext x3 wq)) (fun j _ => k + 6 - (intOf j).toNat)
      case atStart => exact ⟨0, rfl, by omega, Ext.refl _⟩
      case round =>
        obtain ⟨j, rfl, hj, HJ⟩ := hrel
        have HEj := Lib.hid (HE3.out.trans HJ.out)
        by_cases hjk : j < k + 6
        · obtain ⟨pb, po, hpe, cp⟩ := isF_at (HP3.out.ext HJ.out) hjk
          obtain ⟨qb, qo, rfl, cq⟩ := isF_at (HQ3.out.ext HJ.out) hjk
          obtain ⟨rb, ro, rfl, cr⟩ := isF_at (HR3.out.ext HJ.out) hjk
          injection hpe with hpe
          injection hpe with h1 h2
          subst h1; subst h2
          rw [Nat.zero_add] at cp
          have hv : (encF fc).getD j 0 = (encF fa).getD j 0 * m + (encF fb).getD j 0 := by
            rw [HLN.out]
            exact lin_get (by rw [encF_len, HLA.out]; exact hjk) (by rw [encF_len, HLB.out]; exact hjk)
          rw [hv] at cr
          clear hv
          generalize (encF fa).getD j 0 = pf at cp cr
          generalize (encF fb).getD j 0 = qf at cq cr
          have hxor := xor_F (pf * m) qf
          have HQ : Hid (∀ n, Calls Tryd.prog 15 #[.int .i64 (pf.n : Int), .int .i64 (m.n : Int)] (wr.drewN n) fun e w' => e = .returned (.int .i64 ((pf * m).n : Int)) ∧ ∃ n', w' = (wr.drewN n).drewN n') := fun n => mul_F pf m _ ((HT.out.ext HEj.out).ext ((Ext.refl _).drewN _))
          go_wp2_with fail
          go_quiet ((go_at_call 15; exact Calls.quiet_of (HQ.out _)))
          go_wp2_with fail
          go_roundw
          case rel => exact ⟨j + 1, by go_num, by omega, HJ.out.drewN _⟩
          case measure => simp [intOf]; omega
        · have cdA : codeB (wI (encF fa)) = true := (codeB_wI (by rw [encF_len, HLA.out]; omega) (by rw [encF_len, HLA.out]; omega)).2 (encF_code _)
          have cdC : codeB (wI (encF fc)) = true := (codeB_wI (by rw [encF_len, HLC.out]; omega) (by rw [encF_len, HLC.out]; omega)).2 (encF_code _)
          have hje : j = k + 6 := by omega
          subst hje
          clear hjk
          have HPj := Lib.hid (HP3.out.ext HJ.out)
          have HRj := Lib.hid (HR3.out.ext HJ.out)
          have HAj := Lib.hid (HIA3.out.ext HJ.out)
          have htk : (wI (encF fa)).take k = wI fa := by
            unfold encF; rw [wI_app, List.take_left' (by rw [wI_len, HLA.out])]
          clear HP3 HQ3 HR3 HIA3 HJ HE3
          go_wp2_with fail
          refine (codeword_any _ (wI (encF fa)) _ (HT.out.ext HEj.out) HPj.out).mono ?_
          rintro e y1 ⟨rfl, hy1⟩
          rw [cdA]
          have HY1 := Lib.hid (HEj.out.trans hy1)
          have HA1 := Lib.hid (HAj.out.ext hy1)
          have HP1 := Lib.hid (HPj.out.ext hy1)
          have HR1 := Lib.hid (HRj.out.ext hy1)
          clear hy1 HAj HPj HRj HEj
          go_wp2_with fail
          refine (codeword_any _ (wI (encF fc)) _ (HT.out.ext HY1.out) HR1.out).mono ?_
          rintro e y2 ⟨rfl, hy2⟩
          rw [cdC]
          have HY2 := Lib.hid (HY1.out.trans hy2)
          have HA2 := Lib.hid (HA1.out.ext hy2)
          have HP2 : Hid (IsI x1.heap.size y2 (.slice (some ⟨g1, 0, none⟩) k c1) (wI fa)) := by
            have h := (HP1.out.ext hy2).take (k := k) (by omega)
            rw [htk] at h
            exact h
          clear hy2 HA1 HP1 HR1 HY1 htk
          go_wp2_with fail
          refine (ints_ext _ _ (wI fa) (wI fa) _ HP2.out HA2.out).mono ?_
          rintro e y3 ⟨rfl, hy3⟩
          rw [show decide (wI fa = wI fa) = true from by simp]
          have HY3 := Lib.hid (HY2.out.trans hy3)
          clear hy3 HY2 HA2 HP2
          go_wp2_with fail
          refine (awake18_any _ (HT.out.ext HY3.out)).mono ?_
          rintro e y4 ⟨rfl, hy4⟩
          go_wp2_with fail
          go_ret
          exact ⟨rfl, HY3.out.trans hy4⟩
end Go.Proofs.YtlabmdekdhjofaaDoor
