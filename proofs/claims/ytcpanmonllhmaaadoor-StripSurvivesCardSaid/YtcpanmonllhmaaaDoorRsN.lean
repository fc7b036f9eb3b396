/- rscode.Decode. -/
import Derived.Test.YtcpanmonllhmaaaDoorGRsJ
import Derived.Test.YtcpanmonllhmaaaDoorGNear
import Derived.Laws.EntriesVeiled
set_option linter.unusedSimpArgs false
set_option linter.unusedVariables false
namespace Go.Proofs.YtcpanmonllhmaaaDoor
open Go.RowKit

/-- What Decode keeps while it parts the places. -/
structure LSt (n base gL cL gP gH : Nat) (f : List Int) (es hs : List Nat) (w : World) (Ap : Option Addr) (np cp : Nat) (Ah : Option Addr) (nh ch : Nat) : Prop where
  p : w.heap[gP]? = some (.cells #[.slice Ap np cp] 22 (0, 0))
  h : w.heap[gH]? = some (.cells #[.slice Ah nh ch] 22 (0, 0))
  oL : w.ownsRow base 3 1 (.slice (some ⟨gL, 0, none⟩) n cL) n (f.map (Value.int .i64))
  oP : w.ownsRow base 3 1 (.slice Ap np cp) np ((psI es).map (Value.int .i64))
  oH : w.ownsRow base 3 1 (.slice Ah nh ch) nh ((psI hs).map (Value.int .i64))
  dPH : ∀ i, (Value.slice Ap np cp).ownBlock = some i → (Value.slice Ah nh ch).ownBlock ≠ some i
  dPL : (Value.slice Ap np cp).ownBlock ≠ some gL
  dHL : (Value.slice Ah nh ch).ownBlock ≠ some gL
  lP : es.length = np
  lH : hs.length = nh
  cP : np ≤ cp ∧ cp ≤ 9223372036854775807
  cH : nh ≤ ch ∧ ch ≤ 9223372036854775807
  ne : gP ≠ gH
section
variable {n base gL cL gP gH : Nat} {f : List Int} {es hs : List Nat} {w wa w3 : World} {Ap : Option Addr} {np cp : Nat} {Ah : Option Addr} {nh ch : Nat}
theorem LSt.ext (h : LSt n base gL cL gP gH f es hs w Ap np cp Ah nh ch) (e : Ext w wa) : LSt n base gL cL gP gH f es hs wa Ap np cp Ah nh ch :=
  { h with p := e.blk h.p, h := e.blk h.h, oL := own_ext h.oL e, oP := own_ext h.oP e, oH := own_ext h.oH e }
theorem LSt.setL (h : LSt n base gL cL gP gH f es hs w Ap np cp Ah nh ch) (k : Nat) (y : Int) : LSt n base gL cL gP gH (f.set k y) es hs (w.setCell ⟨gL, k, none⟩ (.int .i64 y)) Ap np cp Ah nh ch := by
  have hp : gP ≠ gL := fun e => own_ne h.oL h.p (by decide) (by simp [Value.ownBlock, e])
  have hh : gH ≠ gL := fun e => own_ne h.oL h.h (by decide) (by simp [Value.ownBlock, e])
  refine { h with p := ?_, h := ?_, oL := ?_, oP := own_far' h.oP h.dPL _, oH := own_far' h.oH h.dHL _ }
  · rw [Below.heap_setCell _ _ _ _ (by simpa using hp)]; exact h.p
  · rw [Below.heap_setCell _ _ _ _ (by simpa using hh)]; exact h.h
  · rw [List.map_set]; exact (World.ownsRow.stored h.oL k (.int .i64 y)).1
theorem LSt.growP (h : LSt n base gL cL gP gH f es hs w Ap np cp Ah nh ch) (e : Ext w wa) {gg cap x : Nat} (hg : wa.grownBy w3 (Value.slice Ap np cp).ownBlock)
    (ho : w3.ownsRow base 3 1 (.slice (some ⟨gg, 0, none⟩) (np + 1) cap) (np + 1) ((psI es).map (Value.int .i64) ++ [.int .i64 (x : Int)])) (hat : (Value.slice Ap np cp).ownBlock = some gg ∨ w.heap.size ≤ gg) :
    w3.heap[gP]? = some (.cells #[.slice Ap np cp] 22 (0, 0)) ∧ LSt n base gL cL gP gH f (es ++ [x]) hs (w3.setCell ⟨gP, 0, none⟩ (.slice (some ⟨gg, 0, none⟩) (np + 1) cap)) (some ⟨gg, 0, none⟩) (np + 1) cap Ah nh ch := by
  have h1 := h.ext e
  have keep : ∀ {b : Nat} {o : Obj}, wa.heap[b]? = some o → (Value.slice Ap np cp).ownBlock ≠ some b → w3.heap[b]? = some o := fun hb hne => (hg.block _ (lt_of_blk hb) (fun e => hne e.symm)).trans hb
  have p3 := keep h1.p (own_ne h1.oP h1.p (by decide))
  have h3 := keep h1.h (own_ne h1.oP h1.h (by decide))
  have oL3 := own_apart h1.oL hg (fun k hk e => by have : gL = k := (by simpa [Value.ownBlock] using hk); subst this; exact h1.dPL e)
  have oH3 := own_apart h1.oH hg (fun k hk e => h1.dPH k e hk)
  have hLlt := (h.oL.lt gL rfl).2
  have hnH : ∀ i, (Value.slice (some ⟨gg, 0, none⟩) (np + 1) cap).ownBlock = some i → (Value.slice Ah nh ch).ownBlock ≠ some i := fun i hi hh => by
    have e1 : gg = i := by simpa [Value.ownBlock] using hi
    subst e1
    rcases hat with h4 | h4
    · exact h.dPH _ h4 hh
    · have := (h.oH.lt _ hh).2; omega
  have hnL : (Value.slice (some ⟨gg, 0, none⟩) (np + 1) cap).ownBlock ≠ some gL := fun hi => by
    have e1 : gg = gL := by simpa [Value.ownBlock] using hi
    subst e1
    rcases hat with h4 | h4
    · exact h.dPL h4
    · omega
  have e2 : psI (es ++ [x]) = psI es ++ [(x : Int)] := by simp [psI]
  have ho' : w3.ownsRow base 3 1 (.slice (some ⟨gg, 0, none⟩) (np + 1) cap) (np + 1) ((psI (es ++ [x])).map (Value.int .i64)) := by rw [e2, List.map_append]; exact ho
  refine ⟨p3, ⟨blk_set p3 _, ?_, own_far' oL3 (own_ne oL3 p3 (by decide)) _, own_far' ho' (own_ne ho' p3 (by decide)) _, own_far' oH3 (own_ne oH3 p3 (by decide)) _, hnH, hnL, h.dHL, by simp [h.lP], h.lH, own_cap ho', h.cH, h.ne⟩⟩
  rw [Below.heap_setCell _ _ _ _ (by simpa using h.ne.symm)]; exact h3
theorem LSt.growH (h : LSt n base gL cL gP gH f es hs w Ap np cp Ah nh ch) (e : Ext w wa) {gg cap x : Nat} (hg : wa.grownBy w3 (Value.slice Ah nh ch).ownBlock)
    (ho : w3.ownsRow base 3 1 (.slice (some ⟨gg, 0, none⟩) (nh + 1) cap) (nh + 1) ((psI hs).map (Value.int .i64) ++ [.int .i64 (x : Int)])) (hat : (Value.slice Ah nh ch).ownBlock = some gg ∨ w.heap.size ≤ gg) :
    w3.heap[gH]? = some (.cells #[.slice Ah nh ch] 22 (0, 0)) ∧ LSt n base gL cL gP gH f es (hs ++ [x]) (w3.setCell ⟨gH, 0, none⟩ (.slice (some ⟨gg, 0, none⟩) (nh + 1) cap)) Ap np cp (some ⟨gg, 0, none⟩) (nh + 1) cap := by
  have h1 := h.ext e
  have keep : ∀ {b : Nat} {o : Obj}, wa.heap[b]? = some o → (Value.slice Ah nh ch).ownBlock ≠ some b → w3.heap[b]? = some o := fun hb hne => (hg.block _ (lt_of_blk hb) (fun e => hne e.symm)).trans hb
  have p3 := keep h1.p (own_ne h1.oH h1.p (by decide))
  have h3 := keep h1.h (own_ne h1.oH h1.h (by decide))
  have oL3 := own_apart h1.oL hg (fun k hk e => by have : gL = k := (by simpa [Value.ownBlock] using hk); subst this; exact h1.dHL e)
  have oP3 := own_apart h1.oP hg (fun k hk e => h1.dPH k hk e)
  have hLlt := (h.oL.lt gL rfl).2
  have hnP : ∀ i, (Value.slice Ap np cp).ownBlock = some i → (Value.slice (some ⟨gg, 0, none⟩) (nh + 1) cap).ownBlock ≠ some i := fun i hi hh => by
    have e1 : gg = i := by simpa [Value.ownBlock] using hh
    subst e1
    rcases hat with h4 | h4
    · exact h.dPH _ hi h4
    · have := (h.oP.lt _ hi).2; omega
  have hnL : (Value.slice (some ⟨gg, 0, none⟩) (nh + 1) cap).ownBlock ≠ some gL := fun hi => by
    have e1 : gg = gL := by simpa [Value.ownBlock] using hi
    subst e1
    rcases hat with h4 | h4
    · exact h.dHL h4
    · omega
  have e2 : psI (hs ++ [x]) = psI hs ++ [(x : Int)] := by simp [psI]
  have ho' : w3.ownsRow base 3 1 (.slice (some ⟨gg, 0, none⟩) (nh + 1) cap) (nh + 1) ((psI (hs ++ [x])).map (Value.int .i64)) := by rw [e2, List.map_append]; exact ho
  refine ⟨h3, ⟨?_, blk_set h3 _, own_far' oL3 (own_ne oL3 h3 (by decide)) _, own_far' oP3 (own_ne oP3 h3 (by decide)) _, own_far' ho' (own_ne ho' h3 (by decide)) _, hnP, h.dPL, hnL, h.lP, by simp [h.lH], h.cP, own_cap ho', h.ne⟩⟩
  rw [Below.heap_setCell _ _ _ _ (by simpa using h.ne)]; exact p3
end

theorem IsI.of_own' {p base e n : Nat} {w : World} {v : Value} {l : List Int} (h : w.ownsRow base e 1 v n (l.map (Value.int .i64))) (hp : v.ownBlock ≠ some p) (hb : ∀ x ∈ l, I64 x) (hl : l.length ≤ 9223372036854775807) : IsI p w v l := by
  have hn : l.length = n := by simpa using h.1
  rcases h.2 with ⟨rfl, rfl⟩ | ⟨g, cap, cur, rfl, hg, hh, hnc, hcm, hcs, htk⟩
  · obtain rfl : l = [] := List.eq_nil_of_length_eq_zero hn
    exact IsI.nil p w
  · subst hn
    refine ⟨_, cap, rfl, hnc, hcm, hl, hb, fun k x hx => ⟨g, 0, rfl, (fun e => hp (by simp [Value.ownBlock, e])), ?_⟩⟩
    have hk := (List.getElem?_eq_some_iff.1 hx).1
    rw [Nat.zero_add, h.cellAt k (by omega)]
    simp [hx]
theorem psI_i64 {ps : List Nat} (h : ∀ p ∈ ps, p < 1000000) : ∀ x ∈ psI ps, I64 x := by
  intro x hx
  unfold psI at hx
  obtain ⟨q, hq, rfl⟩ := List.mem_map.1 hx
  have := h q hq
  constructor <;> omega

/-- What Decode returns. -/
def DecRet (w : World) (l : List Int) (e : Ending) (w' : World) : Prop :=
  ∃ (A : Option Addr) (m c : Nat) (d : List F) (er k : Int), e = .returned (.tuple #[.slice A m c, .int .i64 er, .int .i64 k]) ∧ IsI w.heap.size w' (.slice A m c) (wI d) ∧ Ext w w' ∧
    (wordB (-1) l = false → d = [] ∧ er = 0 ∧ k = 2) ∧
    (wordB (-1) l = true → (∃ (cw : List F) (n : Nat), Near l cw n ∧ d = cw.take (l.length - 6) ∧ er = n ∧ k = 0) ∨ ((∀ cw n, ¬ Near l cw n) ∧ d = [] ∧ er = 0 ∧ k = 25))

set_option maxRecDepth 100000 in
set_option maxHeartbeats 4000000 in
theorem decode_any {q : Nat} (v : Value) (l : List Int) (w : World) (hT : Tabs w) (hI : IsI q w v l) :
    Calls Tryd.prog 55 #[v] w (DecRet w l) := by
  have h0 := hI.re (q := w.heap.size) (Nat.le_refl _)
  obtain ⟨A, n, c, rfl, hnc, hc, hnn, HL⟩ := hI.open_
  have HI := Lib.hid h0
  have HT := Lib.hid hT
  clear hI hT h0
  have b2 : 2 ≤ w.heap.size := HT.out.lt
  obtain ⟨i0, hi0, hz0, hz1, hz2⟩ := info_parts Tryd.infoI
  have HE0 := Lib.hid ((Ext.refl w).alloc (.cells #[.slice A n c] 22))
  have HW0 := Lib.hid (heap_alloc_new w (.cells #[.slice A n c] 22))
  rcases Bool.eq_false_or_eq_true (wordB (-1) l) with hb | hb
  case inr =>
    go_enter Tryd.func55, Tryd.ntmps55
    go_wp2_with (go_at_call 73; refine (isWord_any _ l (-1) _ (HI.out.ext HE0.out)).mono ?_; rintro e w1 ⟨rfl, HX1⟩; rw [hb])
    go_ret3
    exact ⟨none, 0, 0, [], 0, 2, rfl, IsI.nil _ _, HE0.out.trans HX1, fun _ => ⟨rfl, rfl, rfl⟩, fun h => by rw [hb] at h; cases h⟩
  have hm := word_mem hb
  have HM := Lib.hid hm.2.2
  have hn7 : 7 ≤ n := by have := HL.out; omega
  have hn15 : n ≤ 15 := by have := HL.out; omega
  have HBW := Lib.hid hb
  clear hm
  obtain ⟨bA, oA, zA, rfl, -⟩ := HI.out.at_ (k := 0) (by omega)
  go_enter Tryd.func55, Tryd.ntmps55
  go_upto_region 3 with (go_at_call 73; refine (isWord_any _ l (-1) _ (HI.out.ext HE0.out)).mono ?_; rintro e w1 ⟨rfl, HX1⟩; rw [hb]; replace HX1 := Lib.hid HX1)
  have HE1 := Lib.hid (HE0.out.trans HX1.out)
  have HW1 := Lib.hid (HX1.out.blk HW0.out)
  have cW := blk_cell HW1.out (i := 0) rfl
  clear HE0 HW0 HX1 hb
  go_upto_region 4 with (go_at_call 62; refine (clone_own _ l _ (HI.out.ext HE1.out) (by rw [HL.out]; omega)).mono ?_; rintro e w2 ⟨vL, rfl, HO2, HX2⟩; rw [HL.out] at HO2; obtain ⟨AL, cL, rfl, hcL1, hcL2⟩ := own_shape HO2; replace HX2 := Lib.hid HX2; replace HO2 := Lib.hid HO2)
  obtain ⟨gL, rfl⟩ : ∃ gL, AL = some ⟨gL, 0, none⟩ := by
    rcases HO2.out.2 with ⟨e, h0⟩ | ⟨g', cap', cur, e, _⟩
    · omega
    · injection e with e1; exact ⟨g', e1⟩
  have hgL1 : w1.heap.size ≤ gL := own_ge HO2.out gL rfl
  have hgL2 : gL < w2.heap.size := (HO2.out.lt gL rfl).2
  have hw1 : w.heap.size < w1.heap.size := lt_of_blk HW1.out
  replace cW := HX2.out.cell cW
  go_upto_region 5 with (fail)
  have HEx := Lib.hid (((Ext.refl w2).alloc (.cells #[.slice none 0 0] 22)).alloc (.cells #[.slice none 0 0] 22))
  have HP0 := Lib.hid (((Ext.refl _).alloc (.cells #[.slice none 0 0] 22)).blk (heap_alloc_new w2 (.cells #[.slice none 0 0] 22)))
  have HH0 := Lib.hid (heap_alloc_new (w2.alloc (.cells #[.slice none 0 0] 22)) (.cells #[.slice none 0 0] 22))
  rw [World.size_alloc] at HH0
  replace cW := HEx.out.cell cW
  generalize (w2.alloc (.cells #[.slice none 0 0] 22)).alloc (.cells #[.slice none 0 0] 22) = W at *
  have HLS : Hid (LSt n w.heap.size gL cL w2.heap.size (w2.heap.size + 1) (fillTo l 0) (erTo l 0) (whTo l 0) W none 0 0 none 0 0) := by
    refine ⟨HP0.out, HH0.out, ?_, World.ownsRow_nil _ _ _ _, World.ownsRow_nil _ _ _ _, (fun i h => by simp [Value.ownBlock] at h), (fun h => by simp [Value.ownBlock] at h), (fun h => by simp [Value.ownBlock] at h), rfl, rfl, ⟨by omega, by omega⟩, ⟨by omega, by omega⟩, by omega⟩
    rw [fillTo_zero]
    exact own_ext (own_mono HO2.out (by omega)) HEx.out
  have HEW := Lib.hid ((HE1.out.trans HX2.out).trans HEx.out)
  have HWW := Lib.hid ((HX2.out.trans HEx.out).blk HW1.out)
  have hWs : w2.heap.size + 1 < W.heap.size := lt_of_blk HH0.out
  clear HX2 HEx HP0 HH0 HO2 HE1 HW1
  go_wp2_with fail
  go_loopw [24] (fun s24 wr => ∃ (k : Nat) (Ap : Option Addr) (np cp : Nat) (Ah : Option Addr) (nh ch : Nat), s24 = .int .i64 k ∧ k ≤ n ∧ Hid (LSt n w.heap.size gL cL w2.heap.size (w2.heap.size + 1) (fillTo l k) (erTo l k) (whTo l k) wr Ap np cp Ah nh ch ∧ Ext w wr ∧ wr.heap[w.heap.size]? = some (.cells #[.slice (some ⟨bA, oA, none⟩) n c] 22 (0, 0)) ∧ w2.heap.size + 1 < wr.heap.size)) (fun i _ => n - (intOf i).toNat)
  case atStart => exact ⟨0, none, 0, 0, none, 0, 0, rfl, by omega, HLS.out, HEW.out, HWW.out, hWs⟩
  case round =>
    clear HLS HEW HWW hWs
    obtain ⟨k, Ap, np, cp, Ah, nh, ch, rfl, hk, HK⟩ := hrel
    obtain ⟨k1, k2, k3, k4⟩ := HK.out
    have L := Lib.hid k1
    have HEr := Lib.hid k2
    have HWr := Lib.hid k3
    have hsz := k4
    clear HK k1 k2 k3 k4
    have hcp := L.out.cP
    have hch := L.out.cH
    obtain ⟨hcp1, hcp2⟩ := hcp
    obtain ⟨hch1, hch2⟩ := hch
    have hnp : np ≤ k := by rw [← L.out.lP]; exact erTo_len _ _
    have hnh : nh ≤ k := by rw [← L.out.lH]; exact whTo_len _ _
    by_cases hkn : k < n
    · obtain ⟨z, hcz, HZ, -⟩ := (HI.out.ext HEr.out).cell_ hkn
      have hzb := HM.out z (List.mem_of_getElem? HZ.out)
      have cp0 := blk_cell L.out.p (i := 0) rfl
      have cp1 := blk_frozen L.out.p 0
      have ch0 := blk_cell L.out.h (i := 0) rfl
      have ch1 := blk_frozen L.out.h 0
      by_cases hz : z = -1
      · subst hz
        obtain ⟨y, hy⟩ : ∃ y, (fillTo l k)[k]? = some y := ⟨_, List.getElem?_eq_getElem (by rw [fillTo_len l k (by have := HL.out; omega), HL.out]; exact hkn)⟩
        have cl0 : wr.cell? ⟨gL, k, none⟩ = some (.int .i64 y) := by rw [L.out.oL.cellAt k (by omega), List.getElem?_map, hy]; rfl
        have cl1 : wr.frozen? ⟨gL, k, none⟩ = false := L.out.oL.frozenAt k
        clear hy
        go_upto_region 10 with (fail)
        have L2 := L.out.setL k 0
        rw [fillTo_hit HZ.out] at L2
        have HE2 := Lib.hid (HEr.out.setCell (p := ⟨gL, k, none⟩) (by simp; omega) (.int .i64 0))
        have HW2 : Hid ((wr.setCell ⟨gL, k, none⟩ (.int .i64 0)).heap[w.heap.size]? = some (.cells #[.slice (some ⟨bA, oA, none⟩) n c] 22 (0, 0))) := by show _ = _; rw [Below.heap_setCell _ _ _ _ (by simp; omega)]; exact HWr.out
        have hs2 : (wr.setCell ⟨gL, k, none⟩ (.int .i64 0)).heap.size = wr.heap.size := by simp [World.setCell]
        rw [← hs2] at hsz
        replace L2 := Lib.hid L2
        clear cl0 cl1 hcz cp0 cp1 ch0 ch1 hs2
        generalize wr.setCell ⟨gL, k, none⟩ (.int .i64 0) = Wa at *
        have cp0 := blk_cell L2.out.p (i := 0) rfl
        have E1 := Lib.hid ((Ext.refl Wa).alloc (.cells #[.int .i64 (k : Int)] 3))
        go_upto_region 12 with (at_builtin; refine wpList_append_lies _ rfl _ _ _ rfl w.heap.size 3 i0 _ 1 8 Tryd.underlying22 hi0 hz0 hz1 hz2 rfl (by omega) (.slice Ap np cp) np ((psI (erTo l k)).map (Value.int .i64)) (by rfl) (L2.out.oP.alloc _) ⟨Wa.heap.size, 0, none⟩ 1 1 [.int .i64 (k : Int)] (by rfl) (by rfl) (World.news_of_block (cs := #[.int .i64 (k : Int)]) (t := 3) (fr := (0, 0)) (heap_alloc_new Wa _)) (by simp [Value.oneCell']) (by omega) (by unfold maxLen; omega) (by omega) (by have := HE2.out.size; simp; omega) (Wa.heap.size + 1) (by simp) ?_; intro gg cap w3 hown3 hgrow hat hlt3; have HG3 := Lib.hid (L2.out.growP E1.out hgrow hown3 (hat.imp id (fun e => (by omega)))); have HE3 := Lib.hid (Ext.grown (HE2.out.trans E1.out) hgrow (own_ge L2.out.oP)); have HW3 : Hid (w3.heap[w.heap.size]? = some (.cells #[.slice (some ⟨bA, oA, none⟩) n c] 22 (0, 0))) := (by have h1 := E1.out.blk HW2.out; exact (hgrow.block _ (lt_of_blk h1) (fun e => own_ne L2.out.oP HW2.out (by decide) e.symm)).trans h1); have hs3 : w2.heap.size + 1 < w3.heap.size := (by have := hgrow.size; have := E1.out.size; omega); have cp3 := blk_cell HG3.out.1 (i := 0) rfl; have cf3 := blk_frozen HG3.out.1 0; clear hown3 hgrow hat hlt3)
        have HL4 := HG3.out.2
        rw [← erTo_hit HZ.out rfl, ← whTo_miss HZ.out rfl] at HL4
        replace HL4 := Lib.hid HL4
        have HE4 := Lib.hid (HE3.out.setCell (p := ⟨w2.heap.size, 0, none⟩) (by simp; omega) (.slice (some ⟨gg, 0, none⟩) (np + 1) cap))
        have HW4 : Hid ((w3.setCell ⟨w2.heap.size, 0, none⟩ (.slice (some ⟨gg, 0, none⟩) (np + 1) cap)).heap[w.heap.size]? = some (.cells #[.slice (some ⟨bA, oA, none⟩) n c] 22 (0, 0))) := by show _ = _; rw [Below.heap_setCell _ _ _ _ (by simp; omega)]; exact HW3.out
        have hs4 : Hid (w2.heap.size + 1 < (w3.setCell ⟨w2.heap.size, 0, none⟩ (.slice (some ⟨gg, 0, none⟩) (np + 1) cap)).heap.size) := by show _ < _; simpa [World.setCell] using hs3
        clear HG3 cp3 cf3 cp0
        go_wp2_with fail
        go_roundw
        case rel => exact ⟨k + 1, _, _, _, _, _, _, by go_num, by omega, HL4.out, HE4.out, HW4.out, hs4.out⟩
        case measure => simp [intOf]; omega
      · have hz1' : (z == -1) = false := by simp [hz]
        have hz0' : 0 ≤ z := by omega
        have HZN := Lib.hid hz
        clear hz
        have L2 := L.out
        rw [fillTo_miss HZ.out hz0' hzb.2] at L2
        replace L2 := Lib.hid L2
        have E1 := Lib.hid ((Ext.refl wr).alloc (.cells #[.int .i64 (k : Int)] 3))
        go_upto_region 12 with (at_builtin; refine wpList_append_lies _ rfl _ _ _ rfl w.heap.size 3 i0 _ 1 8 Tryd.underlying22 hi0 hz0 hz1 hz2 rfl (by omega) (.slice Ah nh ch) nh ((psI (whTo l k)).map (Value.int .i64)) (by rfl) (L2.out.oH.alloc _) ⟨wr.heap.size, 0, none⟩ 1 1 [.int .i64 (k : Int)] (by rfl) (by rfl) (World.news_of_block (cs := #[.int .i64 (k : Int)]) (t := 3) (fr := (0, 0)) (heap_alloc_new wr _)) (by simp [Value.oneCell']) (by omega) (by unfold maxLen; omega) (by omega) (by have := HEr.out.size; simp; omega) (wr.heap.size + 1) (by simp) ?_; intro gg cap w3 hown3 hgrow hat hlt3; have HG3 := Lib.hid (L2.out.growH E1.out hgrow hown3 (hat.imp id (fun e => (by omega)))); have HE3 := Lib.hid (Ext.grown (HEr.out.trans E1.out) hgrow (own_ge L2.out.oH)); have HW3 : Hid (w3.heap[w.heap.size]? = some (.cells #[.slice (some ⟨bA, oA, none⟩) n c] 22 (0, 0))) := (by have h1 := E1.out.blk HWr.out; exact (hgrow.block _ (lt_of_blk h1) (fun e => own_ne L2.out.oH HWr.out (by decide) e.symm)).trans h1); have hs3 : w2.heap.size + 1 < w3.heap.size := (by have := hgrow.size; have := E1.out.size; omega); have cp3 := blk_cell HG3.out.1 (i := 0) rfl; have cf3 := blk_frozen HG3.out.1 0; clear hown3 hgrow hat hlt3)
        have HL4 := HG3.out.2
        rw [← erTo_miss HZ.out HZN.out, ← whTo_hit HZ.out HZN.out] at HL4
        replace HL4 := Lib.hid HL4
        have HE4 := Lib.hid (HE3.out.setCell (p := ⟨w2.heap.size + 1, 0, none⟩) (by simp; omega) (.slice (some ⟨gg, 0, none⟩) (nh + 1) cap))
        have HW4 : Hid ((w3.setCell ⟨w2.heap.size + 1, 0, none⟩ (.slice (some ⟨gg, 0, none⟩) (nh + 1) cap)).heap[w.heap.size]? = some (.cells #[.slice (some ⟨bA, oA, none⟩) n c] 22 (0, 0))) := by show _ = _; rw [Below.heap_setCell _ _ _ _ (by simp; omega)]; exact HW3.out
        have hs4 : Hid (w2.heap.size + 1 < (w3.setCell ⟨w2.heap.size + 1, 0, none⟩ (.slice (some ⟨gg, 0, none⟩) (nh + 1) cap)).heap.size) := by show _ < _; simpa [World.setCell] using hs3
        clear HG3 cp3 cf3
        go_wp2_with fail
        go_roundw
        case rel => exact ⟨k + 1, _, _, _, _, _, _, by go_num, by omega, HL4.out, HE4.out, HW4.out, hs4.out⟩
        case measure => simp [intOf]; omega
    · have hke : k = n := by omega
      rw [hke, ← HL.out] at L
      rw [fillTo_all] at L
      have HIF : Hid (IsI wr.heap.size wr (.slice (some ⟨gL, 0, none⟩) n cL) (wI (toF l))) := by
        have h := L.out.oL
        rw [HL.out] at h
        exact (IsI.of_own (p := 0) (base := w.heap.size) (e := 3) (n := n) (l := wI (toF l)) h (by omega) (wI_i64 _) (by rw [wI_len, toF_len, HL.out]; omega)).re (Nat.le_refl _)
      have cp0 := blk_cell L.out.p (i := 0) rfl
      go_upto_region 17 with (go_at_call 74; refine (syn6_any _ (toF l) _ (HT.out.ext HEr.out) HIF.out (by rw [toF_len, HL.out]; omega)).mono ?_; rintro e w4 ⟨rfl, HX4⟩; have cq : ∀ o, (w4.alloc o).cell? ⟨w2.heap.size, 0, none⟩ = some (.slice Ap np cp) := (fun o => ((Ext.refl w4).alloc o).cell (HX4.cell cp0)); replace HX4 := Lib.hid HX4)
      have hgS : Hid (∀ a b, ((((w4.alloc (.cells #[.int .i64 ((synF (toF l) 0).n : Int), .int .i64 ((synF (toF l) 1).n : Int), .int .i64 ((synF (toF l) 2).n : Int), .int .i64 ((synF (toF l) 3).n : Int), .int .i64 ((synF (toF l) 4).n : Int), .int .i64 ((synF (toF l) 5).n : Int)] 78)).alloc a).alloc b).heap[w4.heap.size]? = some (.cells (arrF (synF (toF l)) 6) 78 (0, 0)))) := fun a b => (((Ext.refl _).alloc a).alloc b).blk (heap_alloc_new w4 _)
      have hgV : Hid (∀ o a b, ((((w4.alloc o).alloc (.cells #[a] 22)).alloc b).heap[w4.heap.size + 1]? = some (.cells #[a] 22 (0, 0)))) := fun o a b => by
        have := ((Ext.refl _).alloc b).blk (heap_alloc_new (w4.alloc o) (.cells #[a] 22))
        rw [World.size_alloc] at this; exact this
      have hgF : Hid (∀ o a b, ((((w4.alloc o).alloc a).alloc (.cells #[b] 49)).heap[w4.heap.size + 1 + 1]? = some (.cells #[b] 49 (0, 0)))) := fun o a b => by
        have := heap_alloc_new ((w4.alloc o).alloc a) (.cells #[b] 49)
        rw [World.size_alloc, World.size_alloc] at this; exact this
      have HX5 : Hid (∀ o a b, Ext w4 (((w4.alloc o).alloc a).alloc b)) := fun o a b => (((Ext.refl w4).alloc o).alloc a).alloc b
      have HgS := Lib.hid (hgS.out (.cells #[.slice none 0 0] 22) (.cells #[.nilFunc] 49))
      have HgV := Lib.hid (hgV.out (.cells #[.int .i64 ((synF (toF l) 0).n : Int), .int .i64 ((synF (toF l) 1).n : Int), .int .i64 ((synF (toF l) 2).n : Int), .int .i64 ((synF (toF l) 3).n : Int), .int .i64 ((synF (toF l) 4).n : Int), .int .i64 ((synF (toF l) 5).n : Int)] 78) (.slice none 0 0) (.cells #[.nilFunc] 49))
      have HgF := Lib.hid (hgF.out (.cells #[.int .i64 ((synF (toF l) 0).n : Int), .int .i64 ((synF (toF l) 1).n : Int), .int .i64 ((synF (toF l) 2).n : Int), .int .i64 ((synF (toF l) 3).n : Int), .int .i64 ((synF (toF l) 4).n : Int), .int .i64 ((synF (toF l) 5).n : Int)] 78) (.cells #[.slice none 0 0] 22) .nilFunc)
      have HX6 := Lib.hid (HX5.out (.cells #[.int .i64 ((synF (toF l) 0).n : Int), .int .i64 ((synF (toF l) 1).n : Int), .int .i64 ((synF (toF l) 2).n : Int), .int .i64 ((synF (toF l) 3).n : Int), .int .i64 ((synF (toF l) 4).n : Int), .int .i64 ((synF (toF l) 5).n : Int)] 78) (.cells #[.slice none 0 0] 22) (.cells #[.nilFunc] 49))
      clear hgS hgV hgF HX5 cq cp0
      generalize (((w4.alloc (.cells #[.int .i64 ((synF (toF l) 0).n : Int), .int .i64 ((synF (toF l) 1).n : Int), .int .i64 ((synF (toF l) 2).n : Int), .int .i64 ((synF (toF l) 3).n : Int), .int .i64 ((synF (toF l) 4).n : Int), .int .i64 ((synF (toF l) 5).n : Int)] 78)).alloc (.cells #[.slice none 0 0] 22)).alloc (.cells #[.nilFunc] 49)) = X6 at *
      have hws4 : wr.heap.size ≤ w4.heap.size := HX4.out.size
      have L6 := Lib.hid ((L.out.ext HX4.out).ext HX6.out)
      have HE6 := Lib.hid ((HEr.out.trans HX4.out).trans HX6.out)
      have HW6 := Lib.hid ((HX4.out.trans HX6.out).blk HWr.out)
      have gf0 := blk_cell HgF.out (i := 0) rfl
      have gf1 := blk_frozen HgF.out 0
      clear L HEr HWr HX4 HX6
      go_upto_region 18 with (fail)
      have hn6 : gL ≠ w4.heap.size + 1 + 1 := by omega
      have D0 : Hid (DSt (toF l) (whTo l l.length) n w4.heap.size w.heap.size w2.heap.size (w4.heap.size + 1) (w2.heap.size + 1) (w4.heap.size + 1 + 1) (some ⟨bA, oA, none⟩) c Ah nh ch w.heap.size
          (X6.setCell ⟨w4.heap.size + 1 + 1, 0, none⟩ (.func (.func 75) #[] #[.pointer (some ⟨w4.heap.size, 0, none⟩), .pointer (some ⟨w.heap.size, 0, none⟩), .pointer (some ⟨w2.heap.size, 0, none⟩), .pointer (some ⟨w4.heap.size + 1, 0, none⟩), .pointer (some ⟨w2.heap.size + 1, 0, none⟩), .pointer (some ⟨w4.heap.size + 1 + 1, 0, none⟩)])) (erTo l l.length) Ap np cp (.slice none 0 0)) := by
        have hk : ∀ b, b ≠ w4.heap.size + 1 + 1 → ∀ u, (X6.setCell ⟨w4.heap.size + 1 + 1, 0, none⟩ u).heap[b]? = X6.heap[b]? := fun b hb u => Below.heap_setCell _ _ _ _ (by simpa using hb)
        have oH' := own_far' (a := ⟨w4.heap.size + 1 + 1, 0, none⟩) L6.out.oH (own_ne L6.out.oH HgF.out (by decide)) (.func (.func 75) #[] #[.pointer (some ⟨w4.heap.size, 0, none⟩), .pointer (some ⟨w.heap.size, 0, none⟩), .pointer (some ⟨w2.heap.size, 0, none⟩), .pointer (some ⟨w4.heap.size + 1, 0, none⟩), .pointer (some ⟨w2.heap.size + 1, 0, none⟩), .pointer (some ⟨w4.heap.size + 1 + 1, 0, none⟩)])
        refine ⟨(hk _ (by omega) _).trans HgS.out, (hk _ (by omega) _).trans HW6.out, (hk _ (by omega) _).trans L6.out.p, (hk _ (by omega) _).trans HgV.out, (hk _ (by omega) _).trans L6.out.h, blk_set HgF.out _, ?_, fun ad hA => ?_, own_far' L6.out.oP (own_ne L6.out.oP HgF.out (by decide)) _, L6.out.lP, (HT.out.ext HE6.out).ext ((Ext.refl _)) |> fun h => ⟨fun k hk' => ?_, fun k hk' => ?_⟩, b2, by omega, by omega, by omega, by omega, by omega, by omega, by omega, by omega, by omega, by omega, by omega⟩
        · exact IsI.of_own' (e := 3) oH' (own_ne L6.out.oH L6.out.p (by decide)) (psI_i64 fun p hp => by have := whTo_lt hp; have := HL.out; omega) (by rw [psI_len, L6.out.lH]; omega)
        · have hob : (Value.slice Ah nh ch).ownBlock = some ad.block := by rw [hA]; rfl
          refine ⟨fun e => own_ne L6.out.oH L6.out.p (by decide) (by rw [hob, e]), fun e => own_ne L6.out.oH HgV.out (by decide) (by rw [hob, e]), fun e => L6.out.dPH _ e hob, ?_⟩
          have := (oH'.lt _ hob).2
          exact this
        · exact (World.cell?_of_block (w := X6) (hk 0 (by omega) _)).trans ((HT.out.ext HE6.out).1 k hk')
        · exact (World.cell?_of_block (w := X6) (hk 1 (by omega) _)).trans ((HT.out.ext HE6.out).2 k hk')
      have HE7 := Lib.hid (HE6.out.setCell (p := ⟨w4.heap.size + 1 + 1, 0, none⟩) (by simp; omega) (.func (.func 75) #[] #[.pointer (some ⟨w4.heap.size, 0, none⟩), .pointer (some ⟨w.heap.size, 0, none⟩), .pointer (some ⟨w2.heap.size, 0, none⟩), .pointer (some ⟨w4.heap.size + 1, 0, none⟩), .pointer (some ⟨w2.heap.size + 1, 0, none⟩), .pointer (some ⟨w4.heap.size + 1 + 1, 0, none⟩)]))
      have HOL := Lib.hid (own_far' (a := ⟨w4.heap.size + 1 + 1, 0, none⟩) L6.out.oL (own_ne L6.out.oL HgF.out (by decide)) (.func (.func 75) #[] #[.pointer (some ⟨w4.heap.size, 0, none⟩), .pointer (some ⟨w.heap.size, 0, none⟩), .pointer (some ⟨w2.heap.size, 0, none⟩), .pointer (some ⟨w4.heap.size + 1, 0, none⟩), .pointer (some ⟨w2.heap.size + 1, 0, none⟩), .pointer (some ⟨w4.heap.size + 1 + 1, 0, none⟩)]))
      rw [HL.out] at HOL
      have hdPL := Lib.hid L6.out.dPL
      have HLH := Lib.hid L6.out.lH
      clear gf0 gf1 HgS HgV HgF HE6 HW6 L6
      generalize X6.setCell ⟨w4.heap.size + 1 + 1, 0, none⟩ _ = X7 at *
      have hnp15 : np ≤ 15 := by omega
      have hnh15 : nh ≤ 15 := by omega
      have HLP := Lib.hid D0.out.len
      have hXg : gL < X7.heap.size := (HOL.out.lt gL rfl).2
      have HAG := Lib.hid (own_ge D0.out.own)
      have hw24 : w2.heap.size + 1 < w4.heap.size := by omega
      clear hke hkn hnp hnh hsz HIF
      go_wp2_with fail
      go_loopw [14] (fun s14 wr => ∃ (wrong : Nat) (Aq : Option Addr) (cq : Nat) (vq : Value), s14 = .int .i64 wrong ∧ wrong ≤ 4 ∧ np ≤ cq ∧ cq ≤ 9223372036854775807 ∧ Hid (DSt (toF l) (whTo l l.length) n w4.heap.size w.heap.size w2.heap.size (w4.heap.size + 1) (w2.heap.size + 1) (w4.heap.size + 1 + 1) (some ⟨bA, oA, none⟩) c Ah nh ch w.heap.size wr (erTo l l.length) Aq np cq vq ∧ SFr w2.heap.size (w4.heap.size + 1) X7 (.slice Ap np cp) wr (.slice Aq np cq) ∧
        ∀ s, s < wrong → ∀ S, S.Sublist (whTo l l.length) → S.length = s → ∀ c, F.Off (toF l) c (erTo l l.length ++ S) → ¬ F.Code c)) (fun i _ => 7 - (intOf i).toNat)
      case atStart => exact ⟨0, Ap, cp, .slice none 0 0, rfl, by omega, by omega, by omega, D0.out, SFr.refl _ _ _ _, fun s hs => by omega⟩
      case round =>
        clear D0
        obtain ⟨wrong, Aq, cq, vq, rfl, hw4, hcq1, hcq2, HK⟩ := hrel
        have D := Lib.hid HK.out.1
        have HF := Lib.hid HK.out.2.1
        have HNO := Lib.hid HK.out.2.2
        clear HK
        by_cases h6 : 2 * wrong + np ≤ 6
        · have cf := blk_cell D.out.f (i := 0) rfl
          have hd6 : decide (2 * (wrong : Int) + (np : Int) ≤ 6) = true := by simp; omega
          have HCA := Lib.hid (search_any (fl := toF l) (wh := whTo l l.length) (n := n) (gS := w4.heap.size) (gW := w.heap.size) (gP := w2.heap.size) (gV := w4.heap.size + 1) (gH := w2.heap.size + 1) (gF := w4.heap.size + 1 + 1) (Aw := some ⟨bA, oA, none⟩) (cw := c) (Ah := Ah) (nh := nh) (ch := ch) (base := w.heap.size) (by rw [toF_len]; exact HL.out) (by omega) HLH.out ⟨hch1, hch2⟩ wrong 0 wr (erTo l l.length) Aq np cq vq D.out (by omega) (by omega) ⟨hcq1, hcq2⟩ (by rw [List.drop_zero]; exact er_wh_nodup l l.length) (fun p hp => by
            rw [List.drop_zero] at hp
            rw [← HL.out]
            rcases List.mem_append.1 hp with h | h
            · exact erTo_lt h
            · exact whTo_lt h))
          rw [show ((0 : Nat) : Int) = 0 from rfl] at HCA
          go_upto_if 58 with (go_at_call 75; refine HCA.out.mono ?_; rintro e x5 ⟨b5, ps5, A5, n5, c5, v5, rfl, d5, f5, g51, g52, ht, hf⟩; replace d5 := Lib.hid d5; replace f5 := Lib.hid f5; replace ht := Lib.hid ht; replace hf := Lib.hid hf)
          clear HCA cf
          cases b5 with
          | false =>
            obtain ⟨hps5, hno5⟩ := hf.out rfl
            subst hps5
            have hn5 : n5 = np := by rw [← d5.out.len, HLP.out]
            subst hn5
            have HNO5 := Lib.hid hno5
            clear hno5 ht hf
            go_wp2_with fail
            go_roundw
            case rel =>
              refine ⟨wrong + 1, A5, c5, v5, by go_num, by omega, by omega, by omega, d5.out, HF.out.trans f5.out, fun s hs S hS hl c ho hc => ?_⟩
              by_cases e : s = wrong
              · subst e; rw [List.drop_zero] at HNO5; exact HNO5.out S hS hl c ho hc
              · exact HNO.out s (by omega) S hS hl c ho hc
            case measure => simp [intOf]; omega
          | true =>
            rw [show (!true) = false from rfl]
            obtain ⟨S, xs, q1, q2, q3, q4, q5, q6⟩ := ht.out rfl
            rw [List.drop_zero] at q1
            have HNEAR : Hid (Near l (F.addAt (toF l) ps5 xs) wrong) := by
              rw [q3] at q6 ⊢
              exact found_near q1 q2 (F.Off.addAt _ _ _) q6 (by rw [HLP.out]; exact h6) HNO.out
            have hSF := HF.out.trans f5.out
            have hneP : gL ≠ w2.heap.size := by omega
            have hneV : gL ≠ w4.heap.size + 1 := by omega
            have HOL5 : Hid (x5.ownsRow w.heap.size 3 1 (.slice (some ⟨gL, 0, none⟩) n cL) n ((wI (toF l)).map (Value.int .i64))) := by
              rcases HOL.out with ⟨o1, ⟨e, _⟩ | ⟨g, cap, cur, e, o2, o3, o4⟩⟩
              · cases e
              · injection e with e1 e2 e3
                injection e1 with e1
                injection e1 with e1
                subst e1
                exact ⟨o1, .inr ⟨gL, cap, cur, by rw [e3], o2, (hSF.block gL hXg hneP hneV hdPL.out).trans o3, o4⟩⟩
            have hdP5 : (Value.slice A5 n5 c5).ownBlock ≠ some gL := fun h => by
              rcases hSF.own _ h with h1 | h1
              · exact hdPL.out h1
              · omega
            have hE5 : Ext w x5 := by
              have hs := HE7.out.size
              refine ⟨hSF.os.trans HE7.out.os, hSF.tape.trans HE7.out.tape, hSF.output.trans HE7.out.output, Nat.le_trans HE7.out.size hSF.size, fun i hi => ?_⟩
              exact (hSF.block i (Nat.lt_of_lt_of_le hi hs) (by omega) (by omega) (fun h => by have := HAG.out i h; omega)).trans (HE7.out.block i hi)
            have HE5 := Lib.hid hE5
            have HD5 := Lib.hid hdP5
            have hn5 : n5 ≤ 6 := by rw [← d5.out.len, q3, List.length_append, q2, HLP.out]; omega
            have hplt : ∀ p ∈ ps5, p < n := fun p hp => by
              rw [q3] at hp
              rw [← HL.out]
              rcases List.mem_append.1 hp with h | h
              · exact erTo_lt h
              · exact whTo_lt (q1.subset h)
            have HPI : Hid (IsI gL x5 (.slice A5 n5 c5) (psI ps5)) := IsI.of_own' (e := 3) d5.out.own hdP5 (psI_i64 fun p hp => by have := hplt p hp; omega) (by rw [psI_len, d5.out.len]; omega)
            have hgL5 : gL < wr.heap.size := Nat.lt_of_lt_of_le hXg HF.out.size
            have HVI := Lib.hid (q5 gL hgL5)
            obtain ⟨Av, nv, cv, rfl, hcv1, hcv2, -, HLV⟩ := (q5 gL hgL5).open_
            have HLX : Hid (xs.length = n5) := by show _ = _; rw [q4, d5.out.len]
            have hnv : nv = n5 := by have := HLV.out; rw [wI_len, HLX.out] at this; exact this.symm
            subst hnv
            have HPL := Lib.hid hplt
            have HLPS := Lib.hid d5.out.len
            have cp5 := blk_cell d5.out.p (i := 0) rfl
            have gv5 := Lib.hid d5.out.v
            have hlf : (toF l).length = n := by rw [toF_len]; exact HL.out
            have HLF := Lib.hid hlf
            clear q1 q2 q3 q4 q5 q6 ht hf hE5 hdP5 hplt hSF hlf
            go_upto_region 23 with (fail)
            go_wp2_with fail
            go_loopw [61] (fun s61 wq => ∃ (k : Nat), s61 = .int .i64 k ∧ k ≤ nv ∧ Hid (wq.ownsRow w.heap.size 3 1 (.slice (some ⟨gL, 0, none⟩) n cL) n ((wI (F.addAt (toF l) (ps5.take k) (xs.take k))).map (Value.int .i64)) ∧ XT gL x5 wq)) (fun i _ => nv - (intOf i).toNat)
            case atStart => exact ⟨0, rfl, by omega, by simpa [F.addAt] using HOL5.out, XT.refl _ _⟩
            case round =>
              clear HOL5 cp5
              obtain ⟨k, rfl, hk, HK⟩ := hrel
              by_cases hkn : k < nv
              · obtain ⟨b1, o1, z1, rfl, -⟩ := (HPI.out.xt HK.out.2).at_ hkn
                obtain ⟨z1, hc1, HZ1, -⟩ := (HPI.out.xt HK.out.2).cell_ hkn
                obtain ⟨pl, hpl, rfl⟩ := psI_at HZ1.out
                obtain ⟨b3, o3, z3, rfl, -⟩ := (HVI.out.xt HK.out.2).at_ hkn
                obtain ⟨z3, hc3, HZ3, -⟩ := (HVI.out.xt HK.out.2).cell_ hkn
                obtain ⟨xf, hxf, rfl⟩ := wI_at HZ3.out
                have hpn : pl < n := HPL.out pl (List.mem_of_getElem? hpl)
                have hgv := blk_cell (HK.out.2.blk gv5.out (fun e => hneV e.symm)) (i := 0) rfl
                have hlen : (F.addAt (toF l) (ps5.take k) (xs.take k)).length = n := by rw [F.addAt_len]; exact HLF.out
                have hsnoc : F.addAt (toF l) (ps5.take (k + 1)) (xs.take (k + 1)) = (F.addAt (toF l) (ps5.take k) (xs.take k)).set pl ((F.addAt (toF l) (ps5.take k) (xs.take k)).getD pl 0 + xf) := by
                  rw [take_snoc hpl, take_snoc hxf]
                  exact addAt_snoc _ _ _ _ _ (by rw [List.length_take, List.length_take, HLPS.out, HLX.out])
                have hcell : wr.cell? ⟨gL, pl, none⟩ = some (.int .i64 (((F.addAt (toF l) (ps5.take k) (xs.take k)).getD pl 0).n : Int)) := by
                  rw [HK.out.1.cellAt pl (by omega), List.getElem?_map]
                  unfold wI
                  rw [List.getElem?_map, F.getD_eq (w := F.addAt (toF l) (ps5.take k) (xs.take k)) (by omega)]; rfl
                have hfz : wr.frozen? ⟨gL, pl, none⟩ = false := HK.out.1.frozenAt pl
                have HSN := Lib.hid hsnoc
                generalize (F.addAt (toF l) (ps5.take k) (xs.take k)).getD pl 0 = yf at *
                clear hsnoc hpl hxf HZ1 HZ3
                have hS : wr.drew.cell? ⟨gL, pl, none⟩ = some (.int .i64 (yf.n : Int)) ∧ wr.drew.cell? ⟨w4.heap.size + 1, 0, none⟩ = some (.slice (some ⟨b3, o3, none⟩) nv cv) ∧ wr.drew.cell? ⟨b3, o3 + k, none⟩ = some (.int .i64 (xf.n : Int)) := ⟨hcell, hgv, hc3⟩
                replace hS := Lib.hid hS
                have e1 : (0 : Int) ≤ (k : Int) := Int.natCast_nonneg _
                have e2 : (k : Int) < (nv : Int) := by omega
                have e3 : (0 : Int) ≤ (pl : Int) := Int.natCast_nonneg _
                have e4 : (pl : Int) < (n : Int) := by omega
                go_upto_region 25 with (fail)
                refine wp_region_k 10 (fun w' => w'.cell? ⟨gL, pl, none⟩ = some (.int .i64 (yf.n : Int)) ∧ w'.cell? ⟨w4.heap.size + 1, 0, none⟩ = some (.slice (some ⟨b3, o3, none⟩) nv cv) ∧ w'.cell? ⟨b3, o3 + k, none⟩ = some (.int .i64 (xf.n : Int))) (by kernel_rfl) ?_
                refine wpAnyK_take 0 (some 66) (v := ?kv1) rfl rfl (by kernel_rfl) (by kernel_rfl) (by kernel_rfl) (by decide) (by kernel_rfl) (fun _ _ _ h => h) (by rfl) ?ky1 hS.out ?kr1
                case ky1 => ((intro wk hk); (try dsimp only at hk); go_simp; try with_reducible rfl)
                try simp only [Act.put, List.setIfInBounds_toArray, List.set_cons_zero, List.set_cons_succ]
                refine wpAnyK_take 1 (some 67) (v := ?kv2) rfl rfl (by kernel_rfl) (by kernel_rfl) (by kernel_rfl) (by decide) (by kernel_rfl) (fun _ _ _ h => h) (by rfl) ?ky2 hS.out ?kr2
                case ky2 => ((intro wk hk); (try dsimp only at hk); go_simp; try with_reducible rfl)
                try simp only [Act.put, List.setIfInBounds_toArray, List.set_cons_zero, List.set_cons_succ]
                refine wpAnyK_take 2 (some 68) (v := ?kv3) rfl rfl (by kernel_rfl) (by kernel_rfl) (by kernel_rfl) (by decide) (by kernel_rfl) (fun _ _ _ h => h) (by rfl) ?ky3 hS.out ?kr3
                case ky3 => ((intro wk hk); (try dsimp only at hk); go_simp; try with_reducible rfl)
                try simp only [Act.put, List.setIfInBounds_toArray, List.set_cons_zero, List.set_cons_succ]
                refine wpAnyK_take 3 (some 69) (v := ?kv4) rfl rfl (by kernel_rfl) (by kernel_rfl) (by kernel_rfl) (by decide) (by kernel_rfl) (fun _ _ _ h => h) (by rfl) ?ky4 hS.out ?kr4
                case ky4 => ((intro wk hk); (try dsimp only at hk); go_simp; try with_reducible rfl)
                try simp only [Act.put, List.setIfInBounds_toArray, List.set_cons_zero, List.set_cons_succ]
                refine wpAnyK_take 4 (some 70) (v := ?kv5) rfl rfl (by kernel_rfl) (by kernel_rfl) (by kernel_rfl) (by decide) (by kernel_rfl) (fun _ _ _ h => h) (by rfl) ?ky5 hS.out ?kr5
                case ky5 => ((intro wk hk); (try dsimp only at hk); go_simp; try with_reducible rfl)
                try simp only [Act.put, List.setIfInBounds_toArray, List.set_cons_zero, List.set_cons_succ]
                refine wpAnyK_take 5 (some 71) (v := ?kv6) rfl rfl (by kernel_rfl) (by kernel_rfl) (by kernel_rfl) (by decide) (by kernel_rfl) (fun _ _ _ h => h) (by rfl) ?ky6 hS.out ?kr6
                case ky6 => ((intro wk hk); (try dsimp only at hk); go_simp; try with_reducible rfl)
                try simp only [Act.put, List.setIfInBounds_toArray, List.set_cons_zero, List.set_cons_succ]
                refine wpAnyK_take 6 (some 72) (v := ?kv7) rfl rfl (by kernel_rfl) (by kernel_rfl) (by kernel_rfl) (by decide) (by kernel_rfl) (fun _ _ _ h => h) (by rfl) ?ky7 hS.out ?kr7
                case ky7 => ((intro wk hk); (try dsimp only at hk); go_simp; try with_reducible rfl)
                try simp only [Act.put, List.setIfInBounds_toArray, List.set_cons_zero, List.set_cons_succ]
                refine wpAnyK_take 7 (some 73) (v := ?kv8) rfl rfl (by kernel_rfl) (by kernel_rfl) (by kernel_rfl) (by decide) (by kernel_rfl) (fun _ _ _ h => h) (by rfl) ?ky8 hS.out ?kr8
                case ky8 => ((intro wk hk); (try dsimp only at hk); go_simp; try with_reducible rfl)
                try simp only [Act.put, List.setIfInBounds_toArray, List.set_cons_zero, List.set_cons_succ]
                refine wpAnyK_take 8 (some 74) (v := ?kv9) rfl rfl (by kernel_rfl) (by kernel_rfl) (by kernel_rfl) (by decide) (by kernel_rfl) (fun _ _ _ h => h) (by rfl) ?ky9 hS.out ?kr9
                case ky9 => ((intro wk hk); (try dsimp only at hk); go_simp; try with_reducible rfl)
                try simp only [Act.put, List.setIfInBounds_toArray, List.set_cons_zero, List.set_cons_succ]
                refine wpAnyK_take 9 (some 75) (v := ?kv10) rfl rfl (by kernel_rfl) (by kernel_rfl) (by kernel_rfl) (by decide) (by kernel_rfl) (fun _ _ _ h => h) (by rfl) ?ky10 hS.out ?kr10
                case ky10 => ((intro wk hk); (try dsimp only at hk); go_simp; try with_reducible rfl)
                try simp only [Act.put, List.setIfInBounds_toArray, List.set_cons_zero, List.set_cons_succ]
                refine wpAnyK_one 10 (by kernel_rfl) rfl (fun K hK => ?_)
                go_simp
                refine hK.out _ _ (fun h => absurd rfl h) ?_
                clear hK K
                refine wpAnyK_done (by kernel_rfl) ?_ _
                rw [xor_F]
                have HO6 : Hid ((wr.setCell ⟨gL, pl, none⟩ (.int .i64 ((yf + xf).n : Int))).drew.ownsRow w.heap.size 3 1 (.slice (some ⟨gL, 0, none⟩) n cL) n ((wI (F.addAt (toF l) (ps5.take (k + 1)) (xs.take (k + 1)))).map (Value.int .i64))) := by
                  have h := (World.ownsRow.stored HK.out.1 pl (.int .i64 ((yf + xf).n : Int))).1
                  rw [HSN.out]
                  unfold wI at h ⊢
                  rw [List.map_set, List.map_set]
                  exact h.drew
                have HX6 : Hid (XT gL x5 (wr.setCell ⟨gL, pl, none⟩ (.int .i64 ((yf + xf).n : Int))).drew) := (HK.out.2.setCell rfl _).drew
                clear hS hcell hgv hc1 hc3 hfz
                go_wp2_with fail
                go_roundw
                case rel => exact ⟨k + 1, by go_num, by omega, HO6.out, HX6.out⟩
                case measure => simp [intOf]; omega
              · have hke : k = nv := by omega
                rw [hke, take_all HLPS.out, take_all HLX.out] at HK
                clear hke
                have e1 : (0 : Int) ≤ (n : Int) - 6 := by omega
                have e2 : (n : Int) - 6 ≤ (cL : Int) := by omega
                have e3 : ((n : Int) - 6).toNat = n - 6 := by omega
                go_wp2_with fail
                go_ret3
                have hlen : (F.addAt (toF l) ps5 xs).length = n := by rw [F.addAt_len]; exact HLF.out
                refine ⟨some ⟨gL, 0, none⟩, n - 6, n - 6, (F.addAt (toF l) ps5 xs).take (n - 6), (wrong : Int), 0, ?_, ?_, HK.out.2.fresh HE5.out (by omega), (fun h => by rw [HBW.out] at h; cases h), fun _ => .inl ⟨_, wrong, HNEAR.out, by rw [HL.out], rfl, rfl⟩⟩
                · rfl
                · have h := IsI.of_own' (p := w.heap.size) (e := 3) HK.out.1 (by simp [Value.ownBlock]; omega) (wI_i64 _) (by rw [wI_len, hlen]; omega)
                  have h2 := h.take (k := n - 6) (by omega)
                  have e : wI ((F.addAt (toF l) ps5 xs).take (n - 6)) = (wI (F.addAt (toF l) ps5 xs)).take (n - 6) := by unfold wI; rw [List.map_take]
                  rw [e]
                  obtain ⟨A', c', hv, k1, k2, k3, k4, k5⟩ := h2
                  injection hv with v1 v2 v3
                  subst v1
                  exact ⟨_, n - 6, by rw [← v2], by omega, by omega, k3, k4, k5⟩
        · have HNN := Lib.hid (none_near (l := l) (wrong := wrong) (by rw [HLP.out]; omega) HNO.out)
          have HE5 : Hid (Ext w wr) := by
            have hs := HE7.out.size
            refine ⟨HF.out.os.trans HE7.out.os, HF.out.tape.trans HE7.out.tape, HF.out.output.trans HE7.out.output, Nat.le_trans HE7.out.size HF.out.size, fun i hi => ?_⟩
            exact (HF.out.block i (Nat.lt_of_lt_of_le hi hs) (by omega) (by omega) (fun h => by have := HAG.out i h; omega)).trans (HE7.out.block i hi)
          go_wp2_with fail
          go_ret3
          exact ⟨none, 0, 0, [], 0, 25, rfl, IsI.nil _ _, HE5.out, (fun h => by rw [HBW.out] at h; cases h), fun _ => .inr ⟨HNN.out, rfl, rfl, rfl⟩⟩
end Go.Proofs.YtcpanmonllhmaaaDoor
