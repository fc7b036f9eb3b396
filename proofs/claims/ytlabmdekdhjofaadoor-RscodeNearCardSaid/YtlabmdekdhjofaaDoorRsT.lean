/- awardingbodyref18.Encode. -/
import Derived.Test.YtlabmdekdhjofaaDoorRsS
namespace Go.Proofs.YtlabmdekdhjofaaDoor
open Go.RowKit

/-- The word of Encode, some of the data laid in. -/
def encZ (l : List Int) (n k : Nat) : List F := (toF l).take k ++ List.replicate (n + 6 - k) 0
theorem encZ_len {l : List Int} {n k : Nat} (hl : l.length = n) (hk : k ≤ n) : (encZ l n k).length = n + 6 := by
  unfold encZ; rw [List.length_append, List.length_take, toF_len, List.length_replicate]; omega
theorem encZ_set {l : List Int} {n k : Nat} {x : Int} {y : F} (hl : l.length = n) (hx : l[k]? = some x) (hy : (y.n : Int) = x) : (encZ l n k).set k y = encZ l n (k + 1) := by
  have hk := (List.getElem?_eq_some_iff.1 hx).1
  unfold encZ
  have e1 : ((toF l).take k).length = k := by rw [List.length_take, toF_len]; omega
  rw [List.set_append_right _ _ (by omega), e1, Nat.sub_self, show n + 6 - k = (n + 6 - (k + 1)) + 1 by omega, List.replicate_succ, List.set_cons_zero]
  have e2 : (toF l)[k]? = some y := by
    rw [toF_at hx]
    have : x.toNat % 32 = y.n := by have := y.lt; omega
    congr 1
    exact F.ext this
  rw [take_snoc e2, List.append_assoc]
  rfl
theorem encZ_off {l : List Int} {n : Nat} (hl : l.length = n) : F.Off (zer 0 (toF (wI (encZ l n n))) ((List.range 6).map fun i => n + i)) (encF (toF l)) ((List.range 6).map fun i => n + i) := by
  rw [off_zer, toF_wI]
  have e0 : (toF l).take n = toF l := List.take_of_length_le (by rw [toF_len]; omega)
  refine ⟨by rw [encF_len, toF_len, encZ_len hl (Nat.le_refl _), hl], fun i hi => ?_⟩
  unfold encZ encF
  rw [e0]
  rcases Nat.lt_or_ge i n with h | h
  · rw [List.getElem?_append_left (by rw [toF_len]; omega), List.getElem?_append_left (by rw [toF_len]; omega)]
  · have : n + 6 ≤ i := by
      rcases Nat.lt_or_ge i (n + 6) with h2 | h2
      · exact absurd (List.mem_map.2 ⟨i - n, List.mem_range.2 (by omega), by omega⟩) hi
      · exact h2
    rw [List.getElem?_eq_none (by rw [List.length_append, toF_len, (F.enc_code _).2]; omega), List.getElem?_eq_none (by rw [List.length_append, toF_len, List.length_replicate]; omega)]

set_option maxRecDepth 100000 in
set_option maxHeartbeats 4000000 in
theorem rencode_any {q : Nat} (v : Value) (l : List Int) (w : World) (hI : IsI q w v l) :
    Calls Tryd.prog 28 #[v] w fun e w' => ∃ A m c, e = .returned (.tuple #[.slice A m c, .int .i64 (encE l)]) ∧ m = (encL l).length ∧ m ≤ c ∧ c ≤ 9223372036854775807 ∧ w'.ownsRow w.heap.size 3 1 (.slice A m c) m ((encL l).map (Value.int .i64)) ∧ Ext w w' := by
  have h0 := hI.re (q := w.heap.size) (Nat.le_refl _)
  obtain ⟨A, n, c, rfl, hnc, hc, hnn, HL⟩ := hI.open_
  have HI := Lib.hid h0
  clear hI h0
  have hbad : ∀ w', dataB l = false → Ext w w' → ∃ A m c, Ending.returned (.tuple #[.slice none 0 0, .int .i64 2]) = .returned (.tuple #[.slice A m c, .int .i64 (encE l)]) ∧ m = (encL l).length ∧ m ≤ c ∧ c ≤ 9223372036854775807 ∧ w'.ownsRow w.heap.size 3 1 (.slice A m c) m ((encL l).map (Value.int .i64)) ∧ Ext w w' := fun w' hd hx => by
    refine ⟨none, 0, 0, ?_, ?_, by omega, by omega, ?_, hx⟩
    · unfold encE; rw [hd]; rfl
    · unfold encL; rw [hd]; rfl
    · unfold encL; rw [hd]; exact World.ownsRow_nil _ _ _ _
  have HBAD := Lib.hid hbad
  clear hbad
  by_cases h1 : n < 1
  · go_enter Tryd.func28, Tryd.ntmps28
    go_wp2_with fail
    go_ret2
    exact HBAD.out _ (by rcases Bool.eq_false_or_eq_true (dataB l) with h | h
                         · have := data_mem h; have := HL.out; omega
                         · exact h) (Ext.refl _)
  by_cases h9 : 9 < n
  · go_enter Tryd.func28, Tryd.ntmps28
    go_wp2_with fail
    go_ret2
    exact HBAD.out _ (by rcases Bool.eq_false_or_eq_true (dataB l) with h | h
                         · have := data_mem h; have := HL.out; omega
                         · exact h) (Ext.refl _)
  have hmkI := make_ints (n + 6) (by omega)
  rw [show (((n + 6 : Nat)) : Int) = (n : Int) + 6 by omega] at hmkI
  obtain ⟨i0, hi0, hz0, hz1, hz2⟩ := info_parts Tryd.infoI
  obtain ⟨b, o, z, rfl, -⟩ := HI.out.at_ (k := 0) (by omega)
  have HG0 : Hid (OwnW w.heap.size (w.alloc (.cells (madeCells #[.int .i64 0] (n + 6)) 3)) (.slice (some ⟨w.heap.size, 0, none⟩) (n + 6) (n + 6)) (encZ l n 0)) := by
    have h := heap_alloc_new w (.cells (madeCells #[.int .i64 0] (n + 6)) 3)
    rw [made_zero] at h ⊢
    have hz : encZ l n 0 = List.replicate (n + 6) 0 := by simp [encZ]
    rw [hz]
    exact ownW_blk h (by rw [List.length_replicate]) (Nat.le_refl _) (by omega)
  have HE0 := Lib.hid ((Ext.refl w).alloc (.cells (madeCells #[.int .i64 0] (n + 6)) 3))
  go_enter Tryd.func28, Tryd.ntmps28
  go_wp2_with fail
  go_loopw [6] (fun s6 wr => ∃ (k : Nat), s6 = .int .i64 (k : Int) ∧ k ≤ n ∧ Hid ((∀ i x, i < k → l[i]? = some x → 0 ≤ x ∧ x < 32) ∧ OwnW w.heap.size wr (.slice (some ⟨w.heap.size, 0, none⟩) (n + 6) (n + 6)) (encZ l n k) ∧ Ext w wr)) (fun i _ => n - (intOf i).toNat)
  case atStart => exact ⟨0, rfl, by omega, fun i x h => by omega, HG0.out, HE0.out⟩
  case round =>
    clear HG0 HE0 hmkI
    obtain ⟨k, rfl, hk, HK⟩ := hrel
    have HV := Lib.hid HK.out.1
    have HO := Lib.hid HK.out.2.1
    have HE := Lib.hid HK.out.2.2
    clear HK
    have HZL := Lib.hid (encZ_len (k := k) HL.out hk)
    by_cases hkn : k < n
    · obtain ⟨x, cx, hx, hx1, hx2⟩ := (HI.out.ext HE.out).cell_ hkn
      rcases Bool.eq_false_or_eq_true (elB x) with hel | hel
      · have hxb : 0 ≤ x ∧ x < 32 := by unfold elB at hel; simp at hel; omega
        obtain ⟨y, hy⟩ : ∃ y : F, (y.n : Int) = x := ⟨F.mk x.toNat (by omega), by rw [F.n_mk]; omega⟩
        subst hy
        obtain ⟨z0, hz0'⟩ : ∃ z0, (encZ l n k)[k]? = some z0 := ⟨_, List.getElem?_eq_getElem (by rw [HZL.out]; omega)⟩
        have cy := HO.out.cell HZL.out hz0'
        have cf := HO.out.froz HZL.out k
        have HP := Lib.hid (HO.out.put HZL.out k y)
        rw [encZ_set HL.out hx.out rfl] at HP
        have HE2 := Lib.hid (HE.out.setCell (p := ⟨w.heap.size, k, none⟩) (Nat.le_refl _) (.int .i64 (y.n : Int)))
        go_wp2_with (go_at_call 39; refine (relement_any (y.n : Int) _ (by omega) (by omega)).mono ?_; rintro e w1 ⟨rfl, rfl⟩; rw [hel])
        go_roundw
        case rel => exact ⟨k + 1, by go_num, by omega, fun i x' h1 h2 => (by
          by_cases e : i = k
          · subst e; rw [hx.out] at h2; injection h2 with h2; omega
          · exact HV.out i x' (by omega) h2), HP.out, HE2.out⟩
        case measure => simp [intOf]; omega
      · go_wp2_with (go_at_call 39; refine (relement_any x _ (by omega) (by omega)).mono ?_; rintro e w1 ⟨rfl, rfl⟩; rw [hel])
        go_ret2
        refine HBAD.out _ ?_ HE.out
        rcases Bool.eq_false_or_eq_true (dataB l) with h | h
        · have := (data_mem h).2.2 x (List.mem_of_getElem? hx.out)
          unfold elB at hel; simp at hel; omega
        · exact h
    · obtain rfl : k = n := by omega
      have HDB : Hid (dataB l = true) := mem_data (by have := HL.out; omega) (by have := HL.out; omega) fun x hx => by
        obtain ⟨i, hi, rfl⟩ := List.getElem_of_mem hx
        exact HV.out i _ (by rw [← HL.out]; exact hi) (List.getElem?_eq_getElem hi)
      obtain ⟨W1, hW1⟩ : ∃ W1 : World, W1 = wr := ⟨_, rfl⟩
      subst hW1
      clear HBAD HV
      go_wp2_with fail
      go_loopw [5, 7] (fun s5 s7 wr => ∃ (j : Nat), s7 = .int .i64 (j : Int) ∧ j ≤ 6 ∧ Hid (wr.ownsRow W1.heap.size 3 1 s5 j ((psI ((List.range j).map fun i => k + i)).map (Value.int .i64)) ∧ Ext W1 wr)) (fun _ i _ => 6 - (intOf i).toNat)
      case atStart => exact ⟨0, rfl, by omega, World.ownsRow_nil _ _ _ _, Ext.refl _⟩
      case round =>
        obtain ⟨j, rfl, hj, HK⟩ := hrel
        have HO5 := Lib.hid HK.out.1
        have HE5 := Lib.hid HK.out.2
        clear HK
        by_cases hj6 : j < 6
        · go_wp2_with (at_builtin; refine wpList_push _ rfl (.tmp 45) (.tmp 50) 27 rfl W1.heap.size 3 i0 _ 8 Tryd.underlying27 hi0 hz0 hz1 hz2 rfl u5 j _ rfl (HO5.out.alloc _) _ _ rfl (by simp; rfl) rfl (by omega) (by omega) (by have := HE5.out.size; simp; omega) ?_; intro v4 w4 hown4 hg4; have HE4 := Lib.hid (Ext.grown (HE5.out.alloc _) hg4 (own_ge HO5.out)); have HO4 := Lib.hid hown4; clear hown4 hg4)
          go_roundw
          case rel =>
            refine ⟨j + 1, by go_num, by omega, ?_, HE4.out⟩
            have e : psI ((List.range (j + 1)).map fun i => k + i) = psI ((List.range j).map fun i => k + i) ++ [(k : Int) + (j : Int)] := by
              rw [List.range_succ, List.map_append]
              unfold psI
              rw [List.map_append]
              simp
            rw [e, List.map_append]; exact HO4.out
          case measure => simp [intOf]; omega
        · obtain rfl : j = 6 := by omega
          have HOW := Lib.hid (HO.out.ext HE5.out)
          have HWI : Hid (IsI wr.heap.size wr (.slice (some ⟨w.heap.size, 0, none⟩) (k + 6) (k + 6)) (wI (encZ l k k))) := IsI.of_own' (p := wr.heap.size) (e := 3) HOW.out (fun h => by have := (HOW.out.lt _ h).2; omega) (wI_i64 _) (by rw [wI_len, HZL.out]; omega)
          have HPI : Hid (IsI wr.heap.size wr u5 (psI ((List.range 6).map fun i => k + i))) := IsI.of_own' (p := wr.heap.size) (e := 3) HO5.out (fun h => by have := (HO5.out.lt _ h).2; omega) (psI_i64 fun p hp => by
            obtain ⟨i, hi, rfl⟩ := List.mem_map.1 hp
            have := List.mem_range.1 hi
            omega) (by rw [psI_len]; simp)
          have HF := Lib.hid (rfill_any (.slice (some ⟨w.heap.size, 0, none⟩) (k + 6) (k + 6)) u5 (wI (encZ l k k)) ((List.range 6).map fun i => k + i) wr HWI.out HPI.out (by rw [wI_len, HZL.out]; omega) (by rw [wI_len, HZL.out]; omega)
            (List.Pairwise.map _ (fun a b h => (by omega)) List.nodup_range)
            (fun p hp => by
              obtain ⟨i, hi, rfl⟩ := List.mem_map.1 hp
              have := List.mem_range.1 hi
              rw [wI_len, HZL.out]; omega) (by simp) (fun i x _ hx => by
              unfold wI at hx
              rw [List.getElem?_map, Option.map_eq_some_iff] at hx
              obtain ⟨f, _, rfl⟩ := hx
              have := f.lt
              omega))
          have hs5 : w.heap.size ≤ wr.heap.size := Nat.le_trans HE.out.size HE5.out.size
          go_wp2_with (go_at_call 45; refine HF.out.mono ?_; rintro e w1 ⟨g, cp1, cw, rfl, hg1, hg2, hcl, hown, hx1, hoff, huq⟩)
          go_ret2
          have hcw : encF (toF l) = cw := huq _ (encZ_off HL.out) (encF_code _)
          have e1 : encL l = wI cw := by unfold encL; rw [if_pos HDB.out, hcw]
          have e2 : encE l = 0 := by unfold encE; rw [if_pos HDB.out]
          rw [e1, e2]
          refine ⟨some ⟨g, 0, none⟩, _, cp1, rfl, by rw [wI_len, wI_len, hcl, wI_len], hg1, hg2, ?_, (HE.out.trans HE5.out).trans hx1⟩
          have := own_mono hown hs5
          unfold OwnW at hown
          rw [hcl] at hown
          exact own_mono hown hs5
end Go.Proofs.YtlabmdekdhjofaaDoor
