/- awardingbodyref18.Fill: the plain part, and rows added to a matrix. -/
import Derived.Test.YtcpanmonllhmaaaDoorGEnc
import Derived.Laws.CopyOwn
set_option linter.unusedSimpArgs false
set_option linter.unusedVariables false
namespace Go.Proofs.YtcpanmonllhmaaaDoor
open Go.RowKit

/-- Some places set to z. -/
def zer {α : Type} (z : α) (l : List α) (ps : List Nat) : List α := ps.foldl (fun a p => a.set p z) l
section
variable {α : Type} {z : α}
theorem zer_len (l : List α) (ps : List Nat) : (zer z l ps).length = l.length := by
  induction ps generalizing l with
  | nil => rfl
  | cons p ps ih => show (zer z (l.set p z) ps).length = _; rw [ih, List.length_set]
theorem zer_snoc (l : List α) (ps : List Nat) (p : Nat) : zer z l (ps ++ [p]) = (zer z l ps).set p z := by unfold zer; rw [List.foldl_append]; rfl
theorem zer_at (l : List α) (ps : List Nat) (i : Nat) : (zer z l ps)[i]? = if i < l.length ∧ i ∈ ps then some z else l[i]? := by
  induction ps generalizing l with
  | nil => rw [if_neg (by simp)]; rfl
  | cons p ps ih =>
    show (zer z (l.set p z) ps)[i]? = _
    rw [ih, List.length_set, List.getElem?_set]
    by_cases h1 : i < l.length
    · by_cases h2 : i ∈ ps
      · rw [if_pos ⟨h1, h2⟩, if_pos ⟨h1, List.mem_cons_of_mem _ h2⟩]
      · rw [if_neg (fun h => h2 h.2)]
        by_cases h3 : p = i
        · subst h3; rw [if_pos rfl, if_pos h1, if_pos ⟨h1, List.mem_cons_self⟩]
        · rw [if_neg h3, if_neg (fun h => by rcases List.mem_cons.1 h.2 with e | e; exact h3 e.symm; exact h2 e)]
    · rw [if_neg (show ¬ (i < l.length ∧ i ∈ ps) from fun h => h1 h.1), if_neg (show ¬ (i < l.length ∧ i ∈ p :: ps) from fun h => h1 h.1)]
      by_cases h3 : p = i
      · subst h3; rw [if_pos rfl, if_neg h1, List.getElem?_eq_none (by omega)]
      · rw [if_neg h3]
end
theorem toF_at {l : List Int} {i : Nat} {x : Int} (h : l[i]? = some x) : (toF l)[i]? = some (F.mk (x.toNat % 32) (Nat.mod_lt _ (by decide))) := by
  unfold toF; rw [List.getElem?_map, h]; rfl
/-- With its places zeroed a word is a word of elements. -/
theorem zer_wI {l : List Int} {ps : List Nat} (h : ∀ i x, i ∉ ps → l[i]? = some x → 0 ≤ x ∧ x < 32) : zer 0 l ps = wI (zer 0 (toF l) ps) := by
  apply List.ext_getElem?
  intro i
  unfold wI
  rw [List.getElem?_map, zer_at, zer_at, toF_len]
  by_cases h1 : i < l.length ∧ i ∈ ps
  · rw [if_pos h1, if_pos h1]; rfl
  · rw [if_neg h1, if_neg h1]
    rcases Nat.lt_or_ge i l.length with hi | hi
    · have hx := List.getElem?_eq_getElem hi
      obtain ⟨a, b⟩ := h i _ (fun hm => h1 ⟨hi, hm⟩) hx
      rw [hx, toF_at hx]
      show some _ = some ((F.n (F.mk _ _) : Nat) : Int)
      rw [F.n_mk]
      congr 1
      omega
    · rw [List.getElem?_eq_none hi, List.getElem?_eq_none (by rw [toF_len]; exact hi)]; rfl

/-- The places are zero: the value is put. -/
theorem addAt_put {wd : List F} {ps : List Nat} {xs : List F} {p : Nat} {x : F} (hl : ps.length = xs.length) (hp : p ∉ ps) (h0 : wd.getD p 0 = 0) : F.addAt wd (ps ++ [p]) (xs ++ [x]) = (F.addAt wd ps xs).set p x := by
  rw [addAt_snoc _ _ _ _ _ hl, List.getD_eq_getElem?_getD, F.addAt_off ps xs wd hp, ← List.getD_eq_getElem?_getD, h0, F.zero_add]

section
variable {base eS eI p : Nat} {w0 w w' : World} {v v' : Value} {ls : List (List Int)}
/-- One row more, that lies behind all the others. -/
theorem Mat.push {u : Value} {l : List Int} (h : Mat base eS eI w0 v ls) (hx : Ext w0 w) (hb : base ≤ w0.heap.size) (hu : w.ownsRow w0.heap.size eI 1 u l.length (l.map (Value.int .i64))) (hne : eS ≠ eI) {us : List Value} (hus : w0.ownsRow base eS 1 v ls.length us) (hg : w.grownBy w' v.ownBlock) (h' : w'.ownsRow base eS 1 v' (ls.length + 1) (us ++ [u])) :
    Mat base eS eI w' v' (ls ++ [l]) := by
  obtain ⟨us0, a, b, c, d⟩ := h
  obtain rfl := own_uniq b hus
  have b1 := own_ext b hx
  have keep : ∀ {b0 : Nat} {z : Value} {n : Nat} {xs : List Value}, w.ownsRow b0 eI 1 z n xs → w'.ownsRow b0 eI 1 z n xs := fun hz =>
    own_apart hz hg (fun k hk => own_types hz b1 (Ne.symm hne) k hk)
  have at0 : ∀ (j : Nat) (y : Value), (us0 ++ [u])[j]? = some y → (j < ls.length ∧ us0[j]? = some y) ∨ (j = ls.length ∧ y = u) := by
    intro j y hy
    rcases Nat.lt_or_ge j ls.length with hj | hj
    · rw [List.getElem?_append_left (by omega)] at hy; exact .inl ⟨hj, hy⟩
    · rw [List.getElem?_append_right (by omega)] at hy
      have : j - us0.length = 0 := by
        rcases Nat.eq_zero_or_pos (j - us0.length) with h | h
        · exact h
        · rw [List.getElem?_eq_none (by show 1 ≤ _; exact h)] at hy; cases hy
      rw [this] at hy
      exact .inr ⟨by omega, by simpa using hy.symm⟩
  have low : ∀ (j : Nat) (y : Value) (k : Nat), us0[j]? = some y → y.ownBlock = some k → k < w0.heap.size := fun j y k hy hk => by
    have hj : j < ls.length := by rw [← a]; exact (List.getElem?_eq_some_iff.1 hy).1
    exact ((c j y _ hy (List.getElem?_eq_getElem hj)).lt k hk).2
  refine ⟨us0 ++ [u], by simp [a], by simpa using h', fun j y m hy hm => ?_, fun i j y y' k hij hy hy' hk => ?_⟩
  · rcases at0 j y hy with ⟨hj, hy⟩ | ⟨rfl, rfl⟩
    · rw [List.getElem?_append_left hj] at hm
      exact keep (own_ext (c j y m hy hm) hx)
    · rw [List.getElem?_append_right (Nat.le_refl _), Nat.sub_self] at hm
      obtain rfl : l = m := by simpa using hm
      exact own_mono (keep hu) hb
  · rcases at0 i y hy with ⟨hi, hz⟩ | ⟨hi, hz⟩
    · rcases at0 j y' hy' with ⟨hj, hz'⟩ | ⟨hj, hz'⟩
      · exact d i j y y' k hij hz hz' hk
      · intro e
        have h1 := low i y k hz hk
        rw [hz'] at e
        have h2 := own_ge hu k e
        omega
    · rcases at0 j y' hy' with ⟨hj, hz'⟩ | ⟨hj, hz'⟩
      · intro e
        have h1 := low j y' k hz' e
        rw [hz] at hk
        have h2 := own_ge hu k hk
        omega
      · exact absurd (hi.trans hj.symm) hij
end
end Go.Proofs.YtcpanmonllhmaaaDoor
/- awardingbodyref18.Fill: the walk. -/
namespace Go.Proofs.YtcpanmonllhmaaaDoor
open Go.RowKit

theorem blk_upd {w : World} {G i : Nat} {l : List Int} {t : Nat} (h : w.heap[G]? = some (.cells (l.map (Value.int .i64)).toArray t (0, 0))) (x : Int) : (w.setCell ⟨G, i, none⟩ (.int .i64 x)).heap[G]? = some (.cells ((l.set i x).map (Value.int .i64)).toArray t (0, 0)) := by
  have := blk_set (i := i) h (.int .i64 x)
  rw [List.setIfInBounds_toArray, ← List.map_set] at this
  exact this
theorem rows_at {M : Nat → Nat → F} {wd j : Nat} : ((List.range j).map (F.rowI M wd)).length = j := by simp
theorem rows_six (M : Nat → Nat → F) (wd : Nat) : (List.range 6).map (F.rowI M wd) = F.matI M wd := rfl

theorem ownW_blk {base G n : Nat} {w : World} {f : List F} (h : w.heap[G]? = some (.cells ((wI f).map (Value.int .i64)).toArray 3 (0, 0))) (hl : f.length = n) (hb : base ≤ G) (hn : n ≤ 1000000) : OwnW base w (.slice (some ⟨G, 0, none⟩) n n) f := by
  subst hl
  unfold OwnW
  refine ⟨by simp [wI], .inr ⟨G, f.length, _, by simp, hb, h, by simp, by unfold maxLen; omega, by simp [wI], ?_⟩⟩
  rw [List.take_of_length_le (by simp [wI])]
theorem rsyn_any' {p : Nat} (v : Value) (wd : List F) (j : Nat) (w : World) (hI : IsI p w v (wI wd)) (hj : j ≤ 999) :
    Calls Tryd.prog 89 #[v, .int .i64 ((j : Int) + 1)] w fun e w' => e = .returned (.int .i64 ((F.ev (F.gp (j + 1)) wd).n : Int)) ∧ Ext w w' := by
  have h := rsyn_any v wd (j + 1) w hI (by omega)
  rw [show (((j + 1 : Nat)) : Int) = (j : Int) + 1 by omega] at h
  exact h

theorem row_full {w : World} {base i c g : Nat} {L : List Int} {x : Int} (hx : L[i]? = some x) (h : w.ownsRow base 3 1 (.slice (some ⟨g, 0, none⟩) (i + 1) c) (i + 1) ((L.take i).map (Value.int .i64) ++ [.int .i64 x])) : w.ownsRow base 3 1 (.slice (some ⟨g, 0, none⟩) (i + 1) c) (i + 1) ((L.take (i + 1)).map (Value.int .i64)) := by
  rw [take_snoc hx, List.map_append]; exact h

/-- What Fill returns: the only word that can be a codeword, and whether it is one. -/
def FillRet (w : World) (wd : List F) (ps : List Nat) (n : Nat) (e : Ending) (w' : World) : Prop :=
  ∃ (g cp : Nat) (cw : List F), e = .returned (.tuple #[.slice (some ⟨g, 0, none⟩) n cp, .bool (codeB (wI cw))]) ∧ n ≤ cp ∧ cp ≤ 9223372036854775807 ∧ cw.length = n ∧ OwnW w.heap.size w' (.slice (some ⟨g, 0, none⟩) n cp) cw ∧ Ext w w' ∧
    F.Off wd cw ps ∧ ∀ c, F.Off wd c ps → F.Code c → c = cw

set_option maxRecDepth 100000 in
set_option maxHeartbeats 4000000 in
theorem rfill_any {q q' : Nat} (v vp : Value) (l : List Int) (ps : List Nat) (w : World) (hI : IsI q w v l) (hP : IsI q' w vp (psI ps)) (hn1 : 1 ≤ l.length) (hn : l.length ≤ 31) (hd : ps.Nodup) (hlt : ∀ p ∈ ps, p < l.length) (h6 : ps.length ≤ 6)
    (hel : ∀ i x, i ∉ ps → l[i]? = some x → 0 ≤ x ∧ x < 32) :
    Calls Tryd.prog 71 #[v, vp] w (FillRet w (zer 0 (toF l) ps) ps l.length) := by
  have h0 := hI.re (q := w.heap.size) (Nat.le_refl _)
  have h1 := hP.re (q := w.heap.size) (Nat.le_refl _)
  have b0 : 0 ≤ w.heap.size := Nat.zero_le _
  obtain ⟨A, n, c, rfl, hnc, hc, hnn, HL⟩ := hI.open_
  obtain ⟨Ap, u, cp, rfl, hpc, hpp, hpn, HLp⟩ := hP.open_
  have HU : Hid (ps.length = u) := by have := HLp.out; rw [psI_len] at this; exact this
  have hu6 : u ≤ 6 := by have := HU.out; omega
  have HI := Lib.hid h0
  have HP := Lib.hid h1
  have HD := Lib.hid hd
  have HLT : Hid (∀ p ∈ ps, p < n) := by intro p hp; have := hlt p hp; rw [HL.out] at this; exact this
  rw [HL.out] at hn hn1
  have HW := Lib.hid (zer_wI hel)
  have HWL : Hid ((zer 0 (toF l) ps).length = n) := by show _ = _; rw [zer_len, toF_len]; exact HL.out
  have HW0 : Hid (∀ p ∈ ps, (zer 0 (toF l) ps).getD p 0 = 0) := fun p hp => by
    rw [List.getD_eq_getElem?_getD, zer_at, if_pos ⟨by rw [toF_len]; exact hlt p hp, hp⟩]; rfl
  rw [HL.out]
  clear hI hP h0 h1 hd hlt h6 hel HLp
  generalize hwd : zer 0 (toF l) ps = wd at *
  obtain ⟨i0, hi0, hz0, hz1, hz2⟩ := info_parts Tryd.infoI
  have hsz : (Tryd.prog.info? 3).map (·.size) = some 1 := by kernel_rfl
  have hmkI := make_ints n (by omega)
  obtain ⟨b, o, z, rfl, -⟩ := HI.out.at_ (k := 0) (by omega)
  have HC0 : Hid (∀ j v, (l.map (Value.int .i64))[j]? = some v → (w.alloc (.cells (madeCells #[.int .i64 0] n) 3)).cell? ((⟨b, o, none⟩ : Addr).add j) = some v) := fun j v hj => by
    rw [List.getElem?_map, Option.map_eq_some_iff] at hj
    obtain ⟨x, hx, rfl⟩ := hj
    obtain ⟨x', h1, h2, _⟩ := ((HI.out.ext ((Ext.refl w).alloc (.cells (madeCells #[.int .i64 0] n) 3))).cell_ (k := j) (by rw [← HL.out]; exact (List.getElem?_eq_some_iff.1 hx).1))
    rw [h2.out] at hx
    injection hx with hx
    subst hx
    have e : (⟨b, o, none⟩ : Addr).add j = ⟨b, o + j, none⟩ := by
      unfold Addr.add
      by_cases hj : j = 0
      · subst hj; rfl
      · rw [if_neg hj]
    rw [e]
    exact h1
  have HG0 : Hid ((w.alloc (.cells (madeCells #[.int .i64 0] n) 3)).heap[w.heap.size]? = some (.cells (List.replicate n (Value.int .i64 0)).toArray 3 (0, 0))) := by
    have h := heap_alloc_new w (.cells (madeCells #[.int .i64 0] n) 3)
    have e : (madeCells #[Value.int .i64 0] n) = (List.replicate n (Value.int .i64 0)).toArray := by rw [made_zero]; simp [wI, F.n_zero]
    rw [← e]
    exact h
  have HE0 := Lib.hid ((Ext.refl w).alloc (.cells (madeCells #[.int .i64 0] n) 3))
  go_enter Tryd.func71, Tryd.ntmps71
  go_upto_region 4 with (refine wpList_copy_splice rfl (.tmp 26) (.tmp 27) 22 22 rfl 3 Tryd.underlying22 hsz (some ⟨w.heap.size, 0, none⟩) (some ⟨b, o, none⟩) n n n c rfl rfl w.heap.size 0 (List.replicate n (.int .i64 0)) 3 HG0.out (l.map (Value.int .i64)) (by rw [List.length_map, HL.out]; simp) (fun _ => ⟨rfl, _, rfl, HC0.out⟩) (by rw [List.length_map, HL.out]; simp) (by simp [Value.oneCell']) w.heap.size w HE0.out (Nat.le_refl _) ?_; intro w2 hg2 hb2)
  replace hg2 : Hid (w2.heap[w.heap.size]? = some (.cells ((zer 0 l (ps.take 0)).map (Value.int .i64)).toArray 3 (0, 0))) := by
    have h := hg2.out
    rw [show splice (List.replicate n (Value.int .i64 0)) 0 (l.map (Value.int .i64)) = l.map (Value.int .i64) from by simp [splice, HL.out]] at h
    exact h
  replace hb2 := Lib.hid (show Ext w w2 from hb2)
  clear HC0 HG0 HE0 hmkI HI
  generalize hG : w.heap.size = G at *
  have HGB := Lib.hid hG
  clear hG
  go_wp2_with fail
  go_loopw [8] (fun s8 wr => ∃ (k : Nat), s8 = .int .i64 (k : Int) ∧ k ≤ u ∧ Hid (wr.heap[G]? = some (.cells ((zer 0 l (ps.take k)).map (Value.int .i64)).toArray 3 (0, 0)) ∧ Ext w wr)) (fun i _ => u - (intOf i).toNat)
  case atStart => exact ⟨0, rfl, by omega, hg2.out, hb2.out⟩
  case round =>
    obtain ⟨k, rfl, hk, HK⟩ := hrel
    clear hg2 hb2
    have HGr := Lib.hid HK.out.1
    have HEr := Lib.hid HK.out.2
    clear HK
    by_cases hku : k < u
    · have HPr := Lib.hid (HP.out.ext HEr.out)
      obtain ⟨bp, op, z, rfl, -⟩ := HPr.out.at_ hku
      obtain ⟨z, hcz, HZ, -⟩ := HPr.out.cell_ hku
      obtain ⟨pl, hpl, rfl⟩ := psI_at HZ.out
      have hpn' : pl < n := HLT.out pl (List.mem_of_getElem? hpl)
      obtain ⟨y, hy⟩ : ∃ y, (zer 0 l (ps.take k))[pl]? = some y := ⟨_, List.getElem?_eq_getElem (by rw [zer_len, HL.out]; exact hpn')⟩
      have hcy : wr.cell? ⟨G, pl, none⟩ = some (.int .i64 y) := blk_cell HGr.out (by rw [List.getElem?_toArray, List.getElem?_map, hy]; rfl)
      have hfz := blk_frozen HGr.out pl
      have HG4 := Lib.hid (blk_upd (i := pl) HGr.out 0)
      rw [← zer_snoc, show ps.take k ++ [pl] = ps.take (k + 1) from by rw [List.take_add_one, hpl]; rfl] at HG4
      have HE4 := Lib.hid (HEr.out.setCell (p := ⟨G, pl, none⟩) (by rw [HGB.out]; exact Nat.le_refl _) (.int .i64 0))
      clear hpl HZ hy HPr
      go_wp2_with fail
      go_roundw
      case rel => exact ⟨k + 1, by go_num, by omega, HG4.out, HE4.out⟩
      case measure => simp [intOf]; omega
    · obtain rfl : k = u := by omega
      have HG1 : Hid (wr.heap[G]? = some (.cells ((wI wd).map (Value.int .i64)).toArray 3 (0, 0))) := by
        have h := HGr.out
        rw [List.take_of_length_le (by rw [HU.out]; exact Nat.le_refl _), HW.out] at h
        exact h
      have HE1 := HEr
      clear HGr HEr
      obtain ⟨W1, hW1⟩ : ∃ W1 : World, W1 = wr := ⟨_, rfl⟩
      subst hW1
      have hGW : G < W1.heap.size := lt_of_blk HG1.out
      have HPW := Lib.hid (HP.out.ext HE1.out)
      obtain ⟨iS, hiS, hy0, hy1, hy2⟩ := info_parts Tryd.infoS
      go_wp2_with fail
      go_loopw [9, 10] (fun s9 s10 wr => ∃ (j : Nat) (A9 : Option Addr) (c9 : Nat), s9 = .slice A9 j c9 ∧ s10 = .int .i64 ((j : Int) + 1) ∧ j ≤ 6 ∧ j ≤ c9 ∧ c9 ≤ 9223372036854775807 ∧ Hid (Mat W1.heap.size 22 3 wr (.slice A9 j c9) ((List.range j).map (F.rowI (F.sysM wd ps) (k + 1))) ∧ Ext W1 wr)) (fun _ j _ => 7 - (intOf j).toNat)
      case atStart => exact ⟨0, none, 0, rfl, rfl, by omega, by omega, by omega, Mat.nil _ _ _ _, Ext.refl _⟩
      case round =>
        obtain ⟨j, A9, c9, rfl, rfl, hj, hj1, hj2, HK⟩ := hrel
        have HM := Lib.hid HK.out.1
        have HX := Lib.hid HK.out.2
        clear HK
        by_cases hj6 : j < 6
        · obtain ⟨wo, hwo⟩ : ∃ wo : World, wo = wr := ⟨_, rfl⟩
          subst hwo
          have hjl : decide ((j : Int) + 1 ≤ 6) = true := by simp; omega
          go_wp2_with fail
          go_loopw [11, 12] (fun s11 s12 wr => ∃ (i : Nat) (A11 : Option Addr) (c11 : Nat), s11 = .slice A11 i c11 ∧ s12 = .int .i64 (i : Int) ∧ i ≤ k ∧ i ≤ c11 ∧ c11 ≤ 9223372036854775807 ∧ Hid (wr.ownsRow wo.heap.size 3 1 (.slice A11 i c11) i (((F.rowI (F.sysM wd ps) (k + 1) j).take i).map (Value.int .i64)) ∧ Ext wo wr)) (fun _ i _ => k - (intOf i).toNat)
          case atStart => exact ⟨0, none, 0, rfl, rfl, by omega, by omega, by omega, World.ownsRow_nil _ _ _ _, Ext.refl _⟩
          case round =>
            obtain ⟨i, A11, c11, rfl, rfl, hi, hi1, hi2, HK⟩ := hrel
            have HO := Lib.hid HK.out.1
            have HY := Lib.hid HK.out.2
            clear HK
            by_cases hik : i < k
            · have HPr := Lib.hid ((HPW.out.ext HX.out).ext HY.out)
              obtain ⟨bp, op, z, rfl, -⟩ := HPr.out.at_ hik
              obtain ⟨z, hcz, HZ, -⟩ := HPr.out.cell_ hik
              obtain ⟨pl, hpl, rfl⟩ := psI_at HZ.out
              have hpn' : pl < n := HLT.out pl (List.mem_of_getElem? hpl)
              obtain ⟨m, hm⟩ : ∃ m : Nat, m = (j + 1) * (n - 1 - pl) := ⟨_, rfl⟩
              have hmb : m ≤ 1000 := by
                have h1 : (j + 1) * (n - 1 - pl) ≤ 6 * 31 := Nat.mul_le_mul (by omega) (by omega)
                omega
              have HRI : Hid ((F.rowI (F.sysM wd ps) (k + 1) j)[i]? = some ((F.gp m).n : Int)) := by
                show _ = _
                rw [F.rowI_at (by omega)]
                have e : ps.getD i 0 = pl := by rw [List.getD_eq_getElem?_getD, hpl]; rfl
                unfold F.sysM
                rw [if_pos (by rw [HU.out]; exact hik), HWL.out, e, ← hm]
              have hm' : ((j : Int) + 1) * ((n : Int) - 1 - (pl : Int)) = (m : Int) := by
                rw [hm, Int.natCast_mul, show (((j + 1 : Nat)) : Int) = (j : Int) + 1 by omega, show (((n - 1 - pl : Nat)) : Int) = (n : Int) - 1 - (pl : Int) by omega]
              clear hm hpl HZ HPr
              go_upto_region 15 with (first
                | (at_builtin; refine wpList_append_lies _ rfl _ _ _ rfl wo.heap.size 3 i0 _ 1 8 Tryd.underlying22 hi0 hz0 hz1 hz2 rfl (by omega) (.slice A11 i c11) i (((F.rowI (F.sysM wd ps) (k + 1) j).take i).map (Value.int .i64)) (by rfl) (World.ownsRow.alloc HO1.out _) ⟨x1.heap.size, 0, none⟩ 1 1 [.int .i64 ((F.gp m).n : Int)] (by rfl) (by rfl) (World.news_of_block (cs := #[.int .i64 ((F.gp m).n : Int)]) (t := 3) (fr := (0, 0)) (heap_alloc_new x1 _)) (by simp [Value.oneCell']) (by omega) (by unfold maxLen; omega) (by omega) (by simp; omega) (x1.heap.size + 1) (by simp) ?_; intro ga cga x2 hown hgrow hat hltg)
                | (go_at_call 88; refine (rpower_F m _ (by omega)).mono ?_; rintro e x1 ⟨rfl, hx1⟩; have HO1 := Lib.hid (own_ext HO.out hx1); have HY1 := Lib.hid (HY.out.trans hx1); have hs1 : wo.heap.size ≤ x1.heap.size := HY1.out.size; clear hx1))
              have HO2 : Hid (x2.ownsRow wo.heap.size 3 1 (.slice (some ⟨ga, 0, none⟩) (i + 1) cga) (i + 1) (((F.rowI (F.sysM wd ps) (k + 1) j).take (i + 1)).map (Value.int .i64))) := by
                show World.ownsRow _ _ _ _ _ _ _
                rw [take_snoc HRI.out, List.map_append]; exact hown
              have HY2 := Lib.hid (Ext.grown (HY1.out.alloc (.cells #[.int .i64 ((F.gp m).n : Int)] 3)) hgrow (fun t ht => (by have := own_ge HO1.out t ht; omega)))
              obtain ⟨ca1, ca2⟩ := own_cap hown
              clear hown hgrow hat hltg HO1 HY1 HO HY
              go_wp2_with fail
              go_roundw
              case rel => exact ⟨i + 1, some ⟨ga, 0, none⟩, cga, rfl, by go_num, by omega, ca1, ca2, HO2.out, HY2.out⟩
              case measure => simp [intOf]; omega
            · obtain rfl : i = k := by omega
              have HIG : Hid (IsI (G + 1) wr (.slice (some ⟨G, 0, none⟩) n n) (wI wd)) := by
                have h := ownW_blk (base := G) ((HX.out.trans HY.out).blk HG1.out) HWL.out (Nat.le_refl _) (by omega)
                exact IsI.of_own' (e := 3) h (by simp [Value.ownBlock]) (wI_i64 _) (by rw [wI_len, HWL.out]; omega)
              have HRK : Hid ((F.rowI (F.sysM wd ps) (i + 1) j)[i]? = some ((F.ev (F.gp (j + 1)) wd).n : Int)) := by
                show _ = _
                rw [F.rowI_at (by omega)]
                unfold F.sysM
                rw [if_neg (by rw [HU.out]; omega)]
              obtain ⟨us, hus1, hus2⟩ := HM.out.own
              rw [rows_at] at hus1 hus2
              have HUS := Lib.hid hus2
              clear hus2 hus1
              generalize hsv : F.ev (F.gp (j + 1)) wd = sv at HRK
              have hws : W1.heap.size ≤ wo.heap.size := HX.out.size
              go_upto_region 11 with (first
                | (at_builtin; refine wpList_append_lies _ rfl _ _ _ rfl W1.heap.size 22 iS _ 1 24 Tryd.underlying105 hiS hy0 hy1 hy2 rfl (by omega) (.slice A9 j c9) j us (by rfl) (World.ownsRow.alloc HU2.out _) ⟨x2.heap.size, 0, none⟩ 1 1 [.slice (some ⟨ga, 0, none⟩) (i + 1) cga] (by rfl) (by rfl) (World.news_of_block (cs := #[.slice (some ⟨ga, 0, none⟩) (i + 1) cga]) (t := 22) (fr := (0, 0)) (heap_alloc_new x2 _)) (by simp [Value.oneCell']) (by omega) (by unfold maxLen; omega) (by omega) (by simp; omega) (x2.heap.size + 1) (by simp) ?_; intro gr cgr x3 hown3 hgrow3 hat3 hltg3)
                | (at_builtin; refine wpList_append_lies _ rfl _ _ _ rfl wo.heap.size 3 i0 _ 1 8 Tryd.underlying22 hi0 hz0 hz1 hz2 rfl (by omega) (.slice A11 i c11) i (((F.rowI (F.sysM wd ps) (i + 1) j).take i).map (Value.int .i64)) (by rfl) (World.ownsRow.alloc HO1.out _) ⟨x1.heap.size, 0, none⟩ 1 1 [.int .i64 (sv.n : Int)] (by rfl) (by rfl) (World.news_of_block (cs := #[.int .i64 (sv.n : Int)]) (t := 3) (fr := (0, 0)) (heap_alloc_new x1 _)) (by simp [Value.oneCell']) (by omega) (by unfold maxLen; omega) (by omega) (by simp; omega) (x1.heap.size + 1) (by simp) ?_; intro ga cga x2 hown hgrow hat hltg; have HO2 : Hid (x2.ownsRow wo.heap.size 3 1 (.slice (some ⟨ga, 0, none⟩) (i + 1) cga) (i + 1) ((F.rowI (F.sysM wd ps) (i + 1) j).map (Value.int .i64))) := (by have h := row_full HRK.out hown; rw [List.take_of_length_le (by rw [F.rowI_len]; exact Nat.le_refl _)] at h; exact h); have HY2 := Lib.hid (Ext.grown (HY1.out.alloc (.cells #[.int .i64 (sv.n : Int)] 3)) hgrow (fun t ht => (by have := own_ge HO1.out t ht; omega))); obtain ⟨ca1, ca2⟩ := own_cap hown; have HU2 := Lib.hid (own_ext HUS.out HY2.out); have hs2 : wo.heap.size ≤ x2.heap.size := HY2.out.size; clear hown hgrow hat hltg HO1 HY1)
                | (go_at_call 89; refine (rsyn_any' _ wd j _ HIG.out (by omega)).mono ?_; rw [hsv]; rintro e x1 ⟨rfl, hx1⟩; have HO1 := Lib.hid (own_ext HO.out hx1); have HY1 := Lib.hid (HY.out.trans hx1); have hs1 : wo.heap.size ≤ x1.heap.size := HY1.out.size; clear hx1))
              have hE3 := (Ext.refl x2).alloc (.cells #[.slice (some ⟨ga, 0, none⟩) (i + 1) cga] 22)
              have HM3 : Hid (Mat W1.heap.size 22 3 x3 (.slice (some ⟨gr, 0, none⟩) (j + 1) cgr) ((List.range (j + 1)).map (F.rowI (F.sysM wd ps) (i + 1)))) := by
                show Mat _ _ _ _ _ _
                rw [List.range_succ, List.map_append]
                refine HM.out.push (HY2.out.trans hE3) hws (u := .slice (some ⟨ga, 0, none⟩) (i + 1) cga) (by rw [F.rowI_len]; exact own_ext HO2.out hE3) (by decide) (by rw [rows_at]; exact HUS.out) hgrow3 (by rw [rows_at]; exact hown3)
              have HX3 := Lib.hid (Ext.grown ((HX.out.trans HY2.out).trans hE3) hgrow3 (fun t ht => (by have := own_ge HUS.out t ht; omega)))
              obtain ⟨cr1, cr2⟩ := own_cap hown3
              clear hown3 hgrow3 hat3 hltg3 hE3 HO2 HY2 HU2 HUS HM HX HY HO HIG HRK hsv
              go_wp2_with fail
              go_roundw
              case rel => exact ⟨j + 1, some ⟨gr, 0, none⟩, cgr, rfl, by go_num, by omega, cr1, cr2, HM3.out, HX3.out⟩
              case measure => simp [intOf]; omega
        · obtain rfl : j = 6 := by omega
          rw [show (((6 : Nat) : Int) + 1) = 7 from rfl]
          obtain ⟨g, rfl⟩ : ∃ g, A9 = some ⟨g, 0, none⟩ := by
            obtain ⟨us, e1, e2⟩ := HM.out.own
            rw [rows_at] at e1 e2
            rcases e2.2 with ⟨e, h0⟩ | ⟨g', cap', cur, e, _⟩
            · omega
            · injection e with e1; exact ⟨g', e1⟩
          have HMW : Hid (MatW W1.heap.size g 22 3 wr (F.sysM wd ps) (k + 1)) := by
            have h := HM.out
            rw [rows_six] at h
            exact h.matW (by decide) (by omega)
          have HIND : Hid (∀ X, F.Sol (F.sysM wd ps) X (k + 1) → X k = 0 → ∀ c, c < k → X c = 0) := by
            have h := @F.sys_ind wd ps (by rw [HWL.out]; exact hn) HD.out (by rw [HWL.out]; exact HLT.out) (by rw [HU.out]; exact hu6)
            rw [HU.out] at h
            exact h
          obtain ⟨W2, hW2⟩ : ∃ W2 : World, W2 = wr := ⟨_, rfl⟩
          subst hW2
          clear HM hj hj6 hj1
          generalize hB : W1.heap.size = base at *
          generalize hMd : F.sysM wd ps = M at *
          go_wp2_with fail
          go_loopw [13] (fun s13 wr => ∃ (j : Nat), s13 = .int .i64 (j : Int) ∧ j ≤ k ∧ Hid (∃ N, MatW base g 22 3 wr N (k + 1) ∧ F.Unit6 N j ∧ (∀ X, F.Sol N X (k + 1) ↔ F.Sol M X (k + 1)) ∧ Below base W2 wr)) (fun i _ => k - (intOf i).toNat)
          case atStart => exact ⟨0, rfl, by omega, M, HMW.out, fun r c _ hc => by omega, fun X => Iff.rfl, Below.refl _ _⟩
          case round =>
            clear HMW
            obtain ⟨j, rfl, hj, HK⟩ := hrel
            obtain ⟨N, m1, m2, m3, m4⟩ := HK.out
            have H1 := Lib.hid m1
            have H2 := Lib.hid m2
            have H3 := Lib.hid m3
            have H4 := Lib.hid m4
            clear m1 m2 m3 m4 HK
            by_cases hjk : j < k
            · obtain ⟨wo, rfl⟩ : ∃ wo : World, wo = wr := ⟨_, rfl⟩
              have HPV0 : Hid (∃ p, j ≤ p ∧ p < 6 ∧ N p j ≠ 0) := F.pivot_ex hjk hu6 H2.out (fun X hX h0 => HIND.out X ((H3.out X).1 hX) h0)
              go_wp2_with fail
              go_loopw [14] (fun s14 wr => ∃ (p : Nat), s14 = .int .i64 (p : Int) ∧ j ≤ p ∧ p < 6 ∧ Hid (∀ q, j ≤ q → q < p → N q j = 0) ∧ wr = wo) (fun i _ => 6 - (intOf i).toNat)
              case atStart => exact ⟨j, rfl, by omega, by omega, fun q h1 h2 => by omega, rfl⟩
              case round =>
                obtain ⟨p, rfl, hjp, hp6, HQ, rfl⟩ := hrel
                obtain ⟨b1, cu1, hc0, hcu1, hcu2, -, -, hce, -, -⟩ := H1.out.at_ hp6
                have c1 := hce j (by omega)
                clear hce
                by_cases hz : N p j = 0
                · have hz' : (((N p j).n : Int) == 0) = true := by rw [hz]; rfl
                  have HZ := Lib.hid hz
                  clear hz
                  go_wp2_with fail
                  go_roundw
                  case rel =>
                    obtain ⟨p', a1, a2, a3⟩ := HPV0.out
                    have hnew : ∀ q, j ≤ q → q < p + 1 → N q j = 0 := fun q h1 h2 => by
                      by_cases e : q = p
                      · subst e; exact HZ.out
                      · exact HQ.out q h1 (by omega)
                    have : p + 1 ≤ p' := by
                      rcases Nat.lt_or_ge p' (p + 1) with hlt | hge
                      · exact absurd (hnew p' a1 hlt) a3
                      · exact hge
                    exact ⟨p + 1, by go_num, by omega, by omega, hnew, trivial⟩
                  case measure => simp [intOf]; omega
                · have hz' : (((N p j).n : Int) == 0) = false := by rw [n_eq_zero]; simp [hz]
                  have HZ := Lib.hid hz
                  clear hz
                  go_upto_region 26 with (fail)
                  obtain ⟨bk, ck, bp, cpp, s1, s2, s3, s4, hsw⟩ := H1.out.swap (k := j) (p := p) (by omega) hp6
                  have HSW := Lib.hid hsw
                  clear hsw hc0 c1
                  have s5 : (wr.setCell ⟨g, j, none⟩ (.slice (some ⟨bp, 0, none⟩) (k + 1) cpp)).cell? ⟨g, p, none⟩ = some (.slice (some ⟨bp, 0, none⟩) (k + 1) cpp) := by
                    by_cases e : p = j
                    · subst e; exact World.cell?_setCell_same _ _ _ s2
                    · rw [World.cell?_setCell_other _ _ _ _ (fun h => e (by injection h with _ h2; exact h2.symm))]; exact s2
                  go_upto_region 29 with (fail)
                  have hM1 := HSW.out wr (Ext.refl _)
                  have HM1 := Lib.hid hM1.1
                  have HB1 := Lib.hid (Below.trans H4.out hM1.2)
                  clear hM1 HSW s1 s2 s3 s4 s5
                  generalize ((wr.setCell ⟨g, j, none⟩ (.slice (some ⟨bp, 0, none⟩) (k + 1) cpp)).setCell ⟨g, p, none⟩ (.slice (some ⟨bk, 0, none⟩) (k + 1) ck)) = X1 at *
                  have HNK : Hid (F.swapM N j p j j = N p j) := by show _ = _; unfold F.swapM; rw [if_pos rfl]
                  generalize hM1 : F.swapM N j p = M1 at *
                  have HM1d := Lib.hid hM1
                  clear hM1 H1 H4
                  obtain ⟨b2, cu2, h10, h11, h12, -, -, h13, -, -⟩ := HM1.out.at_ (r := j) (by omega)
                  have h14 := h13 j (by omega)
                  rw [HNK.out] at h14
                  clear h13
                  generalize hpv : N p j = pv at *
                  have HPV := Lib.hid hpv
                  clear hpv
                  go_upto_region 30 with (go_at_call 90; refine (rinverse_F pv _).mono ?_; rintro e x1 ⟨rfl, hx1⟩; replace hx1 := hx1.symm; subst hx1)
                  clear h10 h14 h11 h12
                  go_wp2_with fail
                  go_loopw [17] (fun s17 wr => ∃ (c : Nat), s17 = .int .i64 (c : Int) ∧ c ≤ k + 1 ∧ Hid (MatW base g 22 3 wr (F.scaleTo M1 j pv.inv c) (k + 1) ∧ Below base W2 wr)) (fun i _ => k + 1 - (intOf i).toNat)
                  case atStart => exact ⟨0, rfl, by omega, by rw [F.scaleTo_zero]; exact HM1.out, HB1.out⟩
                  case round =>
                    clear HM1 HB1
                    obtain ⟨c, rfl, hc, HC⟩ := hrel
                    obtain ⟨b2, cu2, a0, a1, a2, -, -, a3, a4, a5⟩ := HC.out.1.at_ (r := j) (by omega)
                    by_cases hcu : c < k + 1
                    · have a6 := a3 c (by omega)
                      have a7 := a4 c
                      have HPUT := Lib.hid a5
                      clear a3 a4 a5
                      have hv : F.scaleTo M1 j pv.inv c j c = M1 j c := by unfold F.scaleTo; rw [if_neg (by omega)]
                      rw [hv] at a6
                      clear hv
                      have hS : wr.drew.cell? ⟨g, j, none⟩ = some (.slice (some ⟨b2, 0, none⟩) (k + 1) cu2) ∧ wr.drew.cell? ⟨b2, c, none⟩ = some (.int .i64 ((M1 j c).n : Int)) := ⟨a0, a6⟩
                      replace hS := Lib.hid hS
                      have f1 : (0 : Int) ≤ (c : Int) := Int.natCast_nonneg _
                      have f2 : (c : Int) < (k : Int) + 1 := by omega
                      have f3 : (0 : Int) ≤ (j : Int) := Int.natCast_nonneg _
                      have f4 : (j : Int) < 6 := by omega
                      go_upto_region 33 with (fail)
                      refine wp_region_k 15 (fun w' => w'.cell? ⟨g, j, none⟩ = some (.slice (some ⟨b2, 0, none⟩) (k + 1) cu2) ∧ w'.cell? ⟨b2, c, none⟩ = some (.int .i64 ((M1 j c).n : Int))) (by kernel_rfl) ?_
                      refine wpAnyK_take 0 (some 132) (v := ?kv1) rfl rfl (by kernel_rfl) (by kernel_rfl) (by kernel_rfl) (by decide) (by kernel_rfl) (fun _ _ _ h => h) (by rfl) ?ky1 hS.out ?kr1
                      case ky1 => ((intro wk hk); (try dsimp only at hk); go_simp; try with_reducible rfl)
                      try simp only [Act.put, List.setIfInBounds_toArray, List.set_cons_zero, List.set_cons_succ]
                      refine wpAnyK_take 1 (some 133) (v := ?kv2) rfl rfl (by kernel_rfl) (by kernel_rfl) (by kernel_rfl) (by decide) (by kernel_rfl) (fun _ _ _ h => h) (by rfl) ?ky2 hS.out ?kr2
                      case ky2 => ((intro wk hk); (try dsimp only at hk); go_simp; try with_reducible rfl)
                      try simp only [Act.put, List.setIfInBounds_toArray, List.set_cons_zero, List.set_cons_succ]
                      refine wpAnyK_take 2 (some 134) (v := ?kv3) rfl rfl (by kernel_rfl) (by kernel_rfl) (by kernel_rfl) (by decide) (by kernel_rfl) (fun _ _ _ h => h) (by rfl) ?ky3 hS.out ?kr3
                      case ky3 => ((intro wk hk); (try dsimp only at hk); go_simp; try with_reducible rfl)
                      try simp only [Act.put, List.setIfInBounds_toArray, List.set_cons_zero, List.set_cons_succ]
                      refine wpAnyK_take 3 (some 135) (v := ?kv4) rfl rfl (by kernel_rfl) (by kernel_rfl) (by kernel_rfl) (by decide) (by kernel_rfl) (fun _ _ _ h => h) (by rfl) ?ky4 hS.out ?kr4
                      case ky4 => ((intro wk hk); (try dsimp only at hk); go_simp; try with_reducible rfl)
                      try simp only [Act.put, List.setIfInBounds_toArray, List.set_cons_zero, List.set_cons_succ]
                      refine wpAnyK_take 4 (some 136) (v := ?kv5) rfl rfl (by kernel_rfl) (by kernel_rfl) (by kernel_rfl) (by decide) (by kernel_rfl) (fun _ _ _ h => h) (by rfl) ?ky5 hS.out ?kr5
                      case ky5 => ((intro wk hk); (try dsimp only at hk); go_simp; try with_reducible rfl)
                      try simp only [Act.put, List.setIfInBounds_toArray, List.set_cons_zero, List.set_cons_succ]
                      refine wpAnyK_take 5 (some 137) (v := ?kv6) rfl rfl (by kernel_rfl) (by kernel_rfl) (by kernel_rfl) (by decide) (by kernel_rfl) (fun _ _ _ h => h) (by rfl) ?ky6 hS.out ?kr6
                      case ky6 => ((intro wk hk); (try dsimp only at hk); go_simp; try with_reducible rfl)
                      try simp only [Act.put, List.setIfInBounds_toArray, List.set_cons_zero, List.set_cons_succ]
                      refine wpAnyK_take 6 (some 138) (v := ?kv7) rfl rfl (by kernel_rfl) (by kernel_rfl) (by kernel_rfl) (by decide) (by kernel_rfl) (fun _ _ _ h => h) (by rfl) ?ky7 hS.out ?kr7
                      case ky7 => ((intro wk hk); (try dsimp only at hk); go_simp; try with_reducible rfl)
                      try simp only [Act.put, List.setIfInBounds_toArray, List.set_cons_zero, List.set_cons_succ]
                      refine wpAnyK_take 7 (some 139) (v := ?kv8) rfl rfl (by kernel_rfl) (by kernel_rfl) (by kernel_rfl) (by decide) (by kernel_rfl) (fun _ _ _ h => h) (by rfl) ?ky8 hS.out ?kr8
                      case ky8 => ((intro wk hk); (try dsimp only at hk); go_simp; try with_reducible rfl)
                      try simp only [Act.put, List.setIfInBounds_toArray, List.set_cons_zero, List.set_cons_succ]
                      refine wpAnyK_take 8 (some 140) (v := ?kv9) rfl rfl (by kernel_rfl) (by kernel_rfl) (by kernel_rfl) (by decide) (by kernel_rfl) (fun _ _ _ h => h) (by rfl) ?ky9 hS.out ?kr9
                      case ky9 => ((intro wk hk); (try dsimp only at hk); go_simp; try with_reducible rfl)
                      try simp only [Act.put, List.setIfInBounds_toArray, List.set_cons_zero, List.set_cons_succ]
                      refine wpAnyK_take 9 (some 141) (v := ?kv10) rfl rfl (by kernel_rfl) (by kernel_rfl) (by kernel_rfl) (by decide) (by kernel_rfl) (fun _ _ _ h => h) (by rfl) ?ky10 hS.out ?kr10
                      case ky10 => ((intro wk hk); (try dsimp only at hk); go_simp; try with_reducible rfl)
                      try simp only [Act.put, List.setIfInBounds_toArray, List.set_cons_zero, List.set_cons_succ]
                      refine wpAnyK_take 10 (some 142) (v := ?kv11) rfl rfl (by kernel_rfl) (by kernel_rfl) (by kernel_rfl) (by decide) (by kernel_rfl) (fun _ _ _ h => h) (by rfl) ?ky11 hS.out ?kr11
                      case ky11 => ((intro wk hk); (try dsimp only at hk); go_simp; try with_reducible rfl)
                      try simp only [Act.put, List.setIfInBounds_toArray, List.set_cons_zero, List.set_cons_succ]
                      refine wpAnyK_take 11 (some 143) (v := ?kv12) rfl rfl (by kernel_rfl) (by kernel_rfl) (by kernel_rfl) (by decide) (by kernel_rfl) (fun _ _ _ h => h) (by rfl) ?ky12 hS.out ?kr12
                      case ky12 => ((intro wk hk); (try dsimp only at hk); go_simp; try with_reducible rfl)
                      try simp only [Act.put, List.setIfInBounds_toArray, List.set_cons_zero, List.set_cons_succ]
                      refine wpAnyK_take 12 (some 144) (v := ?kv13) rfl rfl (by kernel_rfl) (by kernel_rfl) (by kernel_rfl) (by decide) (by kernel_rfl) (fun _ _ _ h => h) (by rfl) ?ky13 hS.out ?kr13
                      case ky13 => ((intro wk hk); (try dsimp only at hk); go_simp; try with_reducible rfl)
                      try simp only [Act.put, List.setIfInBounds_toArray, List.set_cons_zero, List.set_cons_succ]
                      refine wpAnyK_one 13 (by kernel_rfl) rfl (fun K hK => ?_)
                      go_simp
                      refine (rmul_F (M1 j c) pv.inv _).mono ?_
                      rintro e x1 ⟨rfl, hx1⟩
                      have HX1 : Hid (Ext wr x1) := by rw [hx1]; exact (Ext.refl wr).drew
                      clear hx1
                      replace a0 := HX1.out.cell a0
                      replace a6 := HX1.out.cell a6
                      replace hS := Lib.hid (And.intro a0 a6)
                      have hfz := (HC.out.1.ext HX1.out).frozAt (r := j) (by omega) a0 c
                      refine hK.out _ _ (fun _ => hS.out) ?_
                      clear hK K
                      try simp only [Act.put, List.setIfInBounds_toArray, List.set_cons_zero, List.set_cons_succ]
                      refine wpAnyK_take 14 (some 146) (v := ?kv14) rfl rfl (by kernel_rfl) (by kernel_rfl) (by kernel_rfl) (by decide) (by kernel_rfl) (fun _ _ _ h => h) (by rfl) ?ky14 hS.out ?kr14
                      case ky14 => ((intro wk hk); (try dsimp only at hk); go_simp; try with_reducible rfl)
                      try simp only [Act.put, List.setIfInBounds_toArray, List.set_cons_zero, List.set_cons_succ]
                      refine wpAnyK_one 15 (by kernel_rfl) rfl (fun K hK => ?_)
                      go_simp
                      refine hK.out _ _ (fun h => absurd rfl h) ?_
                      clear hK K
                      refine wpAnyK_done (by kernel_rfl) ?_ _
                      have hP := HPUT.out x1 c (M1 j c * pv.inv) HX1.out
                      rw [F.scaleTo_succ] at hP
                      have HP1 := Lib.hid hP.1
                      have HP2 := Lib.hid (Below.trans HC.out.2 hP.2)
                      clear hP HPUT hS a0 a6 a7 hfz
                      go_wp2_with fail
                      go_roundw
                      case rel => exact ⟨c + 1, by go_num, by omega, HP1.out, HP2.out⟩
                      case measure => simp [intOf]; omega
                    · have hce : c = k + 1 := by omega
                      clear a3 a4 a5
                      rw [hce] at HC
                      clear hce
                      have HM2 : Hid (MatW base g 22 3 wr (F.scaleM M1 j pv.inv) (k + 1)) := HC.out.1.congr fun r c _ hc => by
                        unfold F.scaleTo F.scaleM
                        by_cases e : r = j
                        · rw [if_pos ⟨e, hc⟩, if_pos e]
                        · rw [if_neg (fun h => e h.1), if_neg e]
                      have HB2 := Lib.hid HC.out.2
                      clear HC
                      have HSTEP : Hid (F.redM (F.scaleM M1 j pv.inv) j = F.stepM N j p) := by show _ = _; rw [← HM1d.out, ← HPV.out]; rfl
                      generalize F.scaleM M1 j pv.inv = M2 at *
                      clear HM1d HNK
                      go_upto_region 34 with (fail)
                      clear a0 a1 a2
                      go_wp2_with fail
                      go_loopw [18] (fun s18 wr => ∃ (r : Nat), s18 = .int .i64 (r : Int) ∧ r ≤ 6 ∧ Hid (MatW base g 22 3 wr (F.redTo M2 j r 0) (k + 1) ∧ Below base W2 wr)) (fun i _ => 6 - (intOf i).toNat)
                      case atStart => exact ⟨0, rfl, by omega, by rw [F.redTo_zero]; exact HM2.out, HB2.out⟩
                      case round =>
                        clear HM2 HB2
                        obtain ⟨r, rfl, hr, HR⟩ := hrel
                        by_cases hr6 : r < 6
                        · obtain ⟨b2, cu2, a0, a1, a2, -, -, a3, -, -⟩ := HR.out.1.at_ (r := r) hr6
                          have hd3 : decide ((r : Int) < 6) = true := by simp; omega
                          have a6 := a3 j (by omega)
                          have hv : F.redTo M2 j r 0 r j = M2 r j := by unfold F.redTo; rw [if_neg (by omega)]
                          rw [hv] at a6
                          clear a3 hv
                          obtain ⟨wq, rfl⟩ : ∃ wq : World, wq = wr := ⟨_, rfl⟩
                          go_upto_region 38 with (fail)
                          clear a0 a1 a2 a6
                          go_wp2_with fail
                          go_loopw [20] (fun s20 wr => ∃ (c : Nat), s20 = .int .i64 (c : Int) ∧ c ≤ k + 1 ∧ Hid (MatW base g 22 3 wr (F.redTo M2 j r c) (k + 1) ∧ Below base W2 wr)) (fun i _ => k + 1 - (intOf i).toNat)
                          case atStart => exact ⟨0, rfl, by omega, HR.out.1, HR.out.2⟩
                          case round =>
                            clear HR
                            obtain ⟨c, rfl, hc, HC⟩ := hrel
                            obtain ⟨b3, cu3, d0, d1, d2, -, -, d3, -, -⟩ := HC.out.1.at_ (r := j) (by omega)
                            by_cases hrk : r = j
                            · have HRK := Lib.hid hrk
                              have q1 : ((r : Int) != (j : Int)) = false := by simp [hrk]
                              clear hrk d3
                              rcases Nat.lt_or_ge c (k + 1) with hcu | hcu
                              all_goals
                                go_wp2_with fail
                                go_roundw
                                case rel =>
                                  refine ⟨r + 1, by go_num, by omega, HC.out.1.congr fun r' c' h1 h2 => ?_, HC.out.2⟩
                                  unfold F.redTo
                                  have := HRK.out
                                  by_cases e : r' ≠ j ∧ (r' < r ∨ r' = r ∧ c' < c)
                                  · rw [if_pos e, if_pos ⟨e.1, by omega⟩]
                                  · rw [if_neg e, if_neg (fun h => e ⟨h.1, by omega⟩)]
                                case measure => simp [intOf]; omega
                            have q1 : ((r : Int) != (j : Int)) = true := by simp; omega
                            have HRK := Lib.hid hrk
                            clear hrk
                            by_cases hcu : c < k + 1
                            · obtain ⟨b2, cu2, a0, a1, a2, -, -, a3, a4, a5⟩ := HC.out.1.at_ (r := r) hr6
                              have a6 := a3 c (by omega)
                              have d6 := d3 c (by omega)
                              have HPUT := Lib.hid a5
                              have hv : F.redTo M2 j r c r c = M2 r c := by unfold F.redTo; rw [if_neg (by omega)]
                              have hv2 : F.redTo M2 j r c j c = M2 j c := by unfold F.redTo; rw [if_neg (by omega)]
                              rw [hv] at a6
                              rw [hv2] at d6
                              clear a3 a4 a5 d3 hv hv2
                              have hS : wr.drew.cell? ⟨g, r, none⟩ = some (.slice (some ⟨b2, 0, none⟩) (k + 1) cu2) ∧ wr.drew.cell? ⟨b2, c, none⟩ = some (.int .i64 ((M2 r c).n : Int)) ∧ wr.drew.cell? ⟨g, j, none⟩ = some (.slice (some ⟨b3, 0, none⟩) (k + 1) cu3) ∧ wr.drew.cell? ⟨b3, c, none⟩ = some (.int .i64 ((M2 j c).n : Int)) := ⟨a0, a6, d0, d6⟩
                              replace hS := Lib.hid hS
                              have f1 : (0 : Int) ≤ (c : Int) := Int.natCast_nonneg _
                              have f2 : (c : Int) < (k : Int) + 1 := by omega
                              have f3 : (0 : Int) ≤ (r : Int) := Int.natCast_nonneg _
                              have f4 : (r : Int) < 6 := by omega
                              have f5 : (0 : Int) ≤ (j : Int) := Int.natCast_nonneg _
                              have f6 : (j : Int) < 6 := by omega
                              go_upto_region 41 with (fail)
                              refine wp_region_k 18 (fun w' => w'.cell? ⟨g, r, none⟩ = some (.slice (some ⟨b2, 0, none⟩) (k + 1) cu2) ∧ w'.cell? ⟨b2, c, none⟩ = some (.int .i64 ((M2 r c).n : Int)) ∧ w'.cell? ⟨g, j, none⟩ = some (.slice (some ⟨b3, 0, none⟩) (k + 1) cu3) ∧ w'.cell? ⟨b3, c, none⟩ = some (.int .i64 ((M2 j c).n : Int))) (by kernel_rfl) ?_
                              refine wpAnyK_take 0 (some 174) (v := ?kv15) rfl rfl (by kernel_rfl) (by kernel_rfl) (by kernel_rfl) (by decide) (by kernel_rfl) (fun _ _ _ h => h) (by rfl) ?ky15 hS.out ?kr15
                              case ky15 => ((intro wk hk); (try dsimp only at hk); go_simp; try with_reducible rfl)
                              try simp only [Act.put, List.setIfInBounds_toArray, List.set_cons_zero, List.set_cons_succ]
                              refine wpAnyK_take 1 (some 175) (v := ?kv16) rfl rfl (by kernel_rfl) (by kernel_rfl) (by kernel_rfl) (by decide) (by kernel_rfl) (fun _ _ _ h => h) (by rfl) ?ky16 hS.out ?kr16
                              case ky16 => ((intro wk hk); (try dsimp only at hk); go_simp; try with_reducible rfl)
                              try simp only [Act.put, List.setIfInBounds_toArray, List.set_cons_zero, List.set_cons_succ]
                              refine wpAnyK_take 2 (some 176) (v := ?kv17) rfl rfl (by kernel_rfl) (by kernel_rfl) (by kernel_rfl) (by decide) (by kernel_rfl) (fun _ _ _ h => h) (by rfl) ?ky17 hS.out ?kr17
                              case ky17 => ((intro wk hk); (try dsimp only at hk); go_simp; try with_reducible rfl)
                              try simp only [Act.put, List.setIfInBounds_toArray, List.set_cons_zero, List.set_cons_succ]
                              refine wpAnyK_take 3 (some 177) (v := ?kv18) rfl rfl (by kernel_rfl) (by kernel_rfl) (by kernel_rfl) (by decide) (by kernel_rfl) (fun _ _ _ h => h) (by rfl) ?ky18 hS.out ?kr18
                              case ky18 => ((intro wk hk); (try dsimp only at hk); go_simp; try with_reducible rfl)
                              try simp only [Act.put, List.setIfInBounds_toArray, List.set_cons_zero, List.set_cons_succ]
                              refine wpAnyK_take 4 (some 178) (v := ?kv19) rfl rfl (by kernel_rfl) (by kernel_rfl) (by kernel_rfl) (by decide) (by kernel_rfl) (fun _ _ _ h => h) (by rfl) ?ky19 hS.out ?kr19
                              case ky19 => ((intro wk hk); (try dsimp only at hk); go_simp; try with_reducible rfl)
                              try simp only [Act.put, List.setIfInBounds_toArray, List.set_cons_zero, List.set_cons_succ]
                              refine wpAnyK_take 5 (some 179) (v := ?kv20) rfl rfl (by kernel_rfl) (by kernel_rfl) (by kernel_rfl) (by decide) (by kernel_rfl) (fun _ _ _ h => h) (by rfl) ?ky20 hS.out ?kr20
                              case ky20 => ((intro wk hk); (try dsimp only at hk); go_simp; try with_reducible rfl)
                              try simp only [Act.put, List.setIfInBounds_toArray, List.set_cons_zero, List.set_cons_succ]
                              refine wpAnyK_take 6 (some 180) (v := ?kv21) rfl rfl (by kernel_rfl) (by kernel_rfl) (by kernel_rfl) (by decide) (by kernel_rfl) (fun _ _ _ h => h) (by rfl) ?ky21 hS.out ?kr21
                              case ky21 => ((intro wk hk); (try dsimp only at hk); go_simp; try with_reducible rfl)
                              try simp only [Act.put, List.setIfInBounds_toArray, List.set_cons_zero, List.set_cons_succ]
                              refine wpAnyK_take 7 (some 181) (v := ?kv22) rfl rfl (by kernel_rfl) (by kernel_rfl) (by kernel_rfl) (by decide) (by kernel_rfl) (fun _ _ _ h => h) (by rfl) ?ky22 hS.out ?kr22
                              case ky22 => ((intro wk hk); (try dsimp only at hk); go_simp; try with_reducible rfl)
                              try simp only [Act.put, List.setIfInBounds_toArray, List.set_cons_zero, List.set_cons_succ]
                              refine wpAnyK_take 8 (some 182) (v := ?kv23) rfl rfl (by kernel_rfl) (by kernel_rfl) (by kernel_rfl) (by decide) (by kernel_rfl) (fun _ _ _ h => h) (by rfl) ?ky23 hS.out ?kr23
                              case ky23 => ((intro wk hk); (try dsimp only at hk); go_simp; try with_reducible rfl)
                              try simp only [Act.put, List.setIfInBounds_toArray, List.set_cons_zero, List.set_cons_succ]
                              refine wpAnyK_take 9 (some 183) (v := ?kv24) rfl rfl (by kernel_rfl) (by kernel_rfl) (by kernel_rfl) (by decide) (by kernel_rfl) (fun _ _ _ h => h) (by rfl) ?ky24 hS.out ?kr24
                              case ky24 => ((intro wk hk); (try dsimp only at hk); go_simp; try with_reducible rfl)
                              try simp only [Act.put, List.setIfInBounds_toArray, List.set_cons_zero, List.set_cons_succ]
                              refine wpAnyK_take 10 (some 184) (v := ?kv25) rfl rfl (by kernel_rfl) (by kernel_rfl) (by kernel_rfl) (by decide) (by kernel_rfl) (fun _ _ _ h => h) (by rfl) ?ky25 hS.out ?kr25
                              case ky25 => ((intro wk hk); (try dsimp only at hk); go_simp; try with_reducible rfl)
                              try simp only [Act.put, List.setIfInBounds_toArray, List.set_cons_zero, List.set_cons_succ]
                              refine wpAnyK_take 11 (some 185) (v := ?kv26) rfl rfl (by kernel_rfl) (by kernel_rfl) (by kernel_rfl) (by decide) (by kernel_rfl) (fun _ _ _ h => h) (by rfl) ?ky26 hS.out ?kr26
                              case ky26 => ((intro wk hk); (try dsimp only at hk); go_simp; try with_reducible rfl)
                              try simp only [Act.put, List.setIfInBounds_toArray, List.set_cons_zero, List.set_cons_succ]
                              refine wpAnyK_take 12 (some 186) (v := ?kv27) rfl rfl (by kernel_rfl) (by kernel_rfl) (by kernel_rfl) (by decide) (by kernel_rfl) (fun _ _ _ h => h) (by rfl) ?ky27 hS.out ?kr27
                              case ky27 => ((intro wk hk); (try dsimp only at hk); go_simp; try with_reducible rfl)
                              try simp only [Act.put, List.setIfInBounds_toArray, List.set_cons_zero, List.set_cons_succ]
                              refine wpAnyK_take 13 (some 187) (v := ?kv28) rfl rfl (by kernel_rfl) (by kernel_rfl) (by kernel_rfl) (by decide) (by kernel_rfl) (fun _ _ _ h => h) (by rfl) ?ky28 hS.out ?kr28
                              case ky28 => ((intro wk hk); (try dsimp only at hk); go_simp; try with_reducible rfl)
                              try simp only [Act.put, List.setIfInBounds_toArray, List.set_cons_zero, List.set_cons_succ]
                              refine wpAnyK_take 14 (some 188) (v := ?kv29) rfl rfl (by kernel_rfl) (by kernel_rfl) (by kernel_rfl) (by decide) (by kernel_rfl) (fun _ _ _ h => h) (by rfl) ?ky29 hS.out ?kr29
                              case ky29 => ((intro wk hk); (try dsimp only at hk); go_simp; try with_reducible rfl)
                              try simp only [Act.put, List.setIfInBounds_toArray, List.set_cons_zero, List.set_cons_succ]
                              refine wpAnyK_one 15 (by kernel_rfl) rfl (fun K hK => ?_)
                              go_simp
                              refine (rmul_F (M2 j c) (M2 r j) _).mono ?_
                              rw [F.mul_comm (M2 j c) (M2 r j)]
                              rintro e x1 ⟨rfl, hx1⟩
                              have HX1 : Hid (Ext wr x1) := by rw [hx1]; exact (Ext.refl wr).drew
                              clear hx1
                              replace a0 := HX1.out.cell a0
                              replace a6 := HX1.out.cell a6
                              replace d0 := HX1.out.cell d0
                              replace d6 := HX1.out.cell d6
                              replace hS := Lib.hid (And.intro a0 (And.intro a6 (And.intro d0 d6)))
                              have hfz := (HC.out.1.ext HX1.out).frozAt (r := r) hr6 a0 c
                              refine hK.out _ _ (fun _ => hS.out) ?_
                              clear hK K
                              try simp only [Act.put, List.setIfInBounds_toArray, List.set_cons_zero, List.set_cons_succ]
                              refine wpAnyK_take 16 (some 190) (v := ?kv30) rfl rfl (by kernel_rfl) (by kernel_rfl) (by kernel_rfl) (by decide) (by kernel_rfl) (fun _ _ _ h => h) (by rfl) ?ky30 hS.out ?kr30
                              case ky30 => ((intro wk hk); (try dsimp only at hk); go_simp; try with_reducible rfl)
                              try simp only [Act.put, List.setIfInBounds_toArray, List.set_cons_zero, List.set_cons_succ]
                              refine wpAnyK_take 17 (some 191) (v := ?kv31) rfl rfl (by kernel_rfl) (by kernel_rfl) (by kernel_rfl) (by decide) (by kernel_rfl) (fun _ _ _ h => h) (by rfl) ?ky31 hS.out ?kr31
                              case ky31 => ((intro wk hk); (try dsimp only at hk); go_simp; try with_reducible rfl)
                              try simp only [Act.put, List.setIfInBounds_toArray, List.set_cons_zero, List.set_cons_succ]
                              refine wpAnyK_one 18 (by kernel_rfl) rfl (fun K hK => ?_)
                              go_simp
                              refine hK.out _ _ (fun h => absurd rfl h) ?_
                              clear hK K
                              refine wpAnyK_done (by kernel_rfl) ?_ _
                              rw [xor_F]
                              have hP := HPUT.out x1 c (M2 r c + M2 r j * M2 j c) HX1.out
                              rw [F.redTo_succ _ _ _ _ HRK.out] at hP
                              have HP1 := Lib.hid hP.1
                              have HP2 := Lib.hid (Below.trans HC.out.2 hP.2)
                              clear hP HPUT hS a0 a6 d0 d6 hfz
                              go_wp2_with fail
                              go_roundw
                              case rel => exact ⟨c + 1, by go_num, by omega, HP1.out, HP2.out⟩
                              case measure => simp [intOf]; omega
                            · obtain rfl : c = k + 1 := by omega
                              clear d3
                              go_wp2_with fail
                              go_roundw
                              case rel =>
                                refine ⟨r + 1, by go_num, by omega, HC.out.1.congr fun r' c' h1 h2 => ?_, HC.out.2⟩
                                unfold F.redTo
                                by_cases e : r' ≠ j ∧ (r' < r ∨ r' = r ∧ c' < k + 1)
                                · rw [if_pos e, if_pos ⟨e.1, by omega⟩]
                                · rw [if_neg e, if_neg (fun h => e ⟨h.1, by omega⟩)]
                              case measure => simp [intOf]; omega
                        · obtain rfl : r = 6 := by omega
                          go_wp2_with fail
                          go_roundw
                          case rel =>
                            refine ⟨j + 1, by go_num, by omega, F.stepM N j p, ?_, F.unit_step H2.out (by omega) hp6 hjp (by rw [HPV.out]; exact HZ.out), fun X => (F.sol_step (by omega) hp6 (by rw [HPV.out]; exact HZ.out)).trans (H3.out X), HR.out.2⟩
                            rw [← HSTEP.out]
                            refine HR.out.1.congr fun r' c' h1 _ => ?_
                            unfold F.redTo F.redM
                            by_cases e : r' = j
                            · rw [if_neg (fun h => h.1 e), if_pos e]
                            · rw [if_pos ⟨e, .inl h1⟩, if_neg e]
                          case measure => simp [intOf]; omega
            · obtain rfl : k = j := by omega
              have HM1 := H1
              have HUN := H2
              have HSO := H3
              have HEx : Hid (Ext w wr) := (HE1.out.trans HX.out).below_trans (by rw [HGB.out]; omega) H4.out
              have HGx : Hid (wr.heap[G]? = some (.cells ((wI (F.addAt wd [] [])).map (Value.int .i64)).toArray 3 (0, 0))) := (H4.out.block G hGW).trans (HX.out.blk HG1.out)
              clear H1 H2 H3 H4 HIND hj hjk
              obtain ⟨W3, hW3⟩ : ∃ W3 : World, W3 = wr := ⟨_, rfl⟩
              subst hW3
              go_wp2_with fail
              go_loopw [21] (fun s21 wr => ∃ (i : Nat), s21 = .int .i64 (i : Int) ∧ i ≤ k ∧ Hid (wr.heap[G]? = some (.cells ((wI (F.addAt wd (ps.take i) ((List.range i).map fun c => N c k))).map (Value.int .i64)).toArray 3 (0, 0)) ∧ Ext w wr ∧ MatW base g 22 3 wr N (k + 1))) (fun i _ => k - (intOf i).toNat)
              case atStart => exact ⟨0, rfl, by omega, HGx.out, HEx.out, HM1.out⟩
              case round =>
                clear HGx HEx HM1
                obtain ⟨i, rfl, hi, HK⟩ := hrel
                have HGr := Lib.hid HK.out.1
                have HEr := Lib.hid HK.out.2.1
                have HMr := Lib.hid HK.out.2.2
                clear HK
                by_cases hik : i < k
                · have HPr := Lib.hid (HP.out.ext HEr.out)
                  obtain ⟨bp, op, z, rfl, -⟩ := HPr.out.at_ hik
                  obtain ⟨z, hcz, HZ, -⟩ := HPr.out.cell_ hik
                  obtain ⟨pl, hpl, rfl⟩ := psI_at HZ.out
                  have hpn' : pl < n := HLT.out pl (List.mem_of_getElem? hpl)
                  obtain ⟨b2, cu2, a0, a1, a2, -, -, a3, -, -⟩ := HMr.out.at_ (r := i) (by omega)
                  have a6 := a3 k (by omega)
                  clear a3
                  have hfz := blk_frozen HGr.out pl
                  obtain ⟨y, hy⟩ : ∃ y, (wI (F.addAt wd (ps.take i) ((List.range i).map fun c => N c k)))[pl]? = some y := ⟨_, List.getElem?_eq_getElem (by rw [wI_len, F.addAt_len, HWL.out]; exact hpn')⟩
                  have hcy : wr.cell? ⟨G, pl, none⟩ = some (.int .i64 y) := blk_cell HGr.out (by rw [List.getElem?_toArray, List.getElem?_map, hy]; rfl)
                  have HG4 := Lib.hid (blk_upd (i := pl) HGr.out ((N i k).n : Int))
                  have hset : (wI (F.addAt wd (ps.take i) ((List.range i).map fun c => N c k))).set pl ((N i k).n : Int) = wI (F.addAt wd (ps.take (i + 1)) ((List.range (i + 1)).map fun c => N c k)) := by
                    rw [show ps.take (i + 1) = ps.take i ++ [pl] from take_snoc hpl, List.range_succ, List.map_append]
                    show _ = wI (F.addAt wd (ps.take i ++ [pl]) (_ ++ [N i k]))
                    rw [addAt_put (by rw [List.length_take, HU.out, List.length_map, List.length_range]; omega) (fun hm => ?_) (HW0.out pl (List.mem_of_getElem? hpl))]
                    · unfold wI; rw [List.map_set]
                    · obtain ⟨q, hq1, hq2⟩ := List.mem_iff_getElem?.1 hm |>.imp fun q h => (show q < i ∧ ps[q]? = some pl from by
                        rw [List.getElem?_take] at h
                        split at h
                        · exact ⟨by assumption, h⟩
                        · cases h)
                      have := (List.getElem?_inj (by rw [HU.out]; omega) HD.out).1 (hq2.trans hpl.symm)
                      omega
                  rw [hset] at HG4
                  have HE4 := Lib.hid (HEr.out.setCell (p := ⟨G, pl, none⟩) (by rw [HGB.out]; exact Nat.le_refl _) (.int .i64 ((N i k).n : Int)))
                  have HM4 : Hid (MatW base g 22 3 (wr.setCell ⟨G, pl, none⟩ (.int .i64 ((N i k).n : Int))) N (k + 1)) := HMr.out.xt ((XT.refl G wr).setCell rfl _) hGW
                  have hS : wr.drew.cell? ⟨bp, op + i, none⟩ = some (.int .i64 (pl : Int)) ∧ wr.drew.cell? ⟨g, i, none⟩ = some (.slice (some ⟨b2, 0, none⟩) (k + 1) cu2) ∧ wr.drew.cell? ⟨b2, k, none⟩ = some (.int .i64 ((N i k).n : Int)) := ⟨hcz, a0, a6⟩
                  replace hS := Lib.hid hS
                  clear hset hy hpl HZ HPr
                  have f1 : (0 : Int) ≤ (i : Int) := Int.natCast_nonneg _
                  have f2 : (i : Int) < (k : Int) := by omega
                  have f4 : (i : Int) < 6 := by omega
                  have f5 : (0 : Int) ≤ (pl : Int) := Int.natCast_nonneg _
                  have f6 : (pl : Int) < (n : Int) := by omega
                  have f7 : (0 : Int) ≤ (k : Int) := Int.natCast_nonneg _
                  have f8 : (k : Int) < (k : Int) + 1 := by omega
                  go_upto_region 45 with (fail)
                  refine wp_region_k 14 (fun w' => w'.cell? ⟨bp, op + i, none⟩ = some (.int .i64 (pl : Int)) ∧ w'.cell? ⟨g, i, none⟩ = some (.slice (some ⟨b2, 0, none⟩) (k + 1) cu2) ∧ w'.cell? ⟨b2, k, none⟩ = some (.int .i64 ((N i k).n : Int))) (by kernel_rfl) ?_
                  refine wpAnyK_take 0 (some 198) (v := ?kv32) rfl rfl (by kernel_rfl) (by kernel_rfl) (by kernel_rfl) (by decide) (by kernel_rfl) (fun _ _ _ h => h) (by rfl) ?ky32 hS.out ?kr32
                  case ky32 => ((intro wk hk); (try dsimp only at hk); go_simp; try with_reducible rfl)
                  try simp only [Act.put, List.setIfInBounds_toArray, List.set_cons_zero, List.set_cons_succ]
                  refine wpAnyK_take 1 (some 199) (v := ?kv33) rfl rfl (by kernel_rfl) (by kernel_rfl) (by kernel_rfl) (by decide) (by kernel_rfl) (fun _ _ _ h => h) (by rfl) ?ky33 hS.out ?kr33
                  case ky33 => ((intro wk hk); (try dsimp only at hk); go_simp; try with_reducible rfl)
                  try simp only [Act.put, List.setIfInBounds_toArray, List.set_cons_zero, List.set_cons_succ]
                  refine wpAnyK_take 2 (some 200) (v := ?kv34) rfl rfl (by kernel_rfl) (by kernel_rfl) (by kernel_rfl) (by decide) (by kernel_rfl) (fun _ _ _ h => h) (by rfl) ?ky34 hS.out ?kr34
                  case ky34 => ((intro wk hk); (try dsimp only at hk); go_simp; try with_reducible rfl)
                  try simp only [Act.put, List.setIfInBounds_toArray, List.set_cons_zero, List.set_cons_succ]
                  refine wpAnyK_take 3 (some 201) (v := ?kv35) rfl rfl (by kernel_rfl) (by kernel_rfl) (by kernel_rfl) (by decide) (by kernel_rfl) (fun _ _ _ h => h) (by rfl) ?ky35 hS.out ?kr35
                  case ky35 => ((intro wk hk); (try dsimp only at hk); go_simp; try with_reducible rfl)
                  try simp only [Act.put, List.setIfInBounds_toArray, List.set_cons_zero, List.set_cons_succ]
                  refine wpAnyK_take 4 (some 202) (v := ?kv36) rfl rfl (by kernel_rfl) (by kernel_rfl) (by kernel_rfl) (by decide) (by kernel_rfl) (fun _ _ _ h => h) (by rfl) ?ky36 hS.out ?kr36
                  case ky36 => ((intro wk hk); (try dsimp only at hk); go_simp; try with_reducible rfl)
                  try simp only [Act.put, List.setIfInBounds_toArray, List.set_cons_zero, List.set_cons_succ]
                  refine wpAnyK_take 5 (some 203) (v := ?kv37) rfl rfl (by kernel_rfl) (by kernel_rfl) (by kernel_rfl) (by decide) (by kernel_rfl) (fun _ _ _ h => h) (by rfl) ?ky37 hS.out ?kr37
                  case ky37 => ((intro wk hk); (try dsimp only at hk); go_simp; try with_reducible rfl)
                  try simp only [Act.put, List.setIfInBounds_toArray, List.set_cons_zero, List.set_cons_succ]
                  refine wpAnyK_take 6 (some 204) (v := ?kv38) rfl rfl (by kernel_rfl) (by kernel_rfl) (by kernel_rfl) (by decide) (by kernel_rfl) (fun _ _ _ h => h) (by rfl) ?ky38 hS.out ?kr38
                  case ky38 => ((intro wk hk); (try dsimp only at hk); go_simp; try with_reducible rfl)
                  try simp only [Act.put, List.setIfInBounds_toArray, List.set_cons_zero, List.set_cons_succ]
                  refine wpAnyK_take 7 (some 205) (v := ?kv39) rfl rfl (by kernel_rfl) (by kernel_rfl) (by kernel_rfl) (by decide) (by kernel_rfl) (fun _ _ _ h => h) (by rfl) ?ky39 hS.out ?kr39
                  case ky39 => ((intro wk hk); (try dsimp only at hk); go_simp; try with_reducible rfl)
                  try simp only [Act.put, List.setIfInBounds_toArray, List.set_cons_zero, List.set_cons_succ]
                  refine wpAnyK_take 8 (some 206) (v := ?kv40) rfl rfl (by kernel_rfl) (by kernel_rfl) (by kernel_rfl) (by decide) (by kernel_rfl) (fun _ _ _ h => h) (by rfl) ?ky40 hS.out ?kr40
                  case ky40 => ((intro wk hk); (try dsimp only at hk); go_simp; try with_reducible rfl)
                  try simp only [Act.put, List.setIfInBounds_toArray, List.set_cons_zero, List.set_cons_succ]
                  refine wpAnyK_take 9 (some 207) (v := ?kv41) rfl rfl (by kernel_rfl) (by kernel_rfl) (by kernel_rfl) (by decide) (by kernel_rfl) (fun _ _ _ h => h) (by rfl) ?ky41 hS.out ?kr41
                  case ky41 => ((intro wk hk); (try dsimp only at hk); go_simp; try with_reducible rfl)
                  try simp only [Act.put, List.setIfInBounds_toArray, List.set_cons_zero, List.set_cons_succ]
                  refine wpAnyK_take 10 (some 208) (v := ?kv42) rfl rfl (by kernel_rfl) (by kernel_rfl) (by kernel_rfl) (by decide) (by kernel_rfl) (fun _ _ _ h => h) (by rfl) ?ky42 hS.out ?kr42
                  case ky42 => ((intro wk hk); (try dsimp only at hk); go_simp; try with_reducible rfl)
                  try simp only [Act.put, List.setIfInBounds_toArray, List.set_cons_zero, List.set_cons_succ]
                  refine wpAnyK_take 11 (some 209) (v := ?kv43) rfl rfl (by kernel_rfl) (by kernel_rfl) (by kernel_rfl) (by decide) (by kernel_rfl) (fun _ _ _ h => h) (by rfl) ?ky43 hS.out ?kr43
                  case ky43 => ((intro wk hk); (try dsimp only at hk); go_simp; try with_reducible rfl)
                  try simp only [Act.put, List.setIfInBounds_toArray, List.set_cons_zero, List.set_cons_succ]
                  refine wpAnyK_take 12 (some 210) (v := ?kv44) rfl rfl (by kernel_rfl) (by kernel_rfl) (by kernel_rfl) (by decide) (by kernel_rfl) (fun _ _ _ h => h) (by rfl) ?ky44 hS.out ?kr44
                  case ky44 => ((intro wk hk); (try dsimp only at hk); go_simp; try with_reducible rfl)
                  try simp only [Act.put, List.setIfInBounds_toArray, List.set_cons_zero, List.set_cons_succ]
                  refine wpAnyK_take 13 (some 211) (v := ?kv45) rfl rfl (by kernel_rfl) (by kernel_rfl) (by kernel_rfl) (by decide) (by kernel_rfl) (fun _ _ _ h => h) (by rfl) ?ky45 hS.out ?kr45
                  case ky45 => ((intro wk hk); (try dsimp only at hk); go_simp; try with_reducible rfl)
                  try simp only [Act.put, List.setIfInBounds_toArray, List.set_cons_zero, List.set_cons_succ]
                  refine wpAnyK_one 14 (by kernel_rfl) rfl (fun K hK => ?_)
                  go_simp
                  refine hK.out _ _ (fun h => absurd rfl h) ?_
                  clear hK K
                  refine wpAnyK_done (by kernel_rfl) ?_ _
                  clear hS a0 a1 a2 a6 hcz hcy hfz
                  go_wp2_with fail
                  go_roundw
                  case rel => exact ⟨i + 1, by go_num, by omega, HG4.out, HE4.out.drew, HM4.out.ext (Ext.refl _).drew⟩
                  case measure => simp [intOf]; omega
                · obtain rfl : k = i := by omega
                  have HCW : Hid (ps.take k = ps) := List.take_of_length_le (by rw [HU.out]; exact Nat.le_refl _)
                  have HIG : Hid (IsI (G + 1) wr (.slice (some ⟨G, 0, none⟩) n n) (wI (F.addAt wd ps ((List.range k).map fun c => N c k)))) := by
                    have h := HGr.out
                    rw [HCW.out] at h
                    have h := ownW_blk (base := G) (n := n) h (by rw [F.addAt_len]; exact HWL.out) (Nat.le_refl _) (by omega)
                    exact IsI.of_own' (e := 3) h (by simp [Value.ownBlock]) (wI_i64 _) (by rw [wI_len, F.addAt_len, HWL.out]; omega)
                  go_wp2_with fail
                  refine (rcodeword_any _ _ _ HIG.out).mono ?_
                  rintro e x1 ⟨rfl, hx1⟩
                  go_wp2_with fail
                  go_ret2
                  have h := @F.sys_end wd ps N (by rw [HWL.out]; exact hn) HD.out (by rw [HWL.out]; exact HLT.out) (by rw [HU.out]; exact hu6)
                  rw [HU.out, hMd] at h
                  refine ⟨G, n, F.addAt wd ps ((List.range k).map fun c => N c k), rfl, Nat.le_refl _, by omega, by rw [F.addAt_len]; exact HWL.out, ?_, HEr.out.trans hx1, F.Off.addAt _ _ _, fun c ho hc => ((h HUN.out HSO.out).2 c ho hc).2⟩
                  have h := HGr.out
                  rw [HCW.out] at h
                  exact ownW_blk (hx1.blk h) (by rw [F.addAt_len]; exact HWL.out) (by rw [HGB.out]; exact Nat.le_refl _) (by omega)
end Go.Proofs.YtcpanmonllhmaaaDoor
/- awardingbodyref18: Erased, Errors. -/
namespace Go.Proofs.YtcpanmonllhmaaaDoor
open Go.RowKit

theorem toF_el {l : List Int} {k : Nat} {x : Int} (h : l[k]? = some x) (h1 : 0 ≤ x) (h2 : x < 32) : (((toF l).getD k 0).n : Int) = x := by
  rw [List.getD_eq_getElem?_getD, toF_at h]
  show ((x.toNat % 32 : Nat) : Int) = x
  omega
/-- The errors as far as place k. -/
def errTo (l : List Int) (c : List F) (k : Nat) : Nat := ((whTo l k).filter fun i => !((toF l).getD i 0 == c.getD i 0)).length
theorem errTo_all (l : List Int) (c : List F) : errTo l c l.length = (wrongP l c).length := rfl
theorem errTo_le (l : List Int) (c : List F) (k : Nat) : errTo l c k ≤ k := Nat.le_trans (List.length_filter_le _ _) (whTo_len l k)
theorem errTo_er {l : List Int} {c : List F} {k : Nat} {x : Int} (h : l[k]? = some x) (e : x = -1) : errTo l c (k + 1) = errTo l c k := by
  unfold errTo; rw [whTo_miss h e]
theorem errTo_eq {l : List Int} {c : List F} {k : Nat} {x : Int} (h : l[k]? = some x) (h1 : 0 ≤ x) (h2 : x < 32) (e : x = ((c.getD k 0).n : Int)) : errTo l c (k + 1) = errTo l c k := by
  unfold errTo
  rw [whTo_hit h (by omega), List.filter_append]
  have : (toF l).getD k 0 = c.getD k 0 := F.ext (by have := toF_el h h1 h2; omega)
  have hf : [k].filter (fun i => !((toF l).getD i 0 == c.getD i 0)) = [] := by rw [List.filter_cons, if_neg (by rw [this]; simp)]; rfl
  rw [hf, List.append_nil]
theorem errTo_ne {l : List Int} {c : List F} {k : Nat} {x : Int} (h : l[k]? = some x) (h1 : 0 ≤ x) (h2 : x < 32) (e : x ≠ ((c.getD k 0).n : Int)) : errTo l c (k + 1) = errTo l c k + 1 := by
  unfold errTo
  rw [whTo_hit h (by omega), List.filter_append, List.length_append]
  have : (toF l).getD k 0 ≠ c.getD k 0 := fun he => e (by have := toF_el h h1 h2; rw [he] at this; exact this.symm)
  have hf : [k].filter (fun i => !((toF l).getD i 0 == c.getD i 0)) = [k] := by rw [List.filter_cons, if_pos (by rw [beq_eq_false_iff_ne.2 this]; rfl)]; rfl
  rw [hf]; rfl

set_option maxRecDepth 100000 in
set_option maxHeartbeats 1000000 in
theorem rerased_any {p : Nat} (v : Value) (l : List Int) (w : World) (hI : IsI p w v l) (hb : wordB (-1) l = true) :
    Calls Tryd.prog 78 #[v] w fun e w' => ∃ A m c, e = .returned (.slice A m c) ∧ m = (erTo l l.length).length ∧ m ≤ c ∧ c ≤ 9223372036854775807 ∧ w'.ownsRow w.heap.size 3 1 (.slice A m c) m ((psI (erTo l l.length)).map (Value.int .i64)) ∧ Ext w w' := by
  obtain ⟨A, n, c, rfl, hnc, hc, hnn, HL⟩ := hI.open_
  have HI := Lib.hid hI
  have hm := word_mem hb
  have HM := Lib.hid hm.2.2
  have hn15 : n ≤ 15 := by have := HL.out; omega
  obtain ⟨i0, hi0, hz0, hz1, hz2⟩ := info_parts Tryd.infoI
  clear hI hm hb
  go_enter Tryd.func78, Tryd.ntmps78
  go_wp2_with fail
  go_loopw [3, 4] (fun s3 s4 wr => ∃ (k m : Nat), s4 = .int .i64 (k : Int) ∧ k ≤ n ∧ m ≤ k ∧ Hid ((erTo l k).length = m ∧ wr.ownsRow w.heap.size 3 1 s3 m ((psI (erTo l k)).map (Value.int .i64)) ∧ Ext w wr)) (fun _ i _ => n - (intOf i).toNat)
  case atStart => exact ⟨0, 0, rfl, by omega, by omega, rfl, World.ownsRow_nil _ _ _ _, Ext.refl _⟩
  case round =>
    obtain ⟨k, m, rfl, hk, hmk, HK⟩ := hrel
    have HML := Lib.hid HK.out.1
    have HO := Lib.hid HK.out.2.1
    have HE := Lib.hid HK.out.2.2
    clear HK
    have hsz := HE.out.size
    by_cases hkn : k < n
    · obtain ⟨b, off, x, rfl, cx, hx, hx1, hx2⟩ := (HI.out.ext HE.out).at_ hkn
      have hxb := HM.out x (List.mem_of_getElem? hx.out)
      by_cases hlo : x < 0
      · have HH := Lib.hid (erTo_hit hx.out (show x = -1 by omega))
        go_wp2_with (at_builtin; refine wpList_push _ rfl (.tmp 16) (.tmp 18) 22 rfl w.heap.size 3 i0 _ 8 Tryd.underlying22 hi0 hz0 hz1 hz2 rfl u3 m _ rfl (HO.out.alloc _) _ _ rfl (by simp; rfl) rfl (by omega) (by omega) (by simp; omega) ?_; intro v4 w4 hown4 hg4; have HE4 := Lib.hid (Ext.grown (HE.out.alloc _) hg4 (own_ge HO.out)); have HO4 := Lib.hid hown4; clear hown4 hg4)
        go_roundw
        case rel =>
          refine ⟨k + 1, m + 1, by go_num, by omega, by omega, by rw [HH.out, List.length_append, HML.out]; rfl, ?_, HE4.out⟩
          rw [HH.out]
          have e : psI (erTo l k ++ [k]) = psI (erTo l k) ++ [(k : Int)] := by simp [psI]
          rw [e, List.map_append]; exact HO4.out
        case measure => simp [intOf]; omega
      · have HH := Lib.hid (erTo_miss hx.out (show x ≠ -1 by omega))
        go_wp2_with fail
        go_roundw
        case rel => exact ⟨k + 1, m, by go_num, by omega, by omega, by rw [HH.out]; exact HML.out, by rw [HH.out]; exact HO.out, HE.out⟩
        case measure => simp [intOf]; omega
    · obtain rfl : k = n := by omega
      go_wp2_with fail
      go_ret
      obtain ⟨A', c', rfl, h1, h2⟩ := own_shape HO.out
      rw [HL.out]
      exact ⟨A', m, c', rfl, HML.out.symm, h1, h2, HO.out, HE.out⟩

set_option maxRecDepth 100000 in
set_option maxHeartbeats 1000000 in
theorem rerrors_any {p q : Nat} (v vc : Value) (l : List Int) (cw : List F) (w : World) (hI : IsI p w v l) (hC : IsI q w vc (wI cw)) (hl : cw.length = l.length) (hb : wordB (-1) l = true) :
    Calls Tryd.prog 80 #[v, vc] w fun e w' => e = .returned (.int .i64 ((wrongP l cw).length : Int)) ∧ ∃ m, w' = w.drewN m := by
  obtain ⟨A, n, c, rfl, hnc, hc, hnn, HL⟩ := hI.open_
  obtain ⟨B, n', c', rfl, hnc', hc', hnn', HL'⟩ := hC.open_
  obtain rfl : n' = n := by have := HL.out; have := HL'.out; rw [wI_len] at this; omega
  have HI := Lib.hid hI
  have HC := Lib.hid hC
  have hm := word_mem hb
  have HM := Lib.hid hm.2.2
  have hn15 : n' ≤ 15 := by have := HL.out; omega
  have HCL : Hid (cw.length = n') := hl.trans HL.out
  clear hI hC hm hb hl HL'
  go_enter Tryd.func80, Tryd.ntmps80
  go_wp2_with fail
  go_loopw [5, 6] (fun s i wr => ∃ (k m d : Nat), k ≤ n' ∧ i = .int .i64 k ∧ s = .int .i64 d ∧ d ≤ k ∧ Hid (d = errTo l cw k) ∧ wr = w.drewN m) (fun _ i _ => n' - (intOf i).toNat)
  case atStart => exact ⟨0, 0, 0, Nat.zero_le _, rfl, rfl, by omega, rfl, rfl⟩
  case round =>
    obtain ⟨k, m, d, hk, rfl, rfl, hd1, HK, rfl⟩ := hrel
    by_cases hlt : k < n'
    · obtain ⟨b1, o1, x, rfl, hcx, HX, hx1, hx2⟩ := HI.out.at_ hlt
      obtain ⟨b2, o2, y, rfl, hcy, HY, hy1, hy2⟩ := HC.out.at_ hlt
      have hxb := HM.out x (List.mem_of_getElem? HX.out)
      have hyc : y = ((cw.getD k 0).n : Int) := by
        have h := HY.out
        unfold wI at h
        rw [List.getElem?_map, F.getD_eq (w := cw) (by have := HCL.out; omega)] at h
        injection h with h
        exact h.symm
      have HYC := Lib.hid hyc
      clear hyc
      by_cases hneg : x < 0
      · have HS := Lib.hid (errTo_er (c := cw) HX.out (show x = -1 by omega))
        have e0 : decide (x ≥ 0) = false := by simp; omega
        go_wp2_with fail
        go_quiet (fail)
        go_wp2_with fail
        go_roundw
        case rel => exact ⟨k + 1, _, d, by omega, by go_num, rfl, by omega, by rw [HS.out]; exact HK.out, rfl⟩
        case measure => simp [intOf]; omega
      have e0 : decide (x ≥ 0) = true := by simp; omega
      by_cases e : x = y
      · have e1 : (x != y) = false := by simp [e]
        have HS := Lib.hid (errTo_eq (c := cw) HX.out (by omega) hxb.2 (e.trans HYC.out))
        clear e
        go_wp2_with fail
        go_quiet (fail)
        go_wp2_with fail
        go_roundw
        case rel => exact ⟨k + 1, _, d, by omega, by go_num, rfl, by omega, by rw [HS.out]; exact HK.out, rfl⟩
        case measure => simp [intOf]; omega
      · have e1 : (x != y) = true := by simp [e]
        have HS := Lib.hid (errTo_ne (c := cw) HX.out (by omega) hxb.2 (fun h => e (h.trans HYC.out.symm)))
        clear e
        go_wp2_with fail
        go_quiet (fail)
        go_wp2_with fail
        go_roundw
        case rel => exact ⟨k + 1, _, d + 1, by omega, by go_num, by go_num, by omega, by show _ = _; rw [HS.out, HK.out], rfl⟩
        case measure => simp [intOf]; omega
    · obtain rfl : k = n' := by omega
      go_wp2_with fail
      go_ret
      refine ⟨ret_int ?_, _, rfl⟩
      rw [HK.out, ← errTo_all, HL.out]
end Go.Proofs.YtcpanmonllhmaaaDoor
/- awardingbodyref18: search, Decode. -/
namespace Go.Proofs.YtcpanmonllhmaaaDoor
open Go.RowKit

theorem off_zer {a c : List F} {ps : List Nat} : F.Off (zer 0 a ps) c ps ↔ F.Off a c ps := by
  unfold F.Off
  rw [zer_len]
  refine and_congr Iff.rfl (forall_congr' fun i => imp_congr_right fun hi => ?_)
  rw [zer_at, if_neg (fun h => hi h.2)]
/-- The places from k on that are not erased. -/
def whD (l : List Int) (k : Nat) : List Nat := ((List.range l.length).drop k).filter fun i => !(l.getD i 0 == -1)
theorem whD_zero (l : List Int) : whD l 0 = whTo l l.length := rfl
theorem whD_end {l : List Int} {k : Nat} (h : l.length ≤ k) : whD l k = [] := by
  unfold whD; rw [List.drop_eq_nil_of_le (by simpa using h)]; rfl
theorem whD_cons {l : List Int} {k : Nat} {x : Int} (h : l[k]? = some x) : whD l k = (if x = -1 then whD l (k + 1) else k :: whD l (k + 1)) := by
  have hk := (List.getElem?_eq_some_iff.1 h).1
  unfold whD
  rw [List.drop_eq_getElem_cons (by simpa using hk), List.filter_cons, List.getElem_range, getD_int h]
  by_cases e : x = -1
  · rw [if_pos e, e]; rfl
  · rw [if_neg e, if_pos (by simp [e])]
theorem sub_cons {α : Type} {S l : List α} {x : α} (h : S.Sublist (x :: l)) : S.Sublist l ∨ ∃ S', S = x :: S' ∧ S'.Sublist l := by
  cases h with
  | cons _ h => exact .inl h
  | cons_cons _ h => exact .inr ⟨_, rfl, h⟩

/-- What a search of the reference returns. -/
def RSRet (w : World) (l : List Int) (ps : List Nat) (more frm : Nat) (e : Ending) (w' : World) : Prop :=
  ∃ (A : Option Addr) (n c : Nat) (b : Bool), e = .returned (.tuple #[.slice A n c, .bool b]) ∧ Ext w w' ∧
    (b = true → ∃ (cw : List F) (S : List Nat) (g : Nat), A = some ⟨g, 0, none⟩ ∧ n = l.length ∧ n ≤ c ∧ c ≤ 9223372036854775807 ∧ cw.length = l.length ∧ OwnW w.heap.size w' (.slice A n c) cw ∧ S.length ≤ more ∧ F.Off (toF l) cw (ps ++ S) ∧ F.Code cw) ∧
    (b = false → ∀ S, S.Sublist (whD l frm) → S.length ≤ more → ∀ c, F.Off (toF l) c (ps ++ S) → ¬ F.Code c)

set_option maxRecDepth 100000 in
set_option maxHeartbeats 4000000 in
theorem rsearch_any (l : List Int) (hb : wordB (-1) l = true) : ∀ (more frm : Nat) (v vp : Value) (ps : List Nat) (w : World) (q q' : Nat), IsI q w v l → IsI q' w vp (psI ps) → frm ≤ l.length → ps.length + more ≤ 6 → ps.Nodup →
    (∀ p ∈ ps, p < l.length ∧ (l.getD p 0 = -1 ∨ p < frm)) → (∀ i, i < l.length → l.getD i 0 = -1 → i ∈ ps) →
    Calls Tryd.prog 79 #[v, vp, .int .i64 (more : Int), .int .i64 (frm : Int)] w (RSRet w l ps more frm) := by
  intro more
  induction more with
  | zero =>
    intro frm v vp ps w q q' hI hP hfr h6 hd hps her
    obtain ⟨A, n, c, rfl, hnc, hc, hnn, HL⟩ := hI.open_
    obtain ⟨Ap, u, cp, rfl, hpc, hpp, hpn, HLp⟩ := hP.open_
    have hm := word_mem hb
    have HF := Lib.hid (rfill_any (.slice A n c) (.slice Ap u cp) l ps w hI hP (by omega) (by omega) hd (fun p hp => (hps p hp).1) (by omega) (fun i x hi hx => by
      have h1 := hm.2.2 x (List.mem_of_getElem? hx)
      have h2 : x ≠ -1 := fun e => hi (her i (List.getElem?_eq_some_iff.1 hx).1 (by rw [getD_int hx, e]))
      omega))
    go_enter Tryd.func79, Tryd.ntmps79
    go_upto_if 22 with (go_at_call 71; refine HF.out.mono ?_; rintro e w1 ⟨g, cp1, cw, rfl, hg1, hg2, hcl, hown, hx1, hoff, huq⟩)
    have hcb := codeB_wI (wd := cw) (by omega) (by omega)
    replace hown := Lib.hid hown
    rcases Bool.eq_false_or_eq_true (codeB (wI cw)) with hcc | hcc
    · rw [hcc]
      go_wp2_with fail
      go_ret2
      exact ⟨_, _, _, true, rfl, hx1, fun _ => ⟨cw, [], g, rfl, rfl, hg1, hg2, hcl, hown.out, Nat.le_refl _, by rw [List.append_nil]; exact off_zer.1 hoff, hcb.1 hcc⟩, fun h => by cases h⟩
    · rw [hcc]
      go_wp2_with fail
      go_ret2
      refine ⟨none, 0, 0, false, rfl, hx1, (fun h => by cases h), fun _ S hS hl c ho hc => ?_⟩
      obtain rfl : S = [] := List.eq_nil_of_length_eq_zero (by omega)
      rw [List.append_nil] at ho
      have := huq c (off_zer.2 ho) hc
      subst this
      rw [hcb.2 hc] at hcc
      cases hcc
  | succ m ih =>
    intro frm v vp ps w q q' hI hP hfr h6 hd hps her
    have HIH := Lib.hid ih
    clear ih
    obtain ⟨A, n, c, rfl, hnc, hc, hnn, HL⟩ := hI.open_
    obtain ⟨Ap, u, cp, rfl, hpc, hpp, hpn, HLp⟩ := hP.open_
    have hm := word_mem hb
    have HF := Lib.hid (rfill_any (.slice A n c) (.slice Ap u cp) l ps w hI hP (by omega) (by omega) hd (fun p hp => (hps p hp).1) (by omega) (fun i x hi hx => by
      have h1 := hm.2.2 x (List.mem_of_getElem? hx)
      have h2 : x ≠ -1 := fun e => hi (her i (List.getElem?_eq_some_iff.1 hx).1 (by rw [getD_int hx, e]))
      omega))
    rw [HL.out] at HF
    obtain ⟨mm, hmm⟩ : ∃ mm : Nat, mm = m + 1 := ⟨_, rfl⟩
    rw [← hmm]
    have hn7 : 7 ≤ n := by have := HL.out; omega
    have hn15 : n ≤ 15 := by have := HL.out; omega
    have hu6 : u + mm ≤ 6 := by have := HLp.out; rw [psI_len] at this; omega
    have HUL : Hid (ps.length = u) := by have := HLp.out; rw [psI_len] at this; exact this
    have hz : ((mm : Int) == 0) = false := by simp; omega
    have hm1 : (mm : Int) - 1 = (m : Int) := by omega
    have hmb : mm ≤ 6 := by omega
    have hm6 : m ≤ 5 := by omega
    have HMM := Lib.hid hmm
    clear hmm
    have hfn : frm ≤ n := by have := HL.out; omega
    have HM := Lib.hid hm.2.2
    have HD := Lib.hid hd
    have HPS := Lib.hid hps
    have HER := Lib.hid her
    have HI := Lib.hid hI
    have HP := Lib.hid hP
    clear hI hP hd hps her hm h6 hfr HLp
    obtain ⟨i0, hi0, hz0, hz1, hz2⟩ := info_parts Tryd.infoI
    go_enter Tryd.func79, Tryd.ntmps79
    go_upto_if 22 with (go_at_call 71; refine HF.out.mono ?_; rintro e w1 ⟨g, cp1, cw, rfl, hg1, hg2, hcl, hown, hx1, hoff, huq⟩)
    have hcb := codeB_wI (wd := cw) (by omega) (by omega)
    replace hown := Lib.hid hown
    replace hoff := Lib.hid hoff
    replace huq := Lib.hid huq
    replace hcb := Lib.hid hcb
    replace hcl := Lib.hid hcl
    replace hx1 := Lib.hid hx1
    clear HF
    rcases Bool.eq_false_or_eq_true (codeB (wI cw)) with hcc | hcc
    · rw [hcc]
      go_wp2_with fail
      go_ret2
      exact ⟨_, _, _, true, rfl, hx1.out, fun _ => ⟨cw, [], g, rfl, HL.out.symm, hg1, hg2, hcl.out.trans HL.out.symm, hown.out, Nat.zero_le _, by rw [List.append_nil]; exact off_zer.1 hoff.out, hcb.out.1 hcc⟩, fun h => by cases h⟩
    rw [hcc]
    have HNIL : Hid (∀ c, F.Off (toF l) c ps → ¬ F.Code c) := fun c ho hc => by
      have := huq.out c (off_zer.2 ho) hc
      subst this
      rw [hcb.out.2 hc] at hcc
      cases hcc
    clear hcc hcb huq hoff hown hcl
    go_wp2_with fail
    go_loopw [12] (fun s12 wr => ∃ (k : Nat), s12 = .int .i64 (k : Int) ∧ frm ≤ k ∧ k ≤ n ∧ Hid (Ext w wr ∧ ∀ S, S.Sublist (whD l frm) → S.length ≤ mm → (∀ c, F.Off (toF l) c (ps ++ S) → ¬ F.Code c) ∨ S.Sublist (whD l k))) (fun i _ => n - (intOf i).toNat)
    case atStart => exact ⟨frm, rfl, by omega, by omega, hx1.out, fun S h _ => .inr h⟩
    case round =>
      clear hx1
      obtain ⟨k, rfl, hk0, hk, HK⟩ := hrel
      have HE := Lib.hid HK.out.1
      have HNO := Lib.hid HK.out.2
      clear HK
      by_cases hkn : k < n
      · obtain ⟨b, off, x, rfl, cx, hx, hx1, hx2⟩ := (HI.out.ext HE.out).at_ hkn
        have hxb := HM.out x (List.mem_of_getElem? hx.out)
        by_cases hlo : x < 0
        · have HH : Hid (whD l k = whD l (k + 1)) := by show _ = _; rw [whD_cons hx.out, if_pos (by omega)]
          go_wp2_with fail
          go_roundw
          case rel => exact ⟨k + 1, by go_num, by omega, by omega, HE.out, fun S h1 h2 => by rw [← HH.out]; exact HNO.out S h1 h2⟩
          case measure => simp [intOf]; omega
        · have HH : Hid (whD l k = k :: whD l (k + 1)) := by show _ = _; rw [whD_cons hx.out, if_neg (by omega)]
          have HPr := Lib.hid (HP.out.ext HE.out)
          have HKN : Hid (k ∉ ps) := fun hmem => by
            rcases (HPS.out k hmem).2 with h | h
            · rw [getD_int hx.out] at h; omega
            · omega
          have HE3r := Lib.hid (Ext.refl wr)
          go_upto_region 13 with (first
            | (at_builtin; refine wpList_cat _ rfl (.tmp 38) (.tmp 39) 22 rfl wr.heap.size 3 i0 _ 8 Tryd.underlying22 hi0 hz0 hz1 hz2 rfl (.slice none 0 0) 0 [] rfl (World.ownsRow_nil _ _ _ _) q' Ap u cp (psI ps) rfl HPr.out (by omega) (by omega) (Nat.le_refl _) ?_; intro v3 w3 hown3 hg3; have HE3 := Lib.hid (Ext.grown HE3r.out hg3 (by simp [Value.ownBlock])); have HO3 := Lib.hid hown3; clear hown3 hg3)
            | (at_builtin; refine wpList_push _ rfl (.tmp 41) (.tmp 43) 22 rfl wr.heap.size 3 i0 _ 8 Tryd.underlying22 hi0 hz0 hz1 hz2 rfl v3 _ _ rfl (HO3.out.alloc _) _ _ rfl (by simp; rfl) rfl (by omega) (by omega) (by have := HE3.out.size; simp; omega) ?_; intro v4 w4 hown4 hg4; have HE4 := Lib.hid (Ext.grown (HE3.out.alloc _) hg4 (own_ge HO3.out)); have HO4 := Lib.hid hown4; clear hown4 hg4))
          have HO5 : Hid (w4.ownsRow wr.heap.size 3 1 v4 (u + 1) ((psI (ps ++ [k])).map (Value.int .i64))) := by
            have e : psI (ps ++ [k]) = psI ps ++ [(k : Int)] := by simp [psI]
            have h := HO4.out
            rw [Nat.zero_add, List.nil_append] at h
            show World.ownsRow _ _ _ _ _ _ _
            rw [e, List.map_append]; exact h
          obtain ⟨A4, c4, rfl, hA1, hA2⟩ := own_shape HO5.out
          have HEw4 := Lib.hid (HE.out.trans HE4.out)
          have HCA : Hid (Calls Tryd.prog 79 #[.slice (some ⟨b, off, none⟩) n c, .slice A4 (u + 1) c4, .int .i64 (m : Int), .int .i64 ((k : Int) + 1)] w4 (RSRet w4 l (ps ++ [k]) m (k + 1))) := by
            have h := HIH.out (k + 1) (.slice (some ⟨b, off, none⟩) n c) (.slice A4 (u + 1) c4) (ps ++ [k]) w4 w4.heap.size w4.heap.size ((HI.out.ext HEw4.out).re (Nat.le_refl _))
              (IsI.of_own' (p := w4.heap.size) (e := 3) HO5.out (fun h => by have := (HO5.out.lt _ h).2; omega) (psI_i64 fun p hp => by
                rcases List.mem_append.1 hp with h | h
                · have := (HPS.out p h).1; rw [HL.out] at this; omega
                · simp at h; omega) (by rw [psI_len, List.length_append, HUL.out]; simp; omega))
              (by rw [HL.out]; omega) (by rw [List.length_append, HUL.out]; simp; have := HMM.out; omega)
              (by
                rw [List.nodup_append]
                refine ⟨HD.out, by simp, fun a ha b hb' e => ?_⟩
                simp at hb'
                subst e; subst hb'
                exact HKN.out ha)
              (fun p hp => by
                rcases List.mem_append.1 hp with h | h
                · have h1 := HPS.out p h
                  exact ⟨h1.1, h1.2.imp id (fun e => by omega)⟩
                · simp at h; subst h; exact ⟨by rw [HL.out]; exact hkn, .inr (by omega)⟩)
              (fun i h1 h2 => List.mem_append_left _ (HER.out i h1 h2))
            rw [show (((k + 1 : Nat)) : Int) = (k : Int) + 1 by omega] at h
            exact h
          have hs4 : w.heap.size ≤ w4.heap.size := HEw4.out.size
          clear HO3 HO4 HO5 HE3 HE4 HPr
          go_upto_if 55 with (go_at_call 79; refine HCA.out.mono ?_; rintro e w5 ⟨A5, n5, c5, b5, rfl, hx5, ht5, hf5⟩)
          replace ht5 := Lib.hid ht5
          replace hf5 := Lib.hid hf5
          have HE5 := Lib.hid (HEw4.out.trans hx5)
          clear hx5 HCA HEw4
          cases b5 with
          | true =>
            go_wp2_with fail
            go_ret2
            obtain ⟨cw', S, g', t1, t2, t3, t4, t5, t6, t7, t8, t9⟩ := ht5.out trivial
            refine ⟨A5, n5, c5, true, rfl, HE5.out, fun _ => ⟨cw', k :: S, g', t1, t2, t3, t4, t5, own_mono t6 hs4, by rw [HMM.out]; simp; omega, by simpa using t8, t9⟩, fun h => by cases h⟩
          | false =>
            go_wp2_with fail
            go_roundw
            case rel =>
              refine ⟨k + 1, by go_num, by omega, by omega, HE5.out, fun S h1 h2 => ?_⟩
              rcases HNO.out S h1 h2 with h | h
              · exact .inl h
              · rw [HH.out] at h
                rcases sub_cons h with h | ⟨S', rfl, hs'⟩
                · exact .inr h
                · refine .inl fun c ho hc => hf5.out rfl S' hs' (by have := HMM.out; simp at h2; omega) c (by simpa using ho) hc
            case measure => simp [intOf]; omega
      · obtain rfl : k = n := by omega
        go_wp2_with fail
        go_ret2
        refine ⟨none, 0, 0, false, rfl, HE.out, (fun h => by cases h), fun _ S hS hl c ho hc => ?_⟩
        rcases HNO.out S hS hl with h | h
        · exact h c ho hc
        · rw [whD_end (by rw [HL.out]; exact Nat.le_refl _)] at h
          obtain rfl := List.eq_nil_of_sublist_nil h
          rw [List.append_nil] at ho
          exact HNIL.out c ho hc

theorem wrong_le {l : List Int} {c : List F} {S : List Nat} (hlen : c.length = l.length) (ho : F.Off (toF l) c (erTo l l.length ++ S)) : (wrongP l c).length ≤ S.length := by
  refine nodup_len _ _ ((List.nodup_append.1 (er_wh_nodup l l.length)).2.1.sublist (wrong_sub l c)) fun i hi => ?_
  obtain ⟨h1, h2⟩ := List.mem_filter.1 hi
  obtain ⟨h3, h4⟩ := mem_wh.1 h1
  refine Classical.byContradiction fun hns => ?_
  have h5 := ho.2 i (fun hm => by
    rcases List.mem_append.1 hm with h | h
    · exact h4 (mem_er.1 h).2
    · exact hns h)
  rw [F.getD_eq (w := c) (by omega), F.getD_eq (w := toF l) (by rw [toF_len]; exact h3)] at h5
  injection h5 with h5
  rw [h5] at h2
  simp at h2

/-- What Decode of the program and of the reference returns. -/
def DecR (w : World) (l : List Int) (e : Ending) (w' : World) : Prop :=
  ∃ (A : Option Addr) (m c : Nat) (d : List F) (er k : Int), e = .returned (.tuple #[.slice A m c, .int .i64 er, .int .i64 k]) ∧ IsI w'.heap.size w' (.slice A m c) (wI d) ∧ Ext w w' ∧
    (wordB (-1) l = false → d = [] ∧ er = 0 ∧ k = 2) ∧
    (wordB (-1) l = true → (∃ (cw : List F) (n : Nat), Near l cw n ∧ d = cw.take (l.length - 6) ∧ er = n ∧ k = 0) ∨ ((∀ cw n, ¬ Near l cw n) ∧ d = [] ∧ er = 0 ∧ k = 25))
theorem dec_r {q : Nat} (v : Value) (l : List Int) (w : World) (hT : Tabs w) (hI : IsI q w v l) : Calls Tryd.prog 55 #[v] w (DecR w l) :=
  (decode_any v l w hT hI).mono fun e w' ⟨A, m, c, d, er, k, he, hi, hx, h⟩ => ⟨A, m, c, d, er, k, he, hi.re (Nat.le_refl _), hx, h⟩

set_option maxRecDepth 100000 in
set_option maxHeartbeats 4000000 in
theorem rdecode_any {q : Nat} (v : Value) (l : List Int) (w : World) (hI : IsI q w v l) :
    Calls Tryd.prog 56 #[v] w (DecR w l) := by
  have h0 := hI.re (q := w.heap.size) (Nat.le_refl _)
  obtain ⟨A, n, c, rfl, hnc, hc, hnn, HL⟩ := hI.open_
  have HI := Lib.hid h0
  clear hI h0
  rcases Bool.eq_false_or_eq_true (wordB (-1) l) with hb | hb
  case inr =>
    go_enter Tryd.func56, Tryd.ntmps56
    go_wp2_with (go_at_call 77; refine (rsymbols_any _ l (-1) _ HI.out (by omega) (by omega)).mono ?_; rintro e w1 ⟨rfl, HX1⟩; rw [hb])
    go_ret3
    exact ⟨none, 0, 0, [], 0, 2, rfl, IsI.nil _ _, HX1, fun _ => ⟨rfl, rfl, rfl⟩, fun h => by rw [hb] at h; cases h⟩
  have hm := word_mem hb
  have HBW := Lib.hid hb
  have hn7 : 7 ≤ n := by have := HL.out; omega
  have hn15 : n ≤ 15 := by have := HL.out; omega
  clear hm
  go_enter Tryd.func56, Tryd.ntmps56
  go_upto_if 15 with (first
    | (go_at_call 77; refine (rsymbols_any _ l (-1) _ HI.out (by omega) (by omega)).mono ?_; rintro e w1 ⟨rfl, HX1⟩; rw [hb]; replace HX1 := Lib.hid HX1)
    | (go_at_call 78; refine (rerased_any _ l _ (HI.out.ext HX1.out) hb).mono ?_; rintro e w2 ⟨A2, m2, c2, rfl, hm2, hc21, hc22, ho2, hx2⟩; replace ho2 := Lib.hid ho2; have HE2 := Lib.hid (HX1.out.trans hx2); replace hm2 := Lib.hid hm2))
  have hm2l : m2 ≤ n := by have := erTo_len l l.length; have := hm2.out; have := HL.out; omega
  by_cases h6 : 6 < m2
  · go_wp2_with fail
    go_ret3
    refine ⟨none, 0, 0, [], 0, 25, rfl, IsI.nil _ _, HE2.out, fun h => (by rw [hb] at h; cases h), fun _ => .inr ⟨fun cw k hk => ?_, rfl, rfl, rfl⟩⟩
    have := hk.near
    have := hm2.out
    omega
  obtain ⟨mo, hmo⟩ : ∃ mo : Nat, mo = (6 - m2) / 2 := ⟨_, rfl⟩
  have hmo2 : 2 * mo + m2 ≤ 6 := by omega
  have hmo3 : 6 < 2 * (mo + 1) + m2 := by omega
  have hq : Int.tdiv (6 - (m2 : Int)) 2 = (mo : Int) := by rw [hmo, Int.tdiv_eq_ediv_of_nonneg (by omega)]; omega
  have hs2 := HE2.out.size
  have HCA := Lib.hid (rsearch_any l hb mo 0 (.slice A n c) (.slice A2 m2 c2) (erTo l l.length) w2 w2.heap.size w2.heap.size ((HI.out.ext HE2.out).re (Nat.le_refl _))
    (IsI.of_own' (p := w2.heap.size) (e := 3) ho2.out (fun h => by have := (ho2.out.lt _ h).2; omega) (psI_i64 fun p hp => by have := erTo_lt hp; have := HL.out; omega) (by rw [psI_len]; have := hm2.out; omega))
    (Nat.zero_le _) (by have := hm2.out; omega) ((List.nodup_append.1 (er_wh_nodup l l.length)).1) (fun p hp => ⟨erTo_lt hp, .inl (mem_er.1 hp).2⟩) (fun i h1 h2 => mem_er.2 ⟨h1, h2⟩))
  clear hmo
  go_upto_if 27 with (go_at_call 79; refine HCA.out.mono ?_; rintro e w3 ⟨A3, n3, c3, b3, rfl, hx3, ht3, hf3⟩)
  replace ht3 := Lib.hid ht3
  replace hf3 := Lib.hid hf3
  have HE3 := Lib.hid (HE2.out.trans hx3)
  clear hx3 HCA
  cases b3 with
  | false =>
    go_wp2_with fail
    go_ret3
    refine ⟨none, 0, 0, [], 0, 25, rfl, IsI.nil _ _, HE3.out, fun h => (by rw [hb] at h; cases h), fun _ => .inr ⟨fun cw k hk => ?_, rfl, rfl, rfl⟩⟩
    have h1 := hk.near
    have h2 := hm2.out
    exact hf3.out trivial (wrongP l cw) (by rw [whD_zero]; exact wrong_sub l cw) (by rw [hk.err]; omega) cw (off_wrong hk.len) hk.code
  | true =>
    obtain ⟨cw, S, g, rfl, hn3, hc31, hc32, hcl, ho3, hSl, hoff, hcode⟩ := ht3.out rfl
    obtain rfl : n3 = n := hn3.trans HL.out
    have HO3 := Lib.hid ho3
    have HCL := Lib.hid hcl
    have HNR : Hid (Near l cw (wrongP l cw).length) := by
      have h1 := wrong_le hcl hoff
      have h2 := hm2.out
      exact ⟨hcl, hcode, rfl, by omega⟩
    have HCI : Hid (IsI w3.heap.size w3 (.slice (some ⟨g, 0, none⟩) n3 c3) (wI cw)) := IsI.of_own' (p := w3.heap.size) (e := 3) ho3 (fun h => by have := (ho3.lt _ h).2; omega) (wI_i64 _) (by rw [wI_len, hcl]; have := HL.out; omega)
    have HQ : Hid (∀ m, Calls Tryd.prog 80 #[.slice A n3 c, .slice (some ⟨g, 0, none⟩) n3 c3] (w3.drewN m) fun e w' => e = .returned (.int .i64 ((wrongP l cw).length : Int)) ∧ ∃ k, w' = (w3.drewN m).drewN k) := fun m =>
      rerrors_any _ _ l cw _ ((HI.out.ext HE3.out).ext ((Ext.refl _).drewN m)) (HCI.out.ext ((Ext.refl _).drewN m)) hcl hb
    clear ho3 hcl hcode hoff hSl hn3 ht3 hf3
    go_wp2_with fail
    go_quiet ((go_at_call 80; exact Calls.quiet_of (HQ.out _)))
    go_wp2_with fail
    go_ret3
    have HT : Hid (IsI w3.heap.size w3 (.slice (some ⟨g, 0, none⟩) (n3 - 6) c3) (wI (cw.take (n3 - 6)))) := by
      have h := HCI.out.take (k := n3 - 6) (by omega)
      rw [show (wI cw).take (n3 - 6) = wI (cw.take (n3 - 6)) from by simp [wI, List.map_take]] at h
      exact h
    exact ⟨some ⟨g, 0, none⟩, n3 - 6, c3, cw.take (n3 - 6), _, 0, rfl, HT.out.ext ((Ext.refl _).drewN _), HE3.out.drewN _, fun h => (by rw [hb] at h; cases h), fun _ => .inl ⟨cw, _, HNR.out, by rw [HL.out], rfl, rfl⟩⟩
end Go.Proofs.YtcpanmonllhmaaaDoor
/- awardingbodyref18.Encode. -/
namespace Go.Proofs.YtcpanmonllhmaaaDoor
open Go.RowKit

/-- The word of Encode, some of the data laid in. -/
def encZ (l : List Int) (n k : Nat) : List F := (toF l).take k ++ List.replicate (n + 6 - k) 0
theorem encZ_len {l : List Int} {n k : Nat} (hl : l.length = n) (hk : k ≤ n) : (encZ l n k).length = n + 6 := by
  unfold encZ; rw [List.length_append, List.length_take, toF_len, List.length_replicate]; omega
theorem encZ_set {l : List Int} {n k : Nat} {x : Int} {y : F} (hl : l.length = n) (hx : l[k]? = some x) (hy : (y.n : Int) = x) : (encZ l n k).set k y = encZ l n (k + 1) := by
  have hk := (List.getElem?_eq_some_iff.1 hx).1
  unfold encZ
  have e1 : ((toF l).take k).length = k := by rw [List.length_take, toF_len]; omega
  rw [List.set_append_right _ _ (by omega), e1, Nat.sub_self, show n + 6 - k = (n + 6 - (k + 1)) + 1 by omega, List.replicate_succ, List.set_cons_zero]
  have e2 : (toF l)[k]? = some y := by
    rw [toF_at hx]
    have : x.toNat % 32 = y.n := by have := y.lt; omega
    congr 1
    exact F.ext this
  rw [take_snoc e2, List.append_assoc]
  rfl
theorem encZ_off {l : List Int} {n : Nat} (hl : l.length = n) : F.Off (zer 0 (toF (wI (encZ l n n))) ((List.range 6).map fun i => n + i)) (encF (toF l)) ((List.range 6).map fun i => n + i) := by
  rw [off_zer, toF_wI]
  have e0 : (toF l).take n = toF l := List.take_of_length_le (by rw [toF_len]; omega)
  refine ⟨by rw [encF_len, toF_len, encZ_len hl (Nat.le_refl _), hl], fun i hi => ?_⟩
  unfold encZ encF
  rw [e0]
  rcases Nat.lt_or_ge i n with h | h
  · rw [List.getElem?_append_left (by rw [toF_len]; omega), List.getElem?_append_left (by rw [toF_len]; omega)]
  · have : n + 6 ≤ i := by
      rcases Nat.lt_or_ge i (n + 6) with h2 | h2
      · exact absurd (List.mem_map.2 ⟨i - n, List.mem_range.2 (by omega), by omega⟩) hi
      · exact h2
    rw [List.getElem?_eq_none (by rw [List.length_append, toF_len, (F.enc_code _).2]; omega), List.getElem?_eq_none (by rw [List.length_append, toF_len, List.length_replicate]; omega)]

set_option maxRecDepth 100000 in
set_option maxHeartbeats 4000000 in
theorem rencode_any {q : Nat} (v : Value) (l : List Int) (w : World) (hI : IsI q w v l) :
    Calls Tryd.prog 48 #[v] w fun e w' => ∃ A m c, e = .returned (.tuple #[.slice A m c, .int .i64 (encE l)]) ∧ m = (encL l).length ∧ m ≤ c ∧ c ≤ 9223372036854775807 ∧ w'.ownsRow w.heap.size 3 1 (.slice A m c) m ((encL l).map (Value.int .i64)) ∧ Ext w w' := by
  have h0 := hI.re (q := w.heap.size) (Nat.le_refl _)
  obtain ⟨A, n, c, rfl, hnc, hc, hnn, HL⟩ := hI.open_
  have HI := Lib.hid h0
  clear hI h0
  have hbad : ∀ w', dataB l = false → Ext w w' → ∃ A m c, Ending.returned (.tuple #[.slice none 0 0, .int .i64 2]) = .returned (.tuple #[.slice A m c, .int .i64 (encE l)]) ∧ m = (encL l).length ∧ m ≤ c ∧ c ≤ 9223372036854775807 ∧ w'.ownsRow w.heap.size 3 1 (.slice A m c) m ((encL l).map (Value.int .i64)) ∧ Ext w w' := fun w' hd hx => by
    refine ⟨none, 0, 0, ?_, ?_, by omega, by omega, ?_, hx⟩
    · unfold encE; rw [hd]; rfl
    · unfold encL; rw [hd]; rfl
    · unfold encL; rw [hd]; exact World.ownsRow_nil _ _ _ _
  have HBAD := Lib.hid hbad
  clear hbad
  by_cases h1 : n < 1
  · go_enter Tryd.func48, Tryd.ntmps48
    go_wp2_with fail
    go_ret2
    exact HBAD.out _ (by rcases Bool.eq_false_or_eq_true (dataB l) with h | h
                         · have := data_mem h; have := HL.out; omega
                         · exact h) (Ext.refl _)
  by_cases h9 : 9 < n
  · go_enter Tryd.func48, Tryd.ntmps48
    go_wp2_with fail
    go_ret2
    exact HBAD.out _ (by rcases Bool.eq_false_or_eq_true (dataB l) with h | h
                         · have := data_mem h; have := HL.out; omega
                         · exact h) (Ext.refl _)
  have hmkI := make_ints (n + 6) (by omega)
  rw [show (((n + 6 : Nat)) : Int) = (n : Int) + 6 by omega] at hmkI
  obtain ⟨i0, hi0, hz0, hz1, hz2⟩ := info_parts Tryd.infoI
  obtain ⟨b, o, z, rfl, -⟩ := HI.out.at_ (k := 0) (by omega)
  have HG0 : Hid (OwnW w.heap.size (w.alloc (.cells (madeCells #[.int .i64 0] (n + 6)) 3)) (.slice (some ⟨w.heap.size, 0, none⟩) (n + 6) (n + 6)) (encZ l n 0)) := by
    have h := heap_alloc_new w (.cells (madeCells #[.int .i64 0] (n + 6)) 3)
    rw [made_zero] at h ⊢
    have hz : encZ l n 0 = List.replicate (n + 6) 0 := by simp [encZ]
    rw [hz]
    exact ownW_blk h (by rw [List.length_replicate]) (Nat.le_refl _) (by omega)
  have HE0 := Lib.hid ((Ext.refl w).alloc (.cells (madeCells #[.int .i64 0] (n + 6)) 3))
  go_enter Tryd.func48, Tryd.ntmps48
  go_wp2_with fail
  go_loopw [6] (fun s6 wr => ∃ (k : Nat), s6 = .int .i64 (k : Int) ∧ k ≤ n ∧ Hid ((∀ i x, i < k → l[i]? = some x → 0 ≤ x ∧ x < 32) ∧ OwnW w.heap.size wr (.slice (some ⟨w.heap.size, 0, none⟩) (n + 6) (n + 6)) (encZ l n k) ∧ Ext w wr)) (fun i _ => n - (intOf i).toNat)
  case atStart => exact ⟨0, rfl, by omega, fun i x h => by omega, HG0.out, HE0.out⟩
  case round =>
    clear HG0 HE0 hmkI
    obtain ⟨k, rfl, hk, HK⟩ := hrel
    have HV := Lib.hid HK.out.1
    have HO := Lib.hid HK.out.2.1
    have HE := Lib.hid HK.out.2.2
    clear HK
    have HZL := Lib.hid (encZ_len (k := k) HL.out hk)
    by_cases hkn : k < n
    · obtain ⟨x, cx, hx, hx1, hx2⟩ := (HI.out.ext HE.out).cell_ hkn
      rcases Bool.eq_false_or_eq_true (elB x) with hel | hel
      · have hxb : 0 ≤ x ∧ x < 32 := by unfold elB at hel; simp at hel; omega
        obtain ⟨y, hy⟩ : ∃ y : F, (y.n : Int) = x := ⟨F.mk x.toNat (by omega), by rw [F.n_mk]; omega⟩
        subst hy
        obtain ⟨z0, hz0'⟩ : ∃ z0, (encZ l n k)[k]? = some z0 := ⟨_, List.getElem?_eq_getElem (by rw [HZL.out]; omega)⟩
        have cy := HO.out.cell HZL.out hz0'
        have cf := HO.out.froz HZL.out k
        have HP := Lib.hid (HO.out.put HZL.out k y)
        rw [encZ_set HL.out hx.out rfl] at HP
        have HE2 := Lib.hid (HE.out.setCell (p := ⟨w.heap.size, k, none⟩) (Nat.le_refl _) (.int .i64 (y.n : Int)))
        go_wp2_with (go_at_call 70; refine (relement_any (y.n : Int) _ (by omega) (by omega)).mono ?_; rintro e w1 ⟨rfl, rfl⟩; rw [hel])
        go_roundw
        case rel => exact ⟨k + 1, by go_num, by omega, fun i x' h1 h2 => (by
          by_cases e : i = k
          · subst e; rw [hx.out] at h2; injection h2 with h2; omega
          · exact HV.out i x' (by omega) h2), HP.out, HE2.out⟩
        case measure => simp [intOf]; omega
      · go_wp2_with (go_at_call 70; refine (relement_any x _ (by omega) (by omega)).mono ?_; rintro e w1 ⟨rfl, rfl⟩; rw [hel])
        go_ret2
        refine HBAD.out _ ?_ HE.out
        rcases Bool.eq_false_or_eq_true (dataB l) with h | h
        · have := (data_mem h).2.2 x (List.mem_of_getElem? hx.out)
          unfold elB at hel; simp at hel; omega
        · exact h
    · obtain rfl : k = n := by omega
      have HDB : Hid (dataB l = true) := mem_data (by have := HL.out; omega) (by have := HL.out; omega) fun x hx => by
        obtain ⟨i, hi, rfl⟩ := List.getElem_of_mem hx
        exact HV.out i _ (by rw [← HL.out]; exact hi) (List.getElem?_eq_getElem hi)
      obtain ⟨W1, hW1⟩ : ∃ W1 : World, W1 = wr := ⟨_, rfl⟩
      subst hW1
      clear HBAD HV
      go_wp2_with fail
      go_loopw [5, 7] (fun s5 s7 wr => ∃ (j : Nat), s7 = .int .i64 (j : Int) ∧ j ≤ 6 ∧ Hid (wr.ownsRow W1.heap.size 3 1 s5 j ((psI ((List.range j).map fun i => k + i)).map (Value.int .i64)) ∧ Ext W1 wr)) (fun _ i _ => 6 - (intOf i).toNat)
      case atStart => exact ⟨0, rfl, by omega, World.ownsRow_nil _ _ _ _, Ext.refl _⟩
      case round =>
        obtain ⟨j, rfl, hj, HK⟩ := hrel
        have HO5 := Lib.hid HK.out.1
        have HE5 := Lib.hid HK.out.2
        clear HK
        by_cases hj6 : j < 6
        · go_wp2_with (at_builtin; refine wpList_push _ rfl (.tmp 45) (.tmp 50) 22 rfl W1.heap.size 3 i0 _ 8 Tryd.underlying22 hi0 hz0 hz1 hz2 rfl u5 j _ rfl (HO5.out.alloc _) _ _ rfl (by simp; rfl) rfl (by omega) (by omega) (by have := HE5.out.size; simp; omega) ?_; intro v4 w4 hown4 hg4; have HE4 := Lib.hid (Ext.grown (HE5.out.alloc _) hg4 (own_ge HO5.out)); have HO4 := Lib.hid hown4; clear hown4 hg4)
          go_roundw
          case rel =>
            refine ⟨j + 1, by go_num, by omega, ?_, HE4.out⟩
            have e : psI ((List.range (j + 1)).map fun i => k + i) = psI ((List.range j).map fun i => k + i) ++ [(k : Int) + (j : Int)] := by
              rw [List.range_succ, List.map_append]
              unfold psI
              rw [List.map_append]
              simp
            rw [e, List.map_append]; exact HO4.out
          case measure => simp [intOf]; omega
        · obtain rfl : j = 6 := by omega
          have HOW := Lib.hid (HO.out.ext HE5.out)
          have HWI : Hid (IsI wr.heap.size wr (.slice (some ⟨w.heap.size, 0, none⟩) (k + 6) (k + 6)) (wI (encZ l k k))) := IsI.of_own' (p := wr.heap.size) (e := 3) HOW.out (fun h => by have := (HOW.out.lt _ h).2; omega) (wI_i64 _) (by rw [wI_len, HZL.out]; omega)
          have HPI : Hid (IsI wr.heap.size wr u5 (psI ((List.range 6).map fun i => k + i))) := IsI.of_own' (p := wr.heap.size) (e := 3) HO5.out (fun h => by have := (HO5.out.lt _ h).2; omega) (psI_i64 fun p hp => by
            obtain ⟨i, hi, rfl⟩ := List.mem_map.1 hp
            have := List.mem_range.1 hi
            omega) (by rw [psI_len]; simp)
          have HF := Lib.hid (rfill_any (.slice (some ⟨w.heap.size, 0, none⟩) (k + 6) (k + 6)) u5 (wI (encZ l k k)) ((List.range 6).map fun i => k + i) wr HWI.out HPI.out (by rw [wI_len, HZL.out]; omega) (by rw [wI_len, HZL.out]; omega)
            (List.Pairwise.map _ (fun a b h => (by omega)) List.nodup_range)
            (fun p hp => by
              obtain ⟨i, hi, rfl⟩ := List.mem_map.1 hp
              have := List.mem_range.1 hi
              rw [wI_len, HZL.out]; omega) (by simp) (fun i x _ hx => by
              unfold wI at hx
              rw [List.getElem?_map, Option.map_eq_some_iff] at hx
              obtain ⟨f, _, rfl⟩ := hx
              have := f.lt
              omega))
          have hs5 : w.heap.size ≤ wr.heap.size := Nat.le_trans HE.out.size HE5.out.size
          go_wp2_with (go_at_call 71; refine HF.out.mono ?_; rintro e w1 ⟨g, cp1, cw, rfl, hg1, hg2, hcl, hown, hx1, hoff, huq⟩)
          go_ret2
          have hcw : encF (toF l) = cw := huq _ (encZ_off HL.out) (encF_code _)
          have e1 : encL l = wI cw := by unfold encL; rw [if_pos HDB.out, hcw]
          have e2 : encE l = 0 := by unfold encE; rw [if_pos HDB.out]
          rw [e1, e2]
          refine ⟨some ⟨g, 0, none⟩, _, cp1, rfl, by rw [wI_len, wI_len, hcl, wI_len], hg1, hg2, ?_, (HE.out.trans HE5.out).trans hx1⟩
          have := own_mono hown hs5
          unfold OwnW at hown
          rw [hcl] at hown
          exact own_mono hown hs5
end Go.Proofs.YtcpanmonllhmaaaDoor
/- What Decode returns is unique. -/
namespace Go.Proofs.YtcpanmonllhmaaaDoor
open Go.RowKit

def DecF (l : List Int) (d : List F) (er k : Int) : Prop :=
  (wordB (-1) l = false → d = [] ∧ er = 0 ∧ k = 2) ∧ (wordB (-1) l = true → (∃ (cw : List F) (n : Nat), Near l cw n ∧ d = cw.take (l.length - 6) ∧ er = n ∧ k = 0) ∨ ((∀ cw n, ¬ Near l cw n) ∧ d = [] ∧ er = 0 ∧ k = 25))
theorem dec_same {l : List Int} {d d' : List F} {er er' k k' : Int} (h : DecF l d er k) (h' : DecF l d' er' k') : d = d' ∧ er = er' ∧ k = k' := by
  rcases Bool.eq_false_or_eq_true (wordB (-1) l) with hb | hb
  · have h15 := (word_mem hb).2.1
    rcases h.2 hb with ⟨c, n, h1, h2, h3, h4⟩ | ⟨h1, h2, h3, h4⟩ <;> rcases h'.2 hb with ⟨c', n', g1, g2, g3, g4⟩ | ⟨g1, g2, g3, g4⟩
    · obtain ⟨rfl, rfl⟩ := near_uniq (by omega) h1 g1
      exact ⟨by rw [h2, g2], by rw [h3, g3], by rw [h4, g4]⟩
    · exact absurd h1 (g1 _ _)
    · exact absurd g1 (h1 _ _)
    · exact ⟨by rw [h2, g2], by rw [h3, g3], by rw [h4, g4]⟩
  · obtain ⟨h2, h3, h4⟩ := h.1 hb
    obtain ⟨g2, g3, g4⟩ := h'.1 hb
    exact ⟨by rw [h2, g2], by rw [h3, g3], by rw [h4, g4]⟩

end Go.Proofs.YtcpanmonllhmaaaDoor
