/- bubble.Split. -/
import Derived.Test.YtndmadohffcdiaaSplit
namespace Go.Proofs.Ytndmadohffcdiaa
open Go.RowKit

/-- all[from:to:to]. -/
theorem IsI.sub {p : Nat} {w : World} {b off n c x y : Nat} {l : List Int} (h : IsI p w (.slice (some ⟨b, off, none⟩) n c) l) (hxy : x < y) (hy : y ≤ n) : IsI p w (.slice (some ⟨b, off + x, none⟩) (y - x) (y - x)) ((l.take y).drop x) := by
  have hl := h.len
  obtain ⟨A', c', hv, h1, h2, h3, h5, h4⟩ := h
  injection hv with ha hn hc
  subst ha; subst hc
  have hlk : ((l.take y).drop x).length = y - x := by rw [List.length_drop, List.length_take]; omega
  refine ⟨_, y - x, by rw [hlk], by omega, by omega, by omega, fun z hz => h5 z (List.mem_of_mem_take (List.mem_of_mem_drop hz)), fun i z hz => ?_⟩
  rw [List.getElem?_drop, List.getElem?_take] at hz
  split at hz
  · obtain ⟨b', off', ha, hb, hcell⟩ := h4 _ z hz
    injection ha with ha
    injection ha with e1 e2
    subst e1; subst e2
    exact ⟨b, off + x, rfl, hb, by rw [Nat.add_assoc]; exact hcell⟩
  · cases hz

theorem newRun_of {fs : List Fld} {k : Nat} {a b : Fld} (ha : fs[k + 1]? = some a) (hb : fs[k]? = some b) (h : a.part ≠ b.part) : newRun fs (k + 1) := by
  refine .inr fun a' b' ha' hb' => ?_
  rw [ha] at ha'; rw [Nat.add_sub_cancel, hb] at hb'
  injection ha' with ha'; injection hb' with hb'
  subst ha'; subst hb'; exact h
theorem not_newRun {fs : List Fld} {k : Nat} {a b : Fld} (ha : fs[k + 1]? = some a) (hb : fs[k]? = some b) (h : a.part = b.part) : ¬ newRun fs (k + 1) := by
  rintro (h0 | h0)
  · omega
  · exact h0 a b ha (by rw [Nat.add_sub_cancel]; exact hb) h

/-- Fields f to t - 1 have the part of field f. -/
def Same (fs : List Fld) (f t : Nat) (x : Int) : Prop := ∀ k q, f ≤ k → k < t → fs[k]? = some q → q.part = x
theorem Same.runs {fs : List Fld} {f t : Nat} {x : Int} (h : Same fs f t x) (ht : t ≤ fs.length) : ∀ k, f < k → k < t → ¬ newRun fs k := by
  intro k hk hkt
  obtain ⟨j, rfl⟩ : ∃ j, k = j + 1 := ⟨k - 1, by omega⟩
  have ha : fs[j + 1]? = some fs[j + 1] := List.getElem?_eq_getElem (by omega)
  have hb : fs[j]? = some fs[j] := List.getElem?_eq_getElem (by omega)
  exact not_newRun ha hb ((h _ _ (by omega) hkt ha).trans (h _ _ (by omega) (by omega) hb).symm)
theorem Same.step {fs : List Fld} {f t : Nat} {x : Int} {q : Fld} (h : Same fs f t x) (hq : fs[t]? = some q) (hx : q.part = x) : Same fs f (t + 1) x := by
  intro k r hk hkt hr
  rcases Nat.lt_or_ge k t with h1 | h1
  · exact h k r hk h1 hr
  · obtain rfl : k = t := by omega
    rw [hq] at hr; injection hr with hr; subst hr; exact hx
theorem Same.stop {fs : List Fld} {f t : Nat} {x : Int} {q : Fld} (h : Same fs f t x) (hft : f < t) (ht : t ≤ fs.length) (hq : fs[t]? = some q) (hx : q.part ≠ x) : newRun fs t := by
  obtain ⟨j, rfl⟩ : ∃ j, t = j + 1 := ⟨t - 1, by omega⟩
  have hb : fs[j]? = some fs[j] := List.getElem?_eq_getElem (by omega)
  exact newRun_of hq hb (fun e => hx (e.trans (h _ _ (by omega) (by omega) hb)))
theorem newRun_end {fs : List Fld} {k : Nat} (h : fs.length ≤ k) : newRun fs k := .inr fun a b ha => by
  rw [List.getElem?_eq_none h] at ha; cases ha

/-- The rows of v read, in the earlier world w1, as ls. -/
def RowsR (p base eS : Nat) (w1 w : World) (v : Value) (ls : List (List Int)) : Prop :=
  ∃ us : List Value, us.length = ls.length ∧ w.ownsRow base eS 1 v ls.length us ∧ Ext w1 w ∧ ∀ (j : Nat) (u : Value) (l : List Int), us[j]? = some u → ls[j]? = some l → IsI p w1 u l
theorem RowsR.isP {p base eS : Nat} {w1 w : World} {v : Value} {ls : List (List Int)} (h : RowsR p base eS w1 w v ls) (hp : p < base) : IsP p w v ls := by
  obtain ⟨us, a, b, c, f⟩ := h
  refine IsS.of_own (e := eS) (us.map fun u => [u]) (by simp) (by decide) (by simpa using a) (by rw [flat1]; exact b) hp ?_
  intro k cs x hcs hx
  simp only [List.getElem?_map, Option.map_eq_some_iff] at hcs
  obtain ⟨u, hu, rfl⟩ := hcs
  exact ⟨u, rfl, (f k u x hu hx).ext c⟩
theorem RowsR.push {p base eS : Nat} {w1 w w' : World} {v v' u : Value} {ls : List (List Int)} {us : List Value} {l : List Int} (h : RowsR p base eS w1 w v ls) (hus : w.ownsRow base eS 1 v ls.length us) (hu : IsI p w1 u l) (hx : Ext w1 w')
    (h' : w'.ownsRow base eS 1 v' (ls.length + 1) (us ++ [u])) : RowsR p base eS w1 w' v' (ls ++ [l]) := by
  obtain ⟨us0, a, b, c, f⟩ := h
  obtain rfl := own_uniq b hus
  refine ⟨us0 ++ [u], by simp [a], by simpa using h', hx, fun j z m hz hm => ?_⟩
  rcases Nat.lt_or_ge j ls.length with hj | hj
  · rw [List.getElem?_append_left (by omega)] at hz
    rw [List.getElem?_append_left hj] at hm
    exact f j z m hz hm
  · rw [List.getElem?_append_right (by omega)] at hz
    rw [List.getElem?_append_right hj] at hm
    have hj0 : j - ls.length = 0 := by
      have := (List.getElem?_eq_some_iff.1 hm).1
      simp at this; omega
    rw [a, hj0] at hz
    rw [hj0] at hm
    simp at hz hm
    subst hz; subst hm
    exact hu

set_option maxHeartbeats 4000000 in
set_option maxRecDepth 100000 in
theorem split_any (v0 : Value) (fs : List Fld) (v1 : Value) (cs : List Int) (w : World) {p : Nat} (hp : p < w.heap.size) (h0 : IsF p w v0 fs) (h1 : IsI p w v1 cs) (hl : cs.length ≤ 1000) :
    Calls Try.prog 25 #[v0, v1] w (SplitRet p w fs cs) := by
  obtain ⟨A0, n0, c0, rfl, hnc0, hc0, hnn0, HL0⟩ := h0.open_
  obtain ⟨A1, n1, c1, rfl, hnc1, hc1, hnn1, HL1⟩ := h1.open_
  obtain ⟨iS, hiS, hy0, hy1, hy2⟩ := info_parts Try.infoS
  have H0 := Lib.hid h0
  have H1 := Lib.hid h1
  have HL := Lib.hid hl
  clear h0 h1 hl
  by_cases hn : n0 = n1
  · subst hn
    go_enter Try.func25, Try.ntmps25
    go_wp2_with fail
    refine (clone_any _ cs _ hp H1.out HL.out).mono ?_
    rintro e w1 ⟨v2, rfl, hI, hE⟩
    obtain ⟨A2, n2, c2, rfl, hnc2, hc2, hnn2, HL2⟩ := hI.open_
    obtain rfl : n0 = n2 := HL1.out.symm.trans HL2.out
    have HI := Lib.hid hI
    have HE := Lib.hid hE
    have HF := Lib.hid (H0.out.ext (RFld.stab p) hE)
    have hp1 : p < w1.heap.size := Nat.lt_of_lt_of_le hp hE.size
    have hn1000 : n0 ≤ 1000 := by have := HL.out; have := HL1.out; omega
    clear hI hE
    go_wp2_with fail
    go_loopw [7, 8] (fun s7 s8 wr => ∃ (k n7 c7 : Nat) (A7 : Option Addr) (ls : List (List Int)), k ≤ n0 ∧ n7 ≤ k ∧ s7 = .slice A7 n7 c7 ∧ s8 = .int .i64 k ∧
        Hid (ls.length = n7 ∧ ls = runsTo fs cs k ∧ newRun fs k ∧ RowsR p w1.heap.size 28 w1 wr (.slice A7 n7 c7) ls)) (fun _ i _ => n0 - (intOf i).toNat)
    case atStart => exact ⟨0, 0, 0, none, [], by omega, by omega, rfl, rfl, rfl, rfl, .inl rfl, [], rfl, World.ownsRow_nil _ _ _ _, Ext.refl _, fun j u l hu => by simp at hu⟩
    case round =>
      obtain ⟨wo, rfl⟩ : ∃ wo : World, wo = wr := ⟨_, rfl⟩
      obtain ⟨k, n7, c7, A7, ls, hk, hn7, rfl, rfl, HR⟩ := hrel
      by_cases hlt : k < n0
      · obtain ⟨b, off, cs0, q0, rfl, _⟩ := H0.out.at_ hlt
        obtain ⟨b2, off2, x2, rfl, _⟩ := HI.out.at_ hlt
        have hEo : Ext w1 wo := HR.out.2.2.2.choose_spec.2.2.1
        have HEO := Lib.hid hEo
        have HFO := Lib.hid (HF.out.ext (RFld.stab p) hEo)
        obtain ⟨q, cq, _, HQ, hq1, hq2⟩ := HFO.out.fld hlt
        clear hEo
        go_wp2_with fail
        go_loopw [9] (fun s9 wr => ∃ (t m : Nat), k < t ∧ t ≤ n0 ∧ s9 = .int .i64 t ∧ wr = wo.drewN m ∧ Hid (Same fs k t q.part)) (fun i _ => n0 - (intOf i).toNat)
        case atStart => exact ⟨k + 1, 0, by omega, by omega, by go_num, rfl, fun j r hj hj' hr => by
          obtain rfl : j = k := by omega
          rw [HQ.out] at hr; injection hr with hr; rw [hr]⟩
        case round =>
          obtain ⟨t, m, ht, ht', rfl, rfl, HS⟩ := hrel
          by_cases htn : t < n0
          · obtain ⟨r, cr, _, HRq, hr1, hr2⟩ := HFO.out.fld htn
            by_cases hsame : r.part = q.part
            · have hb1 : (r.part == q.part) = true := by simp [hsame]
              go_wp2_with fail
              go_quiet (fail)
              go_wp2_with fail
              go_roundw
              case rel => exact ⟨t + 1, _, by omega, by omega, by go_num, rfl, HS.out.step HRq.out hsame⟩
              case measure => simp [intOf]; omega
            · have hb1 : (r.part == q.part) = false := by simp [hsame]
              obtain ⟨us, hus, hOS, _⟩ := HR.out.2.2.2
              have HOS : Hid (∀ m o, ((wo.drewN m).alloc o).ownsRow w1.heap.size 28 1 (.slice A7 n7 c7) n7 us) := fun m o => by have := own_ext hOS (((Ext.refl wo).drewN m).alloc o); rw [HR.out.1] at this; exact this
              have HOS0 := Lib.hid hOS
              clear hOS
              go_wp2_with fail
              go_quiet (fail)
              go_wp2_with (at_builtin; go_loud (refine wpList_push _ rfl (.tmp 42) (.tmp 48) 47 rfl w1.heap.size 28 iS _ 24 Try.underlying47 hiS hy0 hy1 hy2 rfl _ n7 us rfl (HOS.out _ _) _ _ rfl (blk_cell (heap_alloc_new (wo.drewN _) _) (i := 0) rfl) rfl (by omega) (by omega) (by have := HEO.out.size; first | omega | (simp; omega) | (show w1.heap.size ≤ (World.alloc _ _).heap.size; rw [World.heap_alloc_size]; show w1.heap.size ≤ wo.heap.size + 1; omega)) ?_); intro v' w3 hown' hg'; obtain ⟨g', cap', rfl, _, _⟩ := own_form hown' (by omega); have HO3 := Lib.hid hown'; have HE3 := Lib.hid (Ext.grown ((HEO.out.drewN _).alloc _) hg' (fun k hk => by have := own_ge (HOS.out 0 (.cells #[] 3)) k hk; omega)); clear hown' hg')
              go_roundw
              case rel => exact ⟨t, n7 + 1, cap', _, ls ++ [(cs.take t).drop k], by omega, by omega, rfl, rfl, by have := HR.out.1; simp; omega, by rw [HR.out.2.1]; exact (runs_whole (by have := HL1.out; omega) HR.out.2.2.1 ht (HS.out.runs (by have := HL0.out; omega))).symm, HS.out.stop ht (by have := HL0.out; omega) HRq.out hsame, HR.out.2.2.2.push HOS0.out (HI.out.sub ht (by omega)) HE3.out (by rw [HR.out.1]; exact HO3.out)⟩
              case measure => simp [intOf]; omega
          · obtain rfl : t = n0 := by omega
            obtain ⟨us, hus, hOS, _⟩ := HR.out.2.2.2
            have HOS : Hid (∀ m o, ((wo.drewN m).alloc o).ownsRow w1.heap.size 28 1 (.slice A7 n7 c7) n7 us) := fun m o => by have := own_ext hOS (((Ext.refl wo).drewN m).alloc o); rw [HR.out.1] at this; exact this
            have HOS0 := Lib.hid hOS
            clear hOS
            go_wp2_with fail
            go_quiet (fail)
            go_wp2_with (at_builtin; go_loud (refine wpList_push _ rfl (.tmp 42) (.tmp 48) 47 rfl w1.heap.size 28 iS _ 24 Try.underlying47 hiS hy0 hy1 hy2 rfl _ n7 us rfl (HOS.out _ _) _ _ rfl (blk_cell (heap_alloc_new (wo.drewN _) _) (i := 0) rfl) rfl (by omega) (by omega) (by have := HEO.out.size; first | omega | (simp; omega) | (show w1.heap.size ≤ (World.alloc _ _).heap.size; rw [World.heap_alloc_size]; show w1.heap.size ≤ wo.heap.size + 1; omega)) ?_); intro v' w3 hown' hg'; obtain ⟨g', cap', rfl, _, _⟩ := own_form hown' (by omega); have HO3 := Lib.hid hown'; have HE3 := Lib.hid (Ext.grown ((HEO.out.drewN _).alloc _) hg' (fun k hk => by have := own_ge (HOS.out 0 (.cells #[] 3)) k hk; omega)); clear hown' hg')
            go_roundw
            case rel => exact ⟨t, n7 + 1, cap', _, ls ++ [(cs.take t).drop k], by omega, by omega, rfl, rfl, by have := HR.out.1; simp; omega, by rw [HR.out.2.1]; exact (runs_whole (by have := HL1.out; omega) HR.out.2.2.1 ht (HS.out.runs (by have := HL0.out; omega))).symm, newRun_end (by have := HL0.out; omega), HR.out.2.2.2.push HOS0.out (HI.out.sub ht (by omega)) HE3.out (by rw [HR.out.1]; exact HO3.out)⟩
            case measure => simp [intOf]; omega
      · obtain rfl : k = n0 := by omega
        go_wp2_with fail
        refine bodyPost_ret (v := .tuple #[.slice A7 n7 c7, .int .i64 0]) (by simp [results, Try.results25, go_sem]) rfl ⟨_, ls, 0, rfl, HR.out.2.2.2.isP hp1, HE.out.trans HR.out.2.2.2.choose_spec.2.2.1, fun h => absurd (HL0.out.trans HL1.out.symm) h, fun _ => ⟨by rw [HR.out.2.1, HL1.out], rfl⟩⟩
  · have hne : ((n0 : Int) != n1) = true := by simp; omega
    go_enter Try.func25, Try.ntmps25
    go_wp2_with fail
    refine bodyPost_ret (v := .tuple #[.slice none 0 0, .int .i64 1]) (by simp [results, Try.results25, go_sem]) rfl ⟨_, [], 1, rfl, IsS.nil _ _ _ _, Ext.refl _, fun _ => ⟨rfl, rfl⟩, fun h => absurd h (by have := HL0.out; have := HL1.out; omega)⟩
end Go.Proofs.Ytndmadohffcdiaa
