/- rscode.corrections. -/
import Derived.Test.YtcpanmonllhmaaaDoorRsI
import Derived.Test.YtcpanmonllhmaaaDoorGBaseD
import Derived.Deep.OwnRows
set_option linter.unusedSimpArgs false
set_option linter.unusedVariables false
namespace Go.Proofs.YtcpanmonllhmaaaDoor
open Go.RowKit

/-- A list of places as ints. -/
def psI (ps : List Nat) : List Int := ps.map fun (p : Nat) => (p : Int)
theorem psI_len (ps : List Nat) : (psI ps).length = ps.length := by simp [psI]
theorem psI_at {ps : List Nat} {k : Nat} {x : Int} (h : (psI ps)[k]? = some x) : ∃ p : Nat, ps[k]? = some p ∧ x = (p : Int) := by
  unfold psI at h
  rw [List.getElem?_map, Option.map_eq_some_iff] at h
  obtain ⟨c, h1, h2⟩ := h
  exact ⟨c, h1, h2.symm⟩

/-- The rows of a matrix, as far as row j, and row j as far as column k. -/
def rowsTo (M : Nat → Nat → F) (wd j k : Nat) : List (List Int) := (List.range 6).map fun r => if r < j then F.rowI M wd r else if r = j then (F.rowI M wd r).take k else []
theorem rowsTo_len (M : Nat → Nat → F) (wd j k : Nat) : (rowsTo M wd j k).length = 6 := by simp [rowsTo]
theorem rowsTo_at {M : Nat → Nat → F} {wd j k r : Nat} (h : r < 6) : (rowsTo M wd j k)[r]? = some (if r < j then F.rowI M wd r else if r = j then (F.rowI M wd r).take k else []) := by
  unfold rowsTo; rw [List.getElem?_map, List.getElem?_range h]; rfl
theorem rowsTo_set {M : Nat → Nat → F} {wd j k : Nat} {x : Int} (hj : j < 6) (hx : (F.rowI M wd j)[k]? = some x) : (rowsTo M wd j k).set j ((F.rowI M wd j).take k ++ [x]) = rowsTo M wd j (k + 1) := by
  apply List.ext_getElem?
  intro r
  rcases Nat.lt_or_ge r 6 with hr | hr
  · rw [List.getElem?_set, rowsTo_at hr, rowsTo_at hr, rowsTo_len]
    by_cases e : j = r
    · subst e; rw [if_pos rfl, if_pos hr, if_neg (by omega), if_pos rfl, take_snoc hx]
    · rw [if_neg e, if_neg (show ¬ r = j from fun h => e h.symm), if_neg (show ¬ r = j from fun h => e h.symm)]
  · rw [List.getElem?_eq_none (by rw [List.length_set, rowsTo_len]; exact hr), List.getElem?_eq_none (by rw [rowsTo_len]; exact hr)]
theorem rowsTo_next (M : Nat → Nat → F) (wd j : Nat) : rowsTo M wd j wd = rowsTo M wd (j + 1) 0 := by
  unfold rowsTo
  refine List.map_congr_left fun r _ => ?_
  by_cases e : r < j
  · rw [if_pos e, if_pos (by omega)]
  · rw [if_neg e]
    by_cases e2 : r = j
    · rw [if_pos e2, if_pos (by omega), List.take_of_length_le (by rw [F.rowI_len]; exact Nat.le_refl _)]
    · rw [if_neg e2, if_neg (by omega)]
      split <;> simp
theorem rowsTo_all (M : Nat → Nat → F) (wd : Nat) : rowsTo M wd 6 0 = F.matI M wd := by
  unfold rowsTo F.matI
  exact List.map_congr_left fun r hr => if_pos (List.mem_range.1 hr)
theorem rowsTo_zero (M : Nat → Nat → F) (wd : Nat) : rowsTo M wd 0 0 = List.replicate 6 [] := by
  unfold rowsTo
  apply List.ext_getElem?
  intro r
  rcases Nat.lt_or_ge r 6 with hr | hr
  · rw [List.getElem?_map, List.getElem?_range hr, List.getElem?_replicate, if_pos hr]
    simp
  · rw [List.getElem?_eq_none (by simpa using hr), List.getElem?_eq_none (by simpa using hr)]

/-- From rows of the call's own to a matrix. -/
theorem Mat.matW {base g eS eI cap wd : Nat} {w : World} {M : Nat → Nat → F} (h : Mat base eS eI w (.slice (some ⟨g, 0, none⟩) 6 cap) (F.matI M wd)) (hne : eS ≠ eI) (hw : 0 < wd) : MatW base g eS eI w M wd := by
  obtain ⟨us, a, b, c, d⟩ := h
  rw [F.matI_len] at a b
  rcases b.2 with ⟨e, _⟩ | ⟨g', cap', cur, e, hg, hh, hnc, hcm, hcs, htk⟩
  · cases e
  injection e with e1 e2 e3
  injection e1 with e1
  injection e1 with e1
  subst e1
  rw [Nat.mul_one] at htk
  have hrow : ∀ r, r < 6 → ∃ br cr, us[r]? = some (.slice (some ⟨br, 0, none⟩) wd cr) ∧ base ≤ br ∧ wd ≤ cr ∧ cr ≤ 9223372036854775807 ∧ ∃ cu : Array Value, w.heap[br]? = some (.cells cu eI (0, 0)) ∧ ∀ i, i < wd → cu[i]? = some (.int .i64 ((M r i).n : Int)) := by
    intro r hr
    have hu : us[r]? = some us[r] := List.getElem?_eq_getElem (by omega)
    have ho := c r _ _ hu (F.matI_at hr)
    rw [F.rowI_len] at ho
    rcases ho.2 with ⟨e, h0⟩ | ⟨br, cr, cu, e, hb, hhb, h1, h2, h3, h4⟩
    · omega
    · refine ⟨br, cr, by rw [hu, e], hb, h1, h2, cu, hhb, fun i hi => ?_⟩
      rw [Nat.mul_one] at h4
      have : (cu.toList.take wd)[i]? = some (.int .i64 ((M r i).n : Int)) := by
        rw [h4, List.getElem?_map, F.rowI_at hi]; rfl
      rw [List.getElem?_take, if_pos hi] at this
      simpa using this
  let br : Nat → Nat := fun r => if h : r < 6 then (hrow r h).choose else 0
  have hbr : ∀ r (h : r < 6), br r = (hrow r h).choose := fun r h => dif_pos h
  let cr : Nat → Nat := fun r => if h : r < 6 then (hrow r h).choose_spec.choose else 0
  have hcr : ∀ r (h : r < 6), cr r = (hrow r h).choose_spec.choose := fun r h => dif_pos h
  have spec : ∀ r, r < 6 → us[r]? = some (.slice (some ⟨br r, 0, none⟩) wd (cr r)) ∧ base ≤ br r ∧ wd ≤ cr r ∧ cr r ≤ 9223372036854775807 ∧ ∃ cu : Array Value, w.heap[br r]? = some (.cells cu eI (0, 0)) ∧ ∀ i, i < wd → cu[i]? = some (.int .i64 ((M r i).n : Int)) := fun r h => by
    rw [hbr r h, hcr r h]; exact (hrow r h).choose_spec.choose_spec
  refine ⟨br, cr, cur, ⟨hh, fun r hr => ?_, fun r hr => (spec r hr).2.2.2.2, fun r s hr hs he => ?_, fun r hr he => ?_, fun r hr => (spec r hr).2.1, hg, fun r hr => ⟨(spec r hr).2.2.1, (spec r hr).2.2.2.1⟩⟩⟩
  · have := (spec r hr).1
    rw [← htk, List.getElem?_take, if_pos hr] at this
    simpa using this
  · rcases Nat.decEq r s with hne' | heq
    · exact absurd (by rw [he]; rfl) (d r s _ _ (br r) hne' (spec r hr).1 (spec s hs).1 rfl)
    · exact heq
  · obtain ⟨cu, h1, _⟩ := (spec r hr).2.2.2.2
    rw [he, hh] at h1
    injection h1 with h1
    injection h1 with _ h2
    exact hne h2

theorem mat6_new {base eS eI : Nat} (w : World) (hb : base ≤ w.heap.size) : Mat base eS eI (w.alloc (.cells #[.slice none 0 0, .slice none 0 0, .slice none 0 0, .slice none 0 0, .slice none 0 0, .slice none 0 0] eS)) (.slice (some ⟨w.heap.size, 0, none⟩) 6 6) (List.replicate 6 []) := by
  refine ⟨List.replicate 6 (.slice none 0 0), by simp, ⟨by simp, .inr ⟨w.heap.size, 6, _, rfl, hb, heap_alloc_new w _, by simp, by unfold maxLen; omega, by simp, by simp [List.replicate]⟩⟩, fun j u l hu hl => ?_, fun i j u u' k _ hu _ hk => ?_⟩
  · obtain rfl := (List.mem_replicate.1 (List.mem_of_getElem? hu)).2
    obtain rfl := (List.mem_replicate.1 (List.mem_of_getElem? hl)).2
    exact World.ownsRow_nil _ _ _ _
  · obtain rfl := (List.mem_replicate.1 (List.mem_of_getElem? hu)).2
    simp [Value.ownBlock] at hk
end Go.Proofs.YtcpanmonllhmaaaDoor
/- rscode.corrections: the walk. -/
namespace Go.Proofs.YtcpanmonllhmaaaDoor
open Go.RowKit

theorem make_ints (n : Nat) (hn : n ≤ 1000000) (w : World) : (Instr.makeSlice 22 (.int .i64 (n : Int)) (.int .i64 (n : Int))).run Tryd.prog w = .ok (.slice (some ⟨w.heap.size, 0, none⟩) n n) (w.alloc (.cells (madeCells #[.int .i64 0] n) 3)) :=
  run_make_row' 22 3 (.int .i64 0) 8 Tryd.underlying22 Tryd.infoI rfl .i64 .i64 n (by omega) (by omega) w
theorem make_rows (w : World) : (Instr.makeSlice 105 (.int .i64 6) (.int .i64 6)).run Tryd.prog w = .ok (.slice (some ⟨w.heap.size, 0, none⟩) 6 6) (w.alloc (.cells #[.slice none 0 0, .slice none 0 0, .slice none 0 0, .slice none 0 0, .slice none 0 0, .slice none 0 0] 22)) := by
  have h := run_make_row' (P := Tryd.prog) 105 22 (.slice none 0 0) 24 Tryd.underlying105 Tryd.infoS rfl .i64 .i64 6 (by omega) (by omega) w
  rw [show madeCells #[Value.slice none 0 0] 6 = #[.slice none 0 0, .slice none 0 0, .slice none 0 0, .slice none 0 0, .slice none 0 0, .slice none 0 0] from by kernel_rfl] at h
  exact h
theorem made_zero (n : Nat) : (madeCells #[Value.int .i64 0] n) = ((wI (List.replicate n 0)).map (Value.int .i64)).toArray := by
  apply Array.ext
  · simp [madeCells, wI]
  · intro i h1 h2
    simp [madeCells, wI, Nat.mod_one, F.n_zero]
theorem ownW_made {base : Nat} (w : World) (n : Nat) (hb : base ≤ w.heap.size) (hn : n ≤ 1000000) : OwnW base (w.alloc (.cells (madeCells #[.int .i64 0] n) 3)) (.slice (some ⟨w.heap.size, 0, none⟩) n n) (List.replicate n 0) := by
  rw [made_zero]
  unfold OwnW
  refine ⟨by simp [wI], .inr ⟨w.heap.size, n, _, by simp, hb, heap_alloc_new w _, by simp, by unfold maxLen; omega, by simp [wI], ?_⟩⟩
  simp [wI]

/-- What corrections returns. -/
def CorrRet (w : World) (wd : List F) (ps : List Nat) (e : Ending) (w' : World) : Prop :=
  ∃ (A : Option Addr) (m cp : Nat) (b : Bool), e = .returned (.tuple #[.slice A m cp, .bool b]) ∧ Ext w w' ∧
    (b = true → ∃ xs : List F, xs.length = ps.length ∧ OwnW w.heap.size w' (.slice A m cp) xs ∧ F.Code (F.addAt wd ps xs)) ∧
    (b = false → ∀ c, F.Off wd c ps → ¬ F.Code c)

set_option maxRecDepth 100000 in
set_option maxHeartbeats 4000000 in
theorem corr_any {q : Nat} (v : Value) (wd : List F) (ps : List Nat) (n : Nat) (w : World) (hT : Tabs w) (hI : IsI q w v (psI ps)) (hn : wd.length = n) (hn31 : n ≤ 31) (hd : ps.Nodup) (hlt : ∀ p ∈ ps, p < n) (h6 : ps.length ≤ 6) :
    Calls Tryd.prog 76 #[.agg #[.int .i64 ((synF wd 0).n : Int), .int .i64 ((synF wd 1).n : Int), .int .i64 ((synF wd 2).n : Int), .int .i64 ((synF wd 3).n : Int), .int .i64 ((synF wd 4).n : Int), .int .i64 ((synF wd 5).n : Int)], .int .i64 (n : Int), v] w (CorrRet w wd ps) := by
  have h0 := hI.re (q := w.heap.size) (Nat.le_refl _)
  obtain ⟨A, u, c, rfl, hnc, hc, hnn, HL⟩ := hI.open_
  have HU : Hid (ps.length = u) := by have := HL.out; rw [psI_len] at this; exact this
  have hu6 : u ≤ 6 := by have := HU.out; omega
  have HI := Lib.hid h0
  have HT := Lib.hid hT
  have HN := Lib.hid hn
  have HD := Lib.hid hd
  have HLT := Lib.hid hlt
  clear hI hT h0 hn hd hlt h6 HL
  obtain ⟨i0, hi0, hz0, hz1, hz2⟩ := info_parts Tryd.infoI
  have hb2 : 2 ≤ w.heap.size := HT.out.lt
  go_enter Tryd.func76, Tryd.ntmps76
  have hmk := make_rows
  go_upto_region 2 with (fail)
  clear hmk
  have HM0 := Lib.hid (mat6_new (base := w.heap.size) (eI := 3) (eS := 22) (w.alloc (.cells #[.int .i64 ((synF wd 0).n : Int), .int .i64 ((synF wd 1).n : Int), .int .i64 ((synF wd 2).n : Int), .int .i64 ((synF wd 3).n : Int), .int .i64 ((synF wd 4).n : Int), .int .i64 ((synF wd 5).n : Int)] 78)) (by rw [World.size_alloc]; omega))
  have HS0 := Lib.hid (((Ext.refl _).alloc (.cells #[.slice none 0 0, .slice none 0 0, .slice none 0 0, .slice none 0 0, .slice none 0 0, .slice none 0 0] 22)).blk (heap_alloc_new w (.cells #[.int .i64 ((synF wd 0).n : Int), .int .i64 ((synF wd 1).n : Int), .int .i64 ((synF wd 2).n : Int), .int .i64 ((synF wd 3).n : Int), .int .i64 ((synF wd 4).n : Int), .int .i64 ((synF wd 5).n : Int)] 78)))
  have HE0 := Lib.hid (((Ext.refl w).alloc (.cells #[.int .i64 ((synF wd 0).n : Int), .int .i64 ((synF wd 1).n : Int), .int .i64 ((synF wd 2).n : Int), .int .i64 ((synF wd 3).n : Int), .int .i64 ((synF wd 4).n : Int), .int .i64 ((synF wd 5).n : Int)] 78)).alloc (.cells #[.slice none 0 0, .slice none 0 0, .slice none 0 0, .slice none 0 0, .slice none 0 0, .slice none 0 0] 22))
  rw [World.size_alloc] at HM0
  generalize (w.alloc (.cells #[.int .i64 ((synF wd 0).n : Int), .int .i64 ((synF wd 1).n : Int), .int .i64 ((synF wd 2).n : Int), .int .i64 ((synF wd 3).n : Int), .int .i64 ((synF wd 4).n : Int), .int .i64 ((synF wd 5).n : Int)] 78)).alloc (.cells #[.slice none 0 0, .slice none 0 0, .slice none 0 0, .slice none 0 0, .slice none 0 0, .slice none 0 0] 22) = W at *
  replace HS0 : Hid (W.heap[w.heap.size]? = some (.cells (arrF (synF wd) 6) 78 (0, 0))) := HS0.out
  have hb0 : w.heap.size < W.heap.size := lt_of_blk HS0.out
  go_wp2_with fail
  go_loopw [17] (fun s17 wr => ∃ (j : Nat), s17 = .int .i64 j ∧ j ≤ 6 ∧ Hid (Mat w.heap.size 22 3 wr (.slice (some ⟨w.heap.size + 1, 0, none⟩) 6 6) (rowsTo (F.sysM wd ps) (u + 1) j 0) ∧ Ext w wr ∧ wr.heap[w.heap.size]? = some (.cells (arrF (synF wd) 6) 78 (0, 0)))) (fun i _ => 6 - (intOf i).toNat)
  case atStart => exact ⟨0, rfl, by omega, by rw [rowsTo_zero]; exact HM0.out, HE0.out, HS0.out⟩
  case round =>
    clear HM0 HE0 HS0
    obtain ⟨j, rfl, hj, HJ⟩ := hrel
    by_cases hj6 : j < 6
    · have hd : decide ((j : Int) < 6) = true := by simp; omega
      obtain ⟨wo, rfl⟩ : ∃ wo : World, wo = wr := ⟨_, rfl⟩
      go_wp2_with fail
      go_loopw [22] (fun s22 wr => ∃ (k : Nat), s22 = .int .i64 k ∧ k ≤ u ∧ Hid (Mat w.heap.size 22 3 wr (.slice (some ⟨w.heap.size + 1, 0, none⟩) 6 6) (rowsTo (F.sysM wd ps) (u + 1) j k) ∧ Ext w wr ∧ wr.heap[w.heap.size]? = some (.cells (arrF (synF wd) 6) 78 (0, 0)))) (fun i _ => u - (intOf i).toNat)
      case atStart => exact ⟨0, rfl, by omega, HJ.out⟩
      case round =>
        clear HJ
        obtain ⟨k, rfl, hk, HK⟩ := hrel
        by_cases hku : k < u
        · have HIr := Lib.hid (HI.out.ext HK.out.2.1)
          have HTr := Lib.hid (HT.out.ext HK.out.2.1)
          obtain ⟨b, o, z, rfl, -⟩ := HIr.out.at_ hku
          obtain ⟨z, hcz, HZ, -⟩ := HIr.out.cell_ hku
          obtain ⟨pl, hpl, rfl⟩ := psI_at HZ.out
          have hpn : pl < n := HLT.out pl (List.mem_of_getElem? hpl)
          obtain ⟨m, hm⟩ : ∃ m : Nat, m = (j + 1) * (n - 1 - pl) := ⟨_, rfl⟩
          have hmb : m ≤ 1000 := by
            have h1 : (j + 1) * (n - 1 - pl) ≤ 6 * 31 := Nat.mul_le_mul (by omega) (by omega)
            omega
          have HRI : Hid ((F.rowI (F.sysM wd ps) (u + 1) j)[k]? = some ((F.gp m).n : Int)) := by
            show _ = _
            rw [F.rowI_at (by omega)]
            have e : ps.getD k 0 = pl := by rw [List.getD_eq_getElem?_getD, hpl]; rfl
            unfold F.sysM
            rw [if_pos (by rw [HU.out]; exact hku), HN.out, e, ← hm]
          have hwm : Hid (IntKind.i64.wrap (IntKind.i64.wrap ((j : Int) + 1) * IntKind.i64.wrap (IntKind.i64.wrap ((n : Int) - 1) - (pl : Int))) = (m : Int)) := by
            show _ = _
            rw [IntWalk.i64_in ((j : Int) + 1) (by omega), IntWalk.i64_in ((n : Int) - 1) (by omega), IntWalk.i64_in ((n : Int) - 1 - (pl : Int)) (by omega)]
            have hm' : ((j : Int) + 1) * ((n : Int) - 1 - (pl : Int)) = (m : Int) := by
              rw [hm, Int.natCast_mul, show (((j + 1 : Nat)) : Int) = (j : Int) + 1 by omega, show (((n - 1 - pl : Nat)) : Int) = (n : Int) - 1 - (pl : Int) by omega]
            rw [hm']; exact IntWalk.i64_in _ (by omega)
          clear hm hpl HZ
          obtain ⟨Au, mu, cu, lu, hlu, hmu, hcu, hfu, -, -, hou, -, hstep⟩ := HK.out.1.row (rowsTo_len _ _ _ _) (by decide) hj6
          rw [rowsTo_at hj6, if_neg (by omega), if_pos rfl] at hlu
          injection hlu with hlu
          have hmk : mu = k := by rw [← hmu, ← hlu, List.length_take, F.rowI_len]; omega
          have HSTEP := Lib.hid hstep
          have HOU := Lib.hid hou
          have HLU := Lib.hid hlu
          subst hmk
          clear hstep hou hlu hmu
          have HFS := Lib.hid HK.out.2.2
          have HEK := Lib.hid HK.out.2.1
          have hS : wr.drew.cell? ⟨w.heap.size + 1, j, none⟩ = some (.slice Au mu cu) := hcu
          replace hS := Lib.hid hS
          have e1 : (0 : Int) ≤ (j : Int) := Int.natCast_nonneg _
          have e2 : (j : Int) < 6 := by omega
          go_upto_region 8 with (fail)
          refine wp_region_k 17 (fun w' => w'.cell? ⟨w.heap.size + 1, j, none⟩ = some (.slice Au mu cu)) (by kernel_rfl) ?_
          refine wpAnyK_take 0 (some 26) (v := ?kv1) rfl rfl (by kernel_rfl) (by kernel_rfl) (by kernel_rfl) (by decide) (by kernel_rfl) (fun _ _ _ h => h) (by rfl) ?ky1 hS.out ?kr1
          case ky1 => ((intro wk hk); (try dsimp only at hk); go_simp; try with_reducible rfl)
          try simp only [Act.put, List.setIfInBounds_toArray, List.set_cons_zero, List.set_cons_succ]
          refine wpAnyK_take 1 (some 27) (v := ?kv2) rfl rfl (by kernel_rfl) (by kernel_rfl) (by kernel_rfl) (by decide) (by kernel_rfl) (fun _ _ _ h => h) (by rfl) ?ky2 hS.out ?kr2
          case ky2 => ((intro wk hk); (try dsimp only at hk); go_simp; try with_reducible rfl)
          try simp only [Act.put, List.setIfInBounds_toArray, List.set_cons_zero, List.set_cons_succ]
          refine wpAnyK_take 2 (some 28) (v := ?kv3) rfl rfl (by kernel_rfl) (by kernel_rfl) (by kernel_rfl) (by decide) (by kernel_rfl) (fun _ _ _ h => h) (by rfl) ?ky3 hS.out ?kr3
          case ky3 => ((intro wk hk); (try dsimp only at hk); go_simp; try with_reducible rfl)
          try simp only [Act.put, List.setIfInBounds_toArray, List.set_cons_zero, List.set_cons_succ]
          refine wpAnyK_take 3 (some 29) (v := ?kv4) rfl rfl (by kernel_rfl) (by kernel_rfl) (by kernel_rfl) (by decide) (by kernel_rfl) (fun _ _ _ h => h) (by rfl) ?ky4 hS.out ?kr4
          case ky4 => ((intro wk hk); (try dsimp only at hk); go_simp; try with_reducible rfl)
          try simp only [Act.put, List.setIfInBounds_toArray, List.set_cons_zero, List.set_cons_succ]
          refine wpAnyK_take 4 (some 30) (v := ?kv5) rfl rfl (by kernel_rfl) (by kernel_rfl) (by kernel_rfl) (by decide) (by kernel_rfl) (fun _ _ _ h => h) (by rfl) ?ky5 hS.out ?kr5
          case ky5 => ((intro wk hk); (try dsimp only at hk); go_simp; try with_reducible rfl)
          try simp only [Act.put, List.setIfInBounds_toArray, List.set_cons_zero, List.set_cons_succ]
          refine wpAnyK_take 5 (some 31) (v := ?kv6) rfl rfl (by kernel_rfl) (by kernel_rfl) (by kernel_rfl) (by decide) (by kernel_rfl) (fun _ _ _ h => h) (by rfl) ?ky6 hS.out ?kr6
          case ky6 => ((intro wk hk); (try dsimp only at hk); go_simp; try with_reducible rfl)
          try simp only [Act.put, List.setIfInBounds_toArray, List.set_cons_zero, List.set_cons_succ]
          refine wpAnyK_take 6 (some 32) (v := ?kv7) rfl rfl (by kernel_rfl) (by kernel_rfl) (by kernel_rfl) (by decide) (by kernel_rfl) (fun _ _ _ h => h) (by rfl) ?ky7 hS.out ?kr7
          case ky7 => ((intro wk hk); (try dsimp only at hk); go_simp; try with_reducible rfl)
          try simp only [Act.put, List.setIfInBounds_toArray, List.set_cons_zero, List.set_cons_succ]
          refine wpAnyK_take 7 (some 33) (v := ?kv8) rfl rfl (by kernel_rfl) (by kernel_rfl) (by kernel_rfl) (by decide) (by kernel_rfl) (fun _ _ _ h => h) (by rfl) ?ky8 hS.out ?kr8
          case ky8 => ((intro wk hk); (try dsimp only at hk); go_simp; try with_reducible rfl)
          try simp only [Act.put, List.setIfInBounds_toArray, List.set_cons_zero, List.set_cons_succ]
          refine wpAnyK_take 8 (some 34) (v := ?kv9) rfl rfl (by kernel_rfl) (by kernel_rfl) (by kernel_rfl) (by decide) (by kernel_rfl) (fun _ _ _ h => h) (by rfl) ?ky9 hS.out ?kr9
          case ky9 => ((intro wk hk); (try dsimp only at hk); go_simp; try with_reducible rfl)
          try simp only [Act.put, List.setIfInBounds_toArray, List.set_cons_zero, List.set_cons_succ]
          refine wpAnyK_take 9 (some 35) (v := ?kv10) rfl rfl (by kernel_rfl) (by kernel_rfl) (by kernel_rfl) (by decide) (by kernel_rfl) (fun _ _ _ h => h) (by rfl) ?ky10 hS.out ?kr10
          case ky10 => ((intro wk hk); (try dsimp only at hk); go_simp; try with_reducible rfl)
          try simp only [Act.put, List.setIfInBounds_toArray, List.set_cons_zero, List.set_cons_succ]
          refine wpAnyK_take 10 (some 36) (v := ?kv11) rfl rfl (by kernel_rfl) (by kernel_rfl) (by kernel_rfl) (by decide) (by kernel_rfl) (fun _ _ _ h => h) (by rfl) ?ky11 hS.out ?kr11
          case ky11 => ((intro wk hk); (try dsimp only at hk); go_simp; try with_reducible rfl)
          try simp only [Act.put, List.setIfInBounds_toArray, List.set_cons_zero, List.set_cons_succ]
          refine wpAnyK_take 11 (some 37) (v := ?kv12) rfl rfl (by kernel_rfl) (by kernel_rfl) (by kernel_rfl) (by decide) (by kernel_rfl) (fun _ _ _ h => h) (by rfl) ?ky12 hS.out ?kr12
          case ky12 => ((intro wk hk); (try dsimp only at hk); go_simp; try with_reducible rfl)
          try simp only [Act.put, List.setIfInBounds_toArray, List.set_cons_zero, List.set_cons_succ]
          refine wpAnyK_take 12 (some 38) (v := ?kv13) rfl rfl (by kernel_rfl) (by kernel_rfl) (by kernel_rfl) (by decide) (by kernel_rfl) (fun _ _ _ h => h) (by rfl) ?ky13 hS.out ?kr13
          case ky13 => ((intro wk hk); (try dsimp only at hk); go_simp; try with_reducible rfl)
          try simp only [Act.put, List.setIfInBounds_toArray, List.set_cons_zero, List.set_cons_succ]
          refine wpAnyK_one 13 (by kernel_rfl) rfl (fun K hK => ?_)
          go_simp
          rw [hwm.out]
          refine (power_F m _ (HTr.out.ext (Ext.refl _).drew) (by omega)).mono ?_
          rintro e x1 ⟨rfl, hx1⟩
          have HX1 : Hid (Ext wr x1) := by rw [hx1]; exact (Ext.refl wr).drew
          clear hx1
          replace hcu := HX1.out.cell hcu
          replace hS := Lib.hid hcu
          refine hK.out _ _ (fun _ => hS.out) ?_
          clear hK K
          try simp only [Act.put, List.setIfInBounds_toArray, List.set_cons_zero, List.set_cons_succ]
          refine wpAnyK_one 14 (by kernel_rfl) rfl (fun K hK => ?_)
          go_simp
          have E1 := Lib.hid ((Ext.refl x1).alloc (.cells #[.int .i64 ((F.gp m).n : Int)] 3))
          refine hK.out _ _ (fun _ => E1.out.cell hcu) ?_
          clear hK K
          try simp only [Act.put, List.setIfInBounds_toArray, List.set_cons_zero, List.set_cons_succ]
          refine wpAnyK_one 15 (by kernel_rfl) rfl (fun K hK => ?_)
          refine step_append_lies _ (by rfl) _ _ _ (by rfl) w.heap.size 3 i0 _ 1 8 Tryd.underlying22 hi0 hz0 hz1 hz2 rfl (by omega) (.slice Au mu cu) mu (lu.map (Value.int .i64)) (by rfl) ((own_ext HOU.out HX1.out).alloc _) ⟨x1.heap.size, 0, none⟩ 1 1 [.int .i64 ((F.gp m).n : Int)] (by rfl) (by rfl) (World.news_of_block (cs := #[.int .i64 ((F.gp m).n : Int)]) (t := 3) (fr := (0, 0)) (heap_alloc_new x1 _)) (by simp [Value.oneCell']) (by omega) (by unfold maxLen; omega) (by omega) (by have := HX1.out.size; have := HEK.out.size; simp; omega) (x1.heap.size + 1) (by simp) ?_
          intro gg cap w3 hown3 hgrow hat hlt3
          have HH := Lib.hid (HSTEP.out 0 _ _ gg cap ((F.gp m).n : Int) (HX1.out.trans E1.out).xt (by omega) hgrow hown3 (hat.imp id (fun e => by have := HX1.out.size; omega)))
          have HE3 := Lib.hid (Ext.grown ((HEK.out.trans HX1.out).trans E1.out) hgrow (own_ge HOU.out))
          have HF3 : Hid (w3.heap[w.heap.size]? = some (.cells (arrF (synF wd) 6) 78 (0, 0))) := by
            have h1 := (HX1.out.trans E1.out).blk HFS.out
            exact (hgrow.block _ (lt_of_blk h1) (fun e => own_ne HOU.out HFS.out (by decide) e.symm)).trans h1
          clear hown3 hgrow hat hlt3
          change K (Act.put _ (some 41) _) w3
          have hc3 := HH.out.1
          have hf3 := HH.out.2.1
          refine hK.out _ _ (fun _ => hc3) ?_
          clear hK K
          try simp only [Act.put, List.setIfInBounds_toArray, List.set_cons_zero, List.set_cons_succ]
          refine wpAnyK_take 16 (some 42) (v := ?kv14) rfl rfl (by kernel_rfl) (by kernel_rfl) (by kernel_rfl) (by decide) (by kernel_rfl) (fun _ _ _ h => h) (by rfl) ?ky14 hc3 ?kr14
          case ky14 => ((intro wk hk); (try dsimp only at hk); go_simp; try with_reducible rfl)
          try simp only [Act.put, List.setIfInBounds_toArray, List.set_cons_zero, List.set_cons_succ]
          refine wpAnyK_one 17 (by kernel_rfl) rfl (fun K hK => ?_)
          go_simp
          refine hK.out _ _ (fun h => absurd rfl h) ?_
          clear hK K
          refine wpAnyK_done (by kernel_rfl) ?_ _
          have HM4 := HH.out.2.2
          rw [← HLU.out, rowsTo_set hj6 HRI.out] at HM4
          replace HM4 := Lib.hid HM4
          have HE4 := Lib.hid (HE3.out.setCell (p := ⟨w.heap.size + 1, j, none⟩) (by simp) (.slice (some ⟨gg, 0, none⟩) (mu + 1) cap))
          have HF4 : Hid ((w3.setCell ⟨w.heap.size + 1, j, none⟩ (.slice (some ⟨gg, 0, none⟩) (mu + 1) cap)).heap[w.heap.size]? = some (.cells (arrF (synF wd) 6) 78 (0, 0))) := by
            show _ = _
            rw [Below.heap_setCell _ _ _ _ (by simp)]; exact HF3.out
          clear hc3 hf3 HH
          go_wp2_with fail
          go_roundw
          case rel => exact ⟨mu + 1, by go_num, by omega, HM4.out, HE4.out, HF4.out⟩
          case measure => simp [intOf]; omega
        · have hke : k = u := by omega
          rw [hke] at HK
          clear hke
          have HRI : Hid ((F.rowI (F.sysM wd ps) (u + 1) j)[u]? = some ((synF wd j).n : Int)) := by
            show _ = _
            rw [F.rowI_at (by omega)]
            unfold F.sysM
            rw [if_neg (by rw [HU.out]; omega)]
            rfl
          obtain ⟨Au, mu, cu, lu, hlu, hmu, hcu, hfu, -, -, hou, -, hstep⟩ := HK.out.1.row (rowsTo_len _ _ _ _) (by decide) hj6
          rw [rowsTo_at hj6, if_neg (by omega), if_pos rfl] at hlu
          injection hlu with hlu
          have hmk : mu = u := by rw [← hmu, ← hlu, List.length_take, F.rowI_len]; omega
          have HSTEP := Lib.hid hstep
          have HOU := Lib.hid hou
          have HLU := Lib.hid hlu
          have HMU := Lib.hid hmk
          have hmu6 : mu ≤ 6 := by omega
          clear hstep hou hlu hmu hmk
          have HFS := Lib.hid HK.out.2.2
          have HEK := Lib.hid HK.out.2.1
          have hsc : wr.cell? ⟨w.heap.size, j, none⟩ = some (.int .i64 ((synF wd j).n : Int)) := blk_cell HFS.out (arrF_at hj6)
          have hS : wr.drew.cell? ⟨w.heap.size + 1, j, none⟩ = some (.slice Au mu cu) ∧ wr.drew.cell? ⟨w.heap.size, j, none⟩ = some (.int .i64 ((synF wd j).n : Int)) := ⟨hcu, hsc⟩
          replace hS := Lib.hid hS
          have e1 : (0 : Int) ≤ (j : Int) := Int.natCast_nonneg _
          have e2 : (j : Int) < 6 := by omega
          go_upto_region 10 with (fail)
          refine wp_region_k 12 (fun w' => w'.cell? ⟨w.heap.size + 1, j, none⟩ = some (.slice Au mu cu) ∧ w'.cell? ⟨w.heap.size, j, none⟩ = some (.int .i64 ((synF wd j).n : Int))) (by kernel_rfl) ?_
          refine wpAnyK_take 0 (some 44) (v := ?kv15) rfl rfl (by kernel_rfl) (by kernel_rfl) (by kernel_rfl) (by decide) (by kernel_rfl) (fun _ _ _ h => h) (by rfl) ?ky15 hS.out ?kr15
          case ky15 => ((intro wk hk); (try dsimp only at hk); go_simp; try with_reducible rfl)
          try simp only [Act.put, List.setIfInBounds_toArray, List.set_cons_zero, List.set_cons_succ]
          refine wpAnyK_take 1 (some 45) (v := ?kv16) rfl rfl (by kernel_rfl) (by kernel_rfl) (by kernel_rfl) (by decide) (by kernel_rfl) (fun _ _ _ h => h) (by rfl) ?ky16 hS.out ?kr16
          case ky16 => ((intro wk hk); (try dsimp only at hk); go_simp; try with_reducible rfl)
          try simp only [Act.put, List.setIfInBounds_toArray, List.set_cons_zero, List.set_cons_succ]
          refine wpAnyK_take 2 (some 46) (v := ?kv17) rfl rfl (by kernel_rfl) (by kernel_rfl) (by kernel_rfl) (by decide) (by kernel_rfl) (fun _ _ _ h => h) (by rfl) ?ky17 hS.out ?kr17
          case ky17 => ((intro wk hk); (try dsimp only at hk); go_simp; try with_reducible rfl)
          try simp only [Act.put, List.setIfInBounds_toArray, List.set_cons_zero, List.set_cons_succ]
          refine wpAnyK_take 3 (some 47) (v := ?kv18) rfl rfl (by kernel_rfl) (by kernel_rfl) (by kernel_rfl) (by decide) (by kernel_rfl) (fun _ _ _ h => h) (by rfl) ?ky18 hS.out ?kr18
          case ky18 => ((intro wk hk); (try dsimp only at hk); go_simp; try with_reducible rfl)
          try simp only [Act.put, List.setIfInBounds_toArray, List.set_cons_zero, List.set_cons_succ]
          refine wpAnyK_take 4 (some 48) (v := ?kv19) rfl rfl (by kernel_rfl) (by kernel_rfl) (by kernel_rfl) (by decide) (by kernel_rfl) (fun _ _ _ h => h) (by rfl) ?ky19 hS.out ?kr19
          case ky19 => ((intro wk hk); (try dsimp only at hk); go_simp; try with_reducible rfl)
          try simp only [Act.put, List.setIfInBounds_toArray, List.set_cons_zero, List.set_cons_succ]
          refine wpAnyK_take 5 (some 49) (v := ?kv20) rfl rfl (by kernel_rfl) (by kernel_rfl) (by kernel_rfl) (by decide) (by kernel_rfl) (fun _ _ _ h => h) (by rfl) ?ky20 hS.out ?kr20
          case ky20 => ((intro wk hk); (try dsimp only at hk); go_simp; try with_reducible rfl)
          try simp only [Act.put, List.setIfInBounds_toArray, List.set_cons_zero, List.set_cons_succ]
          refine wpAnyK_take 6 (some 50) (v := ?kv21) rfl rfl (by kernel_rfl) (by kernel_rfl) (by kernel_rfl) (by decide) (by kernel_rfl) (fun _ _ _ h => h) (by rfl) ?ky21 hS.out ?kr21
          case ky21 => ((intro wk hk); (try dsimp only at hk); go_simp; try with_reducible rfl)
          try simp only [Act.put, List.setIfInBounds_toArray, List.set_cons_zero, List.set_cons_succ]
          refine wpAnyK_take 7 (some 51) (v := ?kv22) rfl rfl (by kernel_rfl) (by kernel_rfl) (by kernel_rfl) (by decide) (by kernel_rfl) (fun _ _ _ h => h) (by rfl) ?ky22 hS.out ?kr22
          case ky22 => ((intro wk hk); (try dsimp only at hk); go_simp; try with_reducible rfl)
          try simp only [Act.put, List.setIfInBounds_toArray, List.set_cons_zero, List.set_cons_succ]
          refine wpAnyK_take 8 (some 52) (v := ?kv23) rfl rfl (by kernel_rfl) (by kernel_rfl) (by kernel_rfl) (by decide) (by kernel_rfl) (fun _ _ _ h => h) (by rfl) ?ky23 hS.out ?kr23
          case ky23 => ((intro wk hk); (try dsimp only at hk); go_simp; try with_reducible rfl)
          try simp only [Act.put, List.setIfInBounds_toArray, List.set_cons_zero, List.set_cons_succ]
          refine wpAnyK_one 9 (by kernel_rfl) rfl (fun K hK => ?_)
          go_simp
          have E1 := Lib.hid ((Ext.refl wr).alloc (.cells #[.int .i64 ((synF wd j).n : Int)] 3))
          have hce : ((wr.alloc (.cells #[.int .i64 ((synF wd j).n : Int)] 3)).drew).cell? ⟨w.heap.size + 1, j, none⟩ = some (.slice Au mu cu) ∧ ((wr.alloc (.cells #[.int .i64 ((synF wd j).n : Int)] 3)).drew).cell? ⟨w.heap.size, j, none⟩ = some (.int .i64 ((synF wd j).n : Int)) := ⟨E1.out.cell hcu, E1.out.cell hsc⟩
          refine hK.out _ _ (fun _ => hce) ?_
          clear hK K
          try simp only [Act.put, List.setIfInBounds_toArray, List.set_cons_zero, List.set_cons_succ]
          refine wpAnyK_one 10 (by kernel_rfl) rfl (fun K hK => ?_)
          refine step_append_lies _ (by rfl) _ _ _ (by rfl) w.heap.size 3 i0 _ 1 8 Tryd.underlying22 hi0 hz0 hz1 hz2 rfl (by omega) (.slice Au mu cu) mu (lu.map (Value.int .i64)) (by rfl) ((HOU.out.alloc _).drew) ⟨wr.heap.size, 0, none⟩ 1 1 [.int .i64 ((synF wd j).n : Int)] (by rfl) (by rfl) (World.news_of_block (cs := #[.int .i64 ((synF wd j).n : Int)]) (t := 3) (fr := (0, 0)) (heap_alloc_new wr _)) (by simp [Value.oneCell']) (by omega) (by unfold maxLen; omega) (by omega) (by have := HEK.out.size; simp; omega) (wr.heap.size + 1) (by simp) ?_
          intro gg cap w3 hown3 hgrow hat hlt3
          have HH := Lib.hid (HSTEP.out 0 _ _ gg cap ((synF wd j).n : Int) (E1.out.drew).xt (by omega) hgrow hown3 (hat.imp id (fun e => by omega)))
          have HE3 := Lib.hid (Ext.grown (HEK.out.trans E1.out.drew) hgrow (own_ge HOU.out))
          have HF3 : Hid (w3.heap[w.heap.size]? = some (.cells (arrF (synF wd) 6) 78 (0, 0))) := by
            have h1 := (E1.out.drew).blk HFS.out
            exact (hgrow.block _ (lt_of_blk h1) (fun e => own_ne HOU.out HFS.out (by decide) e.symm)).trans h1
          have hs3 : w3.cell? ⟨w.heap.size, j, none⟩ = some (.int .i64 ((synF wd j).n : Int)) := blk_cell HF3.out (arrF_at hj6)
          clear hown3 hgrow hat hlt3 hce
          change K (Act.put _ (some 54) _) w3
          have hc3 := HH.out.1
          have hf3 := HH.out.2.1
          refine hK.out _ _ (fun _ => ⟨hc3, hs3⟩) ?_
          clear hK K
          try simp only [Act.put, List.setIfInBounds_toArray, List.set_cons_zero, List.set_cons_succ]
          have hc33 := Lib.hid (And.intro hc3 hs3)
          refine wpAnyK_take 11 (some 55) (v := ?kv24) rfl rfl (by kernel_rfl) (by kernel_rfl) (by kernel_rfl) (by decide) (by kernel_rfl) (fun _ _ _ h => h) (by rfl) ?ky24 hc33.out ?kr24
          case ky24 => ((intro wk hk); (try dsimp only at hk); go_simp; try with_reducible rfl)
          try simp only [Act.put, List.setIfInBounds_toArray, List.set_cons_zero, List.set_cons_succ]
          refine wpAnyK_one 12 (by kernel_rfl) rfl (fun K hK => ?_)
          go_simp
          refine hK.out _ _ (fun h => absurd rfl h) ?_
          clear hK K
          refine wpAnyK_done (by kernel_rfl) ?_ _
          have HM4 := HH.out.2.2
          rw [← HLU.out, rowsTo_set hj6 HRI.out, rowsTo_next] at HM4
          replace HM4 := Lib.hid HM4
          have HE4 := Lib.hid (HE3.out.setCell (p := ⟨w.heap.size + 1, j, none⟩) (by simp) (.slice (some ⟨gg, 0, none⟩) (mu + 1) cap))
          have HF4 : Hid ((w3.setCell ⟨w.heap.size + 1, j, none⟩ (.slice (some ⟨gg, 0, none⟩) (mu + 1) cap)).heap[w.heap.size]? = some (.cells (arrF (synF wd) 6) 78 (0, 0))) := by
            show _ = _
            rw [Below.heap_setCell _ _ _ _ (by simp)]; exact HF3.out
          clear hc3 hf3 HH hs3
          go_wp2_with fail
          go_roundw
          case rel => exact ⟨j + 1, by go_num, by omega, HM4.out, HE4.out, HF4.out⟩
          case measure => simp [intOf]; omega
    · obtain rfl : j = 6 := by omega
      have HMW : Hid (MatW w.heap.size (w.heap.size + 1) 22 3 wr (F.sysM wd ps) (u + 1)) := by
        have h := HJ.out.1
        rw [rowsTo_all] at h
        exact h.matW (by decide) (by omega)
      have HEJ := Lib.hid HJ.out.2.1
      clear HJ
      have HSE : Hid (∀ M : Nat → Nat → F, F.Unit6 M u → (∀ X, F.Sol M X (u + 1) ↔ F.Sol (F.sysM wd ps) X (u + 1)) → ((∀ r, u ≤ r → r < 6 → M r u = 0) → F.Code (F.addAt wd ps ((List.range u).map fun c => M c u))) ∧ (∀ c, F.Off wd c ps → F.Code c → (∀ r, u ≤ r → r < 6 → M r u = 0) ∧ c = F.addAt wd ps ((List.range u).map fun c => M c u))) := fun M h1 h2 => by
        have h := @F.sys_end wd ps M (by rw [HN.out]; exact hn31) HD.out (by rw [HN.out]; exact HLT.out) (by rw [HU.out]; exact hu6)
        rw [HU.out] at h
        exact h h1 h2
      have hmkI := make_ints u (by omega)
      have HIND : Hid (∀ X, F.Sol (F.sysM wd ps) X (u + 1) → X u = 0 → ∀ c, c < u → X c = 0) := by
        have h := @F.sys_ind wd ps (by rw [HN.out]; exact hn31) HD.out (by rw [HN.out]; exact HLT.out) (by rw [HU.out]; exact hu6)
        rw [HU.out] at h
        exact h
      go_wp2_with (go_at_call 97; refine (elim_any w.heap.size (w.heap.size + 1) 6 u (F.sysM wd ps) _ (HT.out.ext HEJ.out) HMW.out hu6 ⟨by omega, by omega⟩ hb2 HIND.out).mono ?_; rintro e x1 ⟨M', rfl, hm1, hm2, hm3, hm4⟩; replace hm1 := Lib.hid hm1; replace hm2 := Lib.hid hm2; replace hm3 := Lib.hid hm3; replace hm4 := Lib.hid hm4)
      · rename_i hrb
        go_ret2
        refine ⟨_, _, _, false, rfl, HEJ.out.below_trans (Nat.le_refl _) hm4.out, (fun h => by cases h), fun _ c ho hc => ?_⟩
        have := (restB_iff M' u).2 (((HSE.out M' hm2.out hm3.out).2 c ho hc).1)
        rw [this] at hrb
        cases hrb
      · have hrb : (!restB M' u) = false := by assumption
        have HRB : Hid (restB M' u = true) := by
          show _ = _
          cases h : restB M' u with
          | true => rfl
          | false => rw [h] at hrb; cases hrb
        have HO0 := Lib.hid (ownW_made x1 u (base := x1.heap.size) (Nat.le_refl _) (by omega))
        have HX0 := Lib.hid ((Ext.refl x1).alloc (.cells (madeCells #[.int .i64 0] u) 3))
        have HE1 := Lib.hid (HEJ.out.below_trans (Nat.le_refl _) hm4.out)
        have hws : w.heap.size ≤ x1.heap.size := HE1.out.size
        clear hmkI hrb
        generalize x1.alloc (.cells (madeCells #[.int .i64 0] u) 3) = X2 at *
        go_loopw [67] (fun s67 wr' => ∃ (k : Nat), s67 = .int .i64 k ∧ k ≤ u ∧ Hid (OwnW x1.heap.size wr' (.slice (some ⟨x1.heap.size, 0, none⟩) u u) ((List.range k).map (fun c => M' c u) ++ List.replicate (u - k) 0) ∧ XT x1.heap.size X2 wr')) (fun i _ => u - (intOf i).toNat)
        case atStart => exact ⟨0, rfl, by omega, by simpa using HO0.out, XT.refl _ _⟩
        case round =>
          obtain ⟨k, rfl, hk, HK⟩ := hrel
          clear HO0
          have hlen : ((List.range k).map (fun c => M' c u) ++ List.replicate (u - k) (0 : F)).length = u := by simp; omega
          by_cases hku : k < u
          · have HMr : Hid (MatW w.heap.size (w.heap.size + 1) 22 3 wr M' (u + 1)) := hm1.out.keep fun i _ hl => (HK.out.2.block i (Nat.lt_of_lt_of_le hl HX0.out.size) (fun e => by injection e; omega)).trans (HX0.out.block i hl)
            obtain ⟨b2, cu2, a0, a1, a2, -, -, a3, -, -⟩ := HMr.out.at_ (r := k) (by omega)
            have a6 := a3 u (by omega)
            have hfz := HK.out.1.froz hlen k
            obtain ⟨y, hy⟩ : ∃ y, ((List.range k).map (fun c => M' c u) ++ List.replicate (u - k) (0 : F))[k]? = some y := ⟨_, List.getElem?_eq_getElem (by omega)⟩
            have hcy := HK.out.1.cell hlen hy
            have HO4 := Lib.hid (HK.out.1.put hlen k (M' k u))
            have hset : ((List.range k).map (fun c => M' c u) ++ List.replicate (u - k) (0 : F)).set k (M' k u) = (List.range (k + 1)).map (fun c => M' c u) ++ List.replicate (u - (k + 1)) 0 := by
              rw [List.set_append_right _ _ (by simp), List.range_succ, List.map_append, List.length_map, List.length_range, Nat.sub_self]
              obtain ⟨m, hm⟩ : ∃ m, u - k = m + 1 := ⟨u - k - 1, by omega⟩
              rw [hm, List.replicate_succ, List.set_cons_zero, show u - (k + 1) = m by omega]
              simp
            rw [hset] at HO4
            have HX4 := Lib.hid (HK.out.2.setCell (a := ⟨x1.heap.size, k, none⟩) rfl (.int .i64 ((M' k u).n : Int)))
            clear a3 hy hset hlen HMr
            go_wp2_with fail
            go_roundw
            case rel => exact ⟨k + 1, by go_num, by omega, HO4.out, HX4.out⟩
            case measure => simp [intOf]; omega
          · obtain rfl : k = u := by omega
            go_wp2_with fail
            go_ret2
            refine ⟨_, _, _, true, rfl, ?_, fun _ => ⟨(List.range k).map (fun c => M' c k), by simp [HU.out], ?_, (HSE.out M' hm2.out hm3.out).1 ((restB_iff M' k).1 HRB.out)⟩, (fun h => by cases h)⟩
            · exact HK.out.2.fresh (HE1.out.trans HX0.out) hws
            · have h := HK.out.1
              rw [Nat.sub_self, List.replicate_zero, List.append_nil] at h
              exact own_mono h hws
end Go.Proofs.YtcpanmonllhmaaaDoor
/- rscode.Decode's search: what it keeps, and what a sublist's first element is. -/
namespace Go.Proofs.YtcpanmonllhmaaaDoor
open Go.RowKit

theorem sub_first {α : Type} {x : α} {S l : List α} : ∀ (next : Nat), (x :: S).Sublist (l.drop next) → ∃ i, next ≤ i ∧ l[i]? = some x ∧ S.Sublist (l.drop (i + 1)) := by
  intro next
  obtain ⟨m, hm⟩ : ∃ m, m = l.length - next := ⟨_, rfl⟩
  induction m generalizing next with
  | zero =>
    intro h
    rw [List.drop_of_length_le (by omega)] at h
    cases h
  | succ m ih =>
    intro h
    rw [List.drop_eq_getElem_cons (by omega)] at h
    cases h with
    | cons _ h =>
      obtain ⟨i, h1, h2, h3⟩ := ih (next + 1) (by omega) h
      exact ⟨i, by omega, h2, h3⟩
    | cons_cons _ h => exact ⟨next, Nat.le_refl _, List.getElem?_eq_getElem (by omega), h⟩

/-- What a search may turn: the blocks of places and values, and the row of places. -/
structure SFr (gP gV : Nat) (w : World) (vp : Value) (w' : World) (vp' : Value) : Prop where
  os : w'.os = w.os
  tape : w'.tape = w.tape
  output : w'.output = w.output
  size : w.heap.size ≤ w'.heap.size
  block : ∀ k, k < w.heap.size → k ≠ gP → k ≠ gV → vp.ownBlock ≠ some k → w'.heap[k]? = w.heap[k]?
  own : ∀ k, vp'.ownBlock = some k → vp.ownBlock = some k ∨ w.heap.size ≤ k
section
variable {gP gV : Nat} {w w1 w2 : World} {vp v1 v2 : Value}
theorem SFr.refl (gP gV : Nat) (w : World) (vp : Value) : SFr gP gV w vp w vp := ⟨rfl, rfl, rfl, Nat.le_refl _, fun _ _ _ _ _ => rfl, fun _ h => .inl h⟩
theorem SFr.trans (h : SFr gP gV w vp w1 v1) (k : SFr gP gV w1 v1 w2 v2) : SFr gP gV w vp w2 v2 :=
  ⟨k.os.trans h.os, k.tape.trans h.tape, k.output.trans h.output, Nat.le_trans h.size k.size,
    fun i hi h1 h2 h3 => (k.block i (Nat.lt_of_lt_of_le hi h.size) h1 h2 (fun e => by
      rcases h.own i e with h4 | h4
      · exact h3 h4
      · omega)).trans (h.block i hi h1 h2 h3),
    fun i hi => by
      rcases k.own i hi with h4 | h4
      · exact h.own i h4
      · exact .inr (Nat.le_trans h.size h4)⟩
theorem SFr.of_ext (e : Ext w w1) : SFr gP gV w vp w1 vp := ⟨e.os, e.tape, e.output, e.size, fun i hi _ _ _ => e.block i hi, fun _ h => .inl h⟩
theorem SFr.grown {row : Option Nat} (hg : w.grownBy w1 row) (hr : ∀ k, row = some k → vp.ownBlock = some k) (ho : ∀ k, v1.ownBlock = some k → vp.ownBlock = some k ∨ w.heap.size ≤ k) : SFr gP gV w vp w1 v1 :=
  ⟨hg.os, hg.tape, hg.output, hg.size, fun i hi _ _ h => hg.block i hi (fun e => h (hr i e.symm)), ho⟩
theorem SFr.setP (w : World) (vp : Value) (i : Nat) (u : Value) : SFr gP gV w vp (w.setCell ⟨gP, i, none⟩ u) vp :=
  ⟨rfl, rfl, rfl, by simp [World.setCell], fun k _ h1 _ _ => Below.heap_setCell _ _ _ _ (by simpa using h1), fun _ h => .inl h⟩
theorem SFr.setV (w : World) (vp : Value) (i : Nat) (u : Value) : SFr gP gV w vp (w.setCell ⟨gV, i, none⟩ u) vp :=
  ⟨rfl, rfl, rfl, by simp [World.setCell], fun k _ _ h2 _ => Below.heap_setCell _ _ _ _ (by simpa using h2), fun _ h => .inl h⟩
theorem SFr.keepIs {p n c : Nat} {A : Option Addr} {l : List Int} (h : SFr gP gV w vp w1 v1) (hi : IsI p w (.slice A n c) l) (ha : ∀ ad, A = some ad → ad.block ≠ gP ∧ ad.block ≠ gV ∧ vp.ownBlock ≠ some ad.block ∧ ad.block < w.heap.size) : IsI p w1 (.slice A n c) l := by
  obtain ⟨A', c', hv, h1, h2, h3, h5, h4⟩ := hi
  injection hv with e1 e2 e3
  subst e1; subst e3
  refine ⟨A, c, by rw [e2], h1, h2, h3, h5, fun k x hx => ?_⟩
  obtain ⟨b, off, hA, hb, hc⟩ := h4 k x hx
  obtain ⟨g1, g2, g3, g4⟩ := ha _ hA
  exact ⟨b, off, hA, hb, (World.cell?_of_block (w := w) (h.block b g4 g1 g2 g3)).trans hc⟩
end

/-- The variables that the search shares with Decode. -/
structure DSt (fl : List F) (wh : List Nat) (n gS gW gP gV gH gF : Nat) (Aw : Option Addr) (cw : Nat) (Ah : Option Addr) (nh ch base : Nat) (w : World) (ps : List Nat) (Ap : Option Addr) (np cp : Nat) (vv : Value) : Prop where
  s : w.heap[gS]? = some (.cells (arrF (synF fl) 6) 78 (0, 0))
  wd : w.heap[gW]? = some (.cells #[.slice Aw n cw] 22 (0, 0))
  p : w.heap[gP]? = some (.cells #[.slice Ap np cp] 22 (0, 0))
  v : w.heap[gV]? = some (.cells #[vv] 22 (0, 0))
  h : w.heap[gH]? = some (.cells #[.slice Ah nh ch] 22 (0, 0))
  f : w.heap[gF]? = some (.cells #[.func (.func 75) #[] #[.pointer (some ⟨gS, 0, none⟩), .pointer (some ⟨gW, 0, none⟩), .pointer (some ⟨gP, 0, none⟩), .pointer (some ⟨gV, 0, none⟩), .pointer (some ⟨gH, 0, none⟩), .pointer (some ⟨gF, 0, none⟩)]] 49 (0, 0))
  hi : IsI gP w (.slice Ah nh ch) (psI wh)
  ha : ∀ ad, Ah = some ad → ad.block ≠ gP ∧ ad.block ≠ gV ∧ (Value.slice Ap np cp).ownBlock ≠ some ad.block ∧ ad.block < w.heap.size
  own : w.ownsRow base 3 1 (.slice Ap np cp) np ((psI ps).map (Value.int .i64))
  len : ps.length = np
  tabs : Tabs w
  b2 : 2 ≤ base
  bP : base ≤ gP
  bV : base ≤ gV
  sP : gS ≠ gP
  sV : gS ≠ gV
  wP : gW ≠ gP
  wV : gW ≠ gV
  hP : gH ≠ gP
  hV : gH ≠ gV
  fP : gF ≠ gP
  fV : gF ≠ gV
  pV : gP ≠ gV
theorem own_shape {w : World} {base e size n : Nat} {v : Value} {xs : List Value} (h : w.ownsRow base e size v n xs) : ∃ A c, v = .slice A n c ∧ n ≤ c ∧ c ≤ 9223372036854775807 := by
  rcases h.2 with ⟨rfl, rfl⟩ | ⟨g, cap, cur, rfl, _, _, h1, h2, _⟩
  · exact ⟨none, 0, rfl, Nat.le_refl _, by omega⟩
  · exact ⟨_, _, rfl, h1, h2⟩
section
variable {fl : List F} {wh : List Nat} {n gS gW gP gV gH gF : Nat} {Aw : Option Addr} {cw : Nat} {Ah : Option Addr} {nh ch base : Nat} {w w' : World} {ps ps' : List Nat} {Ap Ap' : Option Addr} {np cp np' cp' : Nat} {vv vv' : Value}
/-- Behind a step that turns no more than a search may. -/
theorem DSt.step (d : DSt fl wh n gS gW gP gV gH gF Aw cw Ah nh ch base w ps Ap np cp vv) (e : SFr gP gV w (.slice Ap np cp) w' (.slice Ap' np' cp'))
    (hp : w'.heap[gP]? = some (.cells #[.slice Ap' np' cp'] 22 (0, 0))) (hv : w'.heap[gV]? = some (.cells #[vv'] 22 (0, 0)))
    (ho : w'.ownsRow base 3 1 (.slice Ap' np' cp') np' ((psI ps').map (Value.int .i64))) (hl : ps'.length = np') :
    DSt fl wh n gS gW gP gV gH gF Aw cw Ah nh ch base w' ps' Ap' np' cp' vv' := by
  have hb : ∀ k, k < base → k < w.heap.size → w'.heap[k]? = w.heap[k]? := fun k hk hlt => e.block k hlt (by have := d.bP; omega) (by have := d.bV; omega) (fun h => by have := own_ge d.own k h; omega)
  refine ⟨(e.block _ (lt_of_blk d.s) d.sP d.sV (own_ne d.own d.s (by decide))).trans d.s, (e.block _ (lt_of_blk d.wd) d.wP d.wV (own_ne d.own d.wd (by decide))).trans d.wd, hp, hv,
    (e.block _ (lt_of_blk d.h) d.hP d.hV (own_ne d.own d.h (by decide))).trans d.h, (e.block _ (lt_of_blk d.f) d.fP d.fV (own_ne d.own d.f (by decide))).trans d.f, e.keepIs d.hi d.ha, fun ad hA => ?_, ho, hl, ?_, d.b2, d.bP, d.bV, d.sP, d.sV, d.wP, d.wV, d.hP, d.hV, d.fP, d.fV, d.pV⟩
  · obtain ⟨h1, h2, h3, h4⟩ := d.ha ad hA
    refine ⟨h1, h2, fun h => ?_, Nat.lt_of_lt_of_le h4 e.size⟩
    rcases e.own _ h with h5 | h5
    · exact h3 h5
    · omega
  · have b2 := d.b2
    have hs := d.tabs.lt
    exact ⟨fun k hk => (World.cell?_of_block (w := w) (hb 0 (by omega) (by omega))).trans (d.tabs.1 k hk), fun k hk => (World.cell?_of_block (w := w) (hb 1 (by omega) (by omega))).trans (d.tabs.2 k hk)⟩
theorem DSt.ext (d : DSt fl wh n gS gW gP gV gH gF Aw cw Ah nh ch base w ps Ap np cp vv) (e : Ext w w') : DSt fl wh n gS gW gP gV gH gF Aw cw Ah nh ch base w' ps Ap np cp vv :=
  d.step (SFr.of_ext e) (e.blk d.p) (e.blk d.v) (own_ext d.own e) d.len
end
end Go.Proofs.YtcpanmonllhmaaaDoor
/- rscode.Decode's search: the walk, by induction on the number of wrong places. -/
namespace Go.Proofs.YtcpanmonllhmaaaDoor
open Go.RowKit

/-- What a search leaves. -/
def SRet (fl : List F) (wh : List Nat) (n gS gW gP gV gH gF : Nat) (Aw : Option Addr) (cw : Nat) (Ah : Option Addr) (nh ch base : Nat) (w : World) (ps : List Nat) (vp : Value) (next wrong : Nat) (e : Ending) (w' : World) : Prop :=
  ∃ (b : Bool) (ps' : List Nat) (Ap : Option Addr) (np cp : Nat) (vv : Value), e = .returned (.bool b) ∧ DSt fl wh n gS gW gP gV gH gF Aw cw Ah nh ch base w' ps' Ap np cp vv ∧ SFr gP gV w vp w' (.slice Ap np cp) ∧ np ≤ cp ∧ cp ≤ 9223372036854775807 ∧
    (b = true → ∃ S xs, S.Sublist (wh.drop next) ∧ S.length = wrong ∧ ps' = ps ++ S ∧ xs.length = ps'.length ∧ (∀ p, p < w.heap.size → IsI p w' vv (wI xs)) ∧ F.Code (F.addAt fl ps' xs)) ∧
    (b = false → ps' = ps ∧ ∀ S, S.Sublist (wh.drop next) → S.length = wrong → ∀ c, F.Off fl c (ps ++ S) → ¬ F.Code c)

section
variable {fl : List F} {wh : List Nat} {n gS gW gP gV gH gF : Nat} {Aw : Option Addr} {cw : Nat} {Ah : Option Addr} {nh ch base : Nat}

set_option maxRecDepth 100000 in
set_option maxHeartbeats 4000000 in
theorem search_zero (next : Nat) (w : World) (ps : List Nat) (Ap : Option Addr) (np cp : Nat) (vv : Value) (d : DSt fl wh n gS gW gP gV gH gF Aw cw Ah nh ch base w ps Ap np cp vv)
    (h6 : np ≤ 6) (hcp : np ≤ cp ∧ cp ≤ 9223372036854775807) (hn : fl.length = n) (hn31 : n ≤ 31) (hd : ps.Nodup) (hlt : ∀ p ∈ ps, p < n) :
    Calls Tryd.prog 75 #[.int .i64 (next : Int), .int .i64 0, .pointer (some ⟨gS, 0, none⟩), .pointer (some ⟨gW, 0, none⟩), .pointer (some ⟨gP, 0, none⟩), .pointer (some ⟨gV, 0, none⟩), .pointer (some ⟨gH, 0, none⟩), .pointer (some ⟨gF, 0, none⟩)] w
      (SRet fl wh n gS gW gP gV gH gF Aw cw Ah nh ch base w ps (.slice Ap np cp) next 0) := by
  have D := Lib.hid d
  have HN := Lib.hid hn
  have HD := Lib.hid hd
  have HLT := Lib.hid hlt
  obtain ⟨hcp1, hcp2⟩ := hcp
  have s : ∀ i, i < 6 → w.cell? ⟨gS, i, none⟩ = some (.int .i64 ((synF fl i).n : Int)) := fun i hi => blk_cell d.s (arrF_at hi)
  have s0 := s 0 (by omega)
  have s1 := s 1 (by omega)
  have s2 := s 2 (by omega)
  have s3 := s 3 (by omega)
  have s4 := s 4 (by omega)
  have s5 := s 5 (by omega)
  have c1 := blk_cell d.wd (i := 0) rfl
  have c2 := blk_cell d.p (i := 0) rfl
  have c3 := blk_cell d.v (i := 0) rfl
  have c4 := blk_frozen d.v 0
  have hb2 : base ≤ w.heap.size := Nat.le_trans d.bP (Nat.le_of_lt (lt_of_blk d.p))
  have HO : Hid (IsI w.heap.size w (.slice Ap np cp) (psI ps)) := by
    refine (IsI.of_own (p := 0) (base := base) (e := 3) (n := np) (l := psI ps) d.own (by have := d.b2; omega) (fun x hx => ?_) (by rw [psI_len, d.len]; omega)).re (Nat.le_refl _)
    unfold psI at hx
    obtain ⟨q, hq, rfl⟩ := List.mem_map.1 hx
    have := hlt q hq
    constructor <;> omega
  have hl6 : Hid (ps.length ≤ 6) := by show _ ≤ _; rw [d.len]; exact h6
  clear s d hn hd hlt
  go_enter Tryd.func75, Tryd.ntmps75
  go_wp2_with (go_at_call 76; refine (corr_any _ fl ps n _ D.out.tabs HO.out HN.out hn31 HD.out HLT.out hl6.out).mono ?_; rintro e x1 ⟨A1, m1, cp1, b1, rfl, hx1, ht, hf⟩; have D1 := Lib.hid (D.out.ext hx1); replace hx1 := Lib.hid hx1; replace ht := Lib.hid ht; replace hf := Lib.hid hf; replace c3 := blk_cell D1.out.v (i := 0) rfl; replace c4 := blk_frozen D1.out.v 0)
  go_ret
  have hst : SFr gP gV x1 (.slice Ap np cp) (x1.setCell ⟨gV, 0, none⟩ (.slice A1 m1 cp1)) (.slice Ap np cp) := SFr.setV _ _ _ _
  have hne := D1.out.pV
  have hown : (x1.setCell ⟨gV, 0, none⟩ (.slice A1 m1 cp1)).ownsRow base 3 1 (.slice Ap np cp) np ((psI ps).map (Value.int .i64)) := own_far' D1.out.own (own_ne D1.out.own D1.out.v (by decide)) _
  refine ⟨b1, ps, Ap, np, cp, .slice A1 m1 cp1, rfl, D1.out.step hst ?_ ?_ hown D1.out.len, (SFr.of_ext hx1.out).trans hst, hcp1, hcp2, fun hb => ?_, fun hb => ⟨rfl, fun S hS hl c ho hc => ?_⟩⟩
  · rw [Below.heap_setCell _ _ _ _ (by simpa using hne)]; exact D1.out.p
  · exact blk_set D1.out.v _
  · obtain ⟨xs, hxl, hox, hcode⟩ := ht.out hb
    refine ⟨[], xs, List.nil_sublist _, rfl, by simp, hxl, fun p hp => ?_, hcode⟩
    have hox2 : OwnW w.heap.size (x1.setCell ⟨gV, 0, none⟩ (.slice A1 m1 cp1)) (.slice A1 m1 cp1) xs := own_far' hox (fun h => by have := own_ge hox _ h; have := lt_of_blk D.out.v; simp only at *; omega) _
    exact hox2.isI hp (by rw [hxl, D.out.len]; omega)
  · obtain rfl := List.eq_nil_of_length_eq_zero hl
    rw [List.append_nil] at ho
    exact hf.out hb c ho hc

set_option maxRecDepth 100000 in
set_option maxHeartbeats 4000000 in
theorem search_any (hn : fl.length = n) (hn31 : n ≤ 31) (hnh : wh.length = nh) (hnc : nh ≤ ch ∧ ch ≤ 9223372036854775807) : ∀ (wrong next : Nat) (w : World) (ps : List Nat) (Ap : Option Addr) (np cp : Nat) (vv : Value), DSt fl wh n gS gW gP gV gH gF Aw cw Ah nh ch base w ps Ap np cp vv →
    np + wrong ≤ 6 → next ≤ nh → (np ≤ cp ∧ cp ≤ 9223372036854775807) → (ps ++ wh.drop next).Nodup → (∀ p ∈ ps ++ wh.drop next, p < n) →
    Calls Tryd.prog 75 #[.int .i64 (next : Int), .int .i64 (wrong : Int), .pointer (some ⟨gS, 0, none⟩), .pointer (some ⟨gW, 0, none⟩), .pointer (some ⟨gP, 0, none⟩), .pointer (some ⟨gV, 0, none⟩), .pointer (some ⟨gH, 0, none⟩), .pointer (some ⟨gF, 0, none⟩)] w
      (SRet fl wh n gS gW gP gV gH gF Aw cw Ah nh ch base w ps (.slice Ap np cp) next wrong) := by
  intro wrong
  have HN := Lib.hid hn
  have HNH := Lib.hid hnh
  obtain ⟨hnc1, hnc2⟩ := hnc
  clear hn hnh
  induction wrong with
  | zero =>
    intro next w ps Ap np cp vv d h6 hnx hcp hd hlt
    exact search_zero next w ps Ap np cp vv d (by omega) hcp HN.out hn31 (List.nodup_append.1 hd).1 (fun p hp => hlt p (List.mem_append_left _ hp))
  | succ m ih =>
    intro next w ps Ap np cp vv d h6 hnx hcp hd hlt
    have HIH := Lib.hid ih
    have D := Lib.hid d
    have HD := Lib.hid hd
    have HLT := Lib.hid hlt
    obtain ⟨hcp1, hcp2⟩ := hcp
    obtain ⟨q, hq⟩ : ∃ q, q = m + 1 := ⟨_, rfl⟩
    rw [← hq]
    have hnz : ((q : Int) == 0) = false := by simp; omega
    have hqm : (q : Int) - 1 = (m : Int) := by omega
    have HQ := Lib.hid hq
    have hq1 : 1 ≤ q := by omega
    have hq6 : q ≤ 6 := by omega
    clear hq
    obtain ⟨i0, hi0, hz0, hz1, hz2⟩ := info_parts Tryd.infoI
    clear ih d hd hlt
    go_enter Tryd.func75, Tryd.ntmps75
    go_wp2_with fail
    go_loopw [12] (fun s12 wr => ∃ (k : Nat) (Aq : Option Addr) (cq : Nat) (vq : Value), s12 = .int .i64 k ∧ next ≤ k ∧ k ≤ nh ∧ np ≤ cq ∧ cq ≤ 9223372036854775807 ∧ Hid (DSt fl wh n gS gW gP gV gH gF Aw cw Ah nh ch base wr ps Aq np cq vq ∧ SFr gP gV w (.slice Ap np cp) wr (.slice Aq np cq) ∧ ∀ i x, next ≤ i → i < k → wh[i]? = some x → ∀ S, S.Sublist (wh.drop (i + 1)) → S.length = m → ∀ c, F.Off fl c (ps ++ x :: S) → ¬ F.Code c)) (fun i _ => nh - (intOf i).toNat)
    case atStart => exact ⟨next, Ap, cp, vv, rfl, by omega, by omega, by omega, by omega, D.out, SFr.refl _ _ _ _, fun i x h1 h2 => by omega⟩
    case round =>
      clear D
      obtain ⟨k, Aq, cq, vq, rfl, hk1, hk2, hcq1, hcq2, HK⟩ := hrel
      have D := Lib.hid HK.out.1
      have HF := Lib.hid HK.out.2.1
      have HNO := Lib.hid HK.out.2.2
      clear HK
      have c5 := blk_cell D.out.h (i := 0) rfl
      by_cases hkn : k < nh
      · obtain ⟨b, o, z, rfl, -⟩ := D.out.hi.at_ hkn
        obtain ⟨z, hcz, HZ, -⟩ := D.out.hi.cell_ hkn
        obtain ⟨x, hx, rfl⟩ := psI_at HZ.out
        have HX := Lib.hid hx
        clear hx HZ
        have c2 := blk_cell D.out.p (i := 0) rfl
        have hS : wr.drew.cell? ⟨gP, 0, none⟩ = some (.slice Aq np cq) ∧ wr.drew.cell? ⟨gH, 0, none⟩ = some (.slice (some ⟨b, o, none⟩) nh ch) ∧ wr.drew.cell? ⟨b, o + k, none⟩ = some (.int .i64 (x : Int)) := ⟨c2, c5, hcz⟩
        replace hS := Lib.hid hS
        have e1 : (0 : Int) ≤ (k : Int) := Int.natCast_nonneg _
        have e2 : (k : Int) < (nh : Int) := by omega
        go_upto_region 8 with (fail)
        refine wp_region_k 7 (fun w' => w'.cell? ⟨gP, 0, none⟩ = some (.slice Aq np cq) ∧ w'.cell? ⟨gH, 0, none⟩ = some (.slice (some ⟨b, o, none⟩) nh ch) ∧ w'.cell? ⟨b, o + k, none⟩ = some (.int .i64 (x : Int))) (by kernel_rfl) ?_
        refine wpAnyK_take 0 (some 31) (v := ?kv1) rfl rfl (by kernel_rfl) (by kernel_rfl) (by kernel_rfl) (by decide) (by kernel_rfl) (fun _ _ _ h => h) (by rfl) ?ky1 hS.out ?kr1
        case ky1 => ((intro wk hk); (try dsimp only at hk); go_simp; try with_reducible rfl)
        try simp only [Act.put, List.setIfInBounds_toArray, List.set_cons_zero, List.set_cons_succ]
        refine wpAnyK_take 1 (some 32) (v := ?kv2) rfl rfl (by kernel_rfl) (by kernel_rfl) (by kernel_rfl) (by decide) (by kernel_rfl) (fun _ _ _ h => h) (by rfl) ?ky2 hS.out ?kr2
        case ky2 => ((intro wk hk); (try dsimp only at hk); go_simp; try with_reducible rfl)
        try simp only [Act.put, List.setIfInBounds_toArray, List.set_cons_zero, List.set_cons_succ]
        refine wpAnyK_take 2 (some 33) (v := ?kv3) rfl rfl (by kernel_rfl) (by kernel_rfl) (by kernel_rfl) (by decide) (by kernel_rfl) (fun _ _ _ h => h) (by rfl) ?ky3 hS.out ?kr3
        case ky3 => ((intro wk hk); (try dsimp only at hk); go_simp; try with_reducible rfl)
        try simp only [Act.put, List.setIfInBounds_toArray, List.set_cons_zero, List.set_cons_succ]
        refine wpAnyK_take 3 (some 34) (v := ?kv4) rfl rfl (by kernel_rfl) (by kernel_rfl) (by kernel_rfl) (by decide) (by kernel_rfl) (fun _ _ _ h => h) (by rfl) ?ky4 hS.out ?kr4
        case ky4 => ((intro wk hk); (try dsimp only at hk); go_simp; try with_reducible rfl)
        try simp only [Act.put, List.setIfInBounds_toArray, List.set_cons_zero, List.set_cons_succ]
        refine wpAnyK_take 4 (some 35) (v := ?kv5) rfl rfl (by kernel_rfl) (by kernel_rfl) (by kernel_rfl) (by decide) (by kernel_rfl) (fun _ _ _ h => h) (by rfl) ?ky5 hS.out ?kr5
        case ky5 => ((intro wk hk); (try dsimp only at hk); go_simp; try with_reducible rfl)
        try simp only [Act.put, List.setIfInBounds_toArray, List.set_cons_zero, List.set_cons_succ]
        refine wpAnyK_one 5 (by kernel_rfl) rfl (fun K hK => ?_)
        go_simp
        have E1 := Lib.hid (((Ext.refl wr).alloc (.cells #[.int .i64 (x : Int)] 3)).drew)
        have D1 := Lib.hid (D.out.ext E1.out)
        have hce : ((wr.alloc (.cells #[.int .i64 (x : Int)] 3)).drew).cell? ⟨gP, 0, none⟩ = some (.slice Aq np cq) ∧ ((wr.alloc (.cells #[.int .i64 (x : Int)] 3)).drew).cell? ⟨gH, 0, none⟩ = some (.slice (some ⟨b, o, none⟩) nh ch) ∧ ((wr.alloc (.cells #[.int .i64 (x : Int)] 3)).drew).cell? ⟨b, o + k, none⟩ = some (.int .i64 (x : Int)) := ⟨E1.out.cell c2, E1.out.cell c5, E1.out.cell hcz⟩
        refine hK.out _ _ (fun _ => hce) ?_
        clear hK K
        try simp only [Act.put, List.setIfInBounds_toArray, List.set_cons_zero, List.set_cons_succ]
        refine wpAnyK_one 6 (by kernel_rfl) rfl (fun K hK => ?_)
        refine step_append_lies _ (by rfl) _ _ _ (by rfl) base 3 i0 _ 1 8 Tryd.underlying22 hi0 hz0 hz1 hz2 rfl (by omega) (.slice Aq np cq) np ((psI ps).map (Value.int .i64)) (by rfl) D1.out.own ⟨wr.heap.size, 0, none⟩ 1 1 [.int .i64 (x : Int)] (by rfl) (by rfl) (World.news_of_block (cs := #[.int .i64 (x : Int)]) (t := 3) (fr := (0, 0)) (heap_alloc_new wr _)) (by simp [Value.oneCell']) (by omega) (by unfold maxLen; omega) (by omega) (by have := lt_of_blk D1.out.p; have := D1.out.bP; omega) (wr.heap.size + 1) (by simp) ?_
        intro gg cap w3 hown3 hgrow hat hlt3
        have hF3 : SFr gP gV wr (.slice Aq np cq) w3 (.slice (some ⟨gg, 0, none⟩) (np + 1) cap) := (SFr.of_ext E1.out).trans (SFr.grown hgrow (fun _ h => h) (fun k hk => by
          have e : gg = k := by simpa [Value.ownBlock] using hk
          subst e
          rcases hat with h | h
          · exact .inl h
          · exact .inr (by simp; omega)))
        have hP3 : w3.heap[gP]? = some (.cells #[.slice Aq np cq] 22 (0, 0)) := (hgrow.block _ (lt_of_blk D1.out.p) (fun e => own_ne D1.out.own D1.out.p (by decide) e.symm)).trans D1.out.p
        have hV3 : w3.heap[gV]? = some (.cells #[vq] 22 (0, 0)) := (hgrow.block _ (lt_of_blk D1.out.v) (fun e => own_ne D1.out.own D1.out.v (by decide) e.symm)).trans D1.out.v
        have hH3 : w3.heap[gH]? = some (.cells #[.slice (some ⟨b, o, none⟩) nh ch] 22 (0, 0)) := (hF3.block _ (lt_of_blk D.out.h) D.out.hP D.out.hV (own_ne D.out.own D.out.h (by decide))).trans D.out.h
        have hz3 : w3.cell? ⟨b, o + k, none⟩ = some (.int .i64 (x : Int)) := by
          obtain ⟨g1, g2, g3, g4⟩ := D.out.ha _ rfl
          exact (World.cell?_of_block (w := wr) (hF3.block b g4 g1 g2 g3)).trans hcz
        have HO3 : Hid (w3.ownsRow base 3 1 (.slice (some ⟨gg, 0, none⟩) (np + 1) cap) (np + 1) ((psI (ps ++ [x])).map (Value.int .i64))) := by
          have : psI (ps ++ [x]) = psI ps ++ [(x : Int)] := by simp [psI]
          show World.ownsRow _ _ _ _ _ _ _
          rw [this, List.map_append]; exact hown3
        have hcap := own_cap hown3
        have HF3 := Lib.hid hF3
        have HP3 := Lib.hid hP3
        have HV3 := Lib.hid hV3
        have hc3 := blk_cell hP3 (i := 0) rfl
        have hf3 := blk_frozen hP3 0
        have hh3 := blk_cell hH3 (i := 0) rfl
        clear hown3 hgrow hat hlt3 hce hF3 hP3 hV3 hH3
        obtain ⟨hcap1, hcap2⟩ := hcap
        change K (Act.put _ (some 37) _) w3
        refine hK.out _ _ (fun _ => ⟨hc3, hh3, hz3⟩) ?_
        clear hK K
        try simp only [Act.put, List.setIfInBounds_toArray, List.set_cons_zero, List.set_cons_succ]
        refine wpAnyK_one 7 (by kernel_rfl) rfl (fun K hK => ?_)
        go_simp
        refine hK.out _ _ (fun h => absurd rfl h) ?_
        clear hK K
        refine wpAnyK_done (by kernel_rfl) ?_ _
        have hst : SFr gP gV w3 (.slice (some ⟨gg, 0, none⟩) (np + 1) cap) (w3.setCell ⟨gP, 0, none⟩ (.slice (some ⟨gg, 0, none⟩) (np + 1) cap)) (.slice (some ⟨gg, 0, none⟩) (np + 1) cap) := SFr.setP _ _ _ _
        have HF4 := Lib.hid (HF3.out.trans hst)
        have D4 : Hid (DSt fl wh n gS gW gP gV gH gF Aw cw (some ⟨b, o, none⟩) nh ch base (w3.setCell ⟨gP, 0, none⟩ (.slice (some ⟨gg, 0, none⟩) (np + 1) cap)) (ps ++ [x]) (some ⟨gg, 0, none⟩) (np + 1) cap vq) := by
          refine D.out.step HF4.out (blk_set HP3.out _) ?_ (own_far' HO3.out (own_ne HO3.out HP3.out (by decide)) _) (by simp [D.out.len])
          rw [Below.heap_setCell _ _ _ _ (by simpa using D.out.pV.symm)]; exact HV3.out
        clear hst HO3 HP3 HV3 hc3 hf3 hh3 hz3 HF3 D1 hS c2 c5 hcz
        generalize w3.setCell ⟨gP, 0, none⟩ (.slice (some ⟨gg, 0, none⟩) (np + 1) cap) = W4 at *
        have HCA : Hid (Calls Tryd.prog 75 #[.int .i64 ((k : Int) + 1), .int .i64 (m : Int), .pointer (some ⟨gS, 0, none⟩), .pointer (some ⟨gW, 0, none⟩), .pointer (some ⟨gP, 0, none⟩), .pointer (some ⟨gV, 0, none⟩), .pointer (some ⟨gH, 0, none⟩), .pointer (some ⟨gF, 0, none⟩)] W4 (SRet fl wh n gS gW gP gV gH gF Aw cw (some ⟨b, o, none⟩) nh ch base W4 (ps ++ [x]) (.slice (some ⟨gg, 0, none⟩) (np + 1) cap) (k + 1) m)) := by
          have hsub : ((ps ++ [x]) ++ wh.drop (k + 1)).Sublist (ps ++ wh.drop next) := by
            rw [List.append_assoc]
            refine List.Sublist.append_left ?_ ps
            have : [x] ++ wh.drop (k + 1) = wh.drop k := by
              obtain ⟨hk, e⟩ := List.getElem?_eq_some_iff.1 HX.out
              rw [List.drop_eq_getElem_cons hk, e]; rfl
            rw [this]
            obtain ⟨j, hj⟩ : ∃ j, k = next + j := ⟨k - next, by omega⟩
            rw [hj, ← List.drop_drop]
            exact List.drop_sublist _ _
          exact HIH.out (k + 1) W4 (ps ++ [x]) _ (np + 1) cap vq D4.out (by omega) (by omega) ⟨hcap1, hcap2⟩ (HD.out.sublist hsub) (fun p hp => HLT.out p (hsub.subset hp))
        have c7 := blk_cell D4.out.f (i := 0) rfl
        go_upto_if 43 with (go_at_call 75; refine HCA.out.mono ?_; rintro e x5 ⟨b5, ps5, A5, n5, c5, v5, rfl, d5, f5, g51, g52, ht, hf⟩; replace d5 := Lib.hid d5; replace f5 := Lib.hid f5; replace ht := Lib.hid ht; replace hf := Lib.hid hf)
        clear c7 HCA HIH
        have hEX : SFr gP gV w (.slice Ap np cp) x5 (.slice A5 n5 c5) := (HF.out.trans HF4.out).trans f5.out
        replace hEX := Lib.hid hEX
        cases b5 with
        | true =>
          go_wp2_with fail
          go_ret
          obtain ⟨S, xs, q1, q2, q3, q4, q5, q6⟩ := ht.out trivial
          refine ⟨true, ps5, A5, n5, c5, v5, rfl, d5.out, hEX.out, g51, g52, fun _ => ⟨x :: S, xs, ?_, by rw [HQ.out]; simp [q2], by rw [q3]; simp, q4, fun p hp => q5 p (Nat.lt_of_lt_of_le hp (HF.out.trans HF4.out).size), q6⟩, fun h => by cases h⟩
          obtain ⟨hk, e⟩ := List.getElem?_eq_some_iff.1 HX.out
          have h1 : (x :: S).Sublist (wh.drop k) := by rw [List.drop_eq_getElem_cons hk, e]; exact q1.cons_cons x
          obtain ⟨j, hj⟩ : ∃ j, k = next + j := ⟨k - next, by omega⟩
          rw [hj, ← List.drop_drop] at h1
          exact h1.trans (List.drop_sublist _ _)
        | false =>
          obtain ⟨hps5, hno5⟩ := hf.out rfl
          subst hps5
          have hn5 : n5 = np + 1 := by rw [← d5.out.len, ← D.out.len]; simp
          subst hn5
          obtain ⟨g5, rfl⟩ : ∃ g5, A5 = some ⟨g5, 0, none⟩ := by
            rcases d5.out.own.2 with ⟨e, h0⟩ | ⟨g', cap', cur, e, _⟩
            · omega
            · injection e with e1; exact ⟨g', e1⟩
          have HNO5 := Lib.hid hno5
          clear hno5 ht hf
          have c2 := blk_cell d5.out.p (i := 0) rfl
          have c2f := blk_frozen d5.out.p 0
          have w1 : IntKind.i64.wrap (((np + 1 : Nat) : Int) - 1) = (np : Int) := by rw [IntWalk.i64_in _ (by omega)]; omega
          go_upto_region 7 with (fail)
          have hst0 : SFr gP gV x5 (.slice (some ⟨g5, 0, none⟩) (np + 1) c5) x5 (.slice (some ⟨g5, 0, none⟩) np c5) := ⟨rfl, rfl, rfl, Nat.le_refl _, fun _ _ _ _ _ => rfl, fun k hk => .inl (by simpa [Value.ownBlock] using hk)⟩
          have hst : SFr gP gV x5 (.slice (some ⟨g5, 0, none⟩) (np + 1) c5) (x5.setCell ⟨gP, 0, none⟩ (.slice (some ⟨g5, 0, none⟩) np c5)) (.slice (some ⟨g5, 0, none⟩) np c5) := hst0.trans (SFr.setP _ _ _ _)
          have HF6 := Lib.hid (hEX.out.trans hst)
          have D6 : Hid (DSt fl wh n gS gW gP gV gH gF Aw cw (some ⟨b, o, none⟩) nh ch base (x5.setCell ⟨gP, 0, none⟩ (.slice (some ⟨g5, 0, none⟩) np c5)) ps (some ⟨g5, 0, none⟩) np c5 v5) := by
            have ho := own_take d5.out.own (show np ≤ np + 1 by omega)
            have e : (((psI (ps ++ [x])).map (Value.int .i64)).take (np * 1)) = (psI ps).map (Value.int .i64) := by
              rw [Nat.mul_one]
              have : psI (ps ++ [x]) = psI ps ++ [(x : Int)] := by simp [psI]
              rw [this, List.map_append, List.take_append_of_le_length (by simp [psI_len, D.out.len]), List.take_of_length_le (by simp [psI_len, D.out.len])]
            rw [e] at ho
            refine d5.out.step hst (blk_set d5.out.p _) ?_ (own_far' ho (own_ne ho d5.out.p (by decide)) _) D.out.len
            rw [Below.heap_setCell _ _ _ _ (by simpa using D.out.pV.symm)]; exact d5.out.v
          clear hst hst0 c2 c2f w1 f5 d5
          go_wp2_with fail
          go_roundw
          case rel =>
            refine ⟨k + 1, some ⟨g5, 0, none⟩, c5, v5, by go_num, by omega, by omega, by omega, by omega, D6.out, HF6.out, fun i y h1 h2 hy S hS hl c ho hc => ?_⟩
            by_cases e : i = k
            · subst e
              rw [HX.out] at hy
              injection hy with hy
              subst hy
              refine HNO5.out S hS hl c ?_ hc
              rw [List.append_assoc]; exact ho
            · exact HNO.out i y h1 (by omega) hy S hS hl c ho hc
          case measure => simp [intOf]; omega
      · have hke : k = nh := by omega
        go_wp2_with fail
        go_ret
        refine ⟨false, ps, Aq, np, cq, vq, rfl, D.out, HF.out, hcq1, hcq2, (fun h => by cases h), fun _ => ⟨rfl, fun S hS hl c ho hc => ?_⟩⟩
        rw [HQ.out] at hl
        match S, hl with
        | x :: S, hl =>
          obtain ⟨i, h1, h2, h3⟩ := sub_first next hS
          have hi := (List.getElem?_eq_some_iff.1 h2).1
          exact HNO.out i x h1 (by rw [HNH.out] at hi; omega) h2 S h3 (by simpa using hl) c ho hc
end
end Go.Proofs.YtcpanmonllhmaaaDoor
