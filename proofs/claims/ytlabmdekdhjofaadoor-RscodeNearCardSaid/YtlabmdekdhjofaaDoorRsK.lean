/- rscode.corrections: the walk. -/
import Derived.Test.YtlabmdekdhjofaaDoorRsJ
namespace Go.Proofs.YtlabmdekdhjofaaDoor
open Go.RowKit

theorem make_ints (n : Nat) (hn : n ≤ 1000000) (w : World) : (Instr.makeSlice 27 (.int .i64 (n : Int)) (.int .i64 (n : Int))).run Tryd.prog w = .ok (.slice (some ⟨w.heap.size, 0, none⟩) n n) (w.alloc (.cells (madeCells #[.int .i64 0] n) 3)) :=
  run_make_row' 27 3 (.int .i64 0) 8 Tryd.underlying27 Tryd.infoI rfl .i64 .i64 n (by omega) (by omega) w
theorem make_rows (w : World) : (Instr.makeSlice 64 (.int .i64 6) (.int .i64 6)).run Tryd.prog w = .ok (.slice (some ⟨w.heap.size, 0, none⟩) 6 6) (w.alloc (.cells #[.slice none 0 0, .slice none 0 0, .slice none 0 0, .slice none 0 0, .slice none 0 0, .slice none 0 0] 27)) := by
  have h := run_make_row' (P := Tryd.prog) 64 27 (.slice none 0 0) 24 Tryd.underlying64 Tryd.infoS rfl .i64 .i64 6 (by omega) (by omega) w
  rw [show madeCells #[Value.slice none 0 0] 6 = #[.slice none 0 0, .slice none 0 0, .slice none 0 0, .slice none 0 0, .slice none 0 0, .slice none 0 0] from by kernel_rfl] at h
  exact h
theorem made_zero (n : Nat) : (madeCells #[Value.int .i64 0] n) = ((wI (List.replicate n 0)).map (Value.int .i64)).toArray := by
  apply Array.ext
  · simp [madeCells, wI]
  · intro i h1 h2
    simp [madeCells, wI, Nat.mod_one, F.n_zero]
theorem ownW_made {base : Nat} (w : World) (n : Nat) (hb : base ≤ w.heap.size) (hn : n ≤ 1000000) : OwnW base (w.alloc (.cells (madeCells #[.int .i64 0] n) 3)) (.slice (some ⟨w.heap.size, 0, none⟩) n n) (List.replicate n 0) := by
  rw [made_zero]
  unfold OwnW
  refine ⟨by simp [wI], .inr ⟨w.heap.size, n, _, by simp, hb, heap_alloc_new w _, by simp, by unfold maxLen; omega, by simp [wI], ?_⟩⟩
  simp [wI]

/-- What corrections returns. -/
def CorrRet (w : World) (wd : List F) (ps : List Nat) (e : Ending) (w' : World) : Prop :=
  ∃ (A : Option Addr) (m cp : Nat) (b : Bool), e = .returned (.tuple #[.slice A m cp, .bool b]) ∧ Ext w w' ∧
    (b = true → ∃ xs : List F, xs.length = ps.length ∧ OwnW w.heap.size w' (.slice A m cp) xs ∧ F.Code (F.addAt wd ps xs)) ∧
    (b = false → ∀ c, F.Off wd c ps → ¬ F.Code c)

set_option maxRecDepth 100000 in
set_option maxHeartbeats 4000000 in
theorem corr_any {q : Nat} (v : Value) (wd : List F) (ps : List Nat) (n : Nat) (w : World) (hT : Tabs w) (hI : IsI q w v (psI ps)) (hn : wd.length = n) (hn31 : n ≤ 31) (hd : ps.Nodup) (hlt : ∀ p ∈ ps, p < n) (h6 : ps.length ≤ 6) :
    Calls Tryd.prog 52 #[.agg #[.int .i64 ((synF wd 0).n : Int), .int .i64 ((synF wd 1).n : Int), .int .i64 ((synF wd 2).n : Int), .int .i64 ((synF wd 3).n : Int), .int .i64 ((synF wd 4).n : Int), .int .i64 ((synF wd 5).n : Int)], .int .i64 (n : Int), v] w (CorrRet w wd ps) := by
  have h0 := hI.re (q := w.heap.size) (Nat.le_refl _)
  obtain ⟨A, u, c, rfl, hnc, hc, hnn, HL⟩ := hI.open_
  have HU : Hid (ps.length = u) := by have := HL.out; rw [psI_len] at this; exact this
  have hu6 : u ≤ 6 := by have := HU.out; omega
  have HI := Lib.hid h0
  have HT := Lib.hid hT
  have HN := Lib.hid hn
  have HD := Lib.hid hd
  have HLT := Lib.hid hlt
  clear hI hT h0 hn hd hlt h6 HL
  obtain ⟨i0, hi0, hz0, hz1, hz2⟩ := info_parts Tryd.infoI
  have hb2 : 2 ≤ w.heap.size := HT.out.lt
  go_enter Tryd.func52, Tryd.ntmps52
  have hmk := make_rows
  go_upto_region 2 with (fail)
  clear hmk
  have HM0 := Lib.hid (mat6_new (base := w.heap.size) (eI := 3) (eS := 27) (w.alloc (.cells #[.int .i64 ((synF wd 0).n : Int), .int .i64 ((synF wd 1).n : Int), .int .i64 ((synF wd 2).n : Int), .int .i64 ((synF wd 3).n : Int), .int .i64 ((synF wd 4).n : Int), .int .i64 ((synF wd 5).n : Int)] 52)) (by rw [World.size_alloc]; omega))
  have HS0 := Lib.hid (((Ext.refl _).alloc (.cells #[.slice none 0 0, .slice none 0 0, .slice none 0 0, .slice none 0 0, .slice none 0 0, .slice none 0 0] 27)).blk (heap_alloc_new w (.cells #[.int .i64 ((synF wd 0).n : Int), .int .i64 ((synF wd 1).n : Int), .int .i64 ((synF wd 2).n : Int), .int .i64 ((synF wd 3).n : Int), .int .i64 ((synF wd 4).n : Int), .int .i64 ((synF wd 5).n : Int)] 52)))
  have HE0 := Lib.hid (((Ext.refl w).alloc (.cells #[.int .i64 ((synF wd 0).n : Int), .int .i64 ((synF wd 1).n : Int), .int .i64 ((synF wd 2).n : Int), .int .i64 ((synF wd 3).n : Int), .int .i64 ((synF wd 4).n : Int), .int .i64 ((synF wd 5).n : Int)] 52)).alloc (.cells #[.slice none 0 0, .slice none 0 0, .slice none 0 0, .slice none 0 0, .slice none 0 0, .slice none 0 0] 27))
  rw [World.size_alloc] at HM0
  generalize (w.alloc (.cells #[.int .i64 ((synF wd 0).n : Int), .int .i64 ((synF wd 1).n : Int), .int .i64 ((synF wd 2).n : Int), .int .i64 ((synF wd 3).n : Int), .int .i64 ((synF wd 4).n : Int), .int .i64 ((synF wd 5).n : Int)] 52)).alloc (.cells #[.slice none 0 0, .slice none 0 0, .slice none 0 0, .slice none 0 0, .slice none 0 0, .slice none 0 0] 27) = W at *
  replace HS0 : Hid (W.heap[w.heap.size]? = some (.cells (arrF (synF wd) 6) 52 (0, 0))) := HS0.out
  have hb0 : w.heap.size < W.heap.size := lt_of_blk HS0.out
  go_wp2_with fail
  go_loopw [17] (fun s17 wr => ∃ (j : Nat), s17 = .int .i64 j ∧ j ≤ 6 ∧ Hid (Mat w.heap.size 27 3 wr (.slice (some ⟨w.heap.size + 1, 0, none⟩) 6 6) (rowsTo (F.sysM wd ps) (u + 1) j 0) ∧ Ext w wr ∧ wr.heap[w.heap.size]? = some (.cells (arrF (synF wd) 6) 52 (0, 0)))) (fun i _ => 6 - (intOf i).toNat)
  case atStart => exact ⟨0, rfl, by omega, by rw [rowsTo_zero]; exact HM0.out, HE0.out, HS0.out⟩
  case round =>
    clear HM0 HE0 HS0
    obtain ⟨j, rfl, hj, HJ⟩ := hrel
    by_cases hj6 : j < 6
    · have hd : decide ((j : Int) < 6) = true := by simp; omega
      obtain ⟨wo, rfl⟩ : ∃ wo : World, wo = wr := ⟨_, rfl⟩
      go_wp2_with fail
      go_loopw [22] (fun s22 wr => ∃ (k : Nat), s22 = .int .i64 k ∧ k ≤ u ∧ Hid (Mat w.heap.size 27 3 wr (.slice (some ⟨w.heap.size + 1, 0, none⟩) 6 6) (rowsTo (F.sysM wd ps) (u + 1) j k) ∧ Ext w wr ∧ wr.heap[w.heap.size]? = some (.cells (arrF (synF wd) 6) 52 (0, 0)))) (fun i _ => u - (intOf i).toNat)
      case atStart => exact ⟨0, rfl, by omega, HJ.out⟩
      case round =>
        clear HJ
        obtain ⟨k, rfl, hk, HK⟩ := hrel
        by_cases hku : k < u
        · have HIr := Lib.hid (HI.out.ext HK.out.2.1)
          have HTr := Lib.hid (HT.out.ext HK.out.2.1)
          obtain ⟨b, o, z, rfl, -⟩ := HIr.out.at_ hku
          obtain ⟨z, hcz, HZ, -⟩ := HIr.out.cell_ hku
          obtain ⟨pl, hpl, rfl⟩ := psI_at HZ.out
          have hpn : pl < n := HLT.out pl (List.mem_of_getElem? hpl)
          obtain ⟨m, hm⟩ : ∃ m : Nat, m = (j + 1) * (n - 1 - pl) := ⟨_, rfl⟩
          have hmb : m ≤ 1000 := by
            have h1 : (j + 1) * (n - 1 - pl) ≤ 6 * 31 := Nat.mul_le_mul (by omega) (by omega)
            omega
          have HRI : Hid ((F.rowI (F.sysM wd ps) (u + 1) j)[k]? = some ((F.gp m).n : Int)) := by
            show _ = _
            rw [F.rowI_at (by omega)]
            have e : ps.getD k 0 = pl := by rw [List.getD_eq_getElem?_getD, hpl]; rfl
            unfold F.sysM
            rw [if_pos (by rw [HU.out]; exact hku), HN.out, e, ← hm]
          have hwm : Hid (IntKind.i64.wrap (IntKind.i64.wrap ((j : Int) + 1) * IntKind.i64.wrap (IntKind.i64.wrap ((n : Int) - 1) - (pl : Int))) = (m : Int)) := by
            show _ = _
            rw [IntWalk.i64_in ((j : Int) + 1) (by omega), IntWalk.i64_in ((n : Int) - 1) (by omega), IntWalk.i64_in ((n : Int) - 1 - (pl : Int)) (by omega)]
            have hm' : ((j : Int) + 1) * ((n : Int) - 1 - (pl : Int)) = (m : Int) := by
              rw [hm, Int.natCast_mul, show (((j + 1 : Nat)) : Int) = (j : Int) + 1 by omega, show (((n - 1 - pl : Nat)) : Int) = (n : Int) - 1 - (pl : Int) by omega]
            rw [hm']; exact IntWalk.i64_in _ (by omega)
          clear hm hpl HZ
          obtain ⟨Au, mu, cu, lu, hlu, hmu, hcu, hfu, -, -, hou, -, hstep⟩ := HK.out.1.row (rowsTo_len _ _ _ _) (by decide) hj6
          rw [rowsTo_at hj6, if_neg (by omega), if_pos rfl] at hlu
          injection hlu with hlu
          have hmk : mu = k := by rw [← hmu, ← hlu, List.length_take, F.rowI_len]; omega
          have HSTEP := Lib.hid hstep
          have HOU := Lib.hid hou
          have HLU := Lib.hid hlu
          subst hmk
          clear hstep hou hlu hmu
          have HFS := Lib.hid HK.out.2.2
          have HEK := Lib.hid HK.out.2.1
          have hS : wr.drew.cell? ⟨w.heap.size + 1, j, none⟩ = some (.slice Au mu cu) := hcu
          replace hS := Lib.hid hS
          have e1 : (0 : Int) ≤ (j : Int) := Int.natCast_nonneg _
          have e2 : (j : Int) < 6 := by omega
          go_upto_region 8 with (fail)
          refine wp_region_k 17 (fun w' => w'.cell? ⟨w.heap.size + 1, j, none⟩ = some (.slice Au mu cu)) (by kernel_rfl) ?_
          refine wpAnyK_take 0 (some 26) (v := ?kv1) rfl rfl (by kernel_rfl) (by kernel_rfl) (by kernel_rfl) (by decide) (by kernel_rfl) (fun _ _ _ h => h) (by rfl) ?ky1 hS.out ?kr1
          case ky1 => ((intro wk hk); (try dsimp only at hk); go_simp; try with_reducible rfl)
          try simp only [Act.put, List.setIfInBounds_toArray, List.set_cons_zero, List.set_cons_succ]
          refine wpAnyK_take 1 (some 27) (v := ?kv2) rfl rfl (by kernel_rfl) (by kernel_rfl) (by kernel_rfl) (by decide) (by kernel_rfl) (fun _ _ _ h => h) (by rfl) ?ky2 hS.out ?kr2
          case ky2 => ((intro wk hk); (try dsimp only at hk); go_simp; try with_reducible rfl)
          try simp only [Act.put, List.setIfInBounds_toArray, List.set_cons_zero, List.set_cons_succ]
          refine wpAnyK_take 2 (some 28) (v := ?kv3) rfl rfl (by kernel_rfl) (by kernel_rfl) (by kernel_rfl) (by decide) (by kernel_rfl) (fun _ _ _ h => h) (by rfl) ?ky3 hS.out ?kr3
          case ky3 => ((intro wk hk); (try dsimp only at hk); go_simp; try with_reducible rfl)
          try simp only [Act.put, List.setIfInBounds_toArray, List.set_cons_zero, List.set_cons_succ]
          refine wpAnyK_take 3 (some 29) (v := ?kv4) rfl rfl (by kernel_rfl) (by kernel_rfl) (by kernel_rfl) (by decide) (by kernel_rfl) (fun _ _ _ h => h) (by rfl) ?ky4 hS.out ?kr4
          case ky4 => ((intro wk hk); (try dsimp only at hk); go_simp; try with_reducible rfl)
          try simp only [Act.put, List.setIfInBounds_toArray, List.set_cons_zero, List.set_cons_succ]
          refine wpAnyK_take 4 (some 30) (v := ?kv5) rfl rfl (by kernel_rfl) (by kernel_rfl) (by kernel_rfl) (by decide) (by kernel_rfl) (fun _ _ _ h => h) (by rfl) ?ky5 hS.out ?kr5
          case ky5 => ((intro wk hk); (try dsimp only at hk); go_simp; try with_reducible rfl)
          try simp only [Act.put, List.setIfInBounds_toArray, List.set_cons_zero, List.set_cons_succ]
          refine wpAnyK_take 5 (some 31) (v := ?kv6) rfl rfl (by kernel_rfl) (by kernel_rfl) (by kernel_rfl) (by decide) (by kernel_rfl) (fun _ _ _ h => h) (by rfl) ?ky6 hS.out ?kr6
          case ky6 => ((intro wk hk); (try dsimp only at hk); go_simp; try with_reducible rfl)
          try simp only [Act.put, List.setIfInBounds_toArray, List.set_cons_zero, List.set_cons_succ]
          refine wpAnyK_take 6 (some 32) (v := ?kv7) rfl rfl (by kernel_rfl) (by kernel_rfl) (by kernel_rfl) (by decide) (by kernel_rfl) (fun _ _ _ h => h) (by rfl) ?ky7 hS.out ?kr7
          case ky7 => ((intro wk hk); (try dsimp only at hk); go_simp; try with_reducible rfl)
          try simp only [Act.put, List.setIfInBounds_toArray, List.set_cons_zero, List.set_cons_succ]
          refine wpAnyK_take 7 (some 33) (v := ?kv8) rfl rfl (by kernel_rfl) (by kernel_rfl) (by kernel_rfl) (by decide) (by kernel_rfl) (fun _ _ _ h => h) (by rfl) ?ky8 hS.out ?kr8
          case ky8 => ((intro wk hk); (try dsimp only at hk); go_simp; try with_reducible rfl)
          try simp only [Act.put, List.setIfInBounds_toArray, List.set_cons_zero, List.set_cons_succ]
          refine wpAnyK_take 8 (some 34) (v := ?kv9) rfl rfl (by kernel_rfl) (by kernel_rfl) (by kernel_rfl) (by decide) (by kernel_rfl) (fun _ _ _ h => h) (by rfl) ?ky9 hS.out ?kr9
          case ky9 => ((intro wk hk); (try dsimp only at hk); go_simp; try with_reducible rfl)
          try simp only [Act.put, List.setIfInBounds_toArray, List.set_cons_zero, List.set_cons_succ]
          refine wpAnyK_take 9 (some 35) (v := ?kv10) rfl rfl (by kernel_rfl) (by kernel_rfl) (by kernel_rfl) (by decide) (by kernel_rfl) (fun _ _ _ h => h) (by rfl) ?ky10 hS.out ?kr10
          case ky10 => ((intro wk hk); (try dsimp only at hk); go_simp; try with_reducible rfl)
          try simp only [Act.put, List.setIfInBounds_toArray, List.set_cons_zero, List.set_cons_succ]
          refine wpAnyK_take 10 (some 36) (v := ?kv11) rfl rfl (by kernel_rfl) (by kernel_rfl) (by kernel_rfl) (by decide) (by kernel_rfl) (fun _ _ _ h => h) (by rfl) ?ky11 hS.out ?kr11
          case ky11 => ((intro wk hk); (try dsimp only at hk); go_simp; try with_reducible rfl)
          try simp only [Act.put, List.setIfInBounds_toArray, List.set_cons_zero, List.set_cons_succ]
          refine wpAnyK_take 11 (some 37) (v := ?kv12) rfl rfl (by kernel_rfl) (by kernel_rfl) (by kernel_rfl) (by decide) (by kernel_rfl) (fun _ _ _ h => h) (by rfl) ?ky12 hS.out ?kr12
          case ky12 => ((intro wk hk); (try dsimp only at hk); go_simp; try with_reducible rfl)
          try simp only [Act.put, List.setIfInBounds_toArray, List.set_cons_zero, List.set_cons_succ]
          refine wpAnyK_take 12 (some 38) (v := ?kv13) rfl rfl (by kernel_rfl) (by kernel_rfl) (by kernel_rfl) (by decide) (by kernel_rfl) (fun _ _ _ h => h) (by rfl) ?ky13 hS.out ?kr13
          case ky13 => ((intro wk hk); (try dsimp only at hk); go_simp; try with_reducible rfl)
          try simp only [Act.put, List.setIfInBounds_toArray, List.set_cons_zero, List.set_cons_succ]
          refine wpAnyK_one 13 (by kernel_rfl) rfl (fun K hK => ?_)
          go_simp
          rw [hwm.out]
          refine (power_F m _ (HTr.out.ext (Ext.refl _).drew) (by omega)).mono ?_
          rintro e x1 ⟨rfl, hx1⟩
          have HX1 : Hid (Ext wr x1) := by rw [hx1]; exact (Ext.refl wr).drew
          clear hx1
          replace hcu := HX1.out.cell hcu
          replace hS := Lib.hid hcu
          refine hK.out _ _ (fun _ => hS.out) ?_
          clear hK K
          try simp only [Act.put, List.setIfInBounds_toArray, List.set_cons_zero, List.set_cons_succ]
          refine wpAnyK_one 14 (by kernel_rfl) rfl (fun K hK => ?_)
          go_simp
          have E1 := Lib.hid ((Ext.refl x1).alloc (.cells #[.int .i64 ((F.gp m).n : Int)] 3))
          refine hK.out _ _ (fun _ => E1.out.cell hcu) ?_
          clear hK K
          try simp only [Act.put, List.setIfInBounds_toArray, List.set_cons_zero, List.set_cons_succ]
          refine wpAnyK_one 15 (by kernel_rfl) rfl (fun K hK => ?_)
          refine step_append_lies _ (by rfl) _ _ _ (by rfl) w.heap.size 3 i0 _ 1 8 Tryd.underlying27 hi0 hz0 hz1 hz2 rfl (by omega) (.slice Au mu cu) mu (lu.map (Value.int .i64)) (by rfl) ((own_ext HOU.out HX1.out).alloc _) ⟨x1.heap.size, 0, none⟩ 1 1 [.int .i64 ((F.gp m).n : Int)] (by rfl) (by rfl) (World.news_of_block (cs := #[.int .i64 ((F.gp m).n : Int)]) (t := 3) (fr := (0, 0)) (heap_alloc_new x1 _)) (by simp [Value.oneCell']) (by omega) (by unfold maxLen; omega) (by omega) (by have := HX1.out.size; have := HEK.out.size; simp; omega) (x1.heap.size + 1) (by simp) ?_
          intro gg cap w3 hown3 hgrow hat hlt3
          have HH := Lib.hid (HSTEP.out 0 _ _ gg cap ((F.gp m).n : Int) (HX1.out.trans E1.out).xt (by omega) hgrow hown3 (hat.imp id (fun e => by have := HX1.out.size; omega)))
          have HE3 := Lib.hid (Ext.grown ((HEK.out.trans HX1.out).trans E1.out) hgrow (own_ge HOU.out))
          have HF3 : Hid (w3.heap[w.heap.size]? = some (.cells (arrF (synF wd) 6) 52 (0, 0))) := by
            have h1 := (HX1.out.trans E1.out).blk HFS.out
            exact (hgrow.block _ (lt_of_blk h1) (fun e => own_ne HOU.out HFS.out (by decide) e.symm)).trans h1
          clear hown3 hgrow hat hlt3
          change K (Act.put _ (some 41) _) w3
          have hc3 := HH.out.1
          have hf3 := HH.out.2.1
          refine hK.out _ _ (fun _ => hc3) ?_
          clear hK K
          try simp only [Act.put, List.setIfInBounds_toArray, List.set_cons_zero, List.set_cons_succ]
          refine wpAnyK_take 16 (some 42) (v := ?kv14) rfl rfl (by kernel_rfl) (by kernel_rfl) (by kernel_rfl) (by decide) (by kernel_rfl) (fun _ _ _ h => h) (by rfl) ?ky14 hc3 ?kr14
          case ky14 => ((intro wk hk); (try dsimp only at hk); go_simp; try with_reducible rfl)
          try simp only [Act.put, List.setIfInBounds_toArray, List.set_cons_zero, List.set_cons_succ]
          refine wpAnyK_one 17 (by kernel_rfl) rfl (fun K hK => ?_)
          go_simp
          refine hK.out _ _ (fun h => absurd rfl h) ?_
          clear hK K
          refine wpAnyK_done (by kernel_rfl) ?_ _
          have HM4 := HH.out.2.2
          rw [← HLU.out, rowsTo_set hj6 HRI.out] at HM4
          replace HM4 := Lib.hid HM4
          have HE4 := Lib.hid (HE3.out.setCell (p := ⟨w.heap.size + 1, j, none⟩) (by simp) (.slice (some ⟨gg, 0, none⟩) (mu + 1) cap))
          have HF4 : Hid ((w3.setCell ⟨w.heap.size + 1, j, none⟩ (.slice (some ⟨gg, 0, none⟩) (mu + 1) cap)).heap[w.heap.size]? = some (.cells (arrF (synF wd) 6) 52 (0, 0))) := by
            show _ = _
            rw [Below.heap_setCell _ _ _ _ (by simp)]; exact HF3.out
          clear hc3 hf3 HH
          go_wp2_with fail
          go_roundw
          case rel => exact ⟨mu + 1, by go_num, by omega, HM4.out, HE4.out, HF4.out⟩
          case measure => simp [intOf]; omega
        · have hke : k = u := by omega
          rw [hke] at HK
          clear hke
          have HRI : Hid ((F.rowI (F.sysM wd ps) (u + 1) j)[u]? = some ((synF wd j).n : Int)) := by
            show _ = _
            rw [F.rowI_at (by omega)]
            unfold F.sysM
            rw [if_neg (by rw [HU.out]; omega)]
            rfl
          obtain ⟨Au, mu, cu, lu, hlu, hmu, hcu, hfu, -, -, hou, -, hstep⟩ := HK.out.1.row (rowsTo_len _ _ _ _) (by decide) hj6
          rw [rowsTo_at hj6, if_neg (by omega), if_pos rfl] at hlu
          injection hlu with hlu
          have hmk : mu = u := by rw [← hmu, ← hlu, List.length_take, F.rowI_len]; omega
          have HSTEP := Lib.hid hstep
          have HOU := Lib.hid hou
          have HLU := Lib.hid hlu
          have HMU := Lib.hid hmk
          have hmu6 : mu ≤ 6 := by omega
          clear hstep hou hlu hmu hmk
          have HFS := Lib.hid HK.out.2.2
          have HEK := Lib.hid HK.out.2.1
          have hsc : wr.cell? ⟨w.heap.size, j, none⟩ = some (.int .i64 ((synF wd j).n : Int)) := blk_cell HFS.out (arrF_at hj6)
          have hS : wr.drew.cell? ⟨w.heap.size + 1, j, none⟩ = some (.slice Au mu cu) ∧ wr.drew.cell? ⟨w.heap.size, j, none⟩ = some (.int .i64 ((synF wd j).n : Int)) := ⟨hcu, hsc⟩
          replace hS := Lib.hid hS
          have e1 : (0 : Int) ≤ (j : Int) := Int.natCast_nonneg _
          have e2 : (j : Int) < 6 := by omega
          go_upto_region 10 with (fail)
          refine wp_region_k 12 (fun w' => w'.cell? ⟨w.heap.size + 1, j, none⟩ = some (.slice Au mu cu) ∧ w'.cell? ⟨w.heap.size, j, none⟩ = some (.int .i64 ((synF wd j).n : Int))) (by kernel_rfl) ?_
          refine wpAnyK_take 0 (some 44) (v := ?kv15) rfl rfl (by kernel_rfl) (by kernel_rfl) (by kernel_rfl) (by decide) (by kernel_rfl) (fun _ _ _ h => h) (by rfl) ?ky15 hS.out ?kr15
          case ky15 => ((intro wk hk); (try dsimp only at hk); go_simp; try with_reducible rfl)
          try simp only [Act.put, List.setIfInBounds_toArray, List.set_cons_zero, List.set_cons_succ]
          refine wpAnyK_take 1 (some 45) (v := ?kv16) rfl rfl (by kernel_rfl) (by kernel_rfl) (by kernel_rfl) (by decide) (by kernel_rfl) (fun _ _ _ h => h) (by rfl) ?ky16 hS.out ?kr16
          case ky16 => ((intro wk hk); (try dsimp only at hk); go_simp; try with_reducible rfl)
          try simp only [Act.put, List.setIfInBounds_toArray, List.set_cons_zero, List.set_cons_succ]
          refine wpAnyK_take 2 (some 46) (v := ?kv17) rfl rfl (by kernel_rfl) (by kernel_rfl) (by kernel_rfl) (by decide) (by kernel_rfl) (fun _ _ _ h => h) (by rfl) ?ky17 hS.out ?kr17
          case ky17 => ((intro wk hk); (try dsimp only at hk); go_simp; try with_reducible rfl)
          try simp only [Act.put, List.setIfInBounds_toArray, List.set_cons_zero, List.set_cons_succ]
          refine wpAnyK_take 3 (some 47) (v := ?kv18) rfl rfl (by kernel_rfl) (by kernel_rfl) (by kernel_rfl) (by decide) (by kernel_rfl) (fun _ _ _ h => h) (by rfl) ?ky18 hS.out ?kr18
          case ky18 => ((intro wk hk); (try dsimp only at hk); go_simp; try with_reducible rfl)
          try simp only [Act.put, List.setIfInBounds_toArray, List.set_cons_zero, List.set_cons_succ]
          refine wpAnyK_take 4 (some 48) (v := ?kv19) rfl rfl (by kernel_rfl) (by kernel_rfl) (by kernel_rfl) (by decide) (by kernel_rfl) (fun _ _ _ h => h) (by rfl) ?ky19 hS.out ?kr19
          case ky19 => ((intro wk hk); (try dsimp only at hk); go_simp; try with_reducible rfl)
          try simp only [Act.put, List.setIfInBounds_toArray, List.set_cons_zero, List.set_cons_succ]
          refine wpAnyK_take 5 (some 49) (v := ?kv20) rfl rfl (by kernel_rfl) (by kernel_rfl) (by kernel_rfl) (by decide) (by kernel_rfl) (fun _ _ _ h => h) (by rfl) ?ky20 hS.out ?kr20
          case ky20 => ((intro wk hk); (try dsimp only at hk); go_simp; try with_reducible rfl)
          try simp only [Act.put, List.setIfInBounds_toArray, List.set_cons_zero, List.set_cons_succ]
          refine wpAnyK_take 6 (some 50) (v := ?kv21) rfl rfl (by kernel_rfl) (by kernel_rfl) (by kernel_rfl) (by decide) (by kernel_rfl) (fun _ _ _ h => h) (by rfl) ?ky21 hS.out ?kr21
          case ky21 => ((intro wk hk); (try dsimp only at hk); go_simp; try with_reducible rfl)
          try simp only [Act.put, List.setIfInBounds_toArray, List.set_cons_zero, List.set_cons_succ]
          refine wpAnyK_take 7 (some 51) (v := ?kv22) rfl rfl (by kernel_rfl) (by kernel_rfl) (by kernel_rfl) (by decide) (by kernel_rfl) (fun _ _ _ h => h) (by rfl) ?ky22 hS.out ?kr22
          case ky22 => ((intro wk hk); (try dsimp only at hk); go_simp; try with_reducible rfl)
          try simp only [Act.put, List.setIfInBounds_toArray, List.set_cons_zero, List.set_cons_succ]
          refine wpAnyK_take 8 (some 52) (v := ?kv23) rfl rfl (by kernel_rfl) (by kernel_rfl) (by kernel_rfl) (by decide) (by kernel_rfl) (fun _ _ _ h => h) (by rfl) ?ky23 hS.out ?kr23
          case ky23 => ((intro wk hk); (try dsimp only at hk); go_simp; try with_reducible rfl)
          try simp only [Act.put, List.setIfInBounds_toArray, List.set_cons_zero, List.set_cons_succ]
          refine wpAnyK_one 9 (by kernel_rfl) rfl (fun K hK => ?_)
          go_simp
          have E1 := Lib.hid ((Ext.refl wr).alloc (.cells #[.int .i64 ((synF wd j).n : Int)] 3))
          have hce : ((wr.alloc (.cells #[.int .i64 ((synF wd j).n : Int)] 3)).drew).cell? ⟨w.heap.size + 1, j, none⟩ = some (.slice Au mu cu) ∧ ((wr.alloc (.cells #[.int .i64 ((synF wd j).n : Int)] 3)).drew).cell? ⟨w.heap.size, j, none⟩ = some (.int .i64 ((synF wd j).n : Int)) := ⟨E1.out.cell hcu, E1.out.cell hsc⟩
          refine hK.out _ _ (fun _ => hce) ?_
          clear hK K
          try simp only [Act.put, List.setIfInBounds_toArray, List.set_cons_zero, List.set_cons_succ]
          refine wpAnyK_one 10 (by kernel_rfl) rfl (fun K hK => ?_)
          refine step_append_lies _ (by rfl) _ _ _ (by rfl) w.heap.size 3 i0 _ 1 8 Tryd.underlying27 hi0 hz0 hz1 hz2 rfl (by omega) (.slice Au mu cu) mu (lu.map (Value.int .i64)) (by rfl) ((HOU.out.alloc _).drew) ⟨wr.heap.size, 0, none⟩ 1 1 [.int .i64 ((synF wd j).n : Int)] (by rfl) (by rfl) (World.news_of_block (cs := #[.int .i64 ((synF wd j).n : Int)]) (t := 3) (fr := (0, 0)) (heap_alloc_new wr _)) (by simp [Value.oneCell']) (by omega) (by unfold maxLen; omega) (by omega) (by have := HEK.out.size; simp; omega) (wr.heap.size + 1) (by simp) ?_
          intro gg cap w3 hown3 hgrow hat hlt3
          have HH := Lib.hid (HSTEP.out 0 _ _ gg cap ((synF wd j).n : Int) (E1.out.drew).xt (by omega) hgrow hown3 (hat.imp id (fun e => by omega)))
          have HE3 := Lib.hid (Ext.grown (HEK.out.trans E1.out.drew) hgrow (own_ge HOU.out))
          have HF3 : Hid (w3.heap[w.heap.size]? = some (.cells (arrF (synF wd) 6) 52 (0, 0))) := by
            have h1 := (E1.out.drew).blk HFS.out
            exact (hgrow.block _ (lt_of_blk h1) (fun e => own_ne HOU.out HFS.out (by decide) e.symm)).trans h1
          have hs3 : w3.cell? ⟨w.heap.size, j, none⟩ = some (.int .i64 ((synF wd j).n : Int)) := blk_cell HF3.out (arrF_at hj6)
          clear hown3 hgrow hat hlt3 hce
          change K (Act.put _ (some 54) _) w3
          have hc3 := HH.out.1
          have hf3 := HH.out.2.1
          refine hK.out _ _ (fun _ => ⟨hc3, hs3⟩) ?_
          clear hK K
          try simp only [Act.put, List.setIfInBounds_toArray, List.set_cons_zero, List.set_cons_succ]
          have hc33 := Lib.hid (And.intro hc3 hs3)
          refine wpAnyK_take 11 (some 55) (v := ?kv24) rfl rfl (by kernel_rfl) (by kernel_rfl) (by kernel_rfl) (by decide) (by kernel_rfl) (fun _ _ _ h => h) (by rfl) ?ky24 hc33.out ?kr24
          case ky24 => ((intro wk hk); (try dsimp only at hk); go_simp; try with_reducible rfl)
          try simp only [Act.put, List.setIfInBounds_toArray, List.set_cons_zero, List.set_cons_succ]
          refine wpAnyK_one 12 (by kernel_rfl) rfl (fun K hK => ?_)
          go_simp
          refine hK.out _ _ (fun h => absurd rfl h) ?_
          clear hK K
          refine wpAnyK_done (by kernel_rfl) ?_ _
          have HM4 := HH.out.2.2
          rw [← HLU.out, rowsTo_set hj6 HRI.out, rowsTo_next] at HM4
          replace HM4 := Lib.hid HM4
          have HE4 := Lib.hid (HE3.out.setCell (p := ⟨w.heap.size + 1, j, none⟩) (by simp) (.slice (some ⟨gg, 0, none⟩) (mu + 1) cap))
          have HF4 : Hid ((w3.setCell ⟨w.heap.size + 1, j, none⟩ (.slice (some ⟨gg, 0, none⟩) (mu + 1) cap)).heap[w.heap.size]? = some (.cells (arrF (synF wd) 6) 52 (0, 0))) := by
            show _ = _
            rw [Below.heap_setCell _ _ _ _ (by simp)]; exact HF3.out
          clear hc3 hf3 HH hs3
          go_wp2_with fail
          go_roundw
          case rel => exact ⟨j + 1, by go_num, by omega, HM4.out, HE4.out, HF4.out⟩
          case measure => simp [intOf]; omega
    · obtain rfl : j = 6 := by omega
      have HMW : Hid (MatW w.heap.size (w.heap.size + 1) 27 3 wr (F.sysM wd ps) (u + 1)) := by
        have h := HJ.out.1
        rw [rowsTo_all] at h
        exact h.matW (by decide) (by omega)
      have HEJ := Lib.hid HJ.out.2.1
      clear HJ
      have HSE : Hid (∀ M : Nat → Nat → F, F.Unit6 M u → (∀ X, F.Sol M X (u + 1) ↔ F.Sol (F.sysM wd ps) X (u + 1)) → ((∀ r, u ≤ r → r < 6 → M r u = 0) → F.Code (F.addAt wd ps ((List.range u).map fun c => M c u))) ∧ (∀ c, F.Off wd c ps → F.Code c → (∀ r, u ≤ r → r < 6 → M r u = 0) ∧ c = F.addAt wd ps ((List.range u).map fun c => M c u))) := fun M h1 h2 => by
        have h := @F.sys_end wd ps M (by rw [HN.out]; exact hn31) HD.out (by rw [HN.out]; exact HLT.out) (by rw [HU.out]; exact hu6)
        rw [HU.out] at h
        exact h h1 h2
      have hmkI := make_ints u (by omega)
      have HIND : Hid (∀ X, F.Sol (F.sysM wd ps) X (u + 1) → X u = 0 → ∀ c, c < u → X c = 0) := by
        have h := @F.sys_ind wd ps (by rw [HN.out]; exact hn31) HD.out (by rw [HN.out]; exact HLT.out) (by rw [HU.out]; exact hu6)
        rw [HU.out] at h
        exact h
      go_wp2_with (go_at_call 58; refine (elim_any w.heap.size (w.heap.size + 1) 6 u (F.sysM wd ps) _ (HT.out.ext HEJ.out) HMW.out hu6 ⟨by omega, by omega⟩ hb2 HIND.out).mono ?_; rintro e x1 ⟨M', rfl, hm1, hm2, hm3, hm4⟩; replace hm1 := Lib.hid hm1; replace hm2 := Lib.hid hm2; replace hm3 := Lib.hid hm3; replace hm4 := Lib.hid hm4)
      · rename_i hrb
        go_ret2
        refine ⟨_, _, _, false, rfl, HEJ.out.below_trans (Nat.le_refl _) hm4.out, (fun h => by cases h), fun _ c ho hc => ?_⟩
        have := (restB_iff M' u).2 (((HSE.out M' hm2.out hm3.out).2 c ho hc).1)
        rw [this] at hrb
        cases hrb
      · have hrb : (!restB M' u) = false := by assumption
        have HRB : Hid (restB M' u = true) := by
          show _ = _
          cases h : restB M' u with
          | true => rfl
          | false => rw [h] at hrb; cases hrb
        have HO0 := Lib.hid (ownW_made x1 u (base := x1.heap.size) (Nat.le_refl _) (by omega))
        have HX0 := Lib.hid ((Ext.refl x1).alloc (.cells (madeCells #[.int .i64 0] u) 3))
        have HE1 := Lib.hid (HEJ.out.below_trans (Nat.le_refl _) hm4.out)
        have hws : w.heap.size ≤ x1.heap.size := HE1.out.size
        clear hmkI hrb
        generalize x1.alloc (.cells (madeCells #[.int .i64 0] u) 3) = X2 at *
        go_loopw [67] (fun s67 wr' => ∃ (k : Nat), s67 = .int .i64 k ∧ k ≤ u ∧ Hid (OwnW x1.heap.size wr' (.slice (some ⟨x1.heap.size, 0, none⟩) u u) ((List.range k).map (fun c => M' c u) ++ List.replicate (u - k) 0) ∧ XT x1.heap.size X2 wr')) (fun i _ => u - (intOf i).toNat)
        case atStart => exact ⟨0, rfl, by omega, by simpa using HO0.out, XT.refl _ _⟩
        case round =>
          obtain ⟨k, rfl, hk, HK⟩ := hrel
          clear HO0
          have hlen : ((List.range k).map (fun c => M' c u) ++ List.replicate (u - k) (0 : F)).length = u := by simp; omega
          by_cases hku : k < u
          · have HMr : Hid (MatW w.heap.size (w.heap.size + 1) 27 3 wr M' (u + 1)) := hm1.out.keep fun i _ hl => (HK.out.2.block i (Nat.lt_of_lt_of_le hl HX0.out.size) (fun e => by injection e; omega)).trans (HX0.out.block i hl)
            obtain ⟨b2, cu2, a0, a1, a2, -, -, a3, -, -⟩ := HMr.out.at_ (r := k) (by omega)
            have a6 := a3 u (by omega)
            have hfz := HK.out.1.froz hlen k
            obtain ⟨y, hy⟩ : ∃ y, ((List.range k).map (fun c => M' c u) ++ List.replicate (u - k) (0 : F))[k]? = some y := ⟨_, List.getElem?_eq_getElem (by omega)⟩
            have hcy := HK.out.1.cell hlen hy
            have HO4 := Lib.hid (HK.out.1.put hlen k (M' k u))
            have hset : ((List.range k).map (fun c => M' c u) ++ List.replicate (u - k) (0 : F)).set k (M' k u) = (List.range (k + 1)).map (fun c => M' c u) ++ List.replicate (u - (k + 1)) 0 := by
              rw [List.set_append_right _ _ (by simp), List.range_succ, List.map_append, List.length_map, List.length_range, Nat.sub_self]
              obtain ⟨m, hm⟩ : ∃ m, u - k = m + 1 := ⟨u - k - 1, by omega⟩
              rw [hm, List.replicate_succ, List.set_cons_zero, show u - (k + 1) = m by omega]
              simp
            rw [hset] at HO4
            have HX4 := Lib.hid (HK.out.2.setCell (a := ⟨x1.heap.size, k, none⟩) rfl (.int .i64 ((M' k u).n : Int)))
            clear a3 hy hset hlen HMr
            go_wp2_with fail
            go_roundw
            case rel => exact ⟨k + 1, by go_num, by omega, HO4.out, HX4.out⟩
            case measure => simp [intOf]; omega
          · obtain rfl : k = u := by omega
            go_wp2_with fail
            go_ret2
            refine ⟨_, _, _, true, rfl, ?_, fun _ => ⟨(List.range k).map (fun c => M' c k), by simp [HU.out], ?_, (HSE.out M' hm2.out hm3.out).1 ((restB_iff M' k).1 HRB.out)⟩, (fun h => by cases h)⟩
            · exact HK.out.2.fresh (HE1.out.trans HX0.out) hws
            · have h := HK.out.1
              rw [Nat.sub_self, List.replicate_zero, List.append_nil] at h
              exact own_mono h hws
end Go.Proofs.YtlabmdekdhjofaaDoor
