/- rscode.generator. -/
import Derived.Test.YtcpanmonllhmaaaDoorGRsD
import Derived.Test.YtcpanmonllhmaaaDoorClone
set_option linter.unusedSimpArgs false
set_option linter.unusedVariables false
namespace Go.Proofs.YtcpanmonllhmaaaDoor
open Go.RowKit

/-- A row of elements of the call's own. -/
def OwnW (base : Nat) (w : World) (v : Value) (l : List F) : Prop := w.ownsRow base 3 1 v l.length ((wI l).map (Value.int .i64))
theorem wI_i64 (l : List F) : ∀ x ∈ wI l, I64 x := by
  intro x hx
  unfold wI at hx
  obtain ⟨c, _, rfl⟩ := List.mem_map.1 hx
  have := c.lt
  constructor <;> omega
theorem OwnW.isI {p base : Nat} {w : World} {v : Value} {l : List F} (h : OwnW base w v l) (hp : p < base) (hl : l.length ≤ 1000000) : IsI p w v (wI l) :=
  IsI.of_own (e := 3) (n := l.length) h hp (wI_i64 l) (by rw [wI_len]; omega)
theorem OwnW.form {base : Nat} {w : World} {v : Value} {l : List F} (h : OwnW base w v l) (h0 : 0 < l.length) : ∃ g c, v = .slice (some ⟨g, 0, none⟩) l.length c ∧ base ≤ g ∧ g < w.heap.size ∧ l.length ≤ c ∧ c ≤ 9223372036854775807 := by
  rcases h.2 with ⟨_, e⟩ | ⟨g, cap, cur, hv, hg, hh, h1, h2, _⟩
  · omega
  · exact ⟨g, cap, hv, hg, lt_of_blk hh, h1, h2⟩
/-- A store into the row. -/
theorem OwnW.put {base g c n : Nat} {w : World} {l : List F} (h : OwnW base w (.slice (some ⟨g, 0, none⟩) n c) l) (hn : l.length = n) (j : Nat) (y : F) :
    OwnW base (w.setCell ⟨g, j, none⟩ (.int .i64 (y.n : Int))) (.slice (some ⟨g, 0, none⟩) n c) (l.set j y) := by
  subst hn
  have := (World.ownsRow.stored h j (.int .i64 (y.n : Int))).1
  unfold OwnW
  rw [List.length_set]
  unfold wI at this ⊢
  rw [List.map_set, List.map_set]
  exact this
theorem OwnW.cell {base g c n k : Nat} {w : World} {l : List F} {x : F} (h : OwnW base w (.slice (some ⟨g, 0, none⟩) n c) l) (hn : l.length = n) (hx : l[k]? = some x) : w.cell? ⟨g, k, none⟩ = some (.int .i64 (x.n : Int)) := by
  subst hn
  have hk := (List.getElem?_eq_some_iff.1 hx).1
  rw [World.ownsRow.cellAt h k (by omega)]
  unfold wI
  rw [List.getElem?_map, List.getElem?_map, hx]; rfl
theorem OwnW.froz {base g c n : Nat} {w : World} {l : List F} (h : OwnW base w (.slice (some ⟨g, 0, none⟩) n c) l) (hn : l.length = n) (k : Nat) : w.frozen? ⟨g, k, none⟩ = false := by
  subst hn; exact World.ownsRow.frozenAt h k
theorem OwnW.ext {base : Nat} {w w' : World} {v : Value} {l : List F} (h : OwnW base w v l) (hx : Ext w w') : OwnW base w' v l := own_ext h hx
theorem OwnW.xt {p base : Nat} {w w' : World} {v : Value} {l : List F} (h : OwnW base w v l) (hx : XT p w w') (hp : p < base) : OwnW base w' v l := own_xt h hx hp

/-- The next product, the first k coefficients taken in. -/
def genPart (g : List F) (x : F) (k : Nat) : List F := List.zipWith (· + ·) (g ++ [0]) (0 :: ((g.take k).map (· * x) ++ List.replicate (g.length - k) 0))
theorem genPart_len (g : List F) (x : F) (k : Nat) (h : k ≤ g.length) : (genPart g x k).length = g.length + 1 := by
  unfold genPart; simp; omega
theorem genPart_at {g : List F} {x : F} {k i : Nat} (h : k ≤ g.length) (hi : i < g.length + 1) : (genPart g x k)[i]? = some ((g ++ [0]).getD i 0 + (if 1 ≤ i ∧ i ≤ k then g.getD (i - 1) 0 * x else 0)) := by
  unfold genPart
  rw [List.getElem?_zipWith, F.getD_eq (w := g ++ [0]) (by simpa using hi)]
  match i with
  | 0 => simp
  | i + 1 =>
    simp only [List.getElem?_cons_succ, Nat.add_sub_cancel]
    rcases Nat.lt_or_ge i k with hik | hik
    · rw [List.getElem?_append_left (by simp; omega), List.getElem?_map, List.getElem?_take, if_pos hik, F.getD_eq (w := g) (by omega)]
      simp [show i + 1 ≤ k by omega]
    · rw [List.getElem?_append_right (by simp; omega), List.getElem?_replicate, if_pos (by simp; omega)]
      simp [show ¬ i + 1 ≤ k by omega]
theorem genPart_zero (g : List F) (x : F) : genPart g x 0 = g ++ [0] := by
  apply List.ext_getElem?
  intro i
  rcases Nat.lt_or_ge i (g.length + 1) with hi | hi
  · rw [genPart_at (by omega) hi, if_neg (by omega), F.add_zero, F.getD_eq (w := g ++ [0]) (by simpa using hi)]
  · rw [List.getElem?_eq_none (by rw [genPart_len _ _ _ (by omega)]; exact hi), List.getElem?_eq_none (by simpa using hi)]
theorem genPart_all (g : List F) (x : F) : genPart g x g.length = F.genStep g x := by
  unfold genPart F.genStep; simp
theorem genPart_succ {g : List F} {x c : F} {k : Nat} (h : g[k]? = some c) : (genPart g x k).set (k + 1) ((g ++ [0]).getD (k + 1) 0 + c * x) = genPart g x (k + 1) := by
  have hk := (List.getElem?_eq_some_iff.1 h).1
  have hc : g.getD k 0 = c := by rw [List.getD_eq_getElem?_getD, h]; rfl
  apply List.ext_getElem?
  intro i
  rcases Nat.lt_or_ge i (g.length + 1) with hi | hi
  · rw [List.getElem?_set, genPart_at (by omega) hi, genPart_at (by omega) hi, genPart_len _ _ _ (by omega)]
    by_cases e : k + 1 = i
    · subst e
      rw [if_pos rfl, if_pos hi, if_pos ⟨by omega, by omega⟩, Nat.add_sub_cancel, hc]
    · rw [if_neg e]
      congr 2
      by_cases e2 : 1 ≤ i ∧ i ≤ k
      · rw [if_pos e2, if_pos ⟨e2.1, by omega⟩]
      · rw [if_neg e2, if_neg (by omega)]
  · rw [List.getElem?_eq_none (by rw [List.length_set, genPart_len _ _ _ (by omega)]; exact hi), List.getElem?_eq_none (by rw [genPart_len _ _ _ (by omega)]; exact hi)]
theorem genTo_len (k : Nat) : (F.genTo k).length = k + 1 := by
  induction k with
  | zero => rfl
  | succ k ih => unfold F.genTo F.genStep; simp [ih]

theorem arrayAt6 (b o c : Nat) (w : World) : (Instr.arrayAt 78 (.slice (some ⟨b, o, none⟩) 6 c)).run Tryd.prog w = .ok (.pointer (some ⟨b, o, none⟩)) w := by
  have hS : Tryd.prog.underlying 78 = some (.array 6 3) := by kernel_rfl
  simp [Instr.arrayAt, run_underlying hS]
set_option maxRecDepth 100000 in
set_option maxHeartbeats 2000000 in
theorem generator_any (w : World) (hT : Tabs w) :
    Calls Tryd.prog 60 #[] w fun e w' => e = .returned (.agg #[.int .i64 17, .int .i64 26, .int .i64 30, .int .i64 27, .int .i64 30, .int .i64 24]) ∧ Ext w w' := by
  have HT := Lib.hid hT
  clear hT
  obtain ⟨i0, hi0, hz0, hz1, hz2⟩ := info_parts Tryd.infoI
  go_enter Tryd.func60, Tryd.ntmps60
  go_upto_region 2 with (fail)
  generalize hW : (w.alloc (.cells #[.int .i64 0, .int .i64 0, .int .i64 0, .int .i64 0, .int .i64 0, .int .i64 0] 78)).alloc (.cells #[.int .i64 1] 3) = W
  have HE : Hid (Ext w W) := by subst hW; exact ((Ext.refl w).alloc _).alloc _
  have HR : Hid (W.heap[w.heap.size]? = some (.cells #[.int .i64 0, .int .i64 0, .int .i64 0, .int .i64 0, .int .i64 0, .int .i64 0] 78 (0, 0))) := by
    subst hW; exact ((Ext.refl _).alloc _).blk (heap_alloc_new w _)
  have HG : Hid (IsI W.heap.size W (.slice (some ⟨w.heap.size + 1, 0, none⟩) 1 1) (wI (F.genTo 0))) := by
    subst hW
    have := IsI.litg (w := w.alloc (.cells #[.int .i64 0, .int .i64 0, .int .i64 0, .int .i64 0, .int .i64 0, .int .i64 0] 78)) (p := w.heap.size) [1] 3 (w.heap.size + 1) (by rw [World.size_alloc]) (by omega) (by decide) (by decide)
    exact this.re (Nat.le_refl _)
  clear hW
  go_wp2_with fail
  go_loopw [1, 2] (fun s1 s2 wr => ∃ (j : Nat) (A : Option Addr) (n c : Nat), s2 = .int .i64 ((j : Int) + 1) ∧ s1 = .slice A n c ∧ j ≤ 6 ∧ 1 ≤ n ∧ n ≤ 7 ∧ Hid (n = j + 1) ∧ n ≤ c ∧ c ≤ 9223372036854775807 ∧ Hid (IsI wr.heap.size wr (.slice A n c) (wI (F.genTo j)) ∧ Ext W wr)) (fun _ i _ => 7 - (intOf i).toNat)
  case atStart => exact ⟨0, _, 1, 1, rfl, rfl, by omega, by omega, by omega, rfl, by omega, by omega, HG.out, Ext.refl _⟩
  case round =>
    obtain ⟨j, A, n, c, rfl, rfl, hj, hn1, hn7, HN, hnc, hc, HJ⟩ := hrel
    clear HG
    by_cases hj6 : j < 6
    · obtain ⟨wo, rfl⟩ : ∃ wo : World, wo = wr := ⟨_, rfl⟩
      have HTo := Lib.hid (HT.out.ext (HE.out.trans HJ.out.2))
      have hd : decide ((j : Int) + 1 ≤ 6) = true := by simp; omega
      go_wp2_with (first
        | (go_at_call 62; refine (clone_own _ (wI (F.genTo j)) _ HJ.out.1 (by rw [wI_len, genTo_len]; omega)).mono ?_; rintro e w1 ⟨v1, rfl, HO1, HX1⟩; replace HO1 := Lib.hid HO1; replace HX1 := Lib.hid HX1)
        | (at_builtin; refine wpList_push _ rfl (.tmp 12) (.tmp 13) 22 rfl wo.heap.size 3 i0 _ 8 Tryd.underlying22 hi0 hz0 hz1 hz2 rfl _ _ _ rfl (HO1.out.alloc _) _ _ rfl (by simp; rfl) rfl (by rw [wI_len, genTo_len]; omega) (by omega) (by have := HX1.out.size; simp; omega) ?_; intro v2 w2 hown hg))
      have HO2 : Hid (OwnW wo.heap.size w2 v2 (genPart (F.genTo j) (F.gp (j + 1)) 0)) := by
        rw [genPart_zero]
        show World.ownsRow _ _ _ _ _ _ _
        rw [wI_app, List.map_append, List.length_append]
        rw [wI_len] at hown
        exact hown
      have HX2 : Hid (Ext wo w2) := Ext.grown (HX1.out.alloc _) hg (own_ge HO1.out)
      clear hown hg HO1 HX1
      have hgl := genTo_len j
      have HX := Lib.hid (show F.genStep (F.genTo j) (F.gp (j + 1)) = F.genTo (j + 1) from rfl)
      generalize F.genTo j = gl at *
      have HGL := Lib.hid (hgl.trans HN.out.symm)
      clear hgl
      have hlen : (genPart gl (F.gp (j + 1)) 0).length = n + 1 := by rw [genPart_len _ _ _ (by omega), HGL.out]
      obtain ⟨g3, c3, hv2, hg3, hg3', hc3, hc3'⟩ := HO2.out.form (by omega)
      rw [hlen] at hv2 hc3
      subst hv2
      have HI2 := Lib.hid ((HJ.out.1.re hg3).ext HX2.out)
      have HT2 := Lib.hid (HTo.out.ext HX2.out)
      have hwo2 : 2 ≤ wo.heap.size := HTo.out.lt
      have hg32 : 2 ≤ g3 := by omega
      have HE2 := Lib.hid (HJ.out.2.trans HX2.out)
      have hWo : Hid (W.heap.size ≤ g3) := by have := HJ.out.2.size; show _ ≤ _; omega
      clear hlen HJ HTo HX2
      go_wp2_with fail
      go_loopw [17] (fun s17 wr => ∃ (k : Nat), s17 = .int .i64 k ∧ k ≤ n ∧ Hid (OwnW wo.heap.size wr (.slice (some ⟨g3, 0, none⟩) (n + 1) c3) (genPart gl (F.gp (j + 1)) k) ∧ XT g3 w2 wr)) (fun i _ => n - (intOf i).toNat)
      case atStart => exact ⟨0, rfl, by omega, HO2.out, XT.refl _ _⟩
      case round =>
        clear HO2
        obtain ⟨k, rfl, hk, HK⟩ := hrel
        by_cases hkn : k < n
        · have HIr := Lib.hid (HI2.out.xt HK.out.2)
          have HTr := Lib.hid (HT2.out.xt HK.out.2 hg32)
          obtain ⟨b, o, z, rfl, -⟩ := HIr.out.at_ hkn
          obtain ⟨z, hcz, HZ, -⟩ := HIr.out.cell_ hkn
          obtain ⟨cf, hcf, rfl⟩ := wI_at HZ.out
          have hlk : (genPart gl (F.gp (j + 1)) k).length = n + 1 := by rw [genPart_len _ _ _ (by have := HGL.out; omega), HGL.out]
          have hat := HK.out.1.cell hlk (genPart_at (k := k) (i := k + 1) (by have := HGL.out; omega) (by have := HGL.out; omega))
          rw [if_neg (by omega), F.add_zero] at hat
          have hfz := HK.out.1.froz hlk (k + 1)
          generalize hsf : (gl ++ [0]).getD (k + 1) 0 = sf at *
          have HSF := Lib.hid hsf
          have HCF := Lib.hid hcf
          have HLK := Lib.hid hlk
          clear hsf hcf hlk HZ
          have hS : wr.drew.cell? ⟨g3, k + 1, none⟩ = some (.int .i64 (sf.n : Int)) := hat
          replace hS := Lib.hid hS
          have e1 : (0 : Int) ≤ (k : Int) + 1 := by omega
          have e2 : (k : Int) + 1 < (n : Int) + 1 := by omega
          have e3 : IntKind.i64.wrap ((k : Int) + 1) = (k : Int) + 1 := IntWalk.i64_in _ (by omega)
          have e4 : ((k : Int) + 1).toNat = k + 1 := by omega
          go_upto_region 9 with (fail)
          refine wp_region_k 11 (fun w' => w'.cell? ⟨g3, k + 1, none⟩ = some (.int .i64 (sf.n : Int))) (by kernel_rfl) ?_
          refine wpAnyK_take 0 (some 22) (v := ?kv1) rfl rfl (by kernel_rfl) (by kernel_rfl) (by kernel_rfl) (by decide) (by kernel_rfl) (fun _ _ _ h => h) (by rfl) ?ky1 hS.out ?kr1
          case ky1 => ((intro wk hk); (try dsimp only at hk); go_simp; try with_reducible rfl)
          try simp only [Act.put, List.setIfInBounds_toArray, List.set_cons_zero, List.set_cons_succ]
          refine wpAnyK_take 1 (some 23) (v := ?kv2) rfl rfl (by kernel_rfl) (by kernel_rfl) (by kernel_rfl) (by decide) (by kernel_rfl) (fun _ _ _ h => h) (by rfl) ?ky2 hS.out ?kr2
          case ky2 => ((intro wk hk); (try dsimp only at hk); go_simp; try with_reducible rfl)
          try simp only [Act.put, List.setIfInBounds_toArray, List.set_cons_zero, List.set_cons_succ]
          refine wpAnyK_take 2 (some 24) (v := ?kv3) rfl rfl (by kernel_rfl) (by kernel_rfl) (by kernel_rfl) (by decide) (by kernel_rfl) (fun _ _ _ h => h) (by rfl) ?ky3 hS.out ?kr3
          case ky3 => ((intro wk hk); (try dsimp only at hk); go_simp; try with_reducible rfl)
          try simp only [Act.put, List.setIfInBounds_toArray, List.set_cons_zero, List.set_cons_succ]
          refine wpAnyK_take 3 (some 25) (v := ?kv4) rfl rfl (by kernel_rfl) (by kernel_rfl) (by kernel_rfl) (by decide) (by kernel_rfl) (fun _ _ _ h => h) (by rfl) ?ky4 hS.out ?kr4
          case ky4 => ((intro wk hk); (try dsimp only at hk); go_simp; try with_reducible rfl)
          try simp only [Act.put, List.setIfInBounds_toArray, List.set_cons_zero, List.set_cons_succ]
          refine wpAnyK_take 4 (some 26) (v := ?kv5) rfl rfl (by kernel_rfl) (by kernel_rfl) (by kernel_rfl) (by decide) (by kernel_rfl) (fun _ _ _ h => h) (by rfl) ?ky5 hS.out ?kr5
          case ky5 => ((intro wk hk); (try dsimp only at hk); go_simp; try with_reducible rfl)
          try simp only [Act.put, List.setIfInBounds_toArray, List.set_cons_zero, List.set_cons_succ]
          refine wpAnyK_take 5 (some 27) (v := ?kv6) rfl rfl (by kernel_rfl) (by kernel_rfl) (by kernel_rfl) (by decide) (by kernel_rfl) (fun _ _ _ h => h) (by rfl) ?ky6 hS.out ?kr6
          case ky6 => ((intro wk hk); (try dsimp only at hk); go_simp; try with_reducible rfl)
          try simp only [Act.put, List.setIfInBounds_toArray, List.set_cons_zero, List.set_cons_succ]
          refine wpAnyK_take 6 (some 28) (v := ?kv7) rfl rfl (by kernel_rfl) (by kernel_rfl) (by kernel_rfl) (by decide) (by kernel_rfl) (fun _ _ _ h => h) (by rfl) ?ky7 hS.out ?kr7
          case ky7 => ((intro wk hk); (try dsimp only at hk); go_simp; try with_reducible rfl)
          try simp only [Act.put, List.setIfInBounds_toArray, List.set_cons_zero, List.set_cons_succ]
          refine wpAnyK_one 7 (by kernel_rfl) rfl (fun K hK => ?_)
          go_simp
          refine (power_F (j + 1) _ (HTr.out.ext (Ext.refl _).drew) (by omega)).mono ?_
          rintro e x1 ⟨rfl, rfl⟩
          refine hK.out _ _ (fun _ => hS.out) ?_
          clear hK K
          try simp only [Act.put, List.setIfInBounds_toArray, List.set_cons_zero, List.set_cons_succ]
          refine wpAnyK_one 8 (by kernel_rfl) rfl (fun K hK => ?_)
          go_simp
          refine (mul_F cf (F.gp (j + 1)) _ (HTr.out.ext (Ext.refl _).drew)).mono ?_
          rintro e x1 ⟨rfl, m2, hx1⟩
          have HX1 : Hid (Ext wr x1) := by rw [hx1]; exact (Ext.refl wr).drew.drewN m2
          clear hx1
          have HO3 := Lib.hid (HK.out.1.ext HX1.out)
          replace hS := Lib.hid (HX1.out.cell hat)
          replace hfz := HO3.out.froz HLK.out (k + 1)
          replace hat := hS.out
          refine hK.out _ _ (fun _ => hS.out) ?_
          clear hK K
          try simp only [Act.put, List.setIfInBounds_toArray, List.set_cons_zero, List.set_cons_succ]
          refine wpAnyK_take 9 (some 31) (v := ?kv8) rfl rfl (by kernel_rfl) (by kernel_rfl) (by kernel_rfl) (by decide) (by kernel_rfl) (fun _ _ _ h => h) (by rfl) ?ky8 hS.out ?kr8
          case ky8 => ((intro wk hk); (try dsimp only at hk); go_simp; try with_reducible rfl)
          try simp only [Act.put, List.setIfInBounds_toArray, List.set_cons_zero, List.set_cons_succ]
          refine wpAnyK_take 10 (some 32) (v := ?kv9) rfl rfl (by kernel_rfl) (by kernel_rfl) (by kernel_rfl) (by decide) (by kernel_rfl) (fun _ _ _ h => h) (by rfl) ?ky9 hS.out ?kr9
          case ky9 => ((intro wk hk); (try dsimp only at hk); go_simp; try with_reducible rfl)
          try simp only [Act.put, List.setIfInBounds_toArray, List.set_cons_zero, List.set_cons_succ]
          refine wpAnyK_one 11 (by kernel_rfl) rfl (fun K hK => ?_)
          go_simp
          refine hK.out _ _ (fun h => absurd rfl h) ?_
          clear hK K
          refine wpAnyK_done (by kernel_rfl) ?_ _
          rw [xor_F]
          have HO4 := Lib.hid (HO3.out.put HLK.out (k + 1) (sf + cf * F.gp (j + 1)))
          rw [← HSF.out, genPart_succ HCF.out, HSF.out] at HO4
          have HX4 : Hid (XT g3 w2 (x1.setCell ⟨g3, k + 1, none⟩ (.int .i64 ((sf + cf * F.gp (j + 1)).n : Int)))) := (HK.out.2.ext HX1.out).setCell rfl _
          go_wp2_with fail
          go_roundw
          case rel => exact ⟨k + 1, by go_num, by omega, HO4.out, HX4.out⟩
          case measure => simp [intOf]; omega
        · obtain rfl : k = n := by omega
          go_wp2_with fail
          go_roundw
          case rel =>
            have hEr : Ext W wr := HK.out.2.fresh HE2.out hWo.out
            refine ⟨j + 1, _, k + 1, c3, by go_num, rfl, by omega, by omega, by have := HN.out; omega, by show _ = _; rw [HN.out], by omega, by omega, ?_, hEr⟩
            have := HK.out.1
            rw [← HGL.out, genPart_all, HX.out, HGL.out] at this
            exact (this.isI (p := 0) (by omega) (by rw [genTo_len]; omega)).re (Nat.le_refl _)
          case measure => simp [intOf]; omega
    · obtain rfl : j = 6 := by omega
      obtain rfl : n = 7 := HN.out
      rw [F.genTo_six] at HJ
      obtain ⟨b, o, z, rfl, -⟩ := HJ.out.1.at_ (k := 0) (by omega)
      have ce : ∀ (i : Nat) (z : Int), (wI (1 :: F.genL))[i]? = some z → wr.cell? ⟨b, o + i, none⟩ = some (.int .i64 z) := fun i z hz => by
        have hi := (List.getElem?_eq_some_iff.1 hz).1
        obtain ⟨y, hy, HY, -⟩ := HJ.out.1.cell_ (k := i) (by simpa [wI, F.genL] using hi)
        rw [HY.out] at hz
        injection hz with hz
        rw [← hz]; exact hy
      have g0 := ce 1 17 rfl
      have g1 := ce 2 26 rfl
      have g2 := ce 3 30 rfl
      have g3 := ce 4 27 rfl
      have g4 := ce 5 30 rfl
      have g5 := ce 6 24 rfl
      have HRr := Lib.hid (HJ.out.2.blk HR.out)
      have r0 := blk_cell HRr.out (i := 0) rfl
      have r1' := blk_cell HRr.out (i := 1) rfl
      have r2' := blk_cell HRr.out (i := 2) rfl
      have r3 := blk_cell HRr.out (i := 3) rfl
      have r4 := blk_cell HRr.out (i := 4) rfl
      have r5 := blk_cell HRr.out (i := 5) rfl
      have f0 := blk_frozen HRr.out 0
      have f1 := blk_frozen HRr.out 1
      have f2 := blk_frozen HRr.out 2
      have f3 := blk_frozen HRr.out 3
      have f4 := blk_frozen HRr.out 4
      have f5 := blk_frozen HRr.out 5
      clear ce
      have ha6 := arrayAt6
      go_wp2_with fail
      refine bodyPost_ret (v := .agg #[.int .i64 17, .int .i64 26, .int .i64 30, .int .i64 27, .int .i64 30, .int .i64 24]) (by simp [results, Tryd.results60, go_sem, r0, r1', r2', r3, r4, r5]) rfl ⟨rfl, ?_⟩
      have h1 := HE.out.trans HJ.out.2
      exact Ext.setCell (Ext.setCell (Ext.setCell (Ext.setCell (Ext.setCell (Ext.setCell h1 (by simp) _) (by simp) _) (by simp) _) (by simp) _) (by simp) _) (by simp) _
end Go.Proofs.YtcpanmonllhmaaaDoor
