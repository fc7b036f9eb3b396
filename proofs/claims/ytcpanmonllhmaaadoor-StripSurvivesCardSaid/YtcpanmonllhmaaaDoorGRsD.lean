/- Values of the field in walks; rscode.syndromes. -/
import Derived.Test.YtcpanmonllhmaaaDoorRsC
import Derived.Test.YtcpanmonllhmaaaDoorGGf
import Derived.Test.YtcpanmonllhmaaaDoorBaseG
import Derived.Test.YtcpanmonllhmaaaDoorGOrd
set_option linter.unusedSimpArgs false
set_option linter.unusedVariables false
namespace Go.Proofs.YtcpanmonllhmaaaDoor
open Go.RowKit

/-- A word as ints. -/
def wI (l : List F) : List Int := l.map fun c => (c.n : Int)
theorem wI_len (l : List F) : (wI l).length = l.length := by simp [wI]
theorem wI_at {l : List F} {k : Nat} {x : Int} (h : (wI l)[k]? = some x) : ∃ c : F, l[k]? = some c ∧ x = (c.n : Int) := by
  unfold wI at h
  rw [List.getElem?_map, Option.map_eq_some_iff] at h
  obtain ⟨c, h1, h2⟩ := h
  exact ⟨c, h1, h2.symm⟩
theorem wI_app (a b : List F) : wI (a ++ b) = wI a ++ wI b := by simp [wI]
theorem wI_inj {a b : List F} (h : wI a = wI b) : a = b := by
  unfold wI at h
  exact List.map_inj_right (fun x y e => F.ext (by omega)) |>.1 h
theorem mul_F (a b : F) (w : World) (hT : Tabs w) :
    Calls Tryd.prog 61 #[.int .i64 (a.n : Int), .int .i64 (b.n : Int)] w fun e w' => e = .returned (.int .i64 ((a * b).n : Int)) ∧ ∃ n, w' = w.drewN n := by
  have ha := a.lt
  have hb := b.lt
  have h := mul_any a.n b.n w hT (by omega) (by omega) (by omega) (by omega)
  rw [mulZ_el _ _ ha hb, ← F.n_mul] at h
  exact h
theorem rmul_F (a b : F) (w : World) :
    Calls Tryd.prog 91 #[.int .i64 (a.n : Int), .int .i64 (b.n : Int)] w fun e w' => e = .returned (.int .i64 ((a * b).n : Int)) ∧ w' = w := by
  have h := rmul_el a.n b.n w a.lt b.lt
  rw [mulZ_el _ _ a.lt b.lt, ← F.n_mul] at h
  exact h
theorem powZ_nat (m : Nat) : powZ (m : Int) = ((F.gp m).n : Int) := by
  rw [F.n_gp]; unfold powZ
  rw [show ((m : Int) % 31).toNat = m % 31 by omega]
theorem power_F (m : Nat) (w : World) (hT : Tabs w) (h : m ≤ 1000000) :
    Calls Tryd.prog 82 #[.int .i64 (m : Int)] w fun e w' => e = .returned (.int .i64 ((F.gp m).n : Int)) ∧ w' = w := by
  have := power_any m w hT (by omega) (by omega)
  rw [powZ_nat] at this
  exact this
theorem rpower_F (m : Nat) (w : World) (h : m ≤ 1000000) :
    Calls Tryd.prog 88 #[.int .i64 (m : Int)] w fun e w' => e = .returned (.int .i64 ((F.gp m).n : Int)) ∧ Ext w w' := by
  have := rpower_any m w (by omega) (by omega)
  rw [powZ_nat] at this
  exact this
theorem invZ_F (a : F) : invZ (a.n : Int) = (a.inv.n : Int) := by
  have := a.lt
  unfold invZ elB
  rw [F.n_inv]
  by_cases h : a.n = 0
  · rw [if_neg (by simp [h]), if_pos h]; rfl
  · rw [if_pos (by simp; omega), if_neg h]; simp
theorem inverse_F (a : F) (w : World) (hT : Tabs w) :
    Calls Tryd.prog 100 #[.int .i64 (a.n : Int)] w fun e w' => e = .returned (.int .i64 (a.inv.n : Int)) ∧ w' = w := by
  have ha := a.lt
  have := inverse_any a.n w hT (by omega) (by omega)
  rw [invZ_F] at this
  exact this
theorem rinverse_F (a : F) (w : World) :
    Calls Tryd.prog 90 #[.int .i64 (a.n : Int)] w fun e w' => e = .returned (.int .i64 (a.inv.n : Int)) ∧ w' = w := by
  have ha := a.lt
  have := rinverse_any a.n w (by omega) (by omega)
  rw [invZ_F] at this
  exact this
theorem xor_F (a b : F) : bits .xor .i64 (a.n : Int) (b.n : Int) = ((a + b).n : Int) := by
  have ha := a.lt
  have hb := b.lt
  rw [bits_xor _ _ (by omega) (by omega), F.n_add]

/-- An array of elements. -/
def arrF (f : Nat → F) (n : Nat) : Array Value := ((List.range n).map fun i => Value.int .i64 ((f i).n : Int)).toArray
theorem arrF_at {f : Nat → F} {n i : Nat} (h : i < n) : (arrF f n)[i]? = some (.int .i64 ((f i).n : Int)) := by
  unfold arrF; rw [List.getElem?_toArray, List.getElem?_map, List.getElem?_range h]; rfl
theorem arrF_congr {f g : Nat → F} {n : Nat} (h : ∀ i, i < n → f i = g i) : arrF f n = arrF g n := by
  unfold arrF; congr 1; exact List.map_congr_left fun i hi => by rw [h i (List.mem_range.1 hi)]
theorem arrF_set (f : Nat → F) (n i : Nat) (y : F) : (arrF f n).setIfInBounds i (.int .i64 (y.n : Int)) = arrF (fun k => if k = i then y else f k) n := by
  unfold arrF
  rw [List.setIfInBounds_toArray]
  congr 1
  apply List.ext_getElem?
  intro j
  rcases Nat.lt_or_ge j n with hj | hj
  · rw [List.getElem?_set, List.getElem?_map, List.getElem?_map, List.getElem?_range hj, List.length_map, List.length_range]
    by_cases e : i = j
    · subst e; simp [hj]
    · simp [e, Ne.symm e]
  · rw [List.getElem?_eq_none (by simpa using hj), List.getElem?_eq_none (by simpa using hj)]
theorem arrF_size (f : Nat → F) (n : Nat) : (arrF f n).size = n := by simp [arrF]

/-- The syndromes. -/
def synF (wd : List F) (i : Nat) : F := F.ev (F.gp (i + 1)) wd
def synTo (wd : List F) (j : Nat) (s : F) : Nat → F := fun i => if i < j then synF wd i else if i = j then s else 0
theorem ev_drop {x : F} {wd : List F} {k : Nat} {c : F} (h : wd[k]? = some c) : F.ev x (wd.drop k) = c * F.pwr x (wd.length - 1 - k) + F.ev x (wd.drop (k + 1)) := by
  obtain ⟨hk, rfl⟩ := List.getElem?_eq_some_iff.1 h
  rw [List.drop_eq_getElem_cons hk]
  simp only [F.ev, List.length_drop]
  rw [show wd.length - (k + 1) = wd.length - 1 - k by omega]

set_option maxRecDepth 100000 in
set_option maxHeartbeats 1000000 in
theorem syn_any {p : Nat} (v : Value) (wd : List F) (w : World) (hT : Tabs w) (hI : IsI p w v (wI wd)) (hn : wd.length ≤ 1000) :
    Calls Tryd.prog 74 #[v] w fun e w' => e = .returned (.agg (arrF (synF wd) 6)) ∧ Ext w w' := by
  have h0 := hI.re (Nat.le_refl w.heap.size)
  obtain ⟨A, n, c, rfl, hnc, hc, hnn, HL⟩ := hI.open_
  have HLn : Hid (wd.length = n) := by have := HL.out; rw [wI_len] at this; exact this
  have hn1 : n ≤ 1000 := by have := HLn.out; omega
  have HI := Lib.hid h0
  have HT := Lib.hid hT
  clear hI h0 hT hn
  go_enter Tryd.func74, Tryd.ntmps74
  go_upto_region 2 with (fail)
  generalize hW : (w.alloc (.cells #[.int .i64 0, .int .i64 0, .int .i64 0, .int .i64 0, .int .i64 0, .int .i64 0] 78)).alloc (.cells #[.int .i64 0, .int .i64 0, .int .i64 0, .int .i64 0, .int .i64 0, .int .i64 0] 78) = W
  have HE : Hid (Ext w W) := by subst hW; exact ((Ext.refl w).alloc _).alloc _
  have HR : Hid (W.heap[w.heap.size]? = some (.cells #[.int .i64 0, .int .i64 0, .int .i64 0, .int .i64 0, .int .i64 0, .int .i64 0] 78 (0, 0))) := by
    subst hW; exact ((Ext.refl _).alloc _).blk (heap_alloc_new w _)
  have HG : Hid (W.heap[w.heap.size + 1]? = some (.cells (arrF (synTo wd 0 0) 6) 78 (0, 0))) := by
    subst hW
    have := heap_alloc_new (w.alloc (.cells #[.int .i64 0, .int .i64 0, .int .i64 0, .int .i64 0, .int .i64 0, .int .i64 0] 78)) (.cells #[.int .i64 0, .int .i64 0, .int .i64 0, .int .i64 0, .int .i64 0, .int .i64 0] 78)
    rw [World.size_alloc] at this
    exact this
  clear hW
  have HIW := Lib.hid ((HI.out.re (q := w.heap.size + 1) (by omega)).ext HE.out)
  have HTW := Lib.hid (HT.out.ext HE.out)
  have hg2 : 2 ≤ w.heap.size + 1 := by have := HT.out.lt; omega
  clear HI HT
  go_wp2_with fail
  go_loopw [7] (fun s7 wr => ∃ (j : Nat), s7 = .int .i64 j ∧ j ≤ 6 ∧ Hid (wr.heap[w.heap.size + 1]? = some (.cells (arrF (synTo wd j 0) 6) 78 (0, 0)) ∧ XT (w.heap.size + 1) W wr)) (fun i _ => 6 - (intOf i).toNat)
  case atStart => exact ⟨0, rfl, by omega, HG.out, XT.refl _ _⟩
  case round =>
    obtain ⟨j, rfl, hj, HJ⟩ := hrel
    clear HG
    by_cases hj6 : j < 6
    · obtain ⟨wo, rfl⟩ : ∃ wo : World, wo = wr := ⟨_, rfl⟩
      have hd : decide ((j : Int) < 6) = true := by simp; omega
      go_wp2_with fail
      go_loopw [12] (fun s12 wr => ∃ (k : Nat), s12 = .int .i64 k ∧ k ≤ n ∧ Hid (wr.heap[w.heap.size + 1]? = some (.cells (arrF (synTo wd j (synF wd j + F.ev (F.gp (j + 1)) (wd.drop k))) 6) 78 (0, 0)) ∧ XT (w.heap.size + 1) W wr)) (fun i _ => n - (intOf i).toNat)
      case atStart => exact ⟨0, rfl, by omega, by rw [List.drop_zero]; unfold synF; rw [F.add_self]; exact HJ.out.1, HJ.out.2⟩
      case round =>
        clear HJ
        obtain ⟨k, rfl, hk, HK⟩ := hrel
        by_cases hkn : k < n
        · have HIr := Lib.hid (HIW.out.xt HK.out.2)
          have HTr := Lib.hid (HTW.out.xt HK.out.2 hg2)
          obtain ⟨b, o, z, rfl, -⟩ := HIr.out.at_ hkn
          obtain ⟨z, hcz, HZ, -⟩ := HIr.out.cell_ hkn
          obtain ⟨cf, hcf, rfl⟩ := wI_at HZ.out
          generalize hs : synF wd j + F.ev (F.gp (j + 1)) (wd.drop k) = sf at HK
          have HS := Lib.hid hs
          have HCF := Lib.hid hcf
          clear hs hcf HZ
          have hat : wr.cell? ⟨w.heap.size + 1, j, none⟩ = some (.int .i64 (sf.n : Int)) := blk_cell HK.out.1 (by rw [arrF_at hj6]; simp [synTo])
          have hfz : wr.frozen? ⟨w.heap.size + 1, j, none⟩ = false := blk_frozen HK.out.1 _
          obtain ⟨m, hm⟩ : ∃ m : Nat, m = (j + 1) * (n - 1 - k) := ⟨_, rfl⟩
          have hm' : ((j : Int) + 1) * ((n : Int) - 1 - (k : Int)) = (m : Int) := by
            rw [hm, Int.natCast_mul, show (((j + 1 : Nat)) : Int) = (j : Int) + 1 by omega, show (((n - 1 - k : Nat)) : Int) = (n : Int) - 1 - (k : Int) by omega]
          have hmb : m ≤ 10000 := by
            have h1 : (j + 1) * (n - 1 - k) ≤ 6 * 1000 := Nat.mul_le_mul (by omega) (by omega)
            omega
          have hwm : Hid (IntKind.i64.wrap (IntKind.i64.wrap ((j : Int) + 1) * IntKind.i64.wrap (IntKind.i64.wrap ((n : Int) - 1) - (k : Int))) = (m : Int)) := by
            show _ = _
            rw [IntWalk.i64_in ((j : Int) + 1) (by omega), IntWalk.i64_in ((n : Int) - 1) (by omega), IntWalk.i64_in ((n : Int) - 1 - (k : Int)) (by omega), hm']; exact IntWalk.i64_in _ (by omega)
          have HM := Lib.hid hm
          clear hm hm'
          have hS : wr.drew.cell? ⟨w.heap.size + 1, j, none⟩ = some (.int .i64 (sf.n : Int)) := hat
          replace hS := Lib.hid hS
          have e1 : (0 : Int) ≤ (j : Int) := Int.natCast_nonneg _
          have e2 : (j : Int) < 6 := by omega
          go_upto_region 8 with (fail)
          refine wp_region_k 16 (fun w' => w'.cell? ⟨w.heap.size + 1, j, none⟩ = some (.int .i64 (sf.n : Int))) (by kernel_rfl) ?_
          refine wpAnyK_take 0 (some 17) (v := ?kv1) rfl rfl (by kernel_rfl) (by kernel_rfl) (by kernel_rfl) (by decide) (by kernel_rfl) (fun _ _ _ h => h) (by rfl) ?ky1 hS.out ?kr1
          case ky1 => ((intro wk hk); (try dsimp only at hk); go_simp; try with_reducible rfl)
          try simp only [Act.put, List.setIfInBounds_toArray, List.set_cons_zero, List.set_cons_succ]
          refine wpAnyK_take 1 (some 18) (v := ?kv2) rfl rfl (by kernel_rfl) (by kernel_rfl) (by kernel_rfl) (by decide) (by kernel_rfl) (fun _ _ _ h => h) (by rfl) ?ky2 hS.out ?kr2
          case ky2 => ((intro wk hk); (try dsimp only at hk); go_simp; try with_reducible rfl)
          try simp only [Act.put, List.setIfInBounds_toArray, List.set_cons_zero, List.set_cons_succ]
          refine wpAnyK_take 2 (some 19) (v := ?kv3) rfl rfl (by kernel_rfl) (by kernel_rfl) (by kernel_rfl) (by decide) (by kernel_rfl) (fun _ _ _ h => h) (by rfl) ?ky3 hS.out ?kr3
          case ky3 => ((intro wk hk); (try dsimp only at hk); go_simp; try with_reducible rfl)
          try simp only [Act.put, List.setIfInBounds_toArray, List.set_cons_zero, List.set_cons_succ]
          refine wpAnyK_take 3 (some 20) (v := ?kv4) rfl rfl (by kernel_rfl) (by kernel_rfl) (by kernel_rfl) (by decide) (by kernel_rfl) (fun _ _ _ h => h) (by rfl) ?ky4 hS.out ?kr4
          case ky4 => ((intro wk hk); (try dsimp only at hk); go_simp; try with_reducible rfl)
          try simp only [Act.put, List.setIfInBounds_toArray, List.set_cons_zero, List.set_cons_succ]
          refine wpAnyK_take 4 (some 21) (v := ?kv5) rfl rfl (by kernel_rfl) (by kernel_rfl) (by kernel_rfl) (by decide) (by kernel_rfl) (fun _ _ _ h => h) (by rfl) ?ky5 hS.out ?kr5
          case ky5 => ((intro wk hk); (try dsimp only at hk); go_simp; try with_reducible rfl)
          try simp only [Act.put, List.setIfInBounds_toArray, List.set_cons_zero, List.set_cons_succ]
          refine wpAnyK_take 5 (some 22) (v := ?kv6) rfl rfl (by kernel_rfl) (by kernel_rfl) (by kernel_rfl) (by decide) (by kernel_rfl) (fun _ _ _ h => h) (by rfl) ?ky6 hS.out ?kr6
          case ky6 => ((intro wk hk); (try dsimp only at hk); go_simp; try with_reducible rfl)
          try simp only [Act.put, List.setIfInBounds_toArray, List.set_cons_zero, List.set_cons_succ]
          refine wpAnyK_take 6 (some 23) (v := ?kv7) rfl rfl (by kernel_rfl) (by kernel_rfl) (by kernel_rfl) (by decide) (by kernel_rfl) (fun _ _ _ h => h) (by rfl) ?ky7 hS.out ?kr7
          case ky7 => ((intro wk hk); (try dsimp only at hk); go_simp; try with_reducible rfl)
          try simp only [Act.put, List.setIfInBounds_toArray, List.set_cons_zero, List.set_cons_succ]
          refine wpAnyK_take 7 (some 24) (v := ?kv8) rfl rfl (by kernel_rfl) (by kernel_rfl) (by kernel_rfl) (by decide) (by kernel_rfl) (fun _ _ _ h => h) (by rfl) ?ky8 hS.out ?kr8
          case ky8 => ((intro wk hk); (try dsimp only at hk); go_simp; try with_reducible rfl)
          try simp only [Act.put, List.setIfInBounds_toArray, List.set_cons_zero, List.set_cons_succ]
          refine wpAnyK_take 8 (some 25) (v := ?kv9) rfl rfl (by kernel_rfl) (by kernel_rfl) (by kernel_rfl) (by decide) (by kernel_rfl) (fun _ _ _ h => h) (by rfl) ?ky9 hS.out ?kr9
          case ky9 => ((intro wk hk); (try dsimp only at hk); go_simp; try with_reducible rfl)
          try simp only [Act.put, List.setIfInBounds_toArray, List.set_cons_zero, List.set_cons_succ]
          refine wpAnyK_take 9 (some 26) (v := ?kv10) rfl rfl (by kernel_rfl) (by kernel_rfl) (by kernel_rfl) (by decide) (by kernel_rfl) (fun _ _ _ h => h) (by rfl) ?ky10 hS.out ?kr10
          case ky10 => ((intro wk hk); (try dsimp only at hk); go_simp; try with_reducible rfl)
          try simp only [Act.put, List.setIfInBounds_toArray, List.set_cons_zero, List.set_cons_succ]
          refine wpAnyK_take 10 (some 27) (v := ?kv11) rfl rfl (by kernel_rfl) (by kernel_rfl) (by kernel_rfl) (by decide) (by kernel_rfl) (fun _ _ _ h => h) (by rfl) ?ky11 hS.out ?kr11
          case ky11 => ((intro wk hk); (try dsimp only at hk); go_simp; try with_reducible rfl)
          try simp only [Act.put, List.setIfInBounds_toArray, List.set_cons_zero, List.set_cons_succ]
          refine wpAnyK_take 11 (some 28) (v := ?kv12) rfl rfl (by kernel_rfl) (by kernel_rfl) (by kernel_rfl) (by decide) (by kernel_rfl) (fun _ _ _ h => h) (by rfl) ?ky12 hS.out ?kr12
          case ky12 => ((intro wk hk); (try dsimp only at hk); go_simp; try with_reducible rfl)
          try simp only [Act.put, List.setIfInBounds_toArray, List.set_cons_zero, List.set_cons_succ]
          refine wpAnyK_one 12 (by kernel_rfl) rfl (fun K hK => ?_)
          go_simp
          rw [hwm.out]
          refine (power_F m _ (HTr.out.ext (Ext.refl _).drew) (by omega)).mono ?_
          rintro e x1 ⟨rfl, rfl⟩
          refine hK.out _ _ (fun _ => hS.out) ?_
          clear hK K
          try simp only [Act.put, List.setIfInBounds_toArray, List.set_cons_zero, List.set_cons_succ]
          refine wpAnyK_one 13 (by kernel_rfl) rfl (fun K hK => ?_)
          go_simp
          refine (mul_F cf (F.gp m) _ (HTr.out.ext (Ext.refl _).drew)).mono ?_
          rintro e x1 ⟨rfl, m2, hx1⟩
          have HX1 : Hid (Ext wr x1) := by rw [hx1]; exact (Ext.refl wr).drew.drewN m2
          clear hx1
          replace hS := Lib.hid (HX1.out.cell hat)
          have hg3 := Lib.hid (HX1.out.blk HK.out.1)
          replace hfz := blk_frozen hg3.out j
          replace hat := hS.out
          refine hK.out _ _ (fun _ => hS.out) ?_
          clear hK K
          try simp only [Act.put, List.setIfInBounds_toArray, List.set_cons_zero, List.set_cons_succ]
          refine wpAnyK_take 14 (some 31) (v := ?kv13) rfl rfl (by kernel_rfl) (by kernel_rfl) (by kernel_rfl) (by decide) (by kernel_rfl) (fun _ _ _ h => h) (by rfl) ?ky13 hS.out ?kr13
          case ky13 => ((intro wk hk); (try dsimp only at hk); go_simp; try with_reducible rfl)
          try simp only [Act.put, List.setIfInBounds_toArray, List.set_cons_zero, List.set_cons_succ]
          refine wpAnyK_take 15 (some 32) (v := ?kv14) rfl rfl (by kernel_rfl) (by kernel_rfl) (by kernel_rfl) (by decide) (by kernel_rfl) (fun _ _ _ h => h) (by rfl) ?ky14 hS.out ?kr14
          case ky14 => ((intro wk hk); (try dsimp only at hk); go_simp; try with_reducible rfl)
          try simp only [Act.put, List.setIfInBounds_toArray, List.set_cons_zero, List.set_cons_succ]
          refine wpAnyK_one 16 (by kernel_rfl) rfl (fun K hK => ?_)
          go_simp
          refine hK.out _ _ (fun h => absurd rfl h) ?_
          clear hK K
          refine wpAnyK_done (by kernel_rfl) ?_ _
          rw [xor_F]
          have HG2 : Hid ((x1.setCell ⟨w.heap.size + 1, j, none⟩ (.int .i64 ((sf + cf * F.gp m).n : Int))).heap[w.heap.size + 1]? = some (.cells (arrF (synTo wd j (synF wd j + F.ev (F.gp (j + 1)) (wd.drop (k + 1)))) 6) 78 (0, 0))) := by
            have h := blk_set (w := x1) (i := j) hg3.out (.int .i64 ((sf + cf * F.gp m).n : Int))
            rw [arrF_set] at h
            show _ = _
            rw [h]
            congr 2
            refine arrF_congr fun i _ => ?_
            unfold synTo
            by_cases e : i = j
            · subst e
              rw [if_pos rfl, if_neg (by omega), if_pos rfl, ← HS.out, ev_drop HCF.out, F.pwr_gp, HM.out, HLn.out, Nat.mul_comm (n - 1 - k)]
              rw [F.add_assoc]
              congr 1
              rw [F.add_comm (cf * _), F.add_assoc, F.add_self, F.add_zero]
            · rw [if_neg e, if_neg e, if_neg e]
          have HX2 : Hid (XT (w.heap.size + 1) W (x1.setCell ⟨w.heap.size + 1, j, none⟩ (.int .i64 ((sf + cf * F.gp m).n : Int)))) := (HK.out.2.ext HX1.out).setCell rfl _
          go_wp2_with fail
          go_roundw
          case rel => exact ⟨k + 1, by go_num, by omega, HG2.out, HX2.out⟩
          case measure => simp [intOf]; omega
        · obtain rfl : k = n := by omega
          go_wp2_with fail
          go_roundw
          case rel =>
            refine ⟨j + 1, by go_num, by omega, ?_, HK.out.2⟩
            rw [HK.out.1, List.drop_of_length_le (by rw [HLn.out]; exact Nat.le_refl _)]
            congr 2
            refine arrF_congr fun i hi => ?_
            unfold synTo
            show (if i < j then _ else if i = j then synF wd j + 0 else 0) = _
            rw [F.add_zero]
            by_cases e : i < j
            · rw [if_pos e, if_pos (by omega)]
            · rw [if_neg e]
              by_cases e2 : i = j
              · subst e2; rw [if_pos rfl, if_pos (by omega)]
              · rw [if_neg e2, if_neg (by omega)]
                split <;> rfl
          case measure => simp [intOf]; omega
    · obtain rfl : j = 6 := by omega
      have hsy : Hid (arrF (synTo wd 6 0) 6 = arrF (synF wd) 6) := arrF_congr fun i hi => by unfold synTo; rw [if_pos hi]
      have g : ∀ i, i < 6 → wr.cell? ⟨w.heap.size + 1, i, none⟩ = some (.int .i64 ((synF wd i).n : Int)) := fun i hi => blk_cell HJ.out.1 (by rw [hsy.out, arrF_at hi])
      have HRr := Lib.hid (HJ.out.2.blk HR.out (by omega))
      have g0 := g 0 (by omega)
      have g1 := g 1 (by omega)
      have g2 := g 2 (by omega)
      have g3 := g 3 (by omega)
      have g4 := g 4 (by omega)
      have g5 := g 5 (by omega)
      have r0 := blk_cell HRr.out (i := 0) rfl
      have r1' := blk_cell HRr.out (i := 1) rfl
      have r2' := blk_cell HRr.out (i := 2) rfl
      have r3 := blk_cell HRr.out (i := 3) rfl
      have r4 := blk_cell HRr.out (i := 4) rfl
      have r5 := blk_cell HRr.out (i := 5) rfl
      have f0 := blk_frozen HRr.out 0
      have f1 := blk_frozen HRr.out 1
      have f2 := blk_frozen HRr.out 2
      have f3 := blk_frozen HRr.out 3
      have f4 := blk_frozen HRr.out 4
      have f5 := blk_frozen HRr.out 5
      clear g
      go_wp2_with fail
      refine bodyPost_ret (v := .agg #[.int .i64 ((synF wd 0).n : Int), .int .i64 ((synF wd 1).n : Int), .int .i64 ((synF wd 2).n : Int), .int .i64 ((synF wd 3).n : Int), .int .i64 ((synF wd 4).n : Int), .int .i64 ((synF wd 5).n : Int)]) (by simp [results, Tryd.results74, go_sem, r0, r1', r2', r3, r4, r5]) rfl ⟨rfl, ?_⟩
      have h1 := HJ.out.2.fresh HE.out (by omega)
      exact Ext.setCell (Ext.setCell (Ext.setCell (Ext.setCell (Ext.setCell (Ext.setCell h1 (by simp) _) (by simp) _) (by simp) _) (by simp) _) (by simp) _) (by simp) _
end Go.Proofs.YtcpanmonllhmaaaDoor
/- rscode.isWord, Codeword: with slices.ContainsFunc at their closures. -/
namespace Go.Proofs.YtcpanmonllhmaaaDoor
open Go.RowKit

/-- What isWord's closure tells. -/
def badB (f x : Int) : Bool := decide (x < f) || decide (32 ≤ x)
theorem isWord1_any (x f : Int) (g : Nat) (w : World) (hc : w.cell? ⟨g, 0, none⟩ = some (.int .i64 f)) :
    Calls Tryd.prog 96 #[.int .i64 x, .pointer (some ⟨g, 0, none⟩)] w fun e w' => e = .returned (.bool (badB f x)) ∧ w' = w := by
  by_cases c1 : x < f
  · go_enter Tryd.func96, Tryd.ntmps96
    go_wp2
    go_ret
    exact ⟨ret_bool (by unfold badB; simp [c1]), rfl⟩
  · go_enter Tryd.func96, Tryd.ntmps96
    go_wp2
    go_ret
    exact ⟨ret_bool (by unfold badB; rw [decide_eq_false (show ¬ x < f by omega)]; rfl), rfl⟩
theorem encode1_any (x : Int) (w : World) (h : I64 x) :
    Calls Tryd.prog 58 #[.int .i64 x] w fun e w' => e = .returned (.bool (!elB x)) ∧ w' = w := by
  obtain ⟨h1, h2⟩ := h
  go_enter Tryd.func58, Tryd.ntmps58
  go_wp2_with (go_at_call 59; refine (isElement_any x _ h1 h2).mono ?_; rintro e w1 ⟨rfl, rfl⟩)
  go_ret
  exact ⟨rfl, rfl⟩

theorem any_to {l : List Int} {P : Int → Bool} {n : Nat} (hl : l.length = n) (h : ∀ j x, j < n → l[j]? = some x → P x = false) : l.any P = false := by
  rw [List.any_eq_false]
  intro x hx
  obtain ⟨j, hj, e⟩ := List.getElem_of_mem hx
  rw [h j x (by omega) (by rw [List.getElem?_eq_getElem hj, e])]
  simp

set_option maxRecDepth 100000 in
set_option maxHeartbeats 2000000 in
theorem indexFunc_w {p : Nat} (v : Value) (l : List Int) (f : Int) (g : Nat) (w : World) (hI : IsI p w v l) (hc : w.cell? ⟨g, 0, none⟩ = some (.int .i64 f)) :
    Calls Tryd.prog 81 #[v, .func (.func 96) #[] #[.pointer (some ⟨g, 0, none⟩)]] w fun e w' => ∃ r, e = .returned (.int .i64 r) ∧ decide (0 ≤ r) = l.any (badB f) ∧ w' = w := by
  obtain ⟨A, n, c, rfl, hnc, hcc, hnn, HL⟩ := hI.open_
  have HI := Lib.hid hI
  have HC := Lib.hid hc
  clear hI hc
  go_enter Tryd.func81, Tryd.ntmps81
  go_wp2_with fail
  go_loopw [8] (fun i wr => ∃ (k : Nat), i = .int .i64 k ∧ k ≤ n ∧ Hid (∀ j x, j < k → l[j]? = some x → badB f x = false) ∧ wr = w) (fun i _ => n - (intOf i).toNat)
  case atStart => exact ⟨0, rfl, by omega, fun j x hj => by omega, rfl⟩
  case round =>
    obtain ⟨k, rfl, hk, HK, rfl⟩ := hrel
    by_cases hkn : k < n
    · obtain ⟨b, o, z, rfl, -⟩ := HI.out.at_ hkn
      obtain ⟨z, hcz, HZ, -⟩ := HI.out.cell_ hkn
      rcases Bool.eq_false_or_eq_true (badB f z) with hb | hb
      · go_wp2_with (go_at_call 96; refine (isWord1_any z f g _ HC.out).mono ?_; rintro e w1 ⟨rfl, rfl⟩; rw [hb])
        go_ret
        exact ⟨_, rfl, by rw [decide_eq_true (by omega)]; exact (List.any_eq_true.2 ⟨z, List.mem_of_getElem? HZ.out, hb⟩).symm, rfl⟩
      · go_wp2_with (go_at_call 96; refine (isWord1_any z f g _ HC.out).mono ?_; rintro e w1 ⟨rfl, rfl⟩; rw [hb])
        go_roundw
        case rel =>
          refine ⟨k + 1, by go_num, by omega, fun j x hj hx => ?_, trivial⟩
          by_cases e : j = k
          · subst e; rw [HZ.out] at hx; injection hx with hx; subst hx; exact hb
          · exact HK.out j x (by omega) hx
        case measure => simp [intOf]; omega
    · obtain rfl : k = n := by omega
      go_wp2_with fail
      go_ret
      exact ⟨_, rfl, by rw [any_to HL.out HK.out]; decide, rfl⟩
theorem containsFunc_w {p : Nat} (v : Value) (l : List Int) (f : Int) (g : Nat) (w : World) (hI : IsI p w v l) (hc : w.cell? ⟨g, 0, none⟩ = some (.int .i64 f)) :
    Calls Tryd.prog 57 #[v, .func (.func 96) #[] #[.pointer (some ⟨g, 0, none⟩)]] w fun e w' => e = .returned (.bool (l.any (badB f))) ∧ w' = w := by
  obtain ⟨A, n, c, rfl, -⟩ := hI.open_
  have HI := Lib.hid hI
  have HC := Lib.hid hc
  clear hI hc
  go_enter Tryd.func57, Tryd.ntmps57
  go_wp2_with (go_at_call 81; refine (indexFunc_w _ l f g _ HI.out HC.out).mono ?_; rintro e w1 ⟨r, rfl, hr, rfl⟩)
  go_ret
  exact ⟨rfl, rfl⟩

set_option maxRecDepth 100000 in
set_option maxHeartbeats 2000000 in
theorem indexFunc_e {p : Nat} (v : Value) (l : List Int) (w : World) (hI : IsI p w v l) :
    Calls Tryd.prog 81 #[v, .func (.func 58) #[] #[]] w fun e w' => ∃ r, e = .returned (.int .i64 r) ∧ decide (0 ≤ r) = (l.any fun x => !elB x) ∧ w' = w := by
  obtain ⟨A, n, c, rfl, hnc, hcc, hnn, HL⟩ := hI.open_
  have HI := Lib.hid hI
  clear hI
  go_enter Tryd.func81, Tryd.ntmps81
  go_wp2_with fail
  go_loopw [8] (fun i wr => ∃ (k : Nat), i = .int .i64 k ∧ k ≤ n ∧ Hid (∀ j x, j < k → l[j]? = some x → (!elB x) = false) ∧ wr = w) (fun i _ => n - (intOf i).toNat)
  case atStart => exact ⟨0, rfl, by omega, fun j x hj => by omega, rfl⟩
  case round =>
    obtain ⟨k, rfl, hk, HK, rfl⟩ := hrel
    by_cases hkn : k < n
    · obtain ⟨b, o, z, rfl, -⟩ := HI.out.at_ hkn
      obtain ⟨z, hcz, HZ, z1, z2⟩ := HI.out.cell_ hkn
      rcases Bool.eq_false_or_eq_true (!elB z) with hb | hb
      · go_wp2_with (go_at_call 58; refine (encode1_any z _ ⟨z1, z2⟩).mono ?_; rintro e w1 ⟨rfl, rfl⟩; rw [hb])
        go_ret
        exact ⟨_, rfl, by rw [decide_eq_true (by omega)]; exact (List.any_eq_true.2 ⟨z, List.mem_of_getElem? HZ.out, hb⟩).symm, rfl⟩
      · go_wp2_with (go_at_call 58; refine (encode1_any z _ ⟨z1, z2⟩).mono ?_; rintro e w1 ⟨rfl, rfl⟩; rw [hb])
        go_roundw
        case rel =>
          refine ⟨k + 1, by go_num, by omega, fun j x hj hx => ?_, trivial⟩
          by_cases e : j = k
          · subst e; rw [HZ.out] at hx; injection hx with hx; subst hx; exact hb
          · exact HK.out j x (by omega) hx
        case measure => simp [intOf]; omega
    · obtain rfl : k = n := by omega
      go_wp2_with fail
      go_ret
      exact ⟨_, rfl, by rw [any_to HL.out HK.out]; decide, rfl⟩
theorem containsFunc_e {p : Nat} (v : Value) (l : List Int) (w : World) (hI : IsI p w v l) :
    Calls Tryd.prog 57 #[v, .func (.func 58) #[] #[]] w fun e w' => e = .returned (.bool (l.any fun x => !elB x)) ∧ w' = w := by
  obtain ⟨A, n, c, rfl, -⟩ := hI.open_
  have HI := Lib.hid hI
  clear hI
  go_enter Tryd.func57, Tryd.ntmps57
  go_wp2_with (go_at_call 81; refine (indexFunc_e _ l _ HI.out).mono ?_; rintro e w1 ⟨r, rfl, hr, rfl⟩)
  go_ret
  exact ⟨rfl, rfl⟩

/-- A list of 7 to 15 symbols from f on. -/
def wordB (f : Int) (l : List Int) : Bool := decide (7 ≤ l.length) && (decide (l.length ≤ 15) && !l.any (badB f))
set_option maxRecDepth 100000 in
set_option maxHeartbeats 2000000 in
theorem isWord_any {p : Nat} (v : Value) (l : List Int) (f : Int) (w : World) (hI : IsI p w v l) :
    Calls Tryd.prog 73 #[v, .int .i64 f] w fun e w' => e = .returned (.bool (wordB f l)) ∧ Ext w w' := by
  obtain ⟨A, n, c, rfl, hnc, hc, hnn, HL⟩ := hI.open_
  have HI := Lib.hid hI
  clear hI
  by_cases h7 : 7 ≤ n
  · by_cases h15 : n ≤ 15
    · go_enter Tryd.func73, Tryd.ntmps73
      go_wp2_with (go_at_call 57; refine (containsFunc_w _ l f w.heap.size _ (HI.out.ext ((Ext.refl _).alloc _)) (blk_cell (heap_alloc_new w _) (i := 0) rfl)).mono ?_; rintro e w1 ⟨rfl, rfl⟩)
      go_ret
      exact ⟨ret_bool (by unfold wordB; rw [HL.out]; simp [h7, h15]), (Ext.refl _).alloc _⟩
    · go_enter Tryd.func73, Tryd.ntmps73
      go_wp2_with fail
      go_ret
      exact ⟨ret_bool (by unfold wordB; rw [HL.out]; simp [h15]), (Ext.refl _).alloc _⟩
  · go_enter Tryd.func73, Tryd.ntmps73
    go_wp2_with fail
    go_ret
    exact ⟨ret_bool (by unfold wordB; rw [HL.out]; simp [h7]), (Ext.refl _).alloc _⟩
end Go.Proofs.YtcpanmonllhmaaaDoor
/- rscode.Codeword. -/
namespace Go.Proofs.YtcpanmonllhmaaaDoor
open Go.RowKit

/-- Two arrays of six ints are compared. -/
theorem eqArr6 (a0 a1 a2 a3 a4 a5 b0 b1 b2 b3 b4 b5 : Int) (w : World) : (Op.equalIn 10000 78 (.agg #[.int .i64 a0, .int .i64 a1, .int .i64 a2, .int .i64 a3, .int .i64 a4, .int .i64 a5]) (.agg #[.int .i64 b0, .int .i64 b1, .int .i64 b2, .int .i64 b3, .int .i64 b4, .int .i64 b5])).run Tryd.prog w = .ok (a0 == b0 && (a1 == b1 && (a2 == b2 && (a3 == b3 && (a4 == b4 && a5 == b5))))) w := by
  have u3 := Tryd.underlying3
  have a3' := Tryd.isAgg3
  have z3 := Tryd.sizeOf3
  have hS : Tryd.prog.underlying 78 = some (.array 6 3) := by kernel_rfl
  rw [show (10000 : Nat) = 9998 + 1 + 1 from rfl]
  unfold Op.equalIn
  simp only [Sem.run_bind, run_underlying hS, Result.andThen_ok, z3]
  simp only [Std.Legacy.Range.forIn_eq_forIn_range', Std.Legacy.Range.size]
  simp [List.range', go_sem, z3, run_equalIn_int _ _ _ _ _ _ _ u3]
  by_cases h0 : a0 = b0 <;> by_cases h1 : a1 = b1 <;> by_cases h2 : a2 = b2 <;> by_cases h3 : a3 = b3 <;> by_cases h4 : a4 = b4 <;> by_cases h5 : a5 = b5 <;> simp [*]
theorem guardArr6 : Tryd.prog.eqGuardType Tryd.prog.depth 78 = false := by kernel_rfl

/-- The elements of a list. -/
def toF (l : List Int) : List F := l.map fun x => F.mk (x.toNat % 32) (Nat.mod_lt _ (by decide))
theorem toF_len (l : List Int) : (toF l).length = l.length := by simp [toF]
theorem wI_toF {l : List Int} (h : ∀ x ∈ l, 0 ≤ x ∧ x < 32) : wI (toF l) = l := by
  unfold wI toF
  rw [List.map_map]
  refine (List.map_congr_left (g := id) fun x hx => ?_).trans (List.map_id l)
  have := h x hx
  show ((x.toNat % 32 : Nat) : Int) = x
  omega
theorem toF_wI (l : List F) : toF (wI l) = l := by
  unfold wI toF
  rw [List.map_map]
  refine (List.map_congr_left (g := id) fun x _ => F.ext ?_).trans (List.map_id l)
  have := x.lt
  show ((x.n : Int)).toNat % 32 = x.n
  omega
theorem word_mem {f : Int} {l : List Int} (h : wordB f l = true) : 7 ≤ l.length ∧ l.length ≤ 15 ∧ ∀ x ∈ l, f ≤ x ∧ x < 32 := by
  unfold wordB at h
  simp only [Bool.and_eq_true, decide_eq_true_eq, Bool.not_eq_true', List.any_eq_false] at h
  refine ⟨h.1, h.2.1, fun x hx => ?_⟩
  have := h.2.2 x hx
  unfold badB at this
  simp only [Bool.or_eq_true, decide_eq_true_eq] at this
  omega
theorem mem_word {f : Int} {l : List Int} (h1 : 7 ≤ l.length) (h2 : l.length ≤ 15) (h : ∀ x ∈ l, f ≤ x ∧ x < 32) : wordB f l = true := by
  unfold wordB
  simp only [Bool.and_eq_true, decide_eq_true_eq, Bool.not_eq_true', List.any_eq_false]
  refine ⟨h1, h2, fun x hx => ?_⟩
  have := h x hx
  unfold badB
  simp only [Bool.or_eq_true, decide_eq_true_eq]
  omega
/-- Which lists are codewords. -/
def codeB (l : List Int) : Bool := wordB 0 l && (synF (toF l) 0 == 0 && (synF (toF l) 1 == 0 && (synF (toF l) 2 == 0 && (synF (toF l) 3 == 0 && (synF (toF l) 4 == 0 && synF (toF l) 5 == 0)))))
theorem n_eq_zero (a : F) : ((a.n : Int) == 0) = (a == 0) := by
  by_cases h : a = 0
  · subst h; simp [F.n_zero]
  · have : a.n ≠ 0 := fun e => h (F.ext e)
    rw [beq_eq_false_iff_ne.2 h, beq_eq_false_iff_ne.2 (by omega)]
theorem code_iff (wd : List F) : (synF wd 0 == 0 && (synF wd 1 == 0 && (synF wd 2 == 0 && (synF wd 3 == 0 && (synF wd 4 == 0 && synF wd 5 == 0))))) = true ↔ F.Code wd := by
  simp only [Bool.and_eq_true, beq_iff_eq]
  constructor
  · rintro ⟨h0, h1, h2, h3, h4, h5⟩ j j1 j2
    have : j = 1 ∨ j = 2 ∨ j = 3 ∨ j = 4 ∨ j = 5 ∨ j = 6 := by omega
    rcases this with rfl | rfl | rfl | rfl | rfl | rfl
    · exact h0
    · exact h1
    · exact h2
    · exact h3
    · exact h4
    · exact h5
  · intro h
    exact ⟨h 1 (by omega) (by omega), h 2 (by omega) (by omega), h 3 (by omega) (by omega), h 4 (by omega) (by omega), h 5 (by omega) (by omega), h 6 (by omega) (by omega)⟩
theorem codeB_wI {wd : List F} (h7 : 7 ≤ wd.length) (h15 : wd.length ≤ 15) : codeB (wI wd) = true ↔ F.Code wd := by
  unfold codeB
  have hw : wordB 0 (wI wd) = true := mem_word (by rw [wI_len]; exact h7) (by rw [wI_len]; exact h15) (by
    intro x hx
    unfold wI at hx
    obtain ⟨c, _, rfl⟩ := List.mem_map.1 hx
    have := c.lt
    omega)
  rw [hw, toF_wI, Bool.true_and]
  exact code_iff wd

theorem arrF_six (f : Nat → F) : arrF f 6 = #[.int .i64 ((f 0).n : Int), .int .i64 ((f 1).n : Int), .int .i64 ((f 2).n : Int), .int .i64 ((f 3).n : Int), .int .i64 ((f 4).n : Int), .int .i64 ((f 5).n : Int)] := rfl
theorem syn6_any {p : Nat} (v : Value) (wd : List F) (w : World) (hT : Tabs w) (hI : IsI p w v (wI wd)) (hn : wd.length ≤ 1000) :
    Calls Tryd.prog 74 #[v] w fun e w' => e = .returned (.agg #[.int .i64 ((synF wd 0).n : Int), .int .i64 ((synF wd 1).n : Int), .int .i64 ((synF wd 2).n : Int), .int .i64 ((synF wd 3).n : Int), .int .i64 ((synF wd 4).n : Int), .int .i64 ((synF wd 5).n : Int)]) ∧ Ext w w' := by
  have h := syn_any v wd w hT hI hn
  rw [arrF_six] at h
  exact h
end Go.Proofs.YtcpanmonllhmaaaDoor
