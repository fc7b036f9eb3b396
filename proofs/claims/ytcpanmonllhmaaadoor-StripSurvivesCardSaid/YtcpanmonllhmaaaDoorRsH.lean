/- rscode.Encode. -/
import Derived.Test.YtcpanmonllhmaaaDoorRsG
import Derived.Deep.AppendLies
import Derived.Laws.CopyRow
set_option linter.unusedSimpArgs false
set_option linter.unusedVariables false
namespace Go.Proofs.YtcpanmonllhmaaaDoor
open Go.RowKit

/-- Which lists are data. -/
def dataB (l : List Int) : Bool := decide (1 ≤ l.length) && (decide (l.length ≤ 9) && !l.any fun x => !elB x)
theorem data_mem {l : List Int} (h : dataB l = true) : 1 ≤ l.length ∧ l.length ≤ 9 ∧ ∀ x ∈ l, 0 ≤ x ∧ x < 32 := by
  unfold dataB at h
  simp only [Bool.and_eq_true, decide_eq_true_eq, Bool.not_eq_true', List.any_eq_false] at h
  refine ⟨h.1, h.2.1, fun x hx => ?_⟩
  have := h.2.2 x hx
  unfold elB at this
  simp at this
  omega
theorem mem_data {l : List Int} (h1 : 1 ≤ l.length) (h2 : l.length ≤ 9) (h : ∀ x ∈ l, 0 ≤ x ∧ x < 32) : dataB l = true := by
  unfold dataB
  simp only [Bool.and_eq_true, decide_eq_true_eq, Bool.not_eq_true', List.any_eq_false]
  refine ⟨h1, h2, fun x hx => ?_⟩
  have := h x hx
  unfold elB
  simp
  omega
def encF (d : List F) : List F := d ++ F.encRest F.genL d
def encL (l : List Int) : List Int := if dataB l then wI (encF (toF l)) else []
def encE (l : List Int) : Int := if dataB l then 0 else 2
theorem encF_len (d : List F) : (encF d).length = d.length + 6 := by unfold encF; rw [List.length_append, (F.enc_code d).2]
theorem encF_code (d : List F) : F.Code (encF d) := (F.enc_code d).1

/-- The remainder, some of its places taken in. -/
def encPart (R : List F) (f : F) (k i : Nat) : F := if i < k then R.getD i 0 + f * F.genL.getD i 0 else R.getD i 0
def encAt (d : List F) (k : Nat) : List F := (d.take k).foldl (F.encStep F.genL) (List.replicate 6 0)
theorem encAt_len (d : List F) (k : Nat) : (encAt d k).length = 6 := (F.enc_fold (x := F.gp 1) rfl (F.genL_root ⟨0, by decide⟩) (d.take k) _ (by simp)).1
theorem encAt_succ {d : List F} {k : Nat} {c : F} (h : d[k]? = some c) : encAt d (k + 1) = F.encStep F.genL (encAt d k) c := by
  unfold encAt; rw [take_snoc h, List.foldl_append]; rfl
theorem len6 {α : Type} {R : List α} (h : R.length = 6) : ∃ a b c d e f, R = [a, b, c, d, e, f] := by
  match R, h with
  | [a, b, c, d, e, f], _ => exact ⟨a, b, c, d, e, f, rfl⟩
theorem encStep6 (a b c d e f x : F) (i : Nat) (hi : i < 6) : (F.encStep F.genL [a, b, c, d, e, f] x).getD i 0 = encPart [b, c, d, e, f, 0] (x + a) 6 i := by
  have : i = 0 ∨ i = 1 ∨ i = 2 ∨ i = 3 ∨ i = 4 ∨ i = 5 := by omega
  rcases this with rfl | rfl | rfl | rfl | rfl | rfl <;> rfl

theorem own_mono {w : World} {base base' e size n : Nat} {v : Value} {xs : List Value} (h : w.ownsRow base e size v n xs) (hb : base' ≤ base) : w.ownsRow base' e size v n xs := by
  rcases h with ⟨h1, h2 | ⟨g, cap, cur, hv, hg, r⟩⟩
  · exact ⟨h1, .inl h2⟩
  · exact ⟨h1, .inr ⟨g, cap, cur, hv, Nat.le_trans hb hg, r⟩⟩
theorem XT.setRow {p : Nat} {w w1 : World} (h : XT p w w1) (cs : Array Value) : XT p w (w1.setRow p cs) :=
  h.trans ⟨rfl, rfl, rfl, by simp, fun i _ hne => setRow_other _ _ _ _ (fun e => hne (by rw [e]))⟩
/-- The remainder is shifted. -/
theorem shift6 (w : World) (g : Nat) (a0 a1 a2 a3 a4 a5 : Int) (h : w.heap[g]? = some (.cells #[.int .i64 a0, .int .i64 a1, .int .i64 a2, .int .i64 a3, .int .i64 a4, .int .i64 a5] 78 (0, 0))) :
    ∃ W, (Builtin.copy_ #[22, 22] 3 #[.slice (some ⟨g, 0, none⟩) 6 6, .slice (some ⟨g, 1, none⟩) 5 5]).run Tryd.prog w.drew = .ok (goInt 5) W ∧
      W.heap[g]? = some (.cells #[.int .i64 a1, .int .i64 a2, .int .i64 a3, .int .i64 a4, .int .i64 a5, .int .i64 a5] 78 (0, 0)) ∧ XT g w W := by
  have hd : w.drew.heap[g]? = some (.cells #[.int .i64 a0, .int .i64 a1, .int .i64 a2, .int .i64 a3, .int .i64 a4, .int .i64 a5] 78 (0, 0)) := h
  refine ⟨_, run_copy_row (P := Tryd.prog) w.drew 22 22 3 3 g 0 6 6 ⟨g, 1, none⟩ 5 5 _ 78 [.int .i64 a1, .int .i64 a2, .int .i64 a3, .int .i64 a4, .int .i64 a5] Tryd.underlying22 (by kernel_rfl) hd rfl ?_ (by simp) (by simp [Value.oneCell']), ?_, ?_⟩
  · intro j v hj
    have hj5 : j < 5 := (List.getElem?_eq_some_iff.1 hj).1
    rw [add_some]
    refine blk_cell hd ?_
    have : j = 0 ∨ j = 1 ∨ j = 2 ∨ j = 3 ∨ j = 4 := by omega
    rcases this with rfl | rfl | rfl | rfl | rfl <;> simpa using hj
  · exact setRow_heap _ _ _ _ _ _ hd
  · exact ((XT.refl g w).drew).setRow _
set_option maxRecDepth 100000 in
set_option maxHeartbeats 4000000 in
theorem encode_any {p : Nat} (v : Value) (l : List Int) (w : World) (hT : Tabs w) (hI : IsI p w v l) :
    Calls Tryd.prog 33 #[v] w fun e w' => ∃ v', e = .returned (.tuple #[v', .int .i64 (encE l)]) ∧ w'.ownsRow w.heap.size 3 1 v' (encL l).length ((encL l).map (Value.int .i64)) ∧ Ext w w' := by
  have h0 := hI.re (q := w.heap.size) (Nat.le_refl _)
  obtain ⟨A, n, c, rfl, hnc, hc, hnn, HL⟩ := hI.open_
  have HI := Lib.hid h0
  have HT := Lib.hid hT
  clear hI hT h0
  have bad : dataB l = false → encL l = [] ∧ encE l = 2 := fun h => by unfold encL encE; rw [h]; exact ⟨rfl, rfl⟩
  have HB := Lib.hid bad
  clear bad
  by_cases h1 : 1 ≤ n
  case neg =>
    have HF : Hid (dataB l = false) := by show _ = _; unfold dataB; rw [HL.out]; simp; omega
    go_enter Tryd.func33, Tryd.ntmps33
    go_wp2_with fail
    go_ret2
    rw [(HB.out HF.out).1, (HB.out HF.out).2]
    exact ⟨_, rfl, World.ownsRow_nil _ _ _ _, Ext.refl _⟩
  by_cases h9 : n ≤ 9
  case neg =>
    have HF : Hid (dataB l = false) := by show _ = _; unfold dataB; rw [HL.out]; simp; omega
    go_enter Tryd.func33, Tryd.ntmps33
    go_wp2_with fail
    go_ret2
    rw [(HB.out HF.out).1, (HB.out HF.out).2]
    exact ⟨_, rfl, World.ownsRow_nil _ _ _ _, Ext.refl _⟩
  rcases Bool.eq_false_or_eq_true (l.any fun x => !elB x) with hb | hb
  · have HF : Hid (dataB l = false) := by show _ = _; unfold dataB; rw [hb]; simp
    go_enter Tryd.func33, Tryd.ntmps33
    go_wp2_with (go_at_call 57; refine (containsFunc_e _ l _ HI.out).mono ?_; rintro e w1 ⟨rfl, rfl⟩; rw [hb])
    go_ret2
    rw [(HB.out HF.out).1, (HB.out HF.out).2]
    exact ⟨_, rfl, World.ownsRow_nil _ _ _ _, Ext.refl _⟩
  have hdb : dataB l = true := by unfold dataB; rw [hb, HL.out]; simp; omega
  have HD : Hid (encL l = wI (encF (toF l)) ∧ encE l = 0) := by unfold encL encE; rw [hdb]; exact ⟨rfl, rfl⟩
  have HWI := Lib.hid (wI_toF (data_mem hdb).2.2)
  have HLF : Hid ((toF l).length = n) := by show _ = _; rw [toF_len]; exact HL.out
  clear HB hdb
  rw [← HWI.out] at HI
  go_enter Tryd.func33, Tryd.ntmps33
  go_upto_region 3 with (go_at_call 57; refine (containsFunc_e _ l _ (by have := HI.out; rw [HWI.out] at this; exact this)).mono ?_; rintro e w1 ⟨rfl, hw⟩; replace hw := hw.symm; subst hw; rw [hb])
  clear hb HWI
  go_upto_region 5 with (go_at_call 60; refine (generator_any _ HT.out).mono ?_; rintro e w1 ⟨rfl, HX1⟩; replace HX1 := Lib.hid HX1)
  generalize hd : toF l = d at *
  clear hd
  generalize hW : (w1.alloc (.cells #[.int .i64 17, .int .i64 26, .int .i64 30, .int .i64 27, .int .i64 30, .int .i64 24] 78)).alloc (.cells #[.int .i64 0, .int .i64 0, .int .i64 0, .int .i64 0, .int .i64 0, .int .i64 0] 78) = W
  have HE : Hid (Ext w1 W) := by subst hW; exact ((Ext.refl w1).alloc _).alloc _
  have HGB : Hid (W.heap[w1.heap.size]? = some (.cells (arrF (fun i => F.genL.getD i 0) 6) 78 (0, 0))) := by
    subst hW; exact ((Ext.refl _).alloc _).blk (heap_alloc_new w1 _)
  have HRB : Hid (W.heap[w1.heap.size + 1]? = some (.cells (arrF (fun i => (encAt d 0).getD i 0) 6) 78 (0, 0))) := by
    subst hW
    have := heap_alloc_new (w1.alloc (.cells #[.int .i64 17, .int .i64 26, .int .i64 30, .int .i64 27, .int .i64 30, .int .i64 24] 78)) (.cells #[.int .i64 0, .int .i64 0, .int .i64 0, .int .i64 0, .int .i64 0, .int .i64 0] 78)
    rw [World.size_alloc] at this
    exact this
  clear hW
  have hws : w.heap.size ≤ w1.heap.size := HX1.out.size
  have HIW := Lib.hid (((HI.out.re (q := w1.heap.size + 1) (by omega)).ext HX1.out).ext HE.out)
  have HTW := Lib.hid ((HT.out.ext HX1.out).ext HE.out)
  have hg2 : 2 ≤ w1.heap.size + 1 := by have := HT.out.lt; omega
  have HEW := Lib.hid (HX1.out.trans HE.out)
  clear HT HX1
  go_wp2_with fail
  go_loopw [25] (fun s25 wr => ∃ (k : Nat), s25 = .int .i64 k ∧ k ≤ n ∧ Hid (wr.heap[w1.heap.size + 1]? = some (.cells (arrF (fun i => (encAt d k).getD i 0) 6) 78 (0, 0)) ∧ XT (w1.heap.size + 1) W wr)) (fun i _ => n - (intOf i).toNat)
  case atStart => exact ⟨0, rfl, by omega, HRB.out, XT.refl _ _⟩
  case round =>
    clear HRB
    obtain ⟨k, rfl, hk, HK⟩ := hrel
    by_cases hkn : k < n
    · have HIr := Lib.hid (HIW.out.xt HK.out.2)
      obtain ⟨b, o, z, rfl, -⟩ := HIr.out.at_ hkn
      obtain ⟨z, hcz, HZ, -⟩ := HIr.out.cell_ hkn
      obtain ⟨cf, hcf, rfl⟩ := wI_at HZ.out
      have HS := Lib.hid (encAt_succ hcf)
      obtain ⟨a0, a1, a2, a3, a4, a5, hR⟩ := len6 (encAt_len d k)
      rw [hR] at HS HK
      clear hR hcf HZ
      have HKB : Hid (wr.heap[w1.heap.size + 1]? = some (.cells #[.int .i64 (a0.n : Int), .int .i64 (a1.n : Int), .int .i64 (a2.n : Int), .int .i64 (a3.n : Int), .int .i64 (a4.n : Int), .int .i64 (a5.n : Int)] 78 (0, 0))) := HK.out.1
      have r0 := blk_cell HKB.out (i := 0) rfl
      have r1' := blk_cell HKB.out (i := 1) rfl
      have r2' := blk_cell HKB.out (i := 2) rfl
      have r3 := blk_cell HKB.out (i := 3) rfl
      have r4 := blk_cell HKB.out (i := 4) rfl
      have r5 := blk_cell HKB.out (i := 5) rfl
      simp only [List.getElem_toArray, List.getElem_cons_zero, List.getElem_cons_succ] at r0 r1' r2' r3 r4 r5
      have f0 := blk_frozen HKB.out 0
      have f1 := blk_frozen HKB.out 1
      have f2 := blk_frozen HKB.out 2
      have f3 := blk_frozen HKB.out 3
      have f4 := blk_frozen HKB.out 4
      have f5 := blk_frozen HKB.out 5
      have hd : decide ((k : Int) < (n : Int)) = true := by simp; omega
      go_upto_region 9 with (fail)
      rw [xor_F]
      obtain ⟨W2, hcp, hW2, hX2⟩ := shift6 wr _ _ _ _ _ _ _ HKB.out
      have HW2 := Lib.hid hW2
      have HX2 := Lib.hid (HK.out.2.trans hX2)
      clear hW2 hX2 r0 r1' r2' r3 r4 r5 f0 f1 f2 f3 f4 f5
      have r5 := blk_cell HW2.out (i := 5) rfl
      have f5 := blk_frozen HW2.out 5
      refine wp_region_k 2 (fun _ => True) (by kernel_rfl) ?_
      refine wpAnyK_take 0 (some 33) (v := ?kv1) rfl rfl (by kernel_rfl) (by kernel_rfl) (by kernel_rfl) (by decide) (by kernel_rfl) (fun _ _ _ h => h) (by rfl) ?ky1 trivial ?kr1
      case ky1 => ((intro wk hk); (try dsimp only at hk); go_simp; try with_reducible rfl)
      try simp only [Act.put, List.setIfInBounds_toArray, List.set_cons_zero, List.set_cons_succ]
      refine wpAnyK_take 1 (some 34) (v := ?kv2) rfl rfl (by kernel_rfl) (by kernel_rfl) (by kernel_rfl) (by decide) (by kernel_rfl) (fun _ _ _ h => h) (by rfl) ?ky2 trivial ?kr2
      case ky2 => ((intro wk hk); (try dsimp only at hk); go_simp; try with_reducible rfl)
      try simp only [Act.put, List.setIfInBounds_toArray, List.set_cons_zero, List.set_cons_succ]
      refine wpAnyK_one 2 (by kernel_rfl) rfl (fun K hK => ?_)
      go_simp
      refine hK.out _ _ (fun h => absurd rfl h) ?_
      clear hK K
      refine wpAnyK_done (by kernel_rfl) ?_ _
      go_upto_region 11 with (fail)
      have HB3 := Lib.hid (blk_set HW2.out (i := 5) (.int .i64 0))
      have HX3 := Lib.hid (HX2.out.setCell (a := ⟨w1.heap.size + 1, 5, none⟩) rfl (.int .i64 0))
      generalize W2.setCell ⟨w1.heap.size + 1, 5, none⟩ (.int .i64 0) = W3 at *
      replace HB3 : Hid (W3.heap[w1.heap.size + 1]? = some (.cells (arrF (encPart [a1, a2, a3, a4, a5, 0] (cf + a0) 0) 6) 78 (0, 0))) := HB3.out
      clear r5 f5 HKB HW2 HX2 hcp
      go_wp2_with fail
      go_loopw [37] (fun s37 wr => ∃ (i : Nat), s37 = .int .i64 i ∧ i ≤ 6 ∧ Hid (wr.heap[w1.heap.size + 1]? = some (.cells (arrF (encPart [a1, a2, a3, a4, a5, 0] (cf + a0) i) 6) 78 (0, 0)) ∧ XT (w1.heap.size + 1) W wr)) (fun i _ => 6 - (intOf i).toNat)
      case atStart => exact ⟨0, rfl, by omega, HB3.out, HX3.out⟩
      case round =>
        clear HB3 HX3 HK HIr hcz
        obtain ⟨i, rfl, hi, HK⟩ := hrel
        by_cases hi6 : i < 6
        · have HTr := Lib.hid (HTW.out.xt HK.out.2 hg2)
          have hat : wr.cell? ⟨w1.heap.size + 1, i, none⟩ = some (.int .i64 ((([a1, a2, a3, a4, a5, 0] : List F).getD i 0).n : Int)) := blk_cell HK.out.1 (by rw [arrF_at hi6]; unfold encPart; rw [if_neg (by omega)])
          have gat : wr.cell? ⟨w1.heap.size, i, none⟩ = some (.int .i64 ((F.genL.getD i 0).n : Int)) := blk_cell (HK.out.2.blk HGB.out (by omega)) (arrF_at hi6)
          have hfz : wr.frozen? ⟨w1.heap.size + 1, i, none⟩ = false := blk_frozen HK.out.1 _
          have HST : Hid (∀ j, (if j = i then ([a1, a2, a3, a4, a5, 0] : List F).getD i 0 + (cf + a0) * F.genL.getD i 0 else encPart [a1, a2, a3, a4, a5, 0] (cf + a0) i j) = encPart [a1, a2, a3, a4, a5, 0] (cf + a0) (i + 1) j) := by
            intro j
            unfold encPart
            by_cases e : j = i
            · subst e; rw [if_pos rfl, if_pos (by omega)]
            · rw [if_neg e]
              by_cases e2 : j < i
              · rw [if_pos e2, if_pos (by omega)]
              · rw [if_neg e2, if_neg (by omega)]
          generalize ([a1, a2, a3, a4, a5, 0] : List F).getD i 0 = ri at hat HST
          generalize F.genL.getD i 0 = gi at gat HST
          have hS : wr.drew.cell? ⟨w1.heap.size + 1, i, none⟩ = some (.int .i64 (ri.n : Int)) ∧ wr.drew.cell? ⟨w1.heap.size, i, none⟩ = some (.int .i64 (gi.n : Int)) := ⟨hat, gat⟩
          replace hS := Lib.hid hS
          have e1 : (0 : Int) ≤ (i : Int) := Int.natCast_nonneg _
          have e2 : (i : Int) < 6 := by omega
          go_upto_region 14 with (fail)
          refine wp_region_k 10 (fun w' => w'.cell? ⟨w1.heap.size + 1, i, none⟩ = some (.int .i64 (ri.n : Int)) ∧ w'.cell? ⟨w1.heap.size, i, none⟩ = some (.int .i64 (gi.n : Int))) (by kernel_rfl) ?_
          refine wpAnyK_take 0 (some 40) (v := ?kv3) rfl rfl (by kernel_rfl) (by kernel_rfl) (by kernel_rfl) (by decide) (by kernel_rfl) (fun _ _ _ h => h) (by rfl) ?ky3 hS.out ?kr3
          case ky3 => ((intro wk hk); (try dsimp only at hk); go_simp; try with_reducible rfl)
          try simp only [Act.put, List.setIfInBounds_toArray, List.set_cons_zero, List.set_cons_succ]
          refine wpAnyK_take 1 (some 41) (v := ?kv4) rfl rfl (by kernel_rfl) (by kernel_rfl) (by kernel_rfl) (by decide) (by kernel_rfl) (fun _ _ _ h => h) (by rfl) ?ky4 hS.out ?kr4
          case ky4 => ((intro wk hk); (try dsimp only at hk); go_simp; try with_reducible rfl)
          try simp only [Act.put, List.setIfInBounds_toArray, List.set_cons_zero, List.set_cons_succ]
          refine wpAnyK_take 2 (some 42) (v := ?kv5) rfl rfl (by kernel_rfl) (by kernel_rfl) (by kernel_rfl) (by decide) (by kernel_rfl) (fun _ _ _ h => h) (by rfl) ?ky5 hS.out ?kr5
          case ky5 => ((intro wk hk); (try dsimp only at hk); go_simp; try with_reducible rfl)
          try simp only [Act.put, List.setIfInBounds_toArray, List.set_cons_zero, List.set_cons_succ]
          refine wpAnyK_take 3 (some 43) (v := ?kv6) rfl rfl (by kernel_rfl) (by kernel_rfl) (by kernel_rfl) (by decide) (by kernel_rfl) (fun _ _ _ h => h) (by rfl) ?ky6 hS.out ?kr6
          case ky6 => ((intro wk hk); (try dsimp only at hk); go_simp; try with_reducible rfl)
          try simp only [Act.put, List.setIfInBounds_toArray, List.set_cons_zero, List.set_cons_succ]
          refine wpAnyK_take 4 (some 44) (v := ?kv7) rfl rfl (by kernel_rfl) (by kernel_rfl) (by kernel_rfl) (by decide) (by kernel_rfl) (fun _ _ _ h => h) (by rfl) ?ky7 hS.out ?kr7
          case ky7 => ((intro wk hk); (try dsimp only at hk); go_simp; try with_reducible rfl)
          try simp only [Act.put, List.setIfInBounds_toArray, List.set_cons_zero, List.set_cons_succ]
          refine wpAnyK_take 5 (some 45) (v := ?kv8) rfl rfl (by kernel_rfl) (by kernel_rfl) (by kernel_rfl) (by decide) (by kernel_rfl) (fun _ _ _ h => h) (by rfl) ?ky8 hS.out ?kr8
          case ky8 => ((intro wk hk); (try dsimp only at hk); go_simp; try with_reducible rfl)
          try simp only [Act.put, List.setIfInBounds_toArray, List.set_cons_zero, List.set_cons_succ]
          refine wpAnyK_take 6 (some 46) (v := ?kv9) rfl rfl (by kernel_rfl) (by kernel_rfl) (by kernel_rfl) (by decide) (by kernel_rfl) (fun _ _ _ h => h) (by rfl) ?ky9 hS.out ?kr9
          case ky9 => ((intro wk hk); (try dsimp only at hk); go_simp; try with_reducible rfl)
          try simp only [Act.put, List.setIfInBounds_toArray, List.set_cons_zero, List.set_cons_succ]
          refine wpAnyK_one 7 (by kernel_rfl) rfl (fun K hK => ?_)
          go_simp
          refine (mul_F (cf + a0) gi _ (HTr.out.ext (Ext.refl _).drew)).mono ?_
          rintro e x1 ⟨rfl, m2, hx1⟩
          have HX1 : Hid (Ext wr x1) := by rw [hx1]; exact (Ext.refl wr).drew.drewN m2
          clear hx1
          have HB5 := Lib.hid (HX1.out.blk HK.out.1)
          replace hat := HX1.out.cell hat
          replace gat := HX1.out.cell gat
          replace hS := Lib.hid (And.intro hat gat)
          replace hfz := blk_frozen HB5.out i
          refine hK.out _ _ (fun _ => hS.out) ?_
          clear hK K
          try simp only [Act.put, List.setIfInBounds_toArray, List.set_cons_zero, List.set_cons_succ]
          refine wpAnyK_take 8 (some 48) (v := ?kv10) rfl rfl (by kernel_rfl) (by kernel_rfl) (by kernel_rfl) (by decide) (by kernel_rfl) (fun _ _ _ h => h) (by rfl) ?ky10 hS.out ?kr10
          case ky10 => ((intro wk hk); (try dsimp only at hk); go_simp; try with_reducible rfl)
          try simp only [Act.put, List.setIfInBounds_toArray, List.set_cons_zero, List.set_cons_succ]
          refine wpAnyK_take 9 (some 49) (v := ?kv11) rfl rfl (by kernel_rfl) (by kernel_rfl) (by kernel_rfl) (by decide) (by kernel_rfl) (fun _ _ _ h => h) (by rfl) ?ky11 hS.out ?kr11
          case ky11 => ((intro wk hk); (try dsimp only at hk); go_simp; try with_reducible rfl)
          try simp only [Act.put, List.setIfInBounds_toArray, List.set_cons_zero, List.set_cons_succ]
          refine wpAnyK_one 10 (by kernel_rfl) rfl (fun K hK => ?_)
          go_simp
          refine hK.out _ _ (fun h => absurd rfl h) ?_
          clear hK K
          refine wpAnyK_done (by kernel_rfl) ?_ _
          rw [xor_F]
          have HB6 : Hid ((x1.setCell ⟨w1.heap.size + 1, i, none⟩ (.int .i64 ((ri + (cf + a0) * gi).n : Int))).heap[w1.heap.size + 1]? = some (.cells (arrF (encPart [a1, a2, a3, a4, a5, 0] (cf + a0) (i + 1)) 6) 78 (0, 0))) := by
            have h := blk_set HB5.out (i := i) (.int .i64 ((ri + (cf + a0) * gi).n : Int))
            rw [arrF_set] at h
            show _ = _
            rw [h]
            congr 2
            exact arrF_congr fun j _ => HST.out j
          have HX6 : Hid (XT (w1.heap.size + 1) W (x1.setCell ⟨w1.heap.size + 1, i, none⟩ (.int .i64 ((ri + (cf + a0) * gi).n : Int)))) := (HK.out.2.ext HX1.out).setCell rfl _
          go_wp2_with fail
          go_roundw
          case rel => exact ⟨i + 1, by go_num, by omega, HB6.out, HX6.out⟩
          case measure => simp [intOf]; omega
        · obtain rfl : i = 6 := by omega
          go_wp2_with fail
          go_roundw
          case rel =>
            refine ⟨k + 1, by go_num, by omega, ?_, HK.out.2⟩
            rw [HK.out.1, HS.out]
            refine congrArg (fun a => some (Obj.cells a 78 (0, 0))) ?_
            exact arrF_congr fun j hj => (encStep6 _ _ _ _ _ _ _ _ hj).symm
          case measure => simp [intOf]; omega
    · obtain rfl : k = n := by omega
      have HTr := Lib.hid (HTW.out.xt HK.out.2 hg2)
      have HIr := Lib.hid (HIW.out.xt HK.out.2)
      have hall : encAt d k = F.encRest F.genL d := by unfold encAt F.encRest; rw [take_all HLF.out]
      rw [hall] at HK
      have h6 : (F.encRest F.genL d).length = 6 := (F.enc_code d).2
      have HEF := Lib.hid (show encF d = d ++ F.encRest F.genL d from rfl)
      generalize F.encRest F.genL d = R at *
      clear hall
      have hcs : arrF (fun i => R.getD i 0) 6 = ((wI R).map (Value.int .i64)).toArray := by
        obtain ⟨a0, a1, a2, a3, a4, a5, rfl⟩ := len6 h6
        rfl
      rw [hcs] at HK
      have HKB := Lib.hid HK.out.1
      have HKX := Lib.hid HK.out.2
      have H6 := Lib.hid h6
      clear HK hcs h6 HTr
      obtain ⟨i0, hi0, hz0, hz1, hz2⟩ := info_parts Tryd.infoI
      go_upto_region 17 with (fail)
      refine wp_region_k 99 (fun _ => True) (by kernel_rfl) ?_
      refine wpAnyK_take 0 (some 52) (v := ?kv12) rfl rfl (by kernel_rfl) (by kernel_rfl) (by kernel_rfl) (by decide) (by kernel_rfl) (fun _ _ _ h => h) (by rfl) ?ky12 trivial ?kr12
      case ky12 => ((intro wk hk); (try dsimp only at hk); go_simp; try with_reducible rfl)
      try simp only [Act.put, List.setIfInBounds_toArray, List.set_cons_zero, List.set_cons_succ]
      refine wpAnyK_take 2 (some 54) (v := ?kv13) rfl rfl (by kernel_rfl) (by kernel_rfl) (by kernel_rfl) (by decide) (by kernel_rfl) (fun _ _ _ h => h) (by rfl) ?ky13 trivial ?kr13
      case ky13 => ((intro wk hk); (try dsimp only at hk); go_simp; try with_reducible rfl)
      try simp only [Act.put, List.setIfInBounds_toArray, List.set_cons_zero, List.set_cons_succ]
      refine wpAnyK_one 1 (by kernel_rfl) rfl (fun K hK => ?_)
      go_simp
      refine (clone_own _ (wI d) _ (HIr.out.ext (Ext.refl wr).drew) (by rw [wI_len, HLF.out]; omega)).mono ?_
      rintro e x1 ⟨v1, rfl, HO1, HX1⟩
      rw [wI_len, HLF.out] at HO1
      have HB1 := Lib.hid (HX1.blk (show wr.drew.heap[w1.heap.size + 1]? = _ from HKB.out))
      replace HX1 := Lib.hid ((Ext.refl wr).drew.trans HX1)
      replace HO1 := Lib.hid HO1
      refine hK.out _ _ (fun _ => trivial) ?_
      clear hK K
      try simp only [Act.put, List.setIfInBounds_toArray, List.set_cons_zero, List.set_cons_succ]
      refine wpAnyK_one 3 (by kernel_rfl) rfl (fun K hK => ?_)
      have hmono : Hid (x1.ownsRow w.heap.size 3 1 v1 k ((wI d).map (Value.int .i64))) := own_mono HO1.out (by have := HEW.out.size; have := HKX.out.size; show _ ≤ wr.drew.heap.size; exact Nat.le_trans HEW.out.size HKX.out.size)
      refine step_append_lies _ (by rfl) _ _ _ (by rfl) w.heap.size 3 i0 _ 1 8 Tryd.underlying22 hi0 hz0 hz1 hz2 rfl (by omega) v1 k ((wI d).map (Value.int .i64)) (by rfl) hmono.out ⟨w1.heap.size + 1, 0, none⟩ 6 6 ((wI R).map (Value.int .i64)) (by rfl) (by simp [wI, H6.out]) (World.news_of_block (cs := ((wI R).map (Value.int .i64)).toArray) (t := 78) (fr := (0, 0)) HB1.out) (by simp [Value.oneCell']) (by omega) (by unfold maxLen; omega) (by omega) (by have := HX1.out.size; have := HKX.out.size; have := HEW.out.size; omega) x1.heap.size rfl ?_
      intro gg cap w3 hown3 hgrow hat hlt3
      have HX3 : Hid (Ext w w3) := by
        refine Ext.grown (w1 := x1) ((HKX.out.fresh HEW.out (by omega)).trans HX1.out) hgrow (own_ge hmono.out)
      replace hown3 := Lib.hid hown3
      clear hgrow hat hlt3
      change K (Act.put _ (some 55) _) w3
      refine hK.out _ _ (fun _ => trivial) ?_
      clear hK K
      try simp only [Act.put, List.setIfInBounds_toArray, List.set_cons_zero, List.set_cons_succ]
      refine wpAnyK_take 4 (some 2) (v := ?kv14) rfl rfl (by kernel_rfl) (by kernel_rfl) (by kernel_rfl) (by decide) (by kernel_rfl) (fun _ _ _ h => h) (by rfl) ?ky14 trivial ?kr14
      case ky14 => ((intro wk hk); (try dsimp only at hk); go_simp; try with_reducible rfl)
      try simp only [Act.put, List.setIfInBounds_toArray, List.set_cons_zero, List.set_cons_succ]
      refine wpAnyK_take 5 (some 3) (v := ?kv15) rfl rfl (by kernel_rfl) (by kernel_rfl) (by kernel_rfl) (by decide) (by kernel_rfl) (fun _ _ _ h => h) (by rfl) ?ky15 trivial ?kr15
      case ky15 => ((intro wk hk); (try dsimp only at hk); go_simp; try with_reducible rfl)
      try simp only [Act.put, List.setIfInBounds_toArray, List.set_cons_zero, List.set_cons_succ]
      refine wpAnyK_done (by kernel_rfl) ?_ _
      go_wp2_with fail
      go_ret2
      rw [HD.out.1, HD.out.2]
      refine ⟨_, rfl, ?_, HX3.out⟩
      have h := hown3.out
      rw [HEF.out, wI_app, List.map_append, List.length_append, wI_len, wI_len, HLF.out, H6.out]
      exact h
end Go.Proofs.YtcpanmonllhmaaaDoor
