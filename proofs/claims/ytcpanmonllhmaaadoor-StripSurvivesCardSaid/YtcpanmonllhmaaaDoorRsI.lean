/- rscode.eliminate. -/
import Derived.Test.YtcpanmonllhmaaaDoorRsH
import Derived.Test.YtcpanmonllhmaaaDoorMatW
import Derived.Test.YtcpanmonllhmaaaDoorGOrd
set_option linter.unusedSimpArgs false
set_option linter.unusedVariables false
namespace Go.Proofs.YtcpanmonllhmaaaDoor
open Go.RowKit

/-- The rows behind the unknowns have no right side. -/
def restB (M : Nat → Nat → F) (u : Nat) : Bool := (List.range 6).all fun r => decide (r < u) || (M r u == 0)
theorem restB_iff (M : Nat → Nat → F) (u : Nat) : restB M u = true ↔ ∀ r, u ≤ r → r < 6 → M r u = 0 := by
  unfold restB
  simp only [List.all_eq_true, List.mem_range, Bool.or_eq_true, decide_eq_true_eq, beq_iff_eq]
  constructor
  · intro h r h1 h2
    rcases h r h2 with h3 | h3
    · omega
    · exact h3
  · intro h r hr
    rcases Nat.lt_or_ge r u with h1 | h1
    · exact .inl h1
    · exact .inr (h r h1 hr)

set_option maxRecDepth 100000 in
set_option maxHeartbeats 4000000 in
theorem elim_any (base g cap u : Nat) (M : Nat → Nat → F) (w : World) (hT : Tabs w) (hM : MatW base g 22 3 w M (u + 1)) (hu : u ≤ 6) (hcap : 6 ≤ cap ∧ cap ≤ 9223372036854775807) (hb2 : 2 ≤ base)
    (ind : ∀ X, F.Sol M X (u + 1) → X u = 0 → ∀ c, c < u → X c = 0) :
    Calls Tryd.prog 97 #[.slice (some ⟨g, 0, none⟩) 6 cap, .int .i64 (u : Int)] w fun e w' => ∃ M', e = .returned (.bool (restB M' u)) ∧
      MatW base g 22 3 w' M' (u + 1) ∧ F.Unit6 M' u ∧ (∀ X, F.Sol M' X (u + 1) ↔ F.Sol M X (u + 1)) ∧ Below base w w' := by
  have HT := Lib.hid hT
  have HM := Lib.hid hM
  have HI := Lib.hid ind
  obtain ⟨hcap1, hcap2⟩ := hcap
  clear hT hM ind
  have HTB : Hid (∀ w', Below base w w' → Tabs w') := fun w' h => ⟨fun k hk => (h.cell (by simp only; omega)).trans (HT.out.1 k hk), fun k hk => (h.cell (by simp only; omega)).trans (HT.out.2 k hk)⟩
  clear HT
  go_enter Tryd.func97, Tryd.ntmps97
  go_wp2_with fail
  go_loopw [14] (fun s14 wr => ∃ (k : Nat), s14 = .int .i64 k ∧ k ≤ u ∧ Hid (∃ N, MatW base g 22 3 wr N (u + 1) ∧ F.Unit6 N k ∧ (∀ X, F.Sol N X (u + 1) ↔ F.Sol M X (u + 1)) ∧ Below base w wr)) (fun i _ => u - (intOf i).toNat)
  case atStart => exact ⟨0, rfl, by omega, M, HM.out, fun r c _ hc => by omega, fun X => Iff.rfl, Below.refl _ _⟩
  case round =>
    clear HM
    obtain ⟨k, rfl, hk, HK⟩ := hrel
    obtain ⟨N, m1, m2, m3, m4⟩ := HK.out
    have H1 := Lib.hid m1
    have H2 := Lib.hid m2
    have H3 := Lib.hid m3
    have H4 := Lib.hid m4
    clear m1 m2 m3 m4 HK
    by_cases hku : k < u
    · have hd : decide ((k : Int) < (u : Int)) = true := by simp; omega
      obtain ⟨wo, rfl⟩ : ∃ wo : World, wo = wr := ⟨_, rfl⟩
      have HP : Hid (∃ p, k ≤ p ∧ p < 6 ∧ N p k ≠ 0) := F.pivot_ex hku hu H2.out (fun X hX h0 => HI.out X ((H3.out X).1 hX) h0)
      go_wp2_with fail
      go_loopw [6] (fun s6 wr => ∃ (p : Nat), s6 = .int .i64 p ∧ k ≤ p ∧ p < 6 ∧ Hid (∀ q, k ≤ q → q < p → N q k = 0) ∧ wr = wo) (fun i _ => 6 - (intOf i).toNat)
      case atStart => exact ⟨k, rfl, by omega, by omega, fun q h1 h2 => by omega, rfl⟩
      case round =>
        obtain ⟨p, rfl, hkp, hp6, HQ, rfl⟩ := hrel
        obtain ⟨b, cu, hc0, hcu1, hcu2, -, -, hce, hfr, hput⟩ := H1.out.at_ hp6
        have c1 := hce k (by omega)
        have HPUT := Lib.hid hput
        clear hput hce hfr
        have hd2 : decide ((p : Int) < 6) = true := by simp; omega
        by_cases hz : N p k = 0
        · have hz' : (((N p k).n : Int) == 0) = true := by rw [hz]; rfl
          have HZ := Lib.hid hz
          clear hz
          go_wp2_with fail
          go_roundw
          case rel =>
            obtain ⟨p', a1, a2, a3⟩ := HP.out
            have hnew : ∀ q, k ≤ q → q < p + 1 → N q k = 0 := fun q h1 h2 => by
              by_cases e : q = p
              · subst e; exact HZ.out
              · exact HQ.out q h1 (by omega)
            have : p + 1 ≤ p' := by
              rcases Nat.lt_or_ge p' (p + 1) with hlt | hge
              · exact absurd (hnew p' a1 hlt) a3
              · exact hge
            exact ⟨p + 1, by go_num, by omega, by omega, hnew, trivial⟩
          case measure => simp [intOf]; omega
        · have hz' : (((N p k).n : Int) == 0) = false := by rw [n_eq_zero]; simp [hz]
          have HZ := Lib.hid hz
          clear hz
          go_upto_region 9 with (fail)
          obtain ⟨bk, ck, bp, cp, s1, s2, s3, s4, hsw⟩ := H1.out.swap (k := k) (p := p) (by omega) hp6
          have HSW := Lib.hid hsw
          have HC1 := Lib.hid c1
          clear hsw hc0 c1 HPUT
          have hS : wr.drew.cell? ⟨g, k, none⟩ = some (.slice (some ⟨bk, 0, none⟩) (u + 1) ck) ∧ wr.drew.cell? ⟨g, p, none⟩ = some (.slice (some ⟨bp, 0, none⟩) (u + 1) cp) := ⟨s1, s2⟩
          replace hS := Lib.hid hS
          have e1 : (0 : Int) ≤ (k : Int) := Int.natCast_nonneg _
          have e2 : (k : Int) < 6 := by omega
          have e3 : (0 : Int) ≤ (p : Int) := Int.natCast_nonneg _
          have e4 : (p : Int) < 6 := by omega
          refine wp_region_b 13 (fun w' => w'.cell? ⟨g, k, none⟩ = some (.slice (some ⟨bk, 0, none⟩) (u + 1) ck) ∧ w'.cell? ⟨g, p, none⟩ = some (.slice (some ⟨bp, 0, none⟩) (u + 1) cp)) (by kernel_rfl) ?_
          refine wpAnyB_take0 0 (some 38) (v := ?kv1) rfl rfl (by kernel_rfl) (by kernel_rfl) (by kernel_rfl) (by decide) (fun _ _ _ h => h) (by rfl) ?ky1 (fun _ => hS.out) ?kr1
          case ky1 => (intro wk; go_simp; try with_reducible rfl)
          try simp only [Act.put, List.setIfInBounds_toArray, List.set_cons_zero, List.set_cons_succ]
          refine wpAnyB_take0 1 (some 39) (v := ?kv2) rfl rfl (by kernel_rfl) (by kernel_rfl) (by kernel_rfl) (by decide) (fun _ _ _ h => h) (by rfl) ?ky2 (fun _ => hS.out) ?kr2
          case ky2 => (intro wk; go_simp; try with_reducible rfl)
          try simp only [Act.put, List.setIfInBounds_toArray, List.set_cons_zero, List.set_cons_succ]
          refine wpAnyB_take0 2 (some 40) (v := ?kv3) rfl rfl (by kernel_rfl) (by kernel_rfl) (by kernel_rfl) (by decide) (fun _ _ _ h => h) (by rfl) ?ky3 (fun _ => hS.out) ?kr3
          case ky3 => (intro wk; go_simp; try with_reducible rfl)
          try simp only [Act.put, List.setIfInBounds_toArray, List.set_cons_zero, List.set_cons_succ]
          refine wpAnyB_take0 3 (some 41) (v := ?kv4) rfl rfl (by kernel_rfl) (by kernel_rfl) (by kernel_rfl) (by decide) (fun _ _ _ h => h) (by rfl) ?ky4 (fun _ => hS.out) ?kr4
          case ky4 => (intro wk; go_simp; try with_reducible rfl)
          try simp only [Act.put, List.setIfInBounds_toArray, List.set_cons_zero, List.set_cons_succ]
          refine wpAnyB_take0 4 (some 42) (v := ?kv5) rfl rfl (by kernel_rfl) (by kernel_rfl) (by kernel_rfl) (by decide) (fun _ _ _ h => h) (by rfl) ?ky5 (fun _ => hS.out) ?kr5
          case ky5 => (intro wk; go_simp; try with_reducible rfl)
          try simp only [Act.put, List.setIfInBounds_toArray, List.set_cons_zero, List.set_cons_succ]
          refine wpAnyB_take0 5 (some 43) (v := ?kv6) rfl rfl (by kernel_rfl) (by kernel_rfl) (by kernel_rfl) (by decide) (fun _ _ _ h => h) (by rfl) ?ky6 (fun _ => hS.out) ?kr6
          case ky6 => (intro wk; go_simp; try with_reducible rfl)
          try simp only [Act.put, List.setIfInBounds_toArray, List.set_cons_zero, List.set_cons_succ]
          refine wpAnyB_take0 6 (some 44) (v := ?kv7) rfl rfl (by kernel_rfl) (by kernel_rfl) (by kernel_rfl) (by decide) (fun _ _ _ h => h) (by rfl) ?ky7 (fun _ => hS.out) ?kr7
          case ky7 => (intro wk; go_simp; try with_reducible rfl)
          try simp only [Act.put, List.setIfInBounds_toArray, List.set_cons_zero, List.set_cons_succ]
          refine wpAnyB_take 7 (some 45) (v := ?kv8) rfl rfl (by kernel_rfl) (by kernel_rfl) (by kernel_rfl) (by decide) (by kernel_rfl) (by kernel_rfl) (fun _ _ _ h => h) (by rfl) ?ky8 hS.out ?kr8
          case ky8 => ((intro wk hk); (try dsimp only at hk); go_simp; try with_reducible rfl)
          try simp only [Act.put, List.setIfInBounds_toArray, List.set_cons_zero, List.set_cons_succ]
          refine wpAnyB_take0 8 (some 46) (v := ?kv9) rfl rfl (by kernel_rfl) (by kernel_rfl) (by kernel_rfl) (by decide) (fun _ _ _ h => h) (by rfl) ?ky9 (fun _ => hS.out) ?kr9
          case ky9 => (intro wk; go_simp; try with_reducible rfl)
          try simp only [Act.put, List.setIfInBounds_toArray, List.set_cons_zero, List.set_cons_succ]
          refine wpAnyB_take0 9 (some 47) (v := ?kv10) rfl rfl (by kernel_rfl) (by kernel_rfl) (by kernel_rfl) (by decide) (fun _ _ _ h => h) (by rfl) ?ky10 (fun _ => hS.out) ?kr10
          case ky10 => (intro wk; go_simp; try with_reducible rfl)
          try simp only [Act.put, List.setIfInBounds_toArray, List.set_cons_zero, List.set_cons_succ]
          refine wpAnyB_take0 10 (some 48) (v := ?kv11) rfl rfl (by kernel_rfl) (by kernel_rfl) (by kernel_rfl) (by decide) (fun _ _ _ h => h) (by rfl) ?ky11 (fun _ => hS.out) ?kr11
          case ky11 => (intro wk; go_simp; try with_reducible rfl)
          try simp only [Act.put, List.setIfInBounds_toArray, List.set_cons_zero, List.set_cons_succ]
          refine wpAnyB_take 11 (some 49) (v := ?kv12) rfl rfl (by kernel_rfl) (by kernel_rfl) (by kernel_rfl) (by decide) (by kernel_rfl) (by kernel_rfl) (fun _ _ _ h => h) (by rfl) ?ky12 hS.out ?kr12
          case ky12 => ((intro wk hk); (try dsimp only at hk); go_simp; try with_reducible rfl)
          try simp only [Act.put, List.setIfInBounds_toArray, List.set_cons_zero, List.set_cons_succ]
          refine wpAnyB_take0 12 (some 50) (v := ?kv13) rfl rfl (by kernel_rfl) (by kernel_rfl) (by kernel_rfl) (by decide) (fun _ _ _ h => h) (by rfl) ?ky13 (fun _ => hS.out) ?kr13
          case ky13 => (intro wk; go_simp; try with_reducible rfl)
          try simp only [Act.put, List.setIfInBounds_toArray, List.set_cons_zero, List.set_cons_succ]
          refine wpAnyB_one 13 (by kernel_rfl) rfl (fun K hK => ?_)
          go_simp
          have s5 : (wr.setCell ⟨g, k, none⟩ (.slice (some ⟨bp, 0, none⟩) (u + 1) cp)).cell? ⟨g, p, none⟩ = some (.slice (some ⟨bp, 0, none⟩) (u + 1) cp) := by
            by_cases e : p = k
            · subst e; exact World.cell?_setCell_same _ _ _ s2
            · rw [World.cell?_setCell_other _ _ _ _ (fun h => e (by injection h with _ h2; exact h2.symm))]; exact s2
          refine hK.out _ _ (gone_b (by kernel_rfl)) ?_
          clear hK K
          try simp only [Act.put, List.setIfInBounds_toArray, List.set_cons_zero, List.set_cons_succ]
          refine wpAnyB_take0 14 (some 51) (v := ?kv14) rfl rfl (by kernel_rfl) (by kernel_rfl) (by kernel_rfl) (by decide) (fun _ _ _ h => h) (by rfl) ?ky14 (gone_b (by kernel_rfl)) ?kr14
          case ky14 => (intro wk; go_simp; try with_reducible rfl)
          try simp only [Act.put, List.setIfInBounds_toArray, List.set_cons_zero, List.set_cons_succ]
          refine wpAnyB_one 15 (by kernel_rfl) rfl (fun K hK => ?_)
          go_simp
          refine hK.out _ _ (gone_b (by kernel_rfl)) ?_
          clear hK K
          try simp only [Act.put, List.setIfInBounds_toArray, List.set_cons_zero, List.set_cons_succ]
          refine wpAnyB_done (by kernel_rfl) ?_ _
          have hM1 := HSW.out wr (Ext.refl _)
          have HM1 := Lib.hid (hM1.1.ext (Ext.refl _).drew)
          have HB1 := Lib.hid ((Below.trans H4.out hM1.2).drew)
          clear hM1 HSW hS s1 s2 s3 s4 s5
          generalize ((wr.setCell ⟨g, k, none⟩ (.slice (some ⟨bp, 0, none⟩) (u + 1) cp)).setCell ⟨g, p, none⟩ (.slice (some ⟨bk, 0, none⟩) (u + 1) ck)).drew = W1 at *
          have HNK : Hid (F.swapM N k p k k = N p k) := by show _ = _; unfold F.swapM; rw [if_pos rfl]
          generalize hM1 : F.swapM N k p = M1 at *
          have HM1d := Lib.hid hM1
          clear hM1 HC1 H1 H4
          obtain ⟨b1, cu1, h10, h11, h12, -, -, h13, -, -⟩ := HM1.out.at_ (r := k) (by omega)
          have h14 := h13 k (by omega)
          rw [HNK.out] at h14
          clear h13
          generalize hpv : N p k = pv at *
          have HPV := Lib.hid hpv
          clear hpv
          go_upto_region 12 with (go_at_call 100; refine (inverse_F pv _ (HTB.out _ HB1.out)).mono ?_; rintro e x1 ⟨rfl, hx1⟩; replace hx1 := hx1.symm; subst hx1)
          clear h10 h14
          go_wp2_with fail
          go_loopw [65] (fun s65 wr => ∃ (c : Nat), s65 = .int .i64 c ∧ c ≤ u + 1 ∧ Hid (MatW base g 22 3 wr (F.scaleTo M1 k pv.inv c) (u + 1) ∧ Below base w wr)) (fun i _ => u + 1 - (intOf i).toNat)
          case atStart => exact ⟨0, rfl, by omega, by rw [F.scaleTo_zero]; exact HM1.out, HB1.out⟩
          case round =>
            clear HM1 HB1
            obtain ⟨c, rfl, hc, HC⟩ := hrel
            by_cases hcu : c < u + 1
            · obtain ⟨b2, cu2, a0, a1, a2, -, -, a3, a4, a5⟩ := HC.out.1.at_ (r := k) (by omega)
              have a6 := a3 c (by omega)
              have a7 := a4 c
              have HPUT := Lib.hid a5
              clear a3 a4 a5
              have hv : F.scaleTo M1 k pv.inv c k c = M1 k c := by unfold F.scaleTo; rw [if_neg (by omega)]
              rw [hv] at a6
              clear hv
              have HTr := Lib.hid (HTB.out _ HC.out.2)
              have hS : wr.drew.cell? ⟨g, k, none⟩ = some (.slice (some ⟨b2, 0, none⟩) (u + 1) cu2) ∧ wr.drew.cell? ⟨b2, c, none⟩ = some (.int .i64 ((M1 k c).n : Int)) := ⟨a0, a6⟩
              replace hS := Lib.hid hS
              have f1 : (0 : Int) ≤ (c : Int) := Int.natCast_nonneg _
              have f2 : (c : Int) < (u : Int) + 1 := by omega
              go_upto_region 14 with (fail)
              refine wp_region_k 15 (fun w' => w'.cell? ⟨g, k, none⟩ = some (.slice (some ⟨b2, 0, none⟩) (u + 1) cu2) ∧ w'.cell? ⟨b2, c, none⟩ = some (.int .i64 ((M1 k c).n : Int))) (by kernel_rfl) ?_
              refine wpAnyK_take 0 (some 68) (v := ?kv15) rfl rfl (by kernel_rfl) (by kernel_rfl) (by kernel_rfl) (by decide) (by kernel_rfl) (fun _ _ _ h => h) (by rfl) ?ky15 hS.out ?kr15
              case ky15 => ((intro wk hk); (try dsimp only at hk); go_simp; try with_reducible rfl)
              try simp only [Act.put, List.setIfInBounds_toArray, List.set_cons_zero, List.set_cons_succ]
              refine wpAnyK_take 1 (some 69) (v := ?kv16) rfl rfl (by kernel_rfl) (by kernel_rfl) (by kernel_rfl) (by decide) (by kernel_rfl) (fun _ _ _ h => h) (by rfl) ?ky16 hS.out ?kr16
              case ky16 => ((intro wk hk); (try dsimp only at hk); go_simp; try with_reducible rfl)
              try simp only [Act.put, List.setIfInBounds_toArray, List.set_cons_zero, List.set_cons_succ]
              refine wpAnyK_take 2 (some 70) (v := ?kv17) rfl rfl (by kernel_rfl) (by kernel_rfl) (by kernel_rfl) (by decide) (by kernel_rfl) (fun _ _ _ h => h) (by rfl) ?ky17 hS.out ?kr17
              case ky17 => ((intro wk hk); (try dsimp only at hk); go_simp; try with_reducible rfl)
              try simp only [Act.put, List.setIfInBounds_toArray, List.set_cons_zero, List.set_cons_succ]
              refine wpAnyK_take 3 (some 71) (v := ?kv18) rfl rfl (by kernel_rfl) (by kernel_rfl) (by kernel_rfl) (by decide) (by kernel_rfl) (fun _ _ _ h => h) (by rfl) ?ky18 hS.out ?kr18
              case ky18 => ((intro wk hk); (try dsimp only at hk); go_simp; try with_reducible rfl)
              try simp only [Act.put, List.setIfInBounds_toArray, List.set_cons_zero, List.set_cons_succ]
              refine wpAnyK_take 4 (some 72) (v := ?kv19) rfl rfl (by kernel_rfl) (by kernel_rfl) (by kernel_rfl) (by decide) (by kernel_rfl) (fun _ _ _ h => h) (by rfl) ?ky19 hS.out ?kr19
              case ky19 => ((intro wk hk); (try dsimp only at hk); go_simp; try with_reducible rfl)
              try simp only [Act.put, List.setIfInBounds_toArray, List.set_cons_zero, List.set_cons_succ]
              refine wpAnyK_take 5 (some 73) (v := ?kv20) rfl rfl (by kernel_rfl) (by kernel_rfl) (by kernel_rfl) (by decide) (by kernel_rfl) (fun _ _ _ h => h) (by rfl) ?ky20 hS.out ?kr20
              case ky20 => ((intro wk hk); (try dsimp only at hk); go_simp; try with_reducible rfl)
              try simp only [Act.put, List.setIfInBounds_toArray, List.set_cons_zero, List.set_cons_succ]
              refine wpAnyK_take 6 (some 74) (v := ?kv21) rfl rfl (by kernel_rfl) (by kernel_rfl) (by kernel_rfl) (by decide) (by kernel_rfl) (fun _ _ _ h => h) (by rfl) ?ky21 hS.out ?kr21
              case ky21 => ((intro wk hk); (try dsimp only at hk); go_simp; try with_reducible rfl)
              try simp only [Act.put, List.setIfInBounds_toArray, List.set_cons_zero, List.set_cons_succ]
              refine wpAnyK_take 7 (some 75) (v := ?kv22) rfl rfl (by kernel_rfl) (by kernel_rfl) (by kernel_rfl) (by decide) (by kernel_rfl) (fun _ _ _ h => h) (by rfl) ?ky22 hS.out ?kr22
              case ky22 => ((intro wk hk); (try dsimp only at hk); go_simp; try with_reducible rfl)
              try simp only [Act.put, List.setIfInBounds_toArray, List.set_cons_zero, List.set_cons_succ]
              refine wpAnyK_take 8 (some 76) (v := ?kv23) rfl rfl (by kernel_rfl) (by kernel_rfl) (by kernel_rfl) (by decide) (by kernel_rfl) (fun _ _ _ h => h) (by rfl) ?ky23 hS.out ?kr23
              case ky23 => ((intro wk hk); (try dsimp only at hk); go_simp; try with_reducible rfl)
              try simp only [Act.put, List.setIfInBounds_toArray, List.set_cons_zero, List.set_cons_succ]
              refine wpAnyK_take 9 (some 77) (v := ?kv24) rfl rfl (by kernel_rfl) (by kernel_rfl) (by kernel_rfl) (by decide) (by kernel_rfl) (fun _ _ _ h => h) (by rfl) ?ky24 hS.out ?kr24
              case ky24 => ((intro wk hk); (try dsimp only at hk); go_simp; try with_reducible rfl)
              try simp only [Act.put, List.setIfInBounds_toArray, List.set_cons_zero, List.set_cons_succ]
              refine wpAnyK_take 10 (some 78) (v := ?kv25) rfl rfl (by kernel_rfl) (by kernel_rfl) (by kernel_rfl) (by decide) (by kernel_rfl) (fun _ _ _ h => h) (by rfl) ?ky25 hS.out ?kr25
              case ky25 => ((intro wk hk); (try dsimp only at hk); go_simp; try with_reducible rfl)
              try simp only [Act.put, List.setIfInBounds_toArray, List.set_cons_zero, List.set_cons_succ]
              refine wpAnyK_take 11 (some 79) (v := ?kv26) rfl rfl (by kernel_rfl) (by kernel_rfl) (by kernel_rfl) (by decide) (by kernel_rfl) (fun _ _ _ h => h) (by rfl) ?ky26 hS.out ?kr26
              case ky26 => ((intro wk hk); (try dsimp only at hk); go_simp; try with_reducible rfl)
              try simp only [Act.put, List.setIfInBounds_toArray, List.set_cons_zero, List.set_cons_succ]
              refine wpAnyK_take 12 (some 80) (v := ?kv27) rfl rfl (by kernel_rfl) (by kernel_rfl) (by kernel_rfl) (by decide) (by kernel_rfl) (fun _ _ _ h => h) (by rfl) ?ky27 hS.out ?kr27
              case ky27 => ((intro wk hk); (try dsimp only at hk); go_simp; try with_reducible rfl)
              try simp only [Act.put, List.setIfInBounds_toArray, List.set_cons_zero, List.set_cons_succ]
              refine wpAnyK_one 13 (by kernel_rfl) rfl (fun K hK => ?_)
              go_simp
              refine (mul_F (M1 k c) pv.inv _ (HTr.out.ext (Ext.refl _).drew)).mono ?_
              rintro e x1 ⟨rfl, m2, hx1⟩
              have HX1 : Hid (Ext wr x1) := by rw [hx1]; exact (Ext.refl wr).drew.drewN m2
              clear hx1
              replace a0 := HX1.out.cell a0
              replace a6 := HX1.out.cell a6
              replace hS := Lib.hid (And.intro a0 a6)
              have hfz := (HC.out.1.ext HX1.out).frozAt (r := k) (by omega) a0 c
              refine hK.out _ _ (fun _ => hS.out) ?_
              clear hK K
              try simp only [Act.put, List.setIfInBounds_toArray, List.set_cons_zero, List.set_cons_succ]
              refine wpAnyK_take 14 (some 82) (v := ?kv28) rfl rfl (by kernel_rfl) (by kernel_rfl) (by kernel_rfl) (by decide) (by kernel_rfl) (fun _ _ _ h => h) (by rfl) ?ky28 hS.out ?kr28
              case ky28 => ((intro wk hk); (try dsimp only at hk); go_simp; try with_reducible rfl)
              try simp only [Act.put, List.setIfInBounds_toArray, List.set_cons_zero, List.set_cons_succ]
              refine wpAnyK_one 15 (by kernel_rfl) rfl (fun K hK => ?_)
              go_simp
              refine hK.out _ _ (fun h => absurd rfl h) ?_
              clear hK K
              refine wpAnyK_done (by kernel_rfl) ?_ _
              have hP := HPUT.out x1 c (M1 k c * pv.inv) HX1.out
              rw [F.scaleTo_succ] at hP
              have HP1 := Lib.hid hP.1
              have HP2 := Lib.hid (Below.trans HC.out.2 hP.2)
              clear hP HPUT hS a0 a6 a7 hfz
              go_wp2_with fail
              go_roundw
              case rel => exact ⟨c + 1, by go_num, by omega, HP1.out, HP2.out⟩
              case measure => simp [intOf]; omega
            · have hce : c = u + 1 := by omega
              rw [hce] at HC
              have HM2 : Hid (MatW base g 22 3 wr (F.scaleM M1 k pv.inv) (u + 1)) := HC.out.1.congr fun r c _ hc => by
                unfold F.scaleTo F.scaleM
                by_cases e : r = k
                · rw [if_pos ⟨e, hc⟩, if_pos e]
                · rw [if_neg (fun h => e h.1), if_neg e]
              have HB2 := Lib.hid HC.out.2
              clear HC hce
              have HSTEP : Hid (F.redM (F.scaleM M1 k pv.inv) k = F.stepM N k p) := by show _ = _; rw [← HM1d.out, ← HPV.out]; rfl
              generalize F.scaleM M1 k pv.inv = M2 at *
              clear HM1d HNK
              go_upto_region 17 with (fail)
              go_wp2_with fail
              go_loopw [86] (fun s86 wr => ∃ (r : Nat), s86 = .int .i64 r ∧ r ≤ 6 ∧ Hid (MatW base g 22 3 wr (F.redTo M2 k r 0) (u + 1) ∧ Below base w wr)) (fun i _ => 6 - (intOf i).toNat)
              case atStart => exact ⟨0, rfl, by omega, by rw [F.redTo_zero]; exact HM2.out, HB2.out⟩
              case round =>
                clear HM2 HB2
                obtain ⟨r, rfl, hr, HR⟩ := hrel
                by_cases hr6 : r < 6
                · obtain ⟨b2, cu2, a0, a1, a2, -, -, a3, a4, -⟩ := HR.out.1.at_ (r := r) hr6
                  have a6 := a3 k (by omega)
                  have hv : F.redTo M2 k r 0 r k = M2 r k := by unfold F.redTo; rw [if_neg (by omega)]
                  rw [hv] at a6
                  clear a3 a4 hv
                  have hd3 : decide ((r : Int) < 6) = true := by simp; omega
                  by_cases hrk : r = k
                  · have HRK := Lib.hid hrk
                    have q1 : ((r : Int) == (k : Int)) = true := by simp [hrk]
                    clear hrk
                    go_wp2_with fail
                    go_roundw
                    case rel =>
                      refine ⟨r + 1, by go_num, by omega, HR.out.1.congr fun r' c' h1 h2 => ?_, HR.out.2⟩
                      unfold F.redTo
                      have := HRK.out
                      by_cases e : r' ≠ k ∧ (r' < r ∨ r' = r ∧ c' < 0)
                      · rw [if_pos e, if_pos ⟨e.1, by omega⟩]
                      · rw [if_neg e, if_neg (fun h => e ⟨h.1, by omega⟩)]
                    case measure => simp [intOf]; omega
                  have q1 : ((r : Int) == (k : Int)) = false := by simp; omega
                  have HRK := Lib.hid hrk
                  clear hrk
                  by_cases hf : M2 r k = 0
                  · have q2 : (((M2 r k).n : Int) == 0) = true := by rw [hf]; rfl
                    have HF := Lib.hid hf
                    clear hf
                    go_wp2_with fail
                    go_roundw
                    case rel =>
                      refine ⟨r + 1, by go_num, by omega, HR.out.1.congr fun r' c' h1 h2 => ?_, HR.out.2⟩
                      unfold F.redTo
                      by_cases e0 : r' = r
                      · subst e0
                        rw [if_neg (by omega), HF.out, F.zero_mul, F.add_zero]
                        split <;> rfl
                      · by_cases e : r' ≠ k ∧ (r' < r ∨ r' = r ∧ c' < 0)
                        · rw [if_pos e, if_pos ⟨e.1, by omega⟩]
                        · rw [if_neg e, if_neg (fun h => e ⟨h.1, by omega⟩)]
                    case measure => simp [intOf]; omega
                  have q2 : (((M2 r k).n : Int) == 0) = false := by rw [n_eq_zero]; simp [hf]
                  clear hf
                  obtain ⟨wo, rfl⟩ : ∃ wo : World, wo = wr := ⟨_, rfl⟩
                  go_upto_region 22 with (fail)
                  clear a0 a1 a2 a6 q1 q2
                  go_wp2_with fail
                  go_loopw [108] (fun s108 wr => ∃ (c : Nat), s108 = .int .i64 c ∧ c ≤ u + 1 ∧ Hid (MatW base g 22 3 wr (F.redTo M2 k r c) (u + 1) ∧ Below base w wr)) (fun i _ => u + 1 - (intOf i).toNat)
                  case atStart => exact ⟨0, rfl, by omega, HR.out.1, HR.out.2⟩
                  case round =>
                    clear HR
                    obtain ⟨c, rfl, hc, HC⟩ := hrel
                    by_cases hcu : c < u + 1
                    · obtain ⟨b2, cu2, a0, a1, a2, -, -, a3, a4, a5⟩ := HC.out.1.at_ (r := r) hr6
                      obtain ⟨b3, cu3, d0, d1, d2, -, -, d3, -, -⟩ := HC.out.1.at_ (r := k) (by omega)
                      have a6 := a3 c (by omega)
                      have d6 := d3 c (by omega)
                      have HPUT := Lib.hid a5
                      have hv : F.redTo M2 k r c r c = M2 r c := by unfold F.redTo; rw [if_neg (by omega)]
                      have hv2 : F.redTo M2 k r c k c = M2 k c := by unfold F.redTo; rw [if_neg (by omega)]
                      rw [hv] at a6
                      rw [hv2] at d6
                      clear a3 a4 a5 d3 hv hv2
                      have HTr := Lib.hid (HTB.out _ HC.out.2)
                      have hS : wr.drew.cell? ⟨g, r, none⟩ = some (.slice (some ⟨b2, 0, none⟩) (u + 1) cu2) ∧ wr.drew.cell? ⟨b2, c, none⟩ = some (.int .i64 ((M2 r c).n : Int)) ∧ wr.drew.cell? ⟨g, k, none⟩ = some (.slice (some ⟨b3, 0, none⟩) (u + 1) cu3) ∧ wr.drew.cell? ⟨b3, c, none⟩ = some (.int .i64 ((M2 k c).n : Int)) := ⟨a0, a6, d0, d6⟩
                      replace hS := Lib.hid hS
                      have f1 : (0 : Int) ≤ (c : Int) := Int.natCast_nonneg _
                      have f2 : (c : Int) < (u : Int) + 1 := by omega
                      have f3 : (0 : Int) ≤ (r : Int) := Int.natCast_nonneg _
                      have f4 : (r : Int) < 6 := by omega
                      go_upto_region 24 with (fail)
                      refine wp_region_k 18 (fun w' => w'.cell? ⟨g, r, none⟩ = some (.slice (some ⟨b2, 0, none⟩) (u + 1) cu2) ∧ w'.cell? ⟨b2, c, none⟩ = some (.int .i64 ((M2 r c).n : Int)) ∧ w'.cell? ⟨g, k, none⟩ = some (.slice (some ⟨b3, 0, none⟩) (u + 1) cu3) ∧ w'.cell? ⟨b3, c, none⟩ = some (.int .i64 ((M2 k c).n : Int))) (by kernel_rfl) ?_
                      refine wpAnyK_take 0 (some 111) (v := ?kv29) rfl rfl (by kernel_rfl) (by kernel_rfl) (by kernel_rfl) (by decide) (by kernel_rfl) (fun _ _ _ h => h) (by rfl) ?ky29 hS.out ?kr29
                      case ky29 => ((intro wk hk); (try dsimp only at hk); go_simp; try with_reducible rfl)
                      try simp only [Act.put, List.setIfInBounds_toArray, List.set_cons_zero, List.set_cons_succ]
                      refine wpAnyK_take 1 (some 112) (v := ?kv30) rfl rfl (by kernel_rfl) (by kernel_rfl) (by kernel_rfl) (by decide) (by kernel_rfl) (fun _ _ _ h => h) (by rfl) ?ky30 hS.out ?kr30
                      case ky30 => ((intro wk hk); (try dsimp only at hk); go_simp; try with_reducible rfl)
                      try simp only [Act.put, List.setIfInBounds_toArray, List.set_cons_zero, List.set_cons_succ]
                      refine wpAnyK_take 2 (some 113) (v := ?kv31) rfl rfl (by kernel_rfl) (by kernel_rfl) (by kernel_rfl) (by decide) (by kernel_rfl) (fun _ _ _ h => h) (by rfl) ?ky31 hS.out ?kr31
                      case ky31 => ((intro wk hk); (try dsimp only at hk); go_simp; try with_reducible rfl)
                      try simp only [Act.put, List.setIfInBounds_toArray, List.set_cons_zero, List.set_cons_succ]
                      refine wpAnyK_take 3 (some 114) (v := ?kv32) rfl rfl (by kernel_rfl) (by kernel_rfl) (by kernel_rfl) (by decide) (by kernel_rfl) (fun _ _ _ h => h) (by rfl) ?ky32 hS.out ?kr32
                      case ky32 => ((intro wk hk); (try dsimp only at hk); go_simp; try with_reducible rfl)
                      try simp only [Act.put, List.setIfInBounds_toArray, List.set_cons_zero, List.set_cons_succ]
                      refine wpAnyK_take 4 (some 115) (v := ?kv33) rfl rfl (by kernel_rfl) (by kernel_rfl) (by kernel_rfl) (by decide) (by kernel_rfl) (fun _ _ _ h => h) (by rfl) ?ky33 hS.out ?kr33
                      case ky33 => ((intro wk hk); (try dsimp only at hk); go_simp; try with_reducible rfl)
                      try simp only [Act.put, List.setIfInBounds_toArray, List.set_cons_zero, List.set_cons_succ]
                      refine wpAnyK_take 5 (some 116) (v := ?kv34) rfl rfl (by kernel_rfl) (by kernel_rfl) (by kernel_rfl) (by decide) (by kernel_rfl) (fun _ _ _ h => h) (by rfl) ?ky34 hS.out ?kr34
                      case ky34 => ((intro wk hk); (try dsimp only at hk); go_simp; try with_reducible rfl)
                      try simp only [Act.put, List.setIfInBounds_toArray, List.set_cons_zero, List.set_cons_succ]
                      refine wpAnyK_take 6 (some 117) (v := ?kv35) rfl rfl (by kernel_rfl) (by kernel_rfl) (by kernel_rfl) (by decide) (by kernel_rfl) (fun _ _ _ h => h) (by rfl) ?ky35 hS.out ?kr35
                      case ky35 => ((intro wk hk); (try dsimp only at hk); go_simp; try with_reducible rfl)
                      try simp only [Act.put, List.setIfInBounds_toArray, List.set_cons_zero, List.set_cons_succ]
                      refine wpAnyK_take 7 (some 118) (v := ?kv36) rfl rfl (by kernel_rfl) (by kernel_rfl) (by kernel_rfl) (by decide) (by kernel_rfl) (fun _ _ _ h => h) (by rfl) ?ky36 hS.out ?kr36
                      case ky36 => ((intro wk hk); (try dsimp only at hk); go_simp; try with_reducible rfl)
                      try simp only [Act.put, List.setIfInBounds_toArray, List.set_cons_zero, List.set_cons_succ]
                      refine wpAnyK_take 8 (some 119) (v := ?kv37) rfl rfl (by kernel_rfl) (by kernel_rfl) (by kernel_rfl) (by decide) (by kernel_rfl) (fun _ _ _ h => h) (by rfl) ?ky37 hS.out ?kr37
                      case ky37 => ((intro wk hk); (try dsimp only at hk); go_simp; try with_reducible rfl)
                      try simp only [Act.put, List.setIfInBounds_toArray, List.set_cons_zero, List.set_cons_succ]
                      refine wpAnyK_take 9 (some 120) (v := ?kv38) rfl rfl (by kernel_rfl) (by kernel_rfl) (by kernel_rfl) (by decide) (by kernel_rfl) (fun _ _ _ h => h) (by rfl) ?ky38 hS.out ?kr38
                      case ky38 => ((intro wk hk); (try dsimp only at hk); go_simp; try with_reducible rfl)
                      try simp only [Act.put, List.setIfInBounds_toArray, List.set_cons_zero, List.set_cons_succ]
                      refine wpAnyK_take 10 (some 121) (v := ?kv39) rfl rfl (by kernel_rfl) (by kernel_rfl) (by kernel_rfl) (by decide) (by kernel_rfl) (fun _ _ _ h => h) (by rfl) ?ky39 hS.out ?kr39
                      case ky39 => ((intro wk hk); (try dsimp only at hk); go_simp; try with_reducible rfl)
                      try simp only [Act.put, List.setIfInBounds_toArray, List.set_cons_zero, List.set_cons_succ]
                      refine wpAnyK_take 11 (some 122) (v := ?kv40) rfl rfl (by kernel_rfl) (by kernel_rfl) (by kernel_rfl) (by decide) (by kernel_rfl) (fun _ _ _ h => h) (by rfl) ?ky40 hS.out ?kr40
                      case ky40 => ((intro wk hk); (try dsimp only at hk); go_simp; try with_reducible rfl)
                      try simp only [Act.put, List.setIfInBounds_toArray, List.set_cons_zero, List.set_cons_succ]
                      refine wpAnyK_take 12 (some 123) (v := ?kv41) rfl rfl (by kernel_rfl) (by kernel_rfl) (by kernel_rfl) (by decide) (by kernel_rfl) (fun _ _ _ h => h) (by rfl) ?ky41 hS.out ?kr41
                      case ky41 => ((intro wk hk); (try dsimp only at hk); go_simp; try with_reducible rfl)
                      try simp only [Act.put, List.setIfInBounds_toArray, List.set_cons_zero, List.set_cons_succ]
                      refine wpAnyK_take 13 (some 124) (v := ?kv42) rfl rfl (by kernel_rfl) (by kernel_rfl) (by kernel_rfl) (by decide) (by kernel_rfl) (fun _ _ _ h => h) (by rfl) ?ky42 hS.out ?kr42
                      case ky42 => ((intro wk hk); (try dsimp only at hk); go_simp; try with_reducible rfl)
                      try simp only [Act.put, List.setIfInBounds_toArray, List.set_cons_zero, List.set_cons_succ]
                      refine wpAnyK_take 14 (some 125) (v := ?kv43) rfl rfl (by kernel_rfl) (by kernel_rfl) (by kernel_rfl) (by decide) (by kernel_rfl) (fun _ _ _ h => h) (by rfl) ?ky43 hS.out ?kr43
                      case ky43 => ((intro wk hk); (try dsimp only at hk); go_simp; try with_reducible rfl)
                      try simp only [Act.put, List.setIfInBounds_toArray, List.set_cons_zero, List.set_cons_succ]
                      refine wpAnyK_one 15 (by kernel_rfl) rfl (fun K hK => ?_)
                      go_simp
                      refine (mul_F (M2 r k) (M2 k c) _ (HTr.out.ext (Ext.refl _).drew)).mono ?_
                      rintro e x1 ⟨rfl, m2, hx1⟩
                      have HX1 : Hid (Ext wr x1) := by rw [hx1]; exact (Ext.refl wr).drew.drewN m2
                      clear hx1
                      replace a0 := HX1.out.cell a0
                      replace a6 := HX1.out.cell a6
                      replace d0 := HX1.out.cell d0
                      replace d6 := HX1.out.cell d6
                      replace hS := Lib.hid (And.intro a0 (And.intro a6 (And.intro d0 d6)))
                      have hfz := (HC.out.1.ext HX1.out).frozAt (r := r) hr6 a0 c
                      refine hK.out _ _ (fun _ => hS.out) ?_
                      clear hK K
                      try simp only [Act.put, List.setIfInBounds_toArray, List.set_cons_zero, List.set_cons_succ]
                      refine wpAnyK_take 16 (some 127) (v := ?kv44) rfl rfl (by kernel_rfl) (by kernel_rfl) (by kernel_rfl) (by decide) (by kernel_rfl) (fun _ _ _ h => h) (by rfl) ?ky44 hS.out ?kr44
                      case ky44 => ((intro wk hk); (try dsimp only at hk); go_simp; try with_reducible rfl)
                      try simp only [Act.put, List.setIfInBounds_toArray, List.set_cons_zero, List.set_cons_succ]
                      refine wpAnyK_take 17 (some 128) (v := ?kv45) rfl rfl (by kernel_rfl) (by kernel_rfl) (by kernel_rfl) (by decide) (by kernel_rfl) (fun _ _ _ h => h) (by rfl) ?ky45 hS.out ?kr45
                      case ky45 => ((intro wk hk); (try dsimp only at hk); go_simp; try with_reducible rfl)
                      try simp only [Act.put, List.setIfInBounds_toArray, List.set_cons_zero, List.set_cons_succ]
                      refine wpAnyK_one 18 (by kernel_rfl) rfl (fun K hK => ?_)
                      go_simp
                      refine hK.out _ _ (fun h => absurd rfl h) ?_
                      clear hK K
                      refine wpAnyK_done (by kernel_rfl) ?_ _
                      rw [xor_F]
                      have hP := HPUT.out x1 c (M2 r c + M2 r k * M2 k c) HX1.out
                      rw [F.redTo_succ _ _ _ _ HRK.out] at hP
                      have HP1 := Lib.hid hP.1
                      have HP2 := Lib.hid (Below.trans HC.out.2 hP.2)
                      clear hP HPUT hS a0 a6 d0 d6 hfz
                      go_wp2_with fail
                      go_roundw
                      case rel => exact ⟨c + 1, by go_num, by omega, HP1.out, HP2.out⟩
                      case measure => simp [intOf]; omega
                    · obtain rfl : c = u + 1 := by omega
                      go_wp2_with fail
                      go_roundw
                      case rel =>
                        refine ⟨r + 1, by go_num, by omega, HC.out.1.congr fun r' c' h1 h2 => ?_, HC.out.2⟩
                        unfold F.redTo
                        by_cases e : r' ≠ k ∧ (r' < r ∨ r' = r ∧ c' < u + 1)
                        · rw [if_pos e, if_pos ⟨e.1, by omega⟩]
                        · rw [if_neg e, if_neg (fun h => e ⟨h.1, by omega⟩)]
                      case measure => simp [intOf]; omega
                · obtain rfl : r = 6 := by omega
                  go_wp2_with fail
                  go_roundw
                  case rel =>
                    refine ⟨k + 1, by go_num, by omega, F.stepM N k p, ?_, F.unit_step H2.out (by omega) hp6 hkp (by rw [HPV.out]; exact HZ.out), fun X => (F.sol_step (by omega) hp6 (by rw [HPV.out]; exact HZ.out)).trans (H3.out X), HR.out.2⟩
                    rw [← HSTEP.out]
                    refine HR.out.1.congr fun r' c' h1 _ => ?_
                    unfold F.redTo F.redM
                    by_cases e : r' = k
                    · rw [if_neg (fun h => h.1 e), if_pos e]
                    · rw [if_pos ⟨e, .inl h1⟩, if_neg e]
                  case measure => simp [intOf]; omega
    · obtain rfl : k = u := by omega
      go_wp2_with fail
      go_loopw [12] (fun s12 wr' => ∃ (r : Nat), s12 = .int .i64 r ∧ k ≤ r ∧ r ≤ 6 ∧ Hid (∀ q, k ≤ q → q < r → N q k = 0) ∧ wr' = wr) (fun i _ => 6 - (intOf i).toNat)
      case atStart => exact ⟨k, rfl, by omega, by omega, fun q h1 h2 => by omega, rfl⟩
      case round =>
        obtain ⟨r, rfl, hkr, hr6, HR, rfl⟩ := hrel
        by_cases hr : r < 6
        · obtain ⟨b2, cu2, a0, a1, a2, -, -, a3, -, -⟩ := H1.out.at_ (r := r) hr
          have a6 := a3 k (by omega)
          clear a3
          by_cases hz : N r k = 0
          · have hz' : (((N r k).n : Int) != 0) = false := by rw [hz]; rfl
            have HZ := Lib.hid hz
            clear hz
            go_wp2_with fail
            go_roundw
            case rel =>
              refine ⟨r + 1, by go_num, by omega, by omega, fun q h1 h2 => ?_, trivial⟩
              by_cases e : q = r
              · subst e; exact HZ.out
              · exact HR.out q h1 (by omega)
            case measure => simp [intOf]; omega
          · have hz' : (((N r k).n : Int) != 0) = true := by rw [bne, n_eq_zero]; simp [hz]
            have HZ := Lib.hid hz
            clear hz
            go_wp2_with fail
            go_ret
            refine ⟨N, ret_bool ?_, H1.out, H2.out, H3.out, H4.out⟩
            cases hb : restB N k with
            | false => rfl
            | true => exact absurd ((restB_iff N k).1 hb r hkr hr) HZ.out
        · obtain rfl : r = 6 := by omega
          go_wp2_with fail
          go_ret
          exact ⟨N, ret_bool ((restB_iff N k).2 (fun r h1 h2 => HR.out r h1 h2)).symm, H1.out, H2.out, H3.out, H4.out⟩
end Go.Proofs.YtcpanmonllhmaaaDoor
