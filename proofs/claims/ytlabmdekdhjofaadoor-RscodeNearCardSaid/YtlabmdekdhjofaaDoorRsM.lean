/- rscode.Decode's search: the walk, by induction on the number of wrong places. -/
import Derived.Test.YtlabmdekdhjofaaDoorRsL
namespace Go.Proofs.YtlabmdekdhjofaaDoor
open Go.RowKit

/-- What a search leaves. -/
def SRet (fl : List F) (wh : List Nat) (n gS gW gP gV gH gF : Nat) (Aw : Option Addr) (cw : Nat) (Ah : Option Addr) (nh ch base : Nat) (w : World) (ps : List Nat) (vp : Value) (next wrong : Nat) (e : Ending) (w' : World) : Prop :=
  ∃ (b : Bool) (ps' : List Nat) (Ap : Option Addr) (np cp : Nat) (vv : Value), e = .returned (.bool b) ∧ DSt fl wh n gS gW gP gV gH gF Aw cw Ah nh ch base w' ps' Ap np cp vv ∧ SFr gP gV w vp w' (.slice Ap np cp) ∧ np ≤ cp ∧ cp ≤ 9223372036854775807 ∧
    (b = true → ∃ S xs, S.Sublist (wh.drop next) ∧ S.length = wrong ∧ ps' = ps ++ S ∧ xs.length = ps'.length ∧ (∀ p, p < w.heap.size → IsI p w' vv (wI xs)) ∧ F.Code (F.addAt fl ps' xs)) ∧
    (b = false → ps' = ps ∧ ∀ S, S.Sublist (wh.drop next) → S.length = wrong → ∀ c, F.Off fl c (ps ++ S) → ¬ F.Code c)

section
variable {fl : List F} {wh : List Nat} {n gS gW gP gV gH gF : Nat} {Aw : Option Addr} {cw : Nat} {Ah : Option Addr} {nh ch base : Nat}

set_option maxRecDepth 100000 in
set_option maxHeartbeats 4000000 in
theorem search_zero (next : Nat) (w : World) (ps : List Nat) (Ap : Option Addr) (np cp : Nat) (vv : Value) (d : DSt fl wh n gS gW gP gV gH gF Aw cw Ah nh ch base w ps Ap np cp vv)
    (h6 : np ≤ 6) (hcp : np ≤ cp ∧ cp ≤ 9223372036854775807) (hn : fl.length = n) (hn31 : n ≤ 31) (hd : ps.Nodup) (hlt : ∀ p ∈ ps, p < n) :
    Calls Tryd.prog 51 #[.int .i64 (next : Int), .int .i64 0, .pointer (some ⟨gS, 0, none⟩), .pointer (some ⟨gW, 0, none⟩), .pointer (some ⟨gP, 0, none⟩), .pointer (some ⟨gV, 0, none⟩), .pointer (some ⟨gH, 0, none⟩), .pointer (some ⟨gF, 0, none⟩)] w
      (SRet fl wh n gS gW gP gV gH gF Aw cw Ah nh ch base w ps (.slice Ap np cp) next 0) := by
  have D := Lib.hid d
  have HN := Lib.hid hn
  have HD := Lib.hid hd
  have HLT := Lib.hid hlt
  obtain ⟨hcp1, hcp2⟩ := hcp
  have s : ∀ i, i < 6 → w.cell? ⟨gS, i, none⟩ = some (.int .i64 ((synF fl i).n : Int)) := fun i hi => blk_cell d.s (arrF_at hi)
  have s0 := s 0 (by omega)
  have s1 := s 1 (by omega)
  have s2 := s 2 (by omega)
  have s3 := s 3 (by omega)
  have s4 := s 4 (by omega)
  have s5 := s 5 (by omega)
  have c1 := blk_cell d.wd (i := 0) rfl
  have c2 := blk_cell d.p (i := 0) rfl
  have c3 := blk_cell d.v (i := 0) rfl
  have c4 := blk_frozen d.v 0
  have hb2 : base ≤ w.heap.size := Nat.le_trans d.bP (Nat.le_of_lt (lt_of_blk d.p))
  have HO : Hid (IsI w.heap.size w (.slice Ap np cp) (psI ps)) := by
    refine (IsI.of_own (p := 0) (base := base) (e := 3) (n := np) (l := psI ps) d.own (by have := d.b2; omega) (fun x hx => ?_) (by rw [psI_len, d.len]; omega)).re (Nat.le_refl _)
    unfold psI at hx
    obtain ⟨q, hq, rfl⟩ := List.mem_map.1 hx
    have := hlt q hq
    constructor <;> omega
  have hl6 : Hid (ps.length ≤ 6) := by show _ ≤ _; rw [d.len]; exact h6
  clear s d hn hd hlt
  go_enter Tryd.func51, Tryd.ntmps51
  go_wp2_with (go_at_call 52; refine (corr_any _ fl ps n _ D.out.tabs HO.out HN.out hn31 HD.out HLT.out hl6.out).mono ?_; rintro e x1 ⟨A1, m1, cp1, b1, rfl, hx1, ht, hf⟩; have D1 := Lib.hid (D.out.ext hx1); replace hx1 := Lib.hid hx1; replace ht := Lib.hid ht; replace hf := Lib.hid hf; replace c3 := blk_cell D1.out.v (i := 0) rfl; replace c4 := blk_frozen D1.out.v 0)
  go_ret
  have hst : SFr gP gV x1 (.slice Ap np cp) (x1.setCell ⟨gV, 0, none⟩ (.slice A1 m1 cp1)) (.slice Ap np cp) := SFr.setV _ _ _ _
  have hne := D1.out.pV
  have hown : (x1.setCell ⟨gV, 0, none⟩ (.slice A1 m1 cp1)).ownsRow base 3 1 (.slice Ap np cp) np ((psI ps).map (Value.int .i64)) := own_far' D1.out.own (own_ne D1.out.own D1.out.v (by decide)) _
  refine ⟨b1, ps, Ap, np, cp, .slice A1 m1 cp1, rfl, D1.out.step hst ?_ ?_ hown D1.out.len, (SFr.of_ext hx1.out).trans hst, hcp1, hcp2, fun hb => ?_, fun hb => ⟨rfl, fun S hS hl c ho hc => ?_⟩⟩
  · rw [Below.heap_setCell _ _ _ _ (by simpa using hne)]; exact D1.out.p
  · exact blk_set D1.out.v _
  · obtain ⟨xs, hxl, hox, hcode⟩ := ht.out hb
    refine ⟨[], xs, List.nil_sublist _, rfl, by simp, hxl, fun p hp => ?_, hcode⟩
    have hox2 : OwnW w.heap.size (x1.setCell ⟨gV, 0, none⟩ (.slice A1 m1 cp1)) (.slice A1 m1 cp1) xs := own_far' hox (fun h => by have := own_ge hox _ h; have := lt_of_blk D.out.v; simp only at *; omega) _
    exact hox2.isI hp (by rw [hxl, D.out.len]; omega)
  · obtain rfl := List.eq_nil_of_length_eq_zero hl
    rw [List.append_nil] at ho
    exact hf.out hb c ho hc

set_option maxRecDepth 100000 in
set_option maxHeartbeats 4000000 in
theorem search_any (hn : fl.length = n) (hn31 : n ≤ 31) (hnh : wh.length = nh) (hnc : nh ≤ ch ∧ ch ≤ 9223372036854775807) : ∀ (wrong next : Nat) (w : World) (ps : List Nat) (Ap : Option Addr) (np cp : Nat) (vv : Value), DSt fl wh n gS gW gP gV gH gF Aw cw Ah nh ch base w ps Ap np cp vv →
    np + wrong ≤ 6 → next ≤ nh → (np ≤ cp ∧ cp ≤ 9223372036854775807) → (ps ++ wh.drop next).Nodup → (∀ p ∈ ps ++ wh.drop next, p < n) →
    Calls Tryd.prog 51 #[.int .i64 (next : Int), .int .i64 (wrong : Int), .pointer (some ⟨gS, 0, none⟩), .pointer (some ⟨gW, 0, none⟩), .pointer (some ⟨gP, 0, none⟩), .pointer (some ⟨gV, 0, none⟩), .pointer (some ⟨gH, 0, none⟩), .pointer (some ⟨gF, 0, none⟩)] w
      (SRet fl wh n gS gW gP gV gH gF Aw cw Ah nh ch base w ps (.slice Ap np cp) next wrong) := by
  intro wrong
  have HN := Lib.hid hn
  have HNH := Lib.hid hnh
  obtain ⟨hnc1, hnc2⟩ := hnc
  clear hn hnh
  induction wrong with
  | zero =>
    intro next w ps Ap np cp vv d h6 hnx hcp hd hlt
    exact search_zero next w ps Ap np cp vv d (by omega) hcp HN.out hn31 (List.nodup_append.1 hd).1 (fun p hp => hlt p (List.mem_append_left _ hp))
  | succ m ih =>
    intro next w ps Ap np cp vv d h6 hnx hcp hd hlt
    have HIH := Lib.hid ih
    have D := Lib.hid d
    have HD := Lib.hid hd
    have HLT := Lib.hid hlt
    obtain ⟨hcp1, hcp2⟩ := hcp
    obtain ⟨q, hq⟩ : ∃ q, q = m + 1 := ⟨_, rfl⟩
    rw [← hq]
    have hnz : ((q : Int) == 0) = false := by simp; omega
    have hqm : (q : Int) - 1 = (m : Int) := by omega
    have HQ := Lib.hid hq
    have hq1 : 1 ≤ q := by omega
    have hq6 : q ≤ 6 := by omega
    clear hq
    obtain ⟨i0, hi0, hz0, hz1, hz2⟩ := info_parts Tryd.infoI
    clear ih d hd hlt
    go_enter Tryd.func51, Tryd.ntmps51
    go_wp2_with fail
    go_loopw [12] (fun s12 wr => ∃ (k : Nat) (Aq : Option Addr) (cq : Nat) (vq : Value), s12 = .int .i64 k ∧ next ≤ k ∧ k ≤ nh ∧ np ≤ cq ∧ cq ≤ 9223372036854775807 ∧ Hid (DSt fl wh n gS gW gP gV gH gF Aw cw Ah nh ch base wr ps Aq np cq vq ∧ SFr gP gV w (.slice Ap np cp) wr (.slice Aq np cq) ∧ ∀ i x, next ≤ i → i < k → wh[i]? = some x → ∀ S, S.Sublist (wh.drop (i + 1)) → S.length = m → ∀ c, F.Off fl c (ps ++ x :: S) → ¬ F.Code c)) (fun i _ => nh - (intOf i).toNat)
    case atStart => exact ⟨next, Ap, cp, vv, rfl, by omega, by omega, by omega, by omega, D.out, SFr.refl _ _ _ _, fun i x h1 h2 => by omega⟩
    case round =>
      clear D
      obtain ⟨k, Aq, cq, vq, rfl, hk1, hk2, hcq1, hcq2, HK⟩ := hrel
      have D := Lib.hid HK.out.1
      have HF := Lib.hid HK.out.2.1
      have HNO := Lib.hid HK.out.2.2
      clear HK
      have c5 := blk_cell D.out.h (i := 0) rfl
      by_cases hkn : k < nh
      · obtain ⟨b, o, z, rfl, -⟩ := D.out.hi.at_ hkn
        obtain ⟨z, hcz, HZ, -⟩ := D.out.hi.cell_ hkn
        obtain ⟨x, hx, rfl⟩ := psI_at HZ.out
        have HX := Lib.hid hx
        clear hx HZ
        have c2 := blk_cell D.out.p (i := 0) rfl
        have hS : wr.drew.cell? ⟨gP, 0, none⟩ = some (.slice Aq np cq) ∧ wr.drew.cell? ⟨gH, 0, none⟩ = some (.slice (some ⟨b, o, none⟩) nh ch) ∧ wr.drew.cell? ⟨b, o + k, none⟩ = some (.int .i64 (x : Int)) := ⟨c2, c5, hcz⟩
        replace hS := Lib.hid hS
        have e1 : (0 : Int) ≤ (k : Int) := Int.natCast_nonneg _
        have e2 : (k : Int) < (nh : Int) := by omega
        go_upto_region 8 with (fail)
        refine wp_region_k 7 (fun w' => w'.cell? ⟨gP, 0, none⟩ = some (.slice Aq np cq) ∧ w'.cell? ⟨gH, 0, none⟩ = some (.slice (some ⟨b, o, none⟩) nh ch) ∧ w'.cell? ⟨b, o + k, none⟩ = some (.int .i64 (x : Int))) (by kernel_rfl) ?_
        refine wpAnyK_take 0 (some 31) (v := ?kv1) rfl rfl (by kernel_rfl) (by kernel_rfl) (by kernel_rfl) (by decide) (by kernel_rfl) (fun _ _ _ h => h) (by rfl) ?ky1 hS.out ?kr1
        case ky1 => ((intro wk hk); (try dsimp only at hk); go_simp; try with_reducible rfl)
        try simp only [Act.put, List.setIfInBounds_toArray, List.set_cons_zero, List.set_cons_succ]
        refine wpAnyK_take 1 (some 32) (v := ?kv2) rfl rfl (by kernel_rfl) (by kernel_rfl) (by kernel_rfl) (by decide) (by kernel_rfl) (fun _ _ _ h => h) (by rfl) ?ky2 hS.out ?kr2
        case ky2 => ((intro wk hk); (try dsimp only at hk); go_simp; try with_reducible rfl)
        try simp only [Act.put, List.setIfInBounds_toArray, List.set_cons_zero, List.set_cons_succ]
        refine wpAnyK_take 2 (some 33) (v := ?kv3) rfl rfl (by kernel_rfl) (by kernel_rfl) (by kernel_rfl) (by decide) (by kernel_rfl) (fun _ _ _ h => h) (by rfl) ?ky3 hS.out ?kr3
        case ky3 => ((intro wk hk); (try dsimp only at hk); go_simp; try with_reducible rfl)
        try simp only [Act.put, List.setIfInBounds_toArray, List.set_cons_zero, List.set_cons_succ]
        refine wpAnyK_take 3 (some 34) (v := ?kv4) rfl rfl (by kernel_rfl) (by kernel_rfl) (by kernel_rfl) (by decide) (by kernel_rfl) (fun _ _ _ h => h) (by rfl) ?ky4 hS.out ?kr4
        case ky4 => ((intro wk hk); (try dsimp only at hk); go_simp; try with_reducible rfl)
        try simp only [Act.put, List.setIfInBounds_toArray, List.set_cons_zero, List.set_cons_succ]
        refine wpAnyK_take 4 (some 35) (v := ?kv5) rfl rfl (by kernel_rfl) (by kernel_rfl) (by kernel_rfl) (by decide) (by kernel_rfl) (fun _ _ _ h => h) (by rfl) ?ky5 hS.out ?kr5
        case ky5 => ((intro wk hk); (try dsimp only at hk); go_simp; try with_reducible rfl)
        try simp only [Act.put, List.setIfInBounds_toArray, List.set_cons_zero, List.set_cons_succ]
        refine wpAnyK_one 5 (by kernel_rfl) rfl (fun K hK => ?_)
        go_simp
        have E1 := Lib.hid (((Ext.refl wr).alloc (.cells #[.int .i64 (x : Int)] 3)).drew)
        have D1 := Lib.hid (D.out.ext E1.out)
        have hce : ((wr.alloc (.cells #[.int .i64 (x : Int)] 3)).drew).cell? ⟨gP, 0, none⟩ = some (.slice Aq np cq) ∧ ((wr.alloc (.cells #[.int .i64 (x : Int)] 3)).drew).cell? ⟨gH, 0, none⟩ = some (.slice (some ⟨b, o, none⟩) nh ch) ∧ ((wr.alloc (.cells #[.int .i64 (x : Int)] 3)).drew).cell? ⟨b, o + k, none⟩ = some (.int .i64 (x : Int)) := ⟨E1.out.cell c2, E1.out.cell c5, E1.out.cell hcz⟩
        refine hK.out _ _ (fun _ => hce) ?_
        clear hK K
        try simp only [Act.put, List.setIfInBounds_toArray, List.set_cons_zero, List.set_cons_succ]
        refine wpAnyK_one 6 (by kernel_rfl) rfl (fun K hK => ?_)
        refine step_append_lies _ (by rfl) _ _ _ (by rfl) base 3 i0 _ 1 8 Tryd.underlying27 hi0 hz0 hz1 hz2 rfl (by omega) (.slice Aq np cq) np ((psI ps).map (Value.int .i64)) (by rfl) D1.out.own ⟨wr.heap.size, 0, none⟩ 1 1 [.int .i64 (x : Int)] (by rfl) (by rfl) (World.news_of_block (cs := #[.int .i64 (x : Int)]) (t := 3) (fr := (0, 0)) (heap_alloc_new wr _)) (by simp [Value.oneCell']) (by omega) (by unfold maxLen; omega) (by omega) (by have := lt_of_blk D1.out.p; have := D1.out.bP; omega) (wr.heap.size + 1) (by simp) ?_
        intro gg cap w3 hown3 hgrow hat hlt3
        have hF3 : SFr gP gV wr (.slice Aq np cq) w3 (.slice (some ⟨gg, 0, none⟩) (np + 1) cap) := (SFr.of_ext E1.out).trans (SFr.grown hgrow (fun _ h => h) (fun k hk => by
          have e : gg = k := by simpa [Value.ownBlock] using hk
          subst e
          rcases hat with h | h
          · exact .inl h
          · exact .inr (by simp; omega)))
        have hP3 : w3.heap[gP]? = some (.cells #[.slice Aq np cq] 27 (0, 0)) := (hgrow.block _ (lt_of_blk D1.out.p) (fun e => own_ne D1.out.own D1.out.p (by decide) e.symm)).trans D1.out.p
        have hV3 : w3.heap[gV]? = some (.cells #[vq] 27 (0, 0)) := (hgrow.block _ (lt_of_blk D1.out.v) (fun e => own_ne D1.out.own D1.out.v (by decide) e.symm)).trans D1.out.v
        have hH3 : w3.heap[gH]? = some (.cells #[.slice (some ⟨b, o, none⟩) nh ch] 27 (0, 0)) := (hF3.block _ (lt_of_blk D.out.h) D.out.hP D.out.hV (own_ne D.out.own D.out.h (by decide))).trans D.out.h
        have hz3 : w3.cell? ⟨b, o + k, none⟩ = some (.int .i64 (x : Int)) := by
          obtain ⟨g1, g2, g3, g4⟩ := D.out.ha _ rfl
          exact (World.cell?_of_block (w := wr) (hF3.block b g4 g1 g2 g3)).trans hcz
        have HO3 : Hid (w3.ownsRow base 3 1 (.slice (some ⟨gg, 0, none⟩) (np + 1) cap) (np + 1) ((psI (ps ++ [x])).map (Value.int .i64))) := by
          have : psI (ps ++ [x]) = psI ps ++ [(x : Int)] := by simp [psI]
          show World.ownsRow _ _ _ _ _ _ _
          rw [this, List.map_append]; exact hown3
        have hcap := own_cap hown3
        have HF3 := Lib.hid hF3
        have HP3 := Lib.hid hP3
        have HV3 := Lib.hid hV3
        have hc3 := blk_cell hP3 (i := 0) rfl
        have hf3 := blk_frozen hP3 0
        have hh3 := blk_cell hH3 (i := 0) rfl
        clear hown3 hgrow hat hlt3 hce hF3 hP3 hV3 hH3
        obtain ⟨hcap1, hcap2⟩ := hcap
        change K (Act.put _ (some 37) _) w3
        refine hK.out _ _ (fun _ => ⟨hc3, hh3, hz3⟩) ?_
        clear hK K
        try simp only [Act.put, List.setIfInBounds_toArray, List.set_cons_zero, List.set_cons_succ]
        refine wpAnyK_one 7 (by kernel_rfl) rfl (fun K hK => ?_)
        go_simp
        refine hK.out _ _ (fun h => absurd rfl h) ?_
        clear hK K
        refine wpAnyK_done (by kernel_rfl) ?_ _
        have hst : SFr gP gV w3 (.slice (some ⟨gg, 0, none⟩) (np + 1) cap) (w3.setCell ⟨gP, 0, none⟩ (.slice (some ⟨gg, 0, none⟩) (np + 1) cap)) (.slice (some ⟨gg, 0, none⟩) (np + 1) cap) := SFr.setP _ _ _ _
        have HF4 := Lib.hid (HF3.out.trans hst)
        have D4 : Hid (DSt fl wh n gS gW gP gV gH gF Aw cw (some ⟨b, o, none⟩) nh ch base (w3.setCell ⟨gP, 0, none⟩ (.slice (some ⟨gg, 0, none⟩) (np + 1) cap)) (ps ++ [x]) (some ⟨gg, 0, none⟩) (np + 1) cap vq) := by
          refine D.out.step HF4.out (blk_set HP3.out _) ?_ (own_far' HO3.out (own_ne HO3.out HP3.out (by decide)) _) (by simp [D.out.len])
          rw [Below.heap_setCell _ _ _ _ (by simpa using D.out.pV.symm)]; exact HV3.out
        clear hst HO3 HP3 HV3 hc3 hf3 hh3 hz3 HF3 D1 hS c2 c5 hcz
        generalize w3.setCell ⟨gP, 0, none⟩ (.slice (some ⟨gg, 0, none⟩) (np + 1) cap) = W4 at *
        have HCA : Hid (Calls Tryd.prog 51 #[.int .i64 ((k : Int) + 1), .int .i64 (m : Int), .pointer (some ⟨gS, 0, none⟩), .pointer (some ⟨gW, 0, none⟩), .pointer (some ⟨gP, 0, none⟩), .pointer (some ⟨gV, 0, none⟩), .pointer (some ⟨gH, 0, none⟩), .pointer (some ⟨gF, 0, none⟩)] W4 (SRet fl wh n gS gW gP gV gH gF Aw cw (some ⟨b, o, none⟩) nh ch base W4 (ps ++ [x]) (.slice (some ⟨gg, 0, none⟩) (np + 1) cap) (k + 1) m)) := by
          have hsub : ((ps ++ [x]) ++ wh.drop (k + 1)).Sublist (ps ++ wh.drop next) := by
            rw [List.append_assoc]
            refine List.Sublist.append_left ?_ ps
            have : [x] ++ wh.drop (k + 1) = wh.drop k := by
              obtain ⟨hk, e⟩ := List.getElem?_eq_some_iff.1 HX.out
              rw [List.drop_eq_getElem_cons hk, e]; rfl
            rw [this]
            obtain ⟨j, hj⟩ : ∃ j, k = next + j := ⟨k - next, by omega⟩
            rw [hj, ← List.drop_drop]
            exact List.drop_sublist _ _
          exact HIH.out (k + 1) W4 (ps ++ [x]) _ (np + 1) cap vq D4.out (by omega) (by omega) ⟨hcap1, hcap2⟩ (HD.out.sublist hsub) (fun p hp => HLT.out p (hsub.subset hp))
        have c7 := blk_cell D4.out.f (i := 0) rfl
        go_upto_if 43 with (go_at_call 51; refine HCA.out.mono ?_; rintro e x5 ⟨b5, ps5, A5, n5, c5, v5, rfl, d5, f5, g51, g52, ht, hf⟩; replace d5 := Lib.hid d5; replace f5 := Lib.hid f5; replace ht := Lib.hid ht; replace hf := Lib.hid hf)
        clear c7 HCA HIH
        have hEX : SFr gP gV w (.slice Ap np cp) x5 (.slice A5 n5 c5) := (HF.out.trans HF4.out).trans f5.out
        replace hEX := Lib.hid hEX
        cases b5 with
        | true =>
          go_wp2_with fail
          go_ret
          obtain ⟨S, xs, q1, q2, q3, q4, q5, q6⟩ := ht.out trivial
          refine ⟨true, ps5, A5, n5, c5, v5, rfl, d5.out, hEX.out, g51, g52, fun _ => ⟨x :: S, xs, ?_, by rw [HQ.out]; simp [q2], by rw [q3]; simp, q4, fun p hp => q5 p (Nat.lt_of_lt_of_le hp (HF.out.trans HF4.out).size), q6⟩, fun h => by cases h⟩
          obtain ⟨hk, e⟩ := List.getElem?_eq_some_iff.1 HX.out
          have h1 : (x :: S).Sublist (wh.drop k) := by rw [List.drop_eq_getElem_cons hk, e]; exact q1.cons_cons x
          obtain ⟨j, hj⟩ : ∃ j, k = next + j := ⟨k - next, by omega⟩
          rw [hj, ← List.drop_drop] at h1
          exact h1.trans (List.drop_sublist _ _)
        | false =>
          obtain ⟨hps5, hno5⟩ := hf.out rfl
          subst hps5
          have hn5 : n5 = np + 1 := by rw [← d5.out.len, ← D.out.len]; simp
          subst hn5
          obtain ⟨g5, rfl⟩ : ∃ g5, A5 = some ⟨g5, 0, none⟩ := by
            rcases d5.out.own.2 with ⟨e, h0⟩ | ⟨g', cap', cur, e, _⟩
            · omega
            · injection e with e1; exact ⟨g', e1⟩
          have HNO5 := Lib.hid hno5
          clear hno5 ht hf
          have c2 := blk_cell d5.out.p (i := 0) rfl
          have c2f := blk_frozen d5.out.p 0
          have w1 : IntKind.i64.wrap (((np + 1 : Nat) : Int) - 1) = (np : Int) := by rw [IntWalk.i64_in _ (by omega)]; omega
          go_upto_region 7 with (fail)
          have hst0 : SFr gP gV x5 (.slice (some ⟨g5, 0, none⟩) (np + 1) c5) x5 (.slice (some ⟨g5, 0, none⟩) np c5) := ⟨rfl, rfl, rfl, Nat.le_refl _, fun _ _ _ _ _ => rfl, fun k hk => .inl (by simpa [Value.ownBlock] using hk)⟩
          have hst : SFr gP gV x5 (.slice (some ⟨g5, 0, none⟩) (np + 1) c5) (x5.setCell ⟨gP, 0, none⟩ (.slice (some ⟨g5, 0, none⟩) np c5)) (.slice (some ⟨g5, 0, none⟩) np c5) := hst0.trans (SFr.setP _ _ _ _)
          have HF6 := Lib.hid (hEX.out.trans hst)
          have D6 : Hid (DSt fl wh n gS gW gP gV gH gF Aw cw (some ⟨b, o, none⟩) nh ch base (x5.setCell ⟨gP, 0, none⟩ (.slice (some ⟨g5, 0, none⟩) np c5)) ps (some ⟨g5, 0, none⟩) np c5 v5) := by
            have ho := own_take d5.out.own (show np ≤ np + 1 by omega)
            have e : (((psI (ps ++ [x])).map (Value.int .i64)).take (np * 1)) = (psI ps).map (Value.int .i64) := by
              rw [Nat.mul_one]
              have : psI (ps ++ [x]) = psI ps ++ [(x : Int)] := by simp [psI]
              rw [this, List.map_append, List.take_append_of_le_length (by simp [psI_len, D.out.len]), List.take_of_length_le (by simp [psI_len, D.out.len])]
            rw [e] at ho
            refine d5.out.step hst (blk_set d5.out.p _) ?_ (own_far' ho (own_ne ho d5.out.p (by decide)) _) D.out.len
            rw [Below.heap_setCell _ _ _ _ (by simpa using D.out.pV.symm)]; exact d5.out.v
          clear hst hst0 c2 c2f w1 f5 d5
          go_wp2_with fail
          go_roundw
          case rel =>
            refine ⟨k + 1, some ⟨g5, 0, none⟩, c5, v5, by go_num, by omega, by omega, by omega, by omega, D6.out, HF6.out, fun i y h1 h2 hy S hS hl c ho hc => ?_⟩
            by_cases e : i = k
            · subst e
              rw [HX.out] at hy
              injection hy with hy
              subst hy
              refine HNO5.out S hS hl c ?_ hc
              rw [List.append_assoc]; exact ho
            · exact HNO.out i y h1 (by omega) hy S hS hl c ho hc
          case measure => simp [intOf]; omega
      · have hke : k = nh := by omega
        go_wp2_with fail
        go_ret
        refine ⟨false, ps, Aq, np, cq, vq, rfl, D.out, HF.out, hcq1, hcq2, (fun h => by cases h), fun _ => ⟨rfl, fun S hS hl c ho hc => ?_⟩⟩
        rw [HQ.out] at hl
        match S, hl with
        | x :: S, hl =>
          obtain ⟨i, h1, h2, h3⟩ := sub_first next hS
          have hi := (List.getElem?_eq_some_iff.1 h2).1
          exact HNO.out i x h1 (by rw [HNH.out] at hi; omega) h2 S h3 (by simpa using hl) c ho hc
end
end Go.Proofs.YtlabmdekdhjofaaDoor
