/- booklet.Make. -/
import Derived.Test.YtpbfbkkalemmiaaRMake
import Derived.ScopeJumps
namespace Go.Proofs.Ytpbfbkkalemmiaa
open Go.RowKit

/-- The pages at the head of the loop over pages, k parts being on them. -/
def OutSt (ns : List Int) (k : Nat) (ls : List (List Int)) : Prop :=
  (k = 0 ∧ ls = [[]]) ∨ (0 < k ∧ ∃ d c s, gs ns k = (d, c, s) ∧ ls = d ++ [c] ∧ ∀ x, ns[k]? = some x → 30 < s + x)
/-- The page that is being filled: it began with part k; k' parts are placed. -/
def InSt (ns : List Int) (k k' : Nat) (ls : List (List Int)) (l : List Int) (s : Int) : Prop :=
  (k' = k ∧ l = [] ∧ s = 0) ∨ (k < k' ∧ gs ns k' = (ls, l, s))
theorem InSt.take {ns : List Int} {k k' : Nat} {ls : List (List Int)} {l : List Int} {s x : Int} (ho : OutSt ns k ls) (h : InSt ns k k' ls l s) (hx : ns[k']? = some x) (hf : s + x ≤ 30) (hkk : k ≤ k') : InSt ns k (k' + 1) ls (l ++ [(k' : Int)]) (s + x) := by
  rcases h with ⟨rfl, rfl, rfl⟩ | ⟨hk, hg⟩
  · refine .inr ⟨by omega, ?_⟩
    rcases ho with ⟨rfl, rfl⟩ | ⟨hk0, d, c, s0, hg, rfl, hn⟩
    · exact gs_fit rfl hx hf
    · rw [gs_new hg hx (hn x hx)]; simp
  · exact .inr ⟨by omega, gs_fit hg hx hf⟩
theorem InSt.out {ns : List Int} {k k' : Nat} {ls : List (List Int)} {l : List Int} {s x : Int} (h : InSt ns k k' ls l s) (hk : k < k') (hn : ∀ y, ns[k']? = some y → 30 < s + y) : OutSt ns k' (ls ++ [l]) := by
  rcases h with ⟨rfl, _⟩ | ⟨_, hg⟩
  · omega
  · exact .inr ⟨by omega, ls, l, s, hg, rfl, hn⟩

set_option maxHeartbeats 4000000 in
theorem make_any (code var : Int) (v : Value) (ps : List Part) (w : World) {p : Nat} (hp : p < w.heap.size) (h : IsQ p w v ps) :
    Calls Try.prog 18 #[.agg #[.int .i64 code, .int .i64 var, v]] w (MakeRet p w code var ps) := by
  obtain ⟨A, n, c, rfl, hnc, hc, hnn, HL⟩ := h.open_
  obtain ⟨i0, hi0, hz0, hz1, hz2⟩ := info_parts Try.infoI
  obtain ⟨iS, hiS, hy0, hy1, hy2⟩ := info_parts Try.infoS
  have H := Lib.hid h
  clear h
  cases hv : vpaB code var ps with
  | false =>
    have HV := Lib.hid hv
    clear hv
    go_enter Try.func18, Try.ntmps18
    go_wp2_with fail
    go_step3
    go_wp2_with fail
    refine (validPaper_any _ _ _ ps _ ((H.out.ext (RPart.stab p) ((Ext.refl _).alloc _)).ext (RPart.stab p) ((Ext.refl _).alloc _))).mono ?_
    rintro e w1 ⟨rfl, hx1⟩
    rw [HV.out]
    have c0 : w1.cell? ⟨w.heap.size + 1, 0, none⟩ = some (.slice none 0 0) := hx1.cell (by simp)
    have f0 : w1.frozen? ⟨w.heap.size + 1, 0, none⟩ = false := (Below.frozen hx1.below (by simp)).trans (by simp)
    have HE := Lib.hid (Ext.trans (((Ext.refl w).alloc _).alloc _) hx1)
    clear hx1
    go_wp2_with fail
    rw [Exit.noGoto_ret]
    refine bodyPost_ret (v := .tuple #[.agg #[.slice none 0 0], .int .i64 1]) (by simp [results, Try.results18, go_sem, c0]) rfl ⟨_, [], 1, rfl, IsS.nil _ _ _ _, ?_, fun _ => ⟨rfl, rfl⟩, fun h => absurd (HV.out.symm.trans h) (by simp)⟩
    exact HE.out.setCell (by simp) _
  | true =>
    have HV := Lib.hid hv
    have hvp := vpa_of hv
    obtain ⟨_, _, _, _, hl1, hl24, hall, _⟩ := hvp
    have HALL := Lib.hid hall
    have hn1 : 1 ≤ n := by have := HL.out; omega
    have hn24 : n ≤ 24 := by have := HL.out; omega
    clear hv hall hl1 hl24
    go_enter Try.func18, Try.ntmps18
    go_wp2_with fail
    go_step3
    go_wp2_with fail
    refine (validPaper_any _ _ _ ps _ ((H.out.ext (RPart.stab p) ((Ext.refl _).alloc _)).ext (RPart.stab p) ((Ext.refl _).alloc _))).mono ?_
    rintro e w1 ⟨rfl, hx1⟩
    rw [HV.out]
    have HE1 := Lib.hid (Ext.trans (((Ext.refl w).alloc _).alloc _) hx1)
    have b2 : w1.cell? ⟨w.heap.size, 2, none⟩ = some (.slice A n c) := hx1.cell (by simp)
    have HB2 := Lib.hid b2
    have HRC := Lib.hid (hx1.blk (heap_alloc_new (w.alloc _) _))
    have HI1 := Lib.hid (H.out.ext (RPart.stab p) HE1.out)
    have hs1' : w.heap.size + 2 ≤ w1.heap.size := by have := hx1.size; simp at this; omega
    clear hx1 b2
    go_wp2_with fail
    go_step3
    go_wp2_with fail
    go_loopw [4, 5] (fun s4 s5 wr => ∃ (k j g cap : Nat) (ls : List (List Int)), k ≤ n ∧ j ≤ k + 1 ∧ s4 = .slice (some ⟨g, 0, none⟩) (j + 1) cap ∧ s5 = .int .i64 k ∧
        Hid (ls.length = j + 1 ∧ Rowz w1.heap.size 28 3 wr.heap.size wr (.slice (some ⟨g, 0, none⟩) (j + 1) cap) ls ∧ Ext w1 wr ∧ OutSt (ps.map need) k ls)) (fun _ i _ => n - (intOf i).toNat)
    case atStart => exact ⟨0, 0, w1.heap.size, 1, [[]], by omega, by omega, rfl, rfl, rfl, by simpa using Rowz.one w1 _ _ _ (Nat.le_refl _), (Ext.refl _).alloc _, .inl ⟨rfl, rfl⟩⟩
    case round =>
      obtain ⟨wo, rfl⟩ : ∃ wo : World, wo = wr := ⟨_, rfl⟩
      obtain ⟨k, j, g, cap, ls, hk, hjk, rfl, rfl, HR⟩ := hrel
      have b2 := HR.out.2.2.1.cell HB2.out
      by_cases hlt : k < n
      · go_wp2_with fail
        go_loopw [4, 5, 6, 7] (fun s4 s5 s6 s7 wr => ∃ (k' n6 c6 : Nat) (A6 : Option Addr) (l : List Int) (s : Int), s4 = .slice (some ⟨g, 0, none⟩) (j + 1) cap ∧ s5 = .int .i64 k' ∧ k ≤ k' ∧ k' ≤ n ∧ 0 ≤ s ∧ s ≤ 30 ∧ n6 ≤ k' ∧ s6 = .slice A6 n6 c6 ∧ s7 = .int .i64 s ∧
          Hid (l.length = n6 ∧ wr.ownsRow wo.heap.size 3 1 (.slice A6 n6 c6) n6 (l.map (Value.int .i64)) ∧ Rowz w1.heap.size 28 3 wo.heap.size wr (.slice (some ⟨g, 0, none⟩) (j + 1) cap) ls ∧ Ext w1 wr ∧ InSt (ps.map need) k k' ls l s ∧ wo.heap.size ≤ wr.heap.size)) (fun _ i _ _ _ => n - (intOf i).toNat)
        case atStart => exact ⟨k, 0, 0, none, [], 0, rfl, rfl, Nat.le_refl _, hk, by omega, by omega, by omega, rfl, rfl, rfl, World.ownsRow_nil _ _ _ _, HR.out.2.1, HR.out.2.2.1, .inl ⟨rfl, rfl, rfl⟩, Nat.le_refl _⟩
        case round =>
          obtain ⟨k', n6, c6, A6, l, s, rfl, rfl, hkk, hk', hs0, hs30, hn6, rfl, rfl, HQ⟩ := hrel
          have b2' := HQ.out.2.2.2.1.cell HB2.out
          clear b2
          by_cases hlt' : k' < n
          · obtain ⟨b, off, cs0, q0, rfl, _⟩ := H.out.at_ hlt'
            obtain ⟨q, c0, c1, c2, c3, c4, c5, hw, HX⟩ := (HI1.out.ext (RPart.stab p) HQ.out.2.2.2.1).part hlt'
            have hnb := need_bd q
            go_wp2_with fail
            refine (need_any q _).mono ?_
            rintro e w2 ⟨rfl, hx2⟩
            clear c0 c1 c2 c3 c4 c5 b2'
            have HN2 := Lib.hid (HQ.out.2.2.1.ext hx2)
            have HO2 := Lib.hid (own_ext HQ.out.2.1 hx2)
            have HE2 := Lib.hid (HQ.out.2.2.2.1.trans hx2)
            have hsz2 : wo.heap.size ≤ w2.heap.size := Nat.le_trans HQ.out.2.2.2.2.2 hx2.size
            generalize hxq : need q = x at *
            have HXN : Hid ((ps.map need)[k']? = some x) := by have := needs_at HX.out; rw [hxq] at this; exact this
            clear hxq hx2
            by_cases hf : s + x ≤ 30
            · go_wp2_with (at_builtin; refine wpList_push _ rfl (.tmp 41) (.tmp 43) 28 rfl wo.heap.size 3 i0 _ 8 Try.underlying28 hi0 hz0 hz1 hz2 rfl _ _ _ rfl (HO2.out.alloc _) _ _ rfl (by simp; rfl) rfl (by omega) (by omega) (by simp; omega) ?_; intro v' w3 hown' hg'; obtain ⟨g', cap', rfl, _, _⟩ := own_form hown' (by omega); have HN3 := Lib.hid ((HN2.out.ext ((Ext.refl _).alloc _)).apart (by decide) (HO2.out.alloc _) hg'); have HE3 := Lib.hid (Ext.grown (HE2.out.alloc _) hg' (fun k hk => by have h1 := own_ge HO2.out k hk; have h2 := HR.out.2.2.1.size; omega)); have HO3 := Lib.hid hown'; have hsz3 : wo.heap.size ≤ w3.heap.size := (by have := hg'.size; simp at this; omega); clear hown' hg')
              go_roundw
              case rel =>
                exact ⟨k' + 1, n6 + 1, cap', _, l ++ [(k' : Int)], s + x, rfl, by go_num, by omega, by omega, by omega, by omega, by omega, rfl, rfl, by have := HQ.out.1; simp; omega, by simpa using HO3.out, HN3.out, HE3.out, HQ.out.2.2.2.2.1.take HR.out.2.2.2 HXN.out hf hkk, hsz3⟩
              case measure => simp [intOf]; omega
            · have hf' : 30 < s + x := by omega
              have hkk' : k < k' := by rcases HQ.out.2.2.2.2.1 with ⟨_, _, h⟩ | ⟨h, _⟩ <;> omega
              clear hf
              obtain ⟨us, hus, hOS⟩ := HN2.out.own
              have HOS := Lib.hid hOS
              clear hOS
              go_wp2_with (at_builtin; refine wpList_push _ rfl (.tmp 34) (.tmp 36) 36 rfl w1.heap.size 28 iS _ 24 Try.underlying36 hiS hy0 hy1 hy2 rfl _ (j + 1) us rfl (by have := HOS.out.alloc (.cells #[.slice A6 n6 c6] 28); rw [HR.out.1] at this; exact this) _ _ rfl (by simp; rfl) rfl (by omega) (by omega) (by have := HE2.out.size; simp; omega) ?_; intro v' w3 hown' hg'; obtain ⟨g', cap', rfl, _, _⟩ := own_form hown' (by omega); have HN3 := Lib.hid ((HN2.out.ext ((Ext.refl _).alloc (.cells #[.slice A6 n6 c6] 28))).push (by decide) (HOS.out.alloc _) (l := l) (by rw [HQ.out.1]; exact own_base (HO2.out.alloc _) HR.out.2.2.1.size) hg' (by rw [HR.out.1]; exact hown')); have HE3 := Lib.hid (Ext.grown (HE2.out.alloc _) hg' (fun k hk => by have := own_ge HOS.out k hk; omega)); clear hown' hg')
              go_roundw
              case rel =>
                exact ⟨k', j + 1, g', cap', ls ++ [l], by omega, by omega, rfl, rfl, by have := HR.out.1; simp; omega, HN3.out, HE3.out, HQ.out.2.2.2.2.1.out (x := x) hkk' (fun y hy => by rw [HXN.out] at hy; have := Option.some.inj hy; omega)⟩
              case measure => simp [intOf]; omega
          · obtain rfl : k' = n := by omega
            obtain ⟨us, hus, hOS⟩ := HQ.out.2.2.1.own
            have HOS := Lib.hid hOS
            clear hOS
            go_wp2_with (at_builtin; refine wpList_push _ rfl (.tmp 47) (.tmp 49) 36 rfl w1.heap.size 28 iS _ 24 Try.underlying36 hiS hy0 hy1 hy2 rfl _ (j + 1) us rfl (by have := HOS.out.alloc (.cells #[.slice A6 n6 c6] 28); rw [HR.out.1] at this; exact this) _ _ rfl (by simp; rfl) rfl (by omega) (by omega) (by have := HQ.out.2.2.2.1.size; simp; omega) ?_; intro v' w3 hown' hg'; obtain ⟨g', cap', rfl, _, _⟩ := own_form hown' (by omega); have HN3 := Lib.hid ((HQ.out.2.2.1.ext ((Ext.refl _).alloc (.cells #[.slice A6 n6 c6] 28))).push (by decide) (HOS.out.alloc _) (l := l) (by rw [HQ.out.1]; exact own_base (HQ.out.2.1.alloc _) HR.out.2.2.1.size) hg' (by rw [HR.out.1]; exact hown')); have HE3 := Lib.hid (Ext.grown (HQ.out.2.2.2.1.alloc _) hg' (fun k hk => by have := own_ge HOS.out k hk; omega)); clear hown' hg')
            go_roundw
            case rel =>
              exact ⟨k', j + 1, g', cap', ls ++ [l], by omega, by omega, rfl, rfl, by have := HR.out.1; simp; omega, HN3.out, HE3.out, HQ.out.2.2.2.2.1.out (x := 0) hlt (fun y hy => by have h1 := (List.getElem?_eq_some_iff.1 hy).1; have h2 := HL.out; simp at h1; omega)⟩
            case measure => simp [intOf]; omega
      · obtain rfl : k = n := by omega
        have HPG : Hid (ls = pagesOf (ps.map need)) := by
          rcases HR.out.2.2.2 with ⟨h, _⟩ | ⟨_, d, c', s, hg, hls, _⟩
          · omega
          · rw [hls]; exact pagesOf_of HL.out hg
        go_wp2_with fail
        clear b2
        go_loopw [4] (fun s4 wr => ∃ (m g cap : Nat) (ls : List (List Int)), m ≤ 30 ∧ s4 = .slice (some ⟨g, 0, none⟩) (m + 1) cap ∧ Hid (ls.length = m + 1 ∧ Rowz w1.heap.size 28 3 wr.heap.size wr (.slice (some ⟨g, 0, none⟩) (m + 1) cap) ls ∧ Ext w1 wr ∧ pad ls = makeP ps)) (fun s _ => match s with | .slice _ m _ => (4 - m % 4) % 4 | _ => 0)
        case atStart => exact ⟨j, g, cap, ls, by omega, rfl, HR.out.1, HR.out.2.1, HR.out.2.2.1, by unfold makeP; rw [HPG.out]⟩
        case round =>
          obtain ⟨m, g, cap, ls, hm, rfl, HQ⟩ := hrel
          clear HR HPG
          by_cases h4 : (m + 1) % 4 = 0
          · have e4 : (((m : Int) + 1) % 4 != 0) = false := by simp; omega
            have c0 : wr.cell? ⟨w.heap.size + 1, 0, none⟩ = some (.slice none 0 0) := by
              have := HQ.out.2.2.1.blk HRC.out
              simp at this
              exact blk_cell this rfl
            have f0 : wr.frozen? ⟨w.heap.size + 1, 0, none⟩ = false := by
              have := HQ.out.2.2.1.blk HRC.out
              simp at this
              exact blk_frozen this 0
            have HP : Hid (ls = makeP ps) := by have := HQ.out.2.2.2; rw [pad_done (by rw [HQ.out.1]; exact h4)] at this; exact this
            have HE := Lib.hid (HE1.out.trans HQ.out.2.2.1)
            have HISP : Hid (∀ u, IsP p (wr.setCell ⟨w.heap.size + 1, 0, none⟩ u) (.slice (some ⟨g, 0, none⟩) (m + 1) cap) ls) := fun u => (HQ.out.2.1.keep (w' := wr.setCell ⟨w.heap.size + 1, 0, none⟩ u) (by simp [World.setCell]) (fun k hk _ => Below.heap_setCell _ _ _ _ (by show k ≠ w.heap.size + 1; omega))).isP (by omega) (fun l hl x hx => by rw [HP.out] at hl; have := ((makeP_bd ps).2 l hl).2 x hx; have := HL.out; exact ⟨by omega, by omega⟩) (fun l hl => by rw [HP.out] at hl; have := ((makeP_bd ps).2 l hl).1; have := HL.out; omega)
            have hlen : (makeP ps).length = m + 1 := by rw [← HP.out]; exact HQ.out.1
            have HLEN := Lib.hid hlen
            clear h4 hlen
            by_cases h12 : 12 < m + 1
            · go_wp2_with fail
              rw [Exit.noGoto_ret]
              refine bodyPost_ret (v := .tuple #[.agg #[.slice none 0 0], .int .i64 3]) (by simp [results, Try.results18, go_sem, c0]) rfl ⟨_, [], 3, rfl, IsS.nil _ _ _ _, HE.out.setCell (by simp) _, fun h => absurd (HV.out.symm.trans h) (by simp), fun _ => ⟨fun _ => ⟨rfl, rfl⟩, fun h => absurd h (by have := HLEN.out; omega)⟩⟩
            · go_wp2_with fail
              rw [Exit.noGoto_ret]
              refine bodyPost_ret (v := .tuple #[.agg #[.slice (some ⟨g, 0, none⟩) (m + 1) cap], .int .i64 0]) (by simp [results, Try.results18, go_sem, c0]) rfl ⟨_, makeP ps, 0, rfl, ?_, HE.out.setCell (by simp) _, fun h => absurd (HV.out.symm.trans h) (by simp), fun _ => ⟨fun h => absurd h (by have := HLEN.out; omega), fun _ => ⟨rfl, rfl⟩⟩⟩
              rw [← HP.out]
              exact HISP.out _
          · have e4 : (((m : Int) + 1) % 4 != 0) = true := by simp; omega
            have HP4 : Hid (pad (ls ++ [[]]) = makeP ps) := by rw [← HQ.out.2.2.2]; exact pad_step (by rw [HQ.out.1]; exact h4)
            obtain ⟨us, hus, hOS⟩ := HQ.out.2.1.own
            have HOS := Lib.hid hOS
            clear hOS
            have H4 := Lib.hid h4
            have hm10 : m + 1 ≤ 29 := by
              have h1 := congrArg List.length HQ.out.2.2.2
              have h2 := (makeP_bd ps).1
              have h3 := HL.out
              have h5 := HQ.out.1
              unfold pad at h1
              simp at h1
              omega
            clear h4
            go_wp2_with (at_builtin; refine wpList_push _ rfl (.tmp 55) (.tmp 56) 36 rfl w1.heap.size 28 iS _ 24 Try.underlying36 hiS hy0 hy1 hy2 rfl _ (m + 1) us rfl (by have := HOS.out.alloc (.cells #[.slice none 0 0] 28); rw [HQ.out.1] at this; exact this) _ _ rfl (by simp; rfl) rfl (by omega) (by omega) (by have := HQ.out.2.2.1.size; simp; omega) ?_; intro v' w3 hown' hg'; obtain ⟨g', cap', rfl, _, _⟩ := own_form hown' (by omega); have HN3 := Lib.hid ((HQ.out.2.1.ext ((Ext.refl _).alloc (.cells #[.slice none 0 0] 28))).push (by decide) (HOS.out.alloc _) (l := []) (World.ownsRow_nil _ _ _ _) hg' (by rw [HQ.out.1]; exact hown')); have HE3 := Lib.hid (Ext.grown (HQ.out.2.2.1.alloc _) hg' (fun k hk => by have := own_ge HOS.out k hk; omega)); clear hown' hg')
            go_roundw
            case rel => exact ⟨m + 1, g', cap', ls ++ [[]], by omega, rfl, by have := HQ.out.1; simp; omega, HN3.out, HE3.out, HP4.out⟩
            case measure => have := H4.out; show (4 - (m + 1 + 1) % 4) % 4 < (4 - (m + 1) % 4) % 4; omega
end Go.Proofs.Ytpbfbkkalemmiaa
