/- BubbleSplits: the walk of the law. -/
import Derived.Test.YtndmadohffcdiaaSplitA
import Derived.Test.YtndmadohffcdiaaSplitB
import Derived.Test.YtndmadohffcdiaaBaseE
import Derived.Test.YtndmadohffcdiaaBubD
import Derived.Test.YtndmadohffcdiaaTapeC
import Derived.Test.YtndmadohffcdiaaInts
namespace Go.Proofs.Ytndmadohffcdiaa
open Go.RowKit

theorem Try.infoF : (Try.prog.info? 46).map (fun i => (i.zero, i.size, i.bytes)) = some (some (.agg #[.int .i64 0, .int .i64 0]), 2, 16) := by kernel_rfl

def Fld.cs (q : Fld) : List Value := [.int .i64 q.part, .int .i64 q.opt]
theorem IsF.of_own {p base e : Nat} {w : World} {v : Value} {fs : List Fld} (h : w.ownsRow base e 2 v fs.length (fs.map Fld.cs).flatten) (hp : p < base) (hb : ∀ q ∈ fs, I64 q.part ∧ I64 q.opt) : IsF p w v fs := by
  refine IsS.of_own (e := e) (fs.map Fld.cs) (by simp [Fld.cs]) (by decide) (by simp) h hp ?_
  intro k cs x hcs hx
  simp only [List.getElem?_map, Option.map_eq_some_iff] at hcs
  obtain ⟨q, hq, rfl⟩ := hcs
  rw [hx] at hq
  injection hq with hq
  subst hq
  exact ⟨rfl, hb _ (List.mem_of_getElem? hx)⟩

/-- The two lists that the law builds from the tape. -/
def SpL (p B : Nat) (w2 wr : World) (s6 s7 : Value) (fl : List Fld) (cl : List Int) : Prop :=
  cl.length = fl.length ∧ wr.ownsRow B 46 2 s6 fl.length (fl.map Fld.cs).flatten ∧ wr.ownsRow B 3 1 s7 cl.length (cl.map (Value.int .i64)) ∧ (∀ q ∈ fl, I64 q.part ∧ I64 q.opt) ∧ (∀ x ∈ cl, I64 x) ∧ Tape wr p ∧ XT p w2 wr

set_option maxRecDepth 100000 in
set_option maxHeartbeats 4000000 in
theorem walkBubbleSplits (v0 : Value) (fs0 : List Fld) (v1 : Value) (l1 : List Int) (w : World) (h0 : IsF w.heap.size w v0 fs0) (h1 : IsI w.heap.size w v1 l1) :
    Calls Try.prog 8 #[v0, v1] w fun e w' => e = .returned (.bool true) ∧ Ext w w' := by
  obtain ⟨A0, n0, c0, rfl, hnc0, hc0, hnn0, HL0⟩ := h0.open_
  obtain ⟨i0, hi0, hz0, hz1, hz2⟩ := info_parts Try.infoI
  obtain ⟨iF, hiF, hy0, hy1, hy2⟩ := info_parts Try.infoF
  have H0 := Lib.hid h0
  have H1 := Lib.hid h1
  clear h0 h1
  by_cases h40 : 40 < n0
  · go_enter Try.func8, Try.ntmps8
    go_wp2_with fail
    go_ret
    exact ⟨rfl, Ext.refl _⟩
  go_enter Try.func8, Try.ntmps8
  go_wp2_with fail
  refine (new_any _ l1 _ H1.out).mono ?_
  rintro e w1 ⟨rfl, HT1, HE1⟩
  go_wp2_with fail
  refine (next_any _ _ _ HT1 (by omega)).mono ?_
  rintro e w2 ⟨v2, rfl, ⟨r, rfl, hr0, hr1⟩, HT2, HX2⟩
  obtain ⟨r, rfl⟩ := Int.eq_ofNat_of_zero_le hr0
  have hlt : w.heap.size < w2.heap.size := HT2.lt
  have HE2 := Lib.hid (HX2.fresh HE1 (Nat.le_refl _))
  clear HT1 HE1 HX2
  have hr : r ≤ 11 := by omega
  replace HT2 := Lib.hid HT2
  clear hr0 hr1
  go_wp2_with fail
  go_loopw [6, 7, 9] (fun s6 s7 s9 wr => ∃ (k : Nat) (fl : List Fld) (cl : List Int), s9 = .int .i64 k ∧ fl.length + k ≤ 11 ∧ Hid (SpL w.heap.size w2.heap.size w2 wr s6 s7 fl cl)) (fun _ _ i _ => (intOf i).toNat)
  case atStart => exact ⟨r, [], [], rfl, by simpa using hr, rfl, World.ownsRow_nil _ _ _ _, World.ownsRow_nil _ _ _ _, by simp, by simp, HT2.out, XT.refl _ _⟩
  case round =>
    obtain ⟨k, fl, cl, rfl, hk, HR⟩ := hrel
    clear HT2
    by_cases hk0 : 0 < k
    · obtain ⟨q1, q2, q3, q4, q5, q6, q7⟩ := HR.out
      replace q1 := Lib.hid q1
      replace q2 := Lib.hid q2
      replace q3 := Lib.hid q3
      replace q4 := Lib.hid q4
      replace q5 := Lib.hid q5
      replace q6 := Lib.hid q6
      replace q7 := Lib.hid q7
      go_wp2_with fail
      refine (next_any _ _ _ q6.out (by omega)).mono ?_
      rintro e w3 ⟨v3, rfl, ⟨a, rfl, ha0, ha1⟩, HT3, HX3⟩
      go_wp2_with fail
      refine (next_any _ _ _ HT3 (by omega)).mono ?_
      rintro e w4 ⟨v4, rfl, ⟨b, rfl, hb0, hb1⟩, HT4, HX4⟩
      have HX := Lib.hid (HX3.trans HX4)
      replace q2 := Lib.hid (own_xt q2.out HX.out (by omega))
      replace q3 := Lib.hid (own_xt q3.out HX.out (by omega))
      replace q7 := Lib.hid (q7.out.trans HX.out)
      have hs4 := q7.out.size
      replace HT4 := Lib.hid HT4
      clear HT3 HX3 HX4 q6 HX
      go_wp2_with (at_builtin; refine wpList_pushN _ rfl (.tmp 28) (.tmp 34) 44 rfl w2.heap.size 46 iF _ 2 16 Try.underlying44 hiF hy0 hy1 hy2 rfl (by omega) _ _ _ rfl (q2.out.alloc _) _ _ _ rfl (heap_alloc_new w4 _) rfl (by simp [Value.oneCell']) (by omega) (by omega) (by simp; omega) ?_; intro v5 w5 hown5 hg5)
      have HG5 := Lib.hid hg5
      have HT5 := Lib.hid ((HT4.out.ext ((Ext.refl _).alloc _)).grown hg5 (fun k hk => by have := own_ge q2.out k hk; omega))
      have HX5 := Lib.hid (XT.grown (q7.out.alloc _) hg5 (own_ge q2.out))
      have HC5 := Lib.hid (own_apart (q3.out.alloc _) hg5 (fun k hk => own_types q3.out q2.out (by decide) k hk))
      have HF5 := Lib.hid hown5
      clear hown5 hg5
      go_wp2_with fail
      refine (next_any _ _ _ HT5.out (by omega)).mono ?_
      rintro e w6 ⟨v6, rfl, ⟨x, rfl, hx0, hx1⟩, HT6, HX6⟩
      replace HX6 := Lib.hid HX6
      replace HT6 := Lib.hid HT6
      replace HC5 := Lib.hid (own_xt HC5.out HX6.out (by omega))
      replace HF5 := Lib.hid (own_xt HF5.out HX6.out (by omega))
      replace HX5 := Lib.hid (HX5.out.trans HX6.out)
      have hs6 := HX5.out.size
      go_wp2_with (at_builtin; refine wpList_push _ rfl (.tmp 36) (.tmp 39) 28 rfl w2.heap.size 3 i0 _ 8 Try.underlying28 hi0 hz0 hz1 hz2 rfl _ _ _ rfl (HC5.out.alloc _) _ _ rfl (by simp; rfl) rfl (by have := q1.out; omega) (by omega) (by simp; omega) ?_; intro v7 w7 hown7 hg7)
      go_roundw
      case rel =>
        refine ⟨k - 1, fl ++ [⟨a, b⟩], cl ++ [x], by congr; omega, by simp; omega, by have := q1.out; simp; omega, ?_, by simpa using hown7, ?_, ?_, ?_, ?_⟩
        · have := own_apart (HF5.out.alloc _) hg7 (fun k hk => own_types HF5.out HC5.out (by decide) k hk)
          simpa [Fld.cs] using this
        · intro q hq
          rcases List.mem_append.1 hq with hq | hq
          · exact q4.out q hq
          · simp at hq; subst hq; exact ⟨⟨by show _ ≤ a; omega, by show a ≤ _; omega⟩, ⟨by show _ ≤ b; omega, by show b ≤ _; omega⟩⟩
        · intro y hy
          rcases List.mem_append.1 hy with hy | hy
          · exact q5.out y hy
          · simp at hy; subst hy; exact ⟨by omega, by omega⟩
        · exact (HT6.out.ext ((Ext.refl _).alloc _)).grown hg7 (fun k hk => by have := own_ge HC5.out k hk; omega)
        · exact XT.grown (HX5.out.alloc _) hg7 (own_ge HC5.out)
      case measure => simp [intOf]; omega
    · have HL := Lib.hid HR.out
      have hkl : fl.length ≤ 11 := by omega
      clear HR hk hr
      have hsr : w2.heap.size ≤ wr.heap.size := HL.out.2.2.2.2.2.2.size
      obtain ⟨wo, rfl⟩ : ∃ wo : World, wo = wr := ⟨_, rfl⟩
      go_wp2_with fail
      go_loopw [8, 10] (fun s8 s10 wr => ∃ (j : Nat), s10 = .int .i64 j ∧ j ≤ n0 ∧ Hid (wr.ownsRow wo.heap.size 3 1 s8 j ((upTo j).map (Value.int .i64)) ∧ Ext wo wr)) (fun _ i _ => n0 - (intOf i).toNat)
      case atStart => exact ⟨0, rfl, by omega, World.ownsRow_nil _ _ _ _, Ext.refl _⟩
      case round =>
        obtain ⟨j, rfl, hj, HR⟩ := hrel
        by_cases hjn : j < n0
        · go_wp2_with (at_builtin; refine wpList_push _ rfl (.tmp 47) (.tmp 49) 28 rfl wo.heap.size 3 i0 _ 8 Try.underlying28 hi0 hz0 hz1 hz2 rfl _ _ _ rfl (HR.out.1.alloc _) _ _ rfl (by simp; rfl) rfl (by omega) (by omega) (by have := HR.out.2.size; simp; omega) ?_; intro v5 w5 hown5 hg5)
          go_roundw
          case rel => exact ⟨j + 1, by go_num, by omega, by rw [upTo_succ]; simpa using hown5, Ext.grown (HR.out.2.alloc _) hg5 (own_ge HR.out.1)⟩
          case measure => simp [intOf]; omega
        · obtain rfl : j = n0 := by omega
          obtain ⟨q1, q2, q3, q4, q5, q6, q7⟩ := HL.out
          obtain ⟨hd, hE⟩ := HR.out
          replace hd := Lib.hid hd
          replace hE := Lib.hid hE
          have Q2 := Lib.hid (own_ext q2 hE.out)
          have Q3 := Lib.hid (own_ext q3 hE.out)
          have Q6 := Lib.hid (q6.ext hE.out)
          have Q7 := Lib.hid (q7.ext hE.out)
          replace q1 := Lib.hid q1
          replace q4 := Lib.hid q4
          replace q5 := Lib.hid q5
          have hcb : Hid (∀ k, u7.ownBlock = some k → k < wo.heap.size) := fun k hk => (q3.lt k hk).2
          clear q2 q3 q6 q7 HL HR
          have hsr' : wo.heap.size ≤ wr.heap.size := hE.out.size
          go_wp2_with fail
          refine (one_any _ _ _ Q6.out (by omega) (by omega)).mono ?_
          rintro e w3 ⟨v3, rfl, ⟨b, rfl⟩, HT3, HX3⟩
          replace HX3 := Lib.hid HX3
          replace Q2 := Lib.hid (own_xt Q2.out HX3.out (by omega))
          replace Q3 := Lib.hid (own_xt Q3.out HX3.out (by omega))
          replace Q7 := Lib.hid (Q7.out.trans HX3.out)
          replace hd := Lib.hid (own_xt hd.out HX3.out (by omega))
          have hs3 := HX3.out.size
          go_upto_if 52 with (fail)
          go_cut [7] (fun s7 wx => ∃ cl' : List Int, Hid (IsI w.heap.size wx s7 cl' ∧ cl'.length ≤ 12 ∧ Ext w wx ∧ IsF w.heap.size wx u6 fl ∧ IsI w.heap.size wx u8 (upTo j) ∧ w.heap.size < wx.heap.size))
          case first =>
            have hI8 : ∀ x ∈ upTo j, I64 x := fun x hx => by have := upTo_mem hx; exact ⟨by omega, by omega⟩
            have HI8 := Lib.hid hI8
            clear hI8
            cases b
            · go_wp2_with fail
              go_meet
              exact ⟨cl, IsI.of_own Q3.out hlt q5.out (by have := q1.out; omega), by have := q1.out; omega, Q7.out.fresh HE2.out (Nat.le_refl _), IsF.of_own Q2.out hlt q4.out, IsI.of_own (by simpa using hd.out) (by omega) HI8.out (by simp [upTo]; omega), by omega⟩
            · go_wp2_with (at_builtin; refine wpList_push _ rfl (.tmp 53) (.tmp 54) 28 rfl w2.heap.size 3 i0 _ 8 Try.underlying28 hi0 hz0 hz1 hz2 rfl _ _ _ rfl (Q3.out.alloc _) _ _ rfl (by simp; rfl) rfl (by have := q1.out; omega) (by omega) (by simp; omega) ?_; intro v5 w5 hown5 hg5)
              go_meet
              refine ⟨cl ++ [1], IsI.of_own (l := cl ++ [1]) (by simpa using hown5) hlt ?_ (by have := q1.out; simp; omega), by have := q1.out; simp; omega, ?_, ?_, ?_, by have := hg5.size; simp at this; omega⟩
              · intro x hx
                rcases List.mem_append.1 hx with hx | hx
                · exact q5.out x hx
                · simp at hx; subst hx; exact ⟨by omega, by omega⟩
              · exact Ext.grown ((Q7.out.fresh HE2.out (Nat.le_refl _)).alloc _) hg5 (fun k hk => by have := own_ge Q3.out k hk; omega)
              · exact IsF.of_own (own_apart (Q2.out.alloc _) hg5 (fun k hk => own_types Q2.out Q3.out (by decide) k hk)) hlt q4.out
              · exact IsI.of_own (own_apart (hd.out.alloc _) hg5 (fun k hk e => by have h1 := hcb.out k e; have h2 := own_ge hd.out k hk; omega)) (by omega) HI8.out (by simp [upTo]; omega)
          case rest =>
          obtain ⟨cl', HC⟩ := hcut
          clear Q2 Q3 Q6 Q7 hd hE HX3 q1 q4 q5 HT3 hcb hlt
          obtain ⟨p1, p2, p3, p4, p5, p6⟩ := HC.out
          replace p1 := Lib.hid p1
          replace p2 := Lib.hid p2
          replace p3 := Lib.hid p3
          replace p4 := Lib.hid p4
          replace p5 := Lib.hid p5
          clear HC
          have HF0 := Lib.hid (H0.out.ext (RFld.stab _) p3.out)
          have hj40 : (upTo j).length ≤ 1000 := by simp [upTo]; omega
          replace hj40 := Lib.hid hj40
          go_wp2_with fail
          go_loopw [6, 7, 11] (fun s6 s7 s11 wr => ∃ (i : Nat) (ff : List Fld) (cc : List Int), s11 = .int .i64 i ∧ i ≤ 2 ∧ Hid (IsF w.heap.size wr s6 ff ∧ IsI w.heap.size wr s7 cc ∧ cc.length ≤ 1000 ∧ Ext wc wr)) (fun _ _ i _ => 2 - (intOf i).toNat)
          case atStart => exact ⟨0, fl, cl', rfl, by omega, p4.out, p1.out, by have := p2.out; omega, Ext.refl _⟩
          case round =>
            obtain ⟨i, ff, cc, rfl, hi, HR⟩ := hrel
            clear p1 p2 p4
            by_cases hi2 : i < 2
            · have hpp : w.heap.size < wr.heap.size := by have := HR.out.2.2.2.size; omega
              obtain ⟨r1, r2, r3, r4⟩ := HR.out
              replace r1 := Lib.hid r1
              replace r2 := Lib.hid r2
              replace r3 := Lib.hid r3
              replace r4 := Lib.hid r4
              clear HR
              go_wp2_with fail
              refine (split_any _ ff _ cc _ hpp r1.out r2.out r3.out).mono ?_
              rintro e x1 ⟨vx, rx, ex, rfl, hPx, hEx, hx1, hx2⟩
              replace hEx := Lib.hid hEx
              replace r1 := Lib.hid ((r1.out.ext (RFld.stab _) hEx.out))
              replace r2 := Lib.hid (r2.out.ext hEx.out)
              replace r4 := Lib.hid (r4.out.trans hEx.out)
              have hpx : w.heap.size < x1.heap.size := by have := hEx.out.size; omega
              obtain ⟨Ax, nx, cx, rfl, hncx, hcx, hnnx, HLx⟩ := hPx.open_
              replace hPx := Lib.hid hPx
              replace hx1 := Lib.hid hx1
              replace hx2 := Lib.hid hx2
              clear hEx
              go_wp2_with fail
              refine (rsplit_any _ ff _ cc _ hpx r1.out r2.out r3.out).mono ?_
              rintro e x2 ⟨vy, ry, ey, rfl, hPy, hEy, hy1, hy2⟩
              obtain ⟨Ay, ny, cy, rfl, hncy, hcy, hnny, HLy⟩ := hPy.open_
              have HRR : Hid (rx = ry) := by
                by_cases e : ff.length = cc.length
                · exact (hx2.out e).1.trans (hy2 e).1.symm
                · exact (hx1.out e).1.trans (hy1 e).1.symm
              obtain rfl : ex = ey := by
                by_cases e : ff.length = cc.length
                · exact (hx2.out e).2.trans (hy2 e).2.symm
                · exact (hx1.out e).2.trans (hy1 e).2.symm
              obtain rfl : nx = ny := by rw [← HLx.out, ← HLy.out, HRR.out]
              replace hEy := Lib.hid hEy
              replace hPx := Lib.hid ((hPx.out.ext (RI.stab _) hEy.out))
              replace r4 := Lib.hid (r4.out.trans hEy.out)
              replace hPy := Lib.hid hPy
              have hc1 : ((nx : Int) != nx) = false := by simp
              have hc2 : (ex != ex) = false := by simp
              clear r1 r2 r3 hx1 hx2 hy1 hy2 hEy
              obtain ⟨wi, rfl⟩ : ∃ wi : World, wi = x2 := ⟨_, rfl⟩
              go_wp2_with fail
              go_loopw [16] (fun s16 wr => ∃ (k : Nat), s16 = .int .i64 k ∧ k ≤ nx ∧ Hid (Ext wi wr)) (fun i _ => nx - (intOf i).toNat)
              case atStart => exact ⟨0, rfl, by omega, Ext.refl _⟩
              case round =>
                obtain ⟨k2, rfl, hk2, HW⟩ := hrel
                by_cases hkx : k2 < nx
                · obtain ⟨b1, o1, cs1, z1, rfl, _⟩ := hPx.out.at_ hkx
                  obtain ⟨b2, o2, cs2, z2, rfl, _⟩ := hPy.out.at_ hkx
                  obtain ⟨u, x, hcu, hIu, HX⟩ := (hPx.out.ext (RI.stab _) HW.out).page hkx
                  obtain ⟨v, y, hcv, hIv, HY⟩ := (hPy.out.ext (RI.stab _) HW.out).page hkx
                  obtain rfl : x = y := by have h1 := HX.out; have h2 := HY.out; rw [HRR.out, h2] at h1; exact (Option.some.inj h1).symm
                  replace hIu := Lib.hid hIu
                  replace hIv := Lib.hid hIv
                  have hq : ∀ m, Calls Try.prog 27 #[u, v] (wr.drewN m) fun e w' => e = .returned (.bool true) ∧ ∃ n, w' = (wr.drewN m).drewN n := fun m => by
                    have := ints_eq _ _ x x _ (hIu.out.ext ((Ext.refl _).drewN m)) (hIv.out.ext ((Ext.refl _).drewN m))
                    rwa [decide_eq_true rfl] at this
                  replace hq := Lib.hid hq
                  go_wp2_with fail
                  go_quiet ((go_at_call 27; exact Calls.quiet_of (hq.out _)))
                  go_wp2_with fail
                  go_roundw
                  case rel => exact ⟨k2 + 1, by go_num, by omega, HW.out.drewN _⟩
                  case measure => simp [intOf]; omega
                · go_wp2_with fail
                  go_roundw
                  case rel => exact ⟨i + 1, fs0, upTo j, by go_num, by omega, (HF0.out.ext (RFld.stab _) r4.out).ext (RFld.stab _) HW.out, (p5.out.ext r4.out).ext HW.out, hj40.out, r4.out.trans HW.out⟩
                  case measure => simp [intOf]; omega
            · go_wp2_with fail
              refine (awake_any _).mono ?_
              rintro e x5 ⟨rfl, hx5⟩
              go_wp2_with fail
              go_ret
              exact ⟨rfl, (p3.out.trans HR.out.2.2.2).trans hx5⟩
end Go.Proofs.Ytndmadohffcdiaa
