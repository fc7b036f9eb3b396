/- rscode.Codeword. -/
import Derived.Test.YtlabmdekdhjofaaDoorRsE
namespace Go.Proofs.YtlabmdekdhjofaaDoor
open Go.RowKit

/-- Two arrays of six ints are compared. -/
theorem eqArr6 (a0 a1 a2 a3 a4 a5 b0 b1 b2 b3 b4 b5 : Int) (w : World) : (Op.equalIn 10000 52 (.agg #[.int .i64 a0, .int .i64 a1, .int .i64 a2, .int .i64 a3, .int .i64 a4, .int .i64 a5]) (.agg #[.int .i64 b0, .int .i64 b1, .int .i64 b2, .int .i64 b3, .int .i64 b4, .int .i64 b5])).run Tryd.prog w = .ok (a0 == b0 && (a1 == b1 && (a2 == b2 && (a3 == b3 && (a4 == b4 && a5 == b5))))) w := by
  have u3 := Tryd.underlying3
  have a3' := Tryd.isAgg3
  have z3 := Tryd.sizeOf3
  have hS : Tryd.prog.underlying 52 = some (.array 6 3) := by kernel_rfl
  rw [show (10000 : Nat) = 9998 + 1 + 1 from rfl]
  unfold Op.equalIn
  simp only [Sem.run_bind, run_underlying hS, Result.andThen_ok, z3]
  simp only [Std.Legacy.Range.forIn_eq_forIn_range', Std.Legacy.Range.size]
  simp [List.range', go_sem, z3, run_equalIn_int _ _ _ _ _ _ _ u3]
  by_cases h0 : a0 = b0 <;> by_cases h1 : a1 = b1 <;> by_cases h2 : a2 = b2 <;> by_cases h3 : a3 = b3 <;> by_cases h4 : a4 = b4 <;> by_cases h5 : a5 = b5 <;> simp [*]
theorem guardArr6 : Tryd.prog.eqGuardType Tryd.prog.depth 52 = false := by kernel_rfl

/-- The elements of a list. -/
def toF (l : List Int) : List F := l.map fun x => F.mk (x.toNat % 32) (Nat.mod_lt _ (by decide))
theorem toF_len (l : List Int) : (toF l).length = l.length := by simp [toF]
theorem wI_toF {l : List Int} (h : ∀ x ∈ l, 0 ≤ x ∧ x < 32) : wI (toF l) = l := by
  unfold wI toF
  rw [List.map_map]
  refine (List.map_congr_left (g := id) fun x hx => ?_).trans (List.map_id l)
  have := h x hx
  show ((x.toNat % 32 : Nat) : Int) = x
  omega
theorem toF_wI (l : List F) : toF (wI l) = l := by
  unfold wI toF
  rw [List.map_map]
  refine (List.map_congr_left (g := id) fun x _ => F.ext ?_).trans (List.map_id l)
  have := x.lt
  show ((x.n : Int)).toNat % 32 = x.n
  omega
theorem word_mem {f : Int} {l : List Int} (h : wordB f l = true) : 7 ≤ l.length ∧ l.length ≤ 15 ∧ ∀ x ∈ l, f ≤ x ∧ x < 32 := by
  unfold wordB at h
  simp only [Bool.and_eq_true, decide_eq_true_eq, Bool.not_eq_true', List.any_eq_false] at h
  refine ⟨h.1, h.2.1, fun x hx => ?_⟩
  have := h.2.2 x hx
  unfold badB at this
  simp only [Bool.or_eq_true, decide_eq_true_eq] at this
  omega
theorem mem_word {f : Int} {l : List Int} (h1 : 7 ≤ l.length) (h2 : l.length ≤ 15) (h : ∀ x ∈ l, f ≤ x ∧ x < 32) : wordB f l = true := by
  unfold wordB
  simp only [Bool.and_eq_true, decide_eq_true_eq, Bool.not_eq_true', List.any_eq_false]
  refine ⟨h1, h2, fun x hx => ?_⟩
  have := h x hx
  unfold badB
  simp only [Bool.or_eq_true, decide_eq_true_eq]
  omega
/-- Which lists are codewords. -/
def codeB (l : List Int) : Bool := wordB 0 l && (synF (toF l) 0 == 0 && (synF (toF l) 1 == 0 && (synF (toF l) 2 == 0 && (synF (toF l) 3 == 0 && (synF (toF l) 4 == 0 && synF (toF l) 5 == 0)))))
theorem n_eq_zero (a : F) : ((a.n : Int) == 0) = (a == 0) := by
  by_cases h : a = 0
  · subst h; simp [F.n_zero]
  · have : a.n ≠ 0 := fun e => h (F.ext e)
    rw [beq_eq_false_iff_ne.2 h, beq_eq_false_iff_ne.2 (by omega)]
theorem code_iff (wd : List F) : (synF wd 0 == 0 && (synF wd 1 == 0 && (synF wd 2 == 0 && (synF wd 3 == 0 && (synF wd 4 == 0 && synF wd 5 == 0))))) = true ↔ F.Code wd := by
  simp only [Bool.and_eq_true, beq_iff_eq]
  constructor
  · rintro ⟨h0, h1, h2, h3, h4, h5⟩ j j1 j2
    have : j = 1 ∨ j = 2 ∨ j = 3 ∨ j = 4 ∨ j = 5 ∨ j = 6 := by omega
    rcases this with rfl | rfl | rfl | rfl | rfl | rfl
    · exact h0
    · exact h1
    · exact h2
    · exact h3
    · exact h4
    · exact h5
  · intro h
    exact ⟨h 1 (by omega) (by omega), h 2 (by omega) (by omega), h 3 (by omega) (by omega), h 4 (by omega) (by omega), h 5 (by omega) (by omega), h 6 (by omega) (by omega)⟩
theorem codeB_wI {wd : List F} (h7 : 7 ≤ wd.length) (h15 : wd.length ≤ 15) : codeB (wI wd) = true ↔ F.Code wd := by
  unfold codeB
  have hw : wordB 0 (wI wd) = true := mem_word (by rw [wI_len]; exact h7) (by rw [wI_len]; exact h15) (by
    intro x hx
    unfold wI at hx
    obtain ⟨c, _, rfl⟩ := List.mem_map.1 hx
    have := c.lt
    omega)
  rw [hw, toF_wI, Bool.true_and]
  exact code_iff wd

theorem arrF_six (f : Nat → F) : arrF f 6 = #[.int .i64 ((f 0).n : Int), .int .i64 ((f 1).n : Int), .int .i64 ((f 2).n : Int), .int .i64 ((f 3).n : Int), .int .i64 ((f 4).n : Int), .int .i64 ((f 5).n : Int)] := rfl
theorem syn6_any {p : Nat} (v : Value) (wd : List F) (w : World) (hT : Tabs w) (hI : IsI p w v (wI wd)) (hn : wd.length ≤ 1000) :
    Calls Tryd.prog 48 #[v] w fun e w' => e = .returned (.agg #[.int .i64 ((synF wd 0).n : Int), .int .i64 ((synF wd 1).n : Int), .int .i64 ((synF wd 2).n : Int), .int .i64 ((synF wd 3).n : Int), .int .i64 ((synF wd 4).n : Int), .int .i64 ((synF wd 5).n : Int)]) ∧ Ext w w' := by
  have h := syn_any v wd w hT hI hn
  rw [arrF_six] at h
  exact h
set_option maxHeartbeats 2000000 in
theorem codeword_any {p : Nat} (v : Value) (l : List Int) (w : World) (hT : Tabs w) (hI : IsI p w v l) :
    Calls Tryd.prog 32 #[v] w fun e w' => e = .returned (.bool (codeB l)) ∧ Ext w w' := by
  have HI := Lib.hid hI
  have HT := Lib.hid hT
  obtain ⟨A, n, c, rfl, -⟩ := hI.open_
  clear hI hT
  rcases Bool.eq_false_or_eq_true (wordB 0 l) with hb | hb
  · have hm := word_mem hb
    have HW := Lib.hid (wI_toF hm.2.2)
    have HN : Hid ((toF l).length ≤ 1000) := by show _ ≤ _; rw [toF_len]; omega
    clear hm
    have eq6 := fun a0 a1 a2 a3 a4 a5 w => eqArr6 a0 a1 a2 a3 a4 a5 0 0 0 0 0 0 w
    have gd := guardArr6
    have HC : Hid (codeB l = (((synF (toF l) 0).n : Int) == 0 && (((synF (toF l) 1).n : Int) == 0 && (((synF (toF l) 2).n : Int) == 0 && (((synF (toF l) 3).n : Int) == 0 && (((synF (toF l) 4).n : Int) == 0 && ((synF (toF l) 5).n : Int) == 0)))))) := by
      show _ = _
      unfold codeB
      rw [hb, Bool.true_and]
      simp only [n_eq_zero]
    go_enter Tryd.func32, Tryd.ntmps32
    go_wp2_with (first
      | (go_at_call 47; refine (isWord_any _ l 0 _ HI.out).mono ?_; rintro e w1 ⟨rfl, HX1⟩; rw [hb]; replace HX1 := Lib.hid HX1)
      | (go_at_call 48; refine (syn6_any _ (toF l) _ (HT.out.ext HX1.out) (by rw [HW.out]; exact HI.out.ext HX1.out) HN.out).mono ?_; rintro e w2 ⟨rfl, HX2⟩; replace HX2 := Lib.hid HX2))
    go_ret
    exact ⟨ret_bool HC.out.symm, HX1.out.trans HX2.out⟩
  · have HF : Hid (codeB l = false) := by show _ = _; unfold codeB; rw [hb]; rfl
    go_enter Tryd.func32, Tryd.ntmps32
    go_wp2_with (go_at_call 47; refine (isWord_any _ l 0 _ HI.out).mono ?_; rintro e w1 ⟨rfl, HX1⟩; rw [hb]; replace HX1 := Lib.hid HX1)
    go_ret
    exact ⟨ret_bool HF.out.symm, HX1.out⟩
end Go.Proofs.YtlabmdekdhjofaaDoor
