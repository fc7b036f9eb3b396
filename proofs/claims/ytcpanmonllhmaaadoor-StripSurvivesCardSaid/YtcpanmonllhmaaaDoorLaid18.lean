/- From the listed tables to their cells; a start that meets the condition. -/
import Derived.Test.YtcpanmonllhmaaaDoorGRsA
import Derived.Test.YtcpanmonllhmaaaDoorOpen
import Derived.LaidMore
import Derived.OpenShut
set_option linter.unusedSimpArgs false
set_option linter.unusedVariables false
namespace Go.Proofs.YtcpanmonllhmaaaDoor
open Go.ChangeShapes Go.WideShapes Go.ChangeAt Go.RowKit

/-- An argument of type uint8. -/
theorem u8_of_trod {H : Type} {enc : TypeId × Value → H} {P : Program} {W : World} {sp : Nat → Bool} {held : Bool} {r : Reach} {b0 : Nat} {t : TypeId} {v : Value} {d : DataW H} {p : List MemPlace} (hu : P.underlying t = some (.int .u8)) (hv : Value.okWide P W r b0 t v) (h : DataW.Trod enc P W 0 sp held t v d p) : ∃ x, v = .int .u8 x ∧ (0 ≤ x ∧ x ≤ 255) := by
  obtain ⟨x, hx, _, _, wx⟩ := open_int hu hv h
  refine ⟨x, hx, ?_⟩
  simp [Lit.wf, IntKind.min, IntKind.max, IntKind.signed, IntKind.bits] at wx
  exact ⟨by omega, by omega⟩

def laid18 : List (String × DataW Unit) := [("awardingbody/rscode.powers", Rows.laid_awardingbody_rscode_powers), ("awardingbody/rscode.logs", Rows.laid_awardingbody_rscode_logs)]
theorem gPow : Tryd.prog.globalNamed "awardingbody/rscode.powers" = some 0 := by kernel_rfl
theorem gLog : Tryd.prog.globalNamed "awardingbody/rscode.logs" = some 1 := by kernel_rfl
theorem tPow : (Tryd.prog.globals[0]?).map (·.type) = some 95 := by kernel_rfl
theorem tLog : (Tryd.prog.globals[1]?).map (·.type) = some 96 := by kernel_rfl
theorem u31 : Tryd.prog.underlying 95 = some (.array 31 3) := by kernel_rfl
theorem u32 : Tryd.prog.underlying 96 = some (.array 32 3) := by kernel_rfl

/-- A table of ints. -/
theorem table_cells {H : Type} {enc : TypeId × Value → H} {W : World} {b0 : Nat} {sp : Nat → Bool} {held : Bool} {fuel n : Nat} {t : TypeId} {cs : List Value} {ns : List Nat} {ps : List MemPlace}
    (hu : Tryd.prog.underlying t = some (.array n 3)) (h : DataW.trod enc Tryd.prog W b0 sp held fuel t cs = some (.agg (ns.map fun (k : Nat) => .lit (.int .i64 (k : Int))), ps)) :
    ∀ k, k < n → cs[k]? = some (.int .i64 ((ns.getD k 0 : Nat) : Int)) := by
  obtain ⟨xs, m, rfl, hx, hlen, hn, hel⟩ := DataW.trod_array hu h
  have c1 : Tryd.prog.cellsOf 3 = 1 := by kernel_rfl
  simp only [Prod.mk.injEq, DataW.agg.injEq] at hx
  intro k hk
  have h1 := hel k hk
  rw [c1, Nat.mul_one] at h1
  obtain ⟨x, hxk⟩ : ∃ x, xs[k]? = some x := ⟨_, List.getElem?_eq_getElem (by omega)⟩
  rw [hxk] at h1
  obtain ⟨z, e1, e2, _⟩ := DataW.trod_int Tryd.underlying3 h1
  have h2 : (ns.map fun (k : Nat) => DataW.lit (H := H) (.int .i64 (k : Int)))[k]? = some x.1 := by rw [hx.1, List.getElem?_map, hxk]; rfl
  rw [List.getElem?_map, Option.map_eq_some_iff] at h2
  obtain ⟨nn, h3, h4⟩ := h2
  rw [e2] at h4
  simp only [DataW.lit.injEq, Lit.int.injEq, true_and] at h4
  have : (cs.drop k)[0]? = some (.int .i64 z) := by
    have h5 : ((cs.drop k).take 1)[0]? = some (.int .i64 z) := by rw [e1]; rfl
    rw [List.getElem?_take, if_pos (by omega)] at h5; exact h5
  rw [List.getElem?_drop, Nat.add_zero] at this
  rw [this, List.getD_eq_getElem?_getD, h3, ← h4]; rfl
theorem tabs_of_laid {W : World} (h : laidMetH Tryd.prog laid18 W) : Tabs W := by
  rw [MakeChecks.laidMetH_plain _ _ _ (by kernel_rfl)] at h
  obtain ⟨ps, ⟨g0, t0, cs0, f0, p0, q0, hg0, ht0, hv0, hd0, ⟨g1, t1, cs1, f1, p1, q1, hg1, ht1, hv1, hd1, _, _⟩, _⟩, _, _⟩ := h
  obtain rfl := Option.some.inj (gPow.symm.trans hg0)
  obtain rfl := Option.some.inj (gLog.symm.trans hg1)
  obtain rfl := Option.some.inj (tPow.symm.trans ht0)
  obtain rfl := Option.some.inj (tLog.symm.trans ht1)
  have e0 : (Rows.laid_awardingbody_rscode_powers : DataW Unit) = .agg (pwL.map fun (k : Nat) => .lit (.int .i64 (k : Int))) := rfl
  have e1 : (Rows.laid_awardingbody_rscode_logs : DataW Unit) = .agg (lgL.map fun (k : Nat) => .lit (.int .i64 (k : Int))) := rfl
  rw [e0] at hd0
  rw [e1] at hd1
  exact ⟨fun k hk => by rw [World.var?_cell hg0 hv0 k, ← Array.getElem?_toList]; exact table_cells u31 hd0 k hk, fun k hk => by rw [World.var?_cell hg1 hv1 k, ← Array.getElem?_toList]; exact table_cells u32 hd1 k hk⟩

theorem door_met (os : Os) (args : Array Value) : laidMetH Tryd.prog laid18 ((World.doorLaid Tryd.prog 19 os).forCall (fun _ _ => 0) ⟨#[], args, []⟩).memory :=
  laidMetH_of_parts3 (fuel := 8) (laidMet_of_run' 8 (by kernel_rfl) (by kernel_rfl)) (by kernel_rfl) (by kernel_rfl)
end Go.Proofs.YtcpanmonllhmaaaDoor
