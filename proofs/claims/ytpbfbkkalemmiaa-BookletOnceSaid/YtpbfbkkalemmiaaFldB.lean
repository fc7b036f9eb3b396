/- Rows of fields of the call's own. -/
import Derived.Test.YtpbfbkkalemmiaaSplitP
import Derived.Test.YtpbfbkkalemmiaaTape
import Derived.Test.YtpbfbkkalemmiaaBaseE
import Derived.Laws.StructEq
namespace Go.Proofs.Ytpbfbkkalemmiaa
open Go.RowKit

theorem Try.infoF : (Try.prog.info? 53).map (fun i => (i.zero, i.size, i.bytes)) = some (some (.agg #[.int .i64 0, .int .i64 0]), 2, 16) := by kernel_rfl

def Fld.cs (q : Fld) : List Value := [.int .i64 q.part, .int .i64 q.opt]
theorem IsF.of_own {p base e : Nat} {w : World} {v : Value} {fs : List Fld} (h : w.ownsRow base e 2 v fs.length (fs.map Fld.cs).flatten) (hp : p < base) (hb : ∀ q ∈ fs, I64 q.part ∧ I64 q.opt) : IsF p w v fs := by
  refine IsS.of_own (e := e) (fs.map Fld.cs) (by simp [Fld.cs]) (by decide) (by simp) h hp ?_
  intro k cs x hcs hx
  simp only [List.getElem?_map, Option.map_eq_some_iff] at hcs
  obtain ⟨q, hq, rfl⟩ := hcs
  rw [hx] at hq
  injection hq with hq
  subst hq
  exact ⟨rfl, hb _ (List.mem_of_getElem? hx)⟩

/-- Two fields are compared. -/
theorem eqFld (a b c d : Int) (w : World) : (Op.equalIn 10000 53 (.agg #[.int .i64 a, .int .i64 b]) (.agg #[.int .i64 c, .int .i64 d])).run Try.prog w = .ok (a == c && b == d) w := by
  have u3 := Try.underlying3
  have a3 := Try.isAgg3
  have z3 := Try.sizeOf3
  have hS : Try.prog.underlying 53 = some (.struct (Try.prog.fieldsOf 53)) := by kernel_rfl
  have hp : Try.prog.stoodInHeld 53 = false := by kernel_rfl
  rw [show (10000 : Nat) = 9999 + 1 from rfl, run_equalIn_agg w 9999 53 _ _ hS hp]
  simp only [Program.fieldsOf, Try.underlying53]
  go_simp
  by_cases h1 : a = c <;> by_cases h2 : b = d <;> simp [h1, h2]
theorem eqFld_self (a b : Int) (w : World) : (Op.equalIn 10000 53 (.agg #[.int .i64 a, .int .i64 b]) (.agg #[.int .i64 a, .int .i64 b])).run Try.prog w = .ok true w := by
  rw [eqFld]; simp
theorem guardFld : Try.prog.eqGuardType Try.prog.depth 53 = false := by kernel_rfl
/-- A row of fields of the call's own. -/
def OwnF (base : Nat) (w : World) (v : Value) (fs : List Fld) : Prop := w.ownsRow base 53 2 v fs.length (fs.map Fld.cs).flatten
theorem OwnF.nil (base : Nat) (w : World) : OwnF base w (.slice none 0 0) [] := World.ownsRow_nil _ _ _ _
theorem OwnF.own {base : Nat} {w : World} {v : Value} {fs : List Fld} (h : OwnF base w v fs) : w.ownsRow base 53 2 v fs.length (fs.map Fld.cs).flatten := h
theorem OwnF.isF {p base : Nat} {w : World} {v : Value} {fs : List Fld} (h : OwnF base w v fs) (hp : p < base) (hb : ∀ q ∈ fs, I64 q.part ∧ I64 q.opt) : IsF p w v fs := IsF.of_own h hp hb
theorem OwnF.push {base : Nat} {w : World} {v : Value} {fs : List Fld} {a b : Int} (h : w.ownsRow base 53 2 v (fs.length + 1) ((fs.map Fld.cs).flatten ++ [.int .i64 a, .int .i64 b])) : OwnF base w v (fs ++ [⟨a, b⟩]) := by
  unfold OwnF; simpa [Fld.cs] using h
end Go.Proofs.Ytpbfbkkalemmiaa
