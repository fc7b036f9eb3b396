/- Appends of structs: rows whose elements have several cells. No program. -/
import Derived.Test.YtlabmdekdhjofaaDoorBaseD
namespace Go.Proofs.YtlabmdekdhjofaaDoor
open Go.RowKit

/-- 'out = append(out, T{..})': the element lies, cell by cell, in a block of its own. -/
theorem wpList_pushN {P : Program} (w : World) {ops : Array Oper} {rest : List Oper} {o : Oper} {a : Act} {Q : Exit → Act → World → Prop} (hgd : o.guard = none) (s x : Operand) (t : TypeId)
    (ho : o.op = .call { callee := .builtin .append, args := #[s, x], argTypes := #[t, t] })
    (base : Nat) (e : TypeId) (i : TypeInfo) (z : Value) (size bytes : Nat) (ht : P.underlying t = some (.slice e)) (hi : P.info? e = some i) (hz : i.zero = some z)
    (hsize : i.size = size) (hby : i.bytes = bytes) (hzs : z.cells.size = size) (hsz : 0 < size)
    (v : Value) (n : Nat) (xs : List Value) (hs : a.eval s = v) (hown : w.ownsRow base e size v n xs)
    (g : Nat) (us : Array Value) (t' : TypeId) (hx : a.eval x = .slice (some ⟨g, 0, none⟩) 1 1) (hu : w.heap[g]? = some (.cells us t' (0, 0))) (hul : us.size = size) (h1 : ∀ u ∈ us.toList, u.oneCell' = true)
    (hn : n ≤ 1000000) (hb : bytes ≤ 1000) (hbase : base ≤ w.heap.size)
    (h : ∀ v' w', w'.ownsRow base e size v' (n + 1) (xs ++ us.toList) → w.grownBy w' v.ownBlock → wpList P ops Q rest (a.put o.dst v') w') : wpList P ops Q (o :: rest) a w := by
  refine wpList_append_own w hgd s x t ho base e i z size bytes ht hi hz hsize hby hzs hsz v n xs hs hown ⟨g, 0, none⟩ 1 1 us.toList hx (by simp [hul]) (World.news_of_block hu) h1 (by unfold maxLen; omega) ?_ hbase (fun v' w' h2 h3 _ => h v' w' h2 h3)
  have : (n + 1) * bytes ≤ (n + 1) * 1000 := Nat.mul_le_mul_left _ hb
  omega
end Go.Proofs.YtlabmdekdhjofaaDoor
