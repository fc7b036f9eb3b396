/- Words and small lemmas that all walks of this seat share: a world that is another one with new blocks, a slice value that reads as a list of numbers. No program. -/
import Derived.WalkKit
import Derived.WalkSpells
import Derived.WalkLawsBesides
import Derived.Deep.RegionHeld3
import Derived.Deep.QuietTactic
import Derived.BigQuiet
import Derived.Deep.DeepCutAuto
import Derived.Lib.Hide
import Derived.Laws.AppendOwnNone
set_option linter.unusedSimpArgs false
set_option linter.unusedVariables false
namespace Go.Proofs.YtcpanmonllhmaaaDoor
open Go.RowKit

/-- w' is w with new blocks (and draws): nothing that was there has turned. -/
def Ext (w w' : World) : Prop := Below w.heap.size w w'

section
variable {w w1 w2 : World}
theorem Ext.refl (w : World) : Ext w w := Below.refl _ _
theorem Ext.trans (h : Ext w w1) (k : Ext w1 w2) : Ext w w2 := Below.trans h (Below.mono k h.size)
theorem Ext.alloc (h : Ext w w1) (o : Obj) : Ext w (w1.alloc o) := Below.alloc h h.size o
theorem Ext.drew (h : Ext w w1) : Ext w w1.drew := Below.drew h
theorem Ext.drewN (h : Ext w w1) (n : Nat) : Ext w (w1.drewN n) := ⟨h.os, h.tape, h.output, h.size, h.block⟩
theorem Ext.setCell (h : Ext w w1) {p : Addr} (hp : w.heap.size ≤ p.block) (u : Value) : Ext w (w1.setCell p u) := Below.setCell h hp u
theorem Ext.grown (h : Ext w w1) {row : Option Nat} (hg : w1.grownBy w2 row) (hr : ∀ k, row = some k → w.heap.size ≤ k) : Ext w w2 := Below.grown h hg h.size hr
theorem Ext.size (h : Ext w w1) : w.heap.size ≤ w1.heap.size := Below.size h
theorem Ext.below (h : Ext w w1) : Below w.heap.size w w1 := h
theorem lt_of_cell {a : Addr} {v : Value} (h : w.cell? a = some v) : a.block < w.heap.size := by
  unfold World.cell? at h
  rcases Nat.lt_or_ge a.block w.heap.size with hlt | hge
  · exact hlt
  · rw [Array.getElem?_eq_none hge] at h; cases h
theorem Ext.cell (h : Ext w w1) {a : Addr} {v : Value} (hc : w.cell? a = some v) : w1.cell? a = some v :=
  (Below.cell h (lt_of_cell hc)).trans hc
end

/-- An int64. -/
def I64 (x : Int) : Prop := -9223372036854775808 ≤ x ∧ x ≤ 9223372036854775807

/-- w' is w with new blocks, and with writes to block p alone. -/
def XT (p : Nat) (w w' : World) : Prop := w.grownBy w' (some p)
section
variable {p : Nat} {w w1 w2 : World}
theorem Ext.xt (h : Ext w w1) : XT p w w1 := ⟨h.os, h.tape, h.output, h.size, fun k hk _ => h.block k hk⟩
theorem XT.refl (p : Nat) (w : World) : XT p w w := World.grownBy.refl _ _
theorem XT.trans (h : XT p w w1) (k : XT p w1 w2) : XT p w w2 :=
  ⟨k.os.trans h.os, k.tape.trans h.tape, k.output.trans h.output, Nat.le_trans h.size k.size,
    fun i hi hne => (k.block i (Nat.lt_of_lt_of_le hi h.size) hne).trans (h.block i hi hne)⟩
theorem XT.size (h : XT p w w1) : w.heap.size ≤ w1.heap.size := World.grownBy.size h
theorem XT.ext (h : XT p w w1) (k : Ext w1 w2) : XT p w w2 := h.trans k.xt
theorem XT.alloc (h : XT p w w1) (o : Obj) : XT p w (w1.alloc o) := h.ext ((Ext.refl _).alloc o)
theorem XT.drewN (h : XT p w w1) (n : Nat) : XT p w (w1.drewN n) := h.ext ((Ext.refl _).drewN n)
theorem XT.drew (h : XT p w w1) : XT p w w1.drew := h.ext ((Ext.refl _).drew)
theorem XT.setCell (h : XT p w w1) {a : Addr} (ha : a.block = p) (u : Value) : XT p w (w1.setCell a u) :=
  h.trans ⟨rfl, rfl, rfl, by simp [World.setCell], fun i _ hne => Below.heap_setCell _ _ _ _ (fun e => hne (by rw [e, ha]))⟩
theorem XT.setNew (h : XT p w w1) {a : Addr} (ha : w.heap.size ≤ a.block) (u : Value) : XT p w (w1.setCell a u) :=
  ⟨h.os, h.tape, h.output, by simpa [World.setCell] using h.size, fun i hi hne => (Below.heap_setCell _ _ _ _ (by omega)).trans (h.block i hi hne)⟩
theorem XT.grown (h : XT p w w1) {row : Option Nat} (hg : w1.grownBy w2 row) (hr : ∀ k, row = some k → w.heap.size ≤ k) : XT p w w2 :=
  ⟨hg.os.trans h.os, hg.tape.trans h.tape, hg.output.trans h.output, Nat.le_trans h.size hg.size,
    fun i hi hne => (hg.block i (Nat.lt_of_lt_of_le hi h.size) (fun e => by have := hr i e.symm; omega)).trans (h.block i hi hne)⟩
theorem XT.cell (h : XT p w w1) {a : Addr} {v : Value} (hc : w.cell? a = some v) (ha : a.block ≠ p) : w1.cell? a = some v :=
  (World.cell?_of_block (w := w) (h.block _ (lt_of_cell hc) (fun e => ha (by injection e)))).trans hc
theorem lt_of_blk {g : Nat} {o : Obj} (hb : w.heap[g]? = some o) : g < w.heap.size := by
  rcases Nat.lt_or_ge g w.heap.size with hlt | hge
  · exact hlt
  · rw [Array.getElem?_eq_none hge] at hb; cases hb
theorem XT.blk (h : XT p w w1) {g : Nat} {o : Obj} (hb : w.heap[g]? = some o) (hg : g ≠ p) : w1.heap[g]? = some o :=
  (h.block g (lt_of_blk hb) (fun e => hg (by injection e))).trans hb
theorem Ext.blk (h : Ext w w1) {g : Nat} {o : Obj} (hb : w.heap[g]? = some o) : w1.heap[g]? = some o := (h.block g (lt_of_blk hb)).trans hb
/-- If p is a block made after w, nothing of w has turned. -/
theorem XT.fresh (h : XT p w1 w2) (k : Ext w w1) (hp : w.heap.size ≤ p) : Ext w w2 :=
  ⟨h.os.trans k.os, h.tape.trans k.tape, h.output.trans k.output, Nat.le_trans k.size h.size,
    fun i hi => (h.block i (Nat.lt_of_lt_of_le hi k.size) (fun e => by injection e; omega)).trans (k.block i hi)⟩
end

/-- The slice value v reads in w as the list l of ints, away from block p. -/
def IsI (p : Nat) (w : World) (v : Value) (l : List Int) : Prop :=
  ∃ (A : Option Addr) (c : Nat), v = .slice A l.length c ∧ l.length ≤ c ∧ c ≤ 9223372036854775807 ∧ l.length ≤ 9223372036854775807 ∧ (∀ x ∈ l, I64 x) ∧
    ∀ k x, l[k]? = some x → ∃ b off, A = some ⟨b, off, none⟩ ∧ b ≠ p ∧ w.cell? ⟨b, off + k, none⟩ = some (.int .i64 x)

section
variable {p : Nat} {w w' : World} {v : Value} {l : List Int}
theorem IsI.xt (h : IsI p w v l) (e : XT p w w') : IsI p w' v l := by
  obtain ⟨A, c, hv, h1, h2, h3, h5, h4⟩ := h
  exact ⟨A, c, hv, h1, h2, h3, h5, fun k x hx => by obtain ⟨b, off, ha, hb, hc⟩ := h4 k x hx; exact ⟨b, off, ha, hb, e.cell hc hb⟩⟩
theorem IsI.ext (h : IsI p w v l) (e : Ext w w') : IsI p w' v l := h.xt e.xt
theorem IsI.mem (h : IsI p w v l) {x : Int} (hx : x ∈ l) : I64 x := by obtain ⟨_, _, _, _, _, _, h5, _⟩ := h; exact h5 x hx
/-- What a walk opens at its head: the slice's value written out, the length a letter, and the reading hidden. -/
theorem IsI.open_ (h : IsI p w v l) : ∃ (A : Option Addr) (n c : Nat), v = .slice A n c ∧ n ≤ c ∧ c ≤ 9223372036854775807 ∧ n ≤ 9223372036854775807 ∧ Hid (l.length = n) := by
  obtain ⟨A, c, hv, h1, h2, h3, h5, h4⟩ := h
  exact ⟨A, l.length, c, hv, h1, h2, h3, rfl⟩
theorem IsI.len {A : Option Addr} {n c : Nat} (h : IsI p w (.slice A n c) l) : l.length = n := by
  obtain ⟨A', c', hv, _⟩ := h
  injection hv with _ hn _
  exact hn.symm
/-- The element at k. -/
theorem IsI.at_ {A : Option Addr} {n c k : Nat} (h : IsI p w (.slice A n c) l) (hk : k < n) :
    ∃ (b off : Nat) (x : Int), A = some ⟨b, off, none⟩ ∧ w.cell? ⟨b, off + k, none⟩ = some (.int .i64 x) ∧ Hid (l[k]? = some x) ∧ -9223372036854775808 ≤ x ∧ x ≤ 9223372036854775807 := by
  have hl := h.len
  obtain ⟨A', c', hv, h1, h2, h3, h5, h4⟩ := h
  injection hv with ha _ _
  subst ha
  have hk' : k < l.length := by omega
  obtain ⟨b, off, ha, _, hc⟩ := h4 k _ (List.getElem?_eq_getElem hk')
  have := h5 _ (List.getElem_mem hk')
  exact ⟨b, off, l[k], ha, hc, List.getElem?_eq_getElem hk', this.1, this.2⟩
theorem IsI.lt_ {A : Option Addr} {n c : Nat} {ad : Addr} (h : IsI p w (.slice A n c) l) (ha : A = some ad) (hn : 0 < n) : ad.block < w.heap.size := by
  obtain ⟨b, off, x, ha', hc, _⟩ := h.at_ hn
  rw [ha] at ha'
  injection ha' with ha'
  subst ha'
  exact lt_of_cell hc
/-- The element at k, the address known. -/
theorem IsI.cell_ {b off n c k : Nat} (h : IsI p w (.slice (some ⟨b, off, none⟩) n c) l) (hk : k < n) :
    ∃ (x : Int), w.cell? ⟨b, off + k, none⟩ = some (.int .i64 x) ∧ Hid (l[k]? = some x) ∧ -9223372036854775808 ≤ x ∧ x ≤ 9223372036854775807 := by
  obtain ⟨b', off', x, ha, hc, hx⟩ := h.at_ hk
  injection ha with ha
  injection ha with hb ho
  subst hb; subst ho
  exact ⟨x, hc, hx⟩
theorem IsI.nil (p : Nat) (w : World) : IsI p w (.slice none 0 0) [] :=
  ⟨none, 0, rfl, Nat.le_refl _, by omega, by simp, fun x hx => absurd hx (by simp), fun k x hx => by simp at hx⟩
/-- The first k elements. -/
theorem IsI.take {A : Option Addr} {n c k : Nat} (h : IsI p w (.slice A n c) l) (hk : k ≤ n) : IsI p w (.slice A k c) (l.take k) := by
  have hl := h.len
  obtain ⟨A', c', hv, h1, h2, h3, h5, h4⟩ := h
  injection hv with ha hn hc
  subst ha; subst hc
  have hlk : (l.take k).length = k := by rw [List.length_take]; omega
  refine ⟨A, c, by rw [hlk], by omega, h2, by omega, fun x hx => h5 x (List.mem_of_mem_take hx), fun i x hx => ?_⟩
  refine h4 i x ?_
  rw [List.getElem?_take] at hx
  split at hx
  · exact hx
  · cases hx
/-- What is behind the first k elements. -/
theorem IsI.drop {A : Option Addr} {n c k : Nat} (h : IsI p w (.slice A n c) l) (hk : k ≤ n) : IsI p w (.slice (if c = k then A else A.map (·.add k)) (n - k) (c - k)) (l.drop k) := by
  have hl := h.len
  obtain ⟨A', c', hv, h1, h2, h3, h5, h4⟩ := h
  injection hv with ha hn hc
  subst ha; subst hc
  have hlk : (l.drop k).length = n - k := by rw [List.length_drop]; omega
  refine ⟨_, c - k, by rw [hlk], by omega, by omega, by omega, fun x hx => h5 x (List.mem_of_mem_drop hx), fun i x hx => ?_⟩
  rw [List.getElem?_drop] at hx
  obtain ⟨b, off, ha, hb, hcell⟩ := h4 _ x hx
  have := (List.getElem?_eq_some_iff.1 hx).1
  rw [if_neg (by omega), ha]
  by_cases h0 : k = 0
  · subst h0
    exact ⟨b, off, by simp [Addr.add], hb, by simpa using hcell⟩
  · exact ⟨b, off + k, by simp [Addr.add, h0], hb, by rw [Nat.add_assoc]; exact hcell⟩
/-- A slice literal. -/
theorem IsI.lit (l : List Int) (t : TypeId) (hp : p < w.heap.size) (hb : ∀ x ∈ l, I64 x) (hl : l.length ≤ 9223372036854775807) : IsI p (w.alloc (.cells (l.map (Value.int .i64)).toArray t)) (.slice (some ⟨w.heap.size, 0, none⟩) l.length l.length) l :=
  ⟨_, _, rfl, Nat.le_refl _, by omega, hl, hb, fun k x hx => ⟨w.heap.size, 0, rfl, by omega, by
    rw [Nat.zero_add, cell_of_row _ _ k _ t (0, 0) (heap_alloc_new w _)]
    simp [hx]⟩⟩
theorem IsI.litg (l : List Int) (t : TypeId) (g : Nat) (hg : g = w.heap.size) (hp : p < g) (hb : ∀ x ∈ l, I64 x) (hl : l.length ≤ 9223372036854775807) : IsI p (w.alloc (.cells (l.map (Value.int .i64)).toArray t)) (.slice (some ⟨g, 0, none⟩) l.length l.length) l := by
  subst hg; exact IsI.lit l t hp hb hl
/-- A row of the call's own. -/
theorem IsI.of_own {base e n : Nat} (h : w.ownsRow base e 1 v n (l.map (Value.int .i64))) (hp : p < base) (hb : ∀ x ∈ l, I64 x) (hl : l.length ≤ 9223372036854775807) : IsI p w v l := by
  have hn : l.length = n := by simpa using h.1
  rcases h.2 with ⟨rfl, rfl⟩ | ⟨g, cap, cur, rfl, hg, hh, hnc, hcm, hcs, htk⟩
  · obtain rfl : l = [] := List.eq_nil_of_length_eq_zero hn
    exact IsI.nil p w
  · subst hn
    refine ⟨_, cap, rfl, hnc, hcm, hl, hb, fun k x hx => ⟨g, 0, rfl, by omega, ?_⟩⟩
    have hk := (List.getElem?_eq_some_iff.1 hx).1
    rw [Nat.zero_add, h.cellAt k (by omega)]
    simp [hx]
end

theorem own_xt {p : Nat} {w w1 : World} {base e size n : Nat} {v : Value} {xs : List Value} (h : w.ownsRow base e size v n xs) (hx : XT p w w1) (hp : p < base) : w1.ownsRow base e size v n xs := by
  refine h.kept hx ?_
  rcases h.2 with ⟨rfl, _⟩ | ⟨g, cap, cur, rfl, hg, _⟩
  · exact .inl rfl
  · refine .inr fun e => ?_
    have : g = p := by simpa [Value.ownBlock] using e
    omega
theorem own_ext {w w1 : World} {base e size n : Nat} {v : Value} {xs : List Value} (h : w.ownsRow base e size v n xs) (hx : Ext w w1) : w1.ownsRow base e size v n xs := by
  rcases h with ⟨h1, h2 | ⟨g, cap, cur, hv, hg, hh, r⟩⟩
  · exact ⟨h1, .inl h2⟩
  · exact ⟨h1, .inr ⟨g, cap, cur, hv, hg, hx.blk hh, r⟩⟩

/-- append of one element of one cell to a row of the call's own. -/
theorem wpList_push {P : Program} (w : World) {ops : Array Oper} {rest : List Oper} {o : Oper} {a : Act} {Q : Exit → Act → World → Prop} (hgd : o.guard = none) (s x : Operand) (t : TypeId)
    (ho : o.op = .call { callee := .builtin .append, args := #[s, x], argTypes := #[t, t] })
    (base : Nat) (e : TypeId) (i : TypeInfo) (z : Value) (bytes : Nat) (ht : P.underlying t = some (.slice e)) (hi : P.info? e = some i) (hz : i.zero = some z)
    (hsize : i.size = 1) (hby : i.bytes = bytes) (hzs : z.cells.size = 1)
    (v : Value) (n : Nat) (xs : List Value) (hs : a.eval s = v) (hown : w.ownsRow base e 1 v n xs)
    (g : Nat) (u : Value) (hx : a.eval x = .slice (some ⟨g, 0, none⟩) 1 1) (hu : w.cell? ⟨g, 0, none⟩ = some u) (h1 : u.oneCell' = true)
    (hn : n ≤ 1000000) (hb : bytes ≤ 1000) (hbase : base ≤ w.heap.size)
    (h : ∀ v' w', w'.ownsRow base e 1 v' (n + 1) (xs ++ [u]) → w.grownBy w' v.ownBlock → wpList P ops Q rest (a.put o.dst v') w') : wpList P ops Q (o :: rest) a w := by
  refine wpList_append_own w hgd s x t ho base e i z 1 bytes ht hi hz hsize hby hzs (by decide) v n xs hs hown ⟨g, 0, none⟩ 1 1 [u] hx rfl ?_ ?_ (by unfold maxLen; omega) ?_ hbase (fun v' w' h2 h3 _ => h v' w' h2 h3)
  · intro j y hj
    match j, hj with
    | 0, hj => simp at hj; subst hj; simpa [Addr.add] using hu
  · intro y hy; simp at hy; subst hy; exact h1
  · have : (n + 1) * bytes ≤ (n + 1) * 1000 := Nat.mul_le_mul_left _ hb
    omega
theorem add_some (b off j : Nat) : (⟨b, off, none⟩ : Addr).add j = ⟨b, off + j, none⟩ := by
  unfold Addr.add; split
  · rename_i h; subst h; rfl
  · rfl
theorem run_cat_none {P : Program} (w : World) (base : Nat) (t ty e : TypeId) (i : TypeInfo) (size : Nat) (ht : P.underlying t = some (.slice e)) (hi : P.info? e = some i)
    (v : Value) (n : Nat) (xs : List Value) (hown : w.ownsRow base e size v n xs) (c : Nat) : (Builtin.append_ #[t, t] ty #[v, .slice none 0 c]).run P w = .ok v w := by
  rcases hown.2 with ⟨rfl, rfl⟩ | ⟨g, cap, cur, rfl, _, _, hnc, _⟩
  · simp [Builtin.append_, run_underlying ht, sizeOf, typeInfo, hi, Builtin.lenOf, Builtin.firstCells]
  · simp [Builtin.append_, run_underlying ht, sizeOf, typeInfo, hi, Builtin.lenOf, Builtin.firstCells, hnc, storeCells]
/-- append of all elements of a slice of ints to a row of the call's own. -/
theorem wpList_cat {P : Program} (w : World) {ops : Array Oper} {rest : List Oper} {o : Oper} {a : Act} {Q : Exit → Act → World → Prop} (hgd : o.guard = none) (s x : Operand) (t : TypeId)
    (ho : o.op = .call { callee := .builtin .append, args := #[s, x], argTypes := #[t, t] })
    (base : Nat) (e : TypeId) (i : TypeInfo) (z : Value) (bytes : Nat) (ht : P.underlying t = some (.slice e)) (hi : P.info? e = some i) (hz : i.zero = some z)
    (hsize : i.size = 1) (hby : i.bytes = bytes) (hzs : z.cells.size = 1)
    (v : Value) (n : Nat) (xs : List Value) (hs : a.eval s = v) (hown : w.ownsRow base e 1 v n xs)
    (p : Nat) (A : Option Addr) (m c : Nat) (l2 : List Int) (hx : a.eval x = .slice A m c) (hr : IsI p w (.slice A m c) l2)
    (hn : n + m ≤ 1000000) (hb : bytes ≤ 1000) (hbase : base ≤ w.heap.size)
    (h : ∀ v' w', w'.ownsRow base e 1 v' (n + m) (xs ++ l2.map (Value.int .i64)) → w.grownBy w' v.ownBlock → wpList P ops Q rest (a.put o.dst v') w') : wpList P ops Q (o :: rest) a w := by
  have hl := hr.len
  rcases Nat.eq_zero_or_pos m with h0 | h0
  · subst h0
    obtain rfl : l2 = [] := List.eq_nil_of_length_eq_zero hl
    rcases A with _ | ad
    · refine wpList_plain hgd fun K hK => ?_
      have hrun := run_cat_none (P := P) w base t o.type e i 1 ht hi v n xs hown c
      unfold Oper.wp
      simp [execOp, ho, resolve, invoke, builtin, hs, hx, hrun, Result.andThen]
      exact hK _ _ (h v w (by simpa using hown) (World.grownBy.refl _ _))
    · refine wpList_append_own w hgd s x t ho base e i z 1 bytes ht hi hz hsize hby hzs (by decide) v n xs hs hown ad 0 c [] hx rfl (by simp) (by simp) (by unfold maxLen; omega) ?_ hbase (fun v' w' h2 h3 _ => h v' w' h2 h3)
      have : (n + 0) * bytes ≤ (n + 0) * 1000 := Nat.mul_le_mul_left _ hb
      omega
  · obtain ⟨A', c', hv, k1, k2, k3, k5, k4⟩ := hr
    injection hv with ha _ _
    subst ha
    obtain ⟨b, off, hA, _, _⟩ := k4 0 l2[0] (List.getElem?_eq_getElem (by omega))
    subst hA
    refine wpList_append_own w hgd s x t ho base e i z 1 bytes ht hi hz hsize hby hzs (by decide) v n xs hs hown ⟨b, off, none⟩ m c (l2.map (Value.int .i64)) hx (by simp [hl]) ?_ (ints_oneCell _ _) (by unfold maxLen; omega) ?_ hbase (fun v' w' h2 h3 _ => h v' w' h2 h3)
    · intro j u hj
      simp only [List.getElem?_map, Option.map_eq_some_iff] at hj
      obtain ⟨y, hy, rfl⟩ := hj
      obtain ⟨b', off', hA, _, hc⟩ := k4 j y hy
      injection hA with hA
      injection hA with h1 h2
      subst h1; subst h2
      rw [add_some]; exact hc
    · have : (n + m) * bytes ≤ (n + m) * 1000 := Nat.mul_le_mul_left _ hb
      omega
/-- Where a row of the call's own lies. -/
theorem own_ge {w : World} {base e size n : Nat} {v : Value} {xs : List Value} (h : w.ownsRow base e size v n xs) : ∀ k, v.ownBlock = some k → base ≤ k := fun k hk => (h.lt k hk).1

theorem take_snoc {α : Type} {l : List α} {k : Nat} {x : α} (h : l[k]? = some x) : l.take (k + 1) = l.take k ++ [x] := by
  obtain ⟨hk, rfl⟩ := List.getElem?_eq_some_iff.1 h
  rw [List.take_succ_eq_append_getElem hk]
theorem take_all {α : Type} {l : List α} {n : Nat} (h : l.length = n) : l.take n = l := List.take_of_length_le (by omega)

theorem ret_bool {a b : Bool} (h : a = b) : Ending.returned (.bool a) = .returned (.bool b) := by rw [h]
theorem ret_iib {k k' : IntKind} {a b a' b' : Int} {c c' : Bool} (h1 : a = a') (h2 : b = b') (h3 : c = c') : Ending.returned (.tuple #[.int k a, .int k' b, .bool c]) = .returned (.tuple #[.int k a', .int k' b', .bool c']) := by rw [h1, h2, h3]
theorem ret_ib {k : IntKind} {a a' : Int} {c c' : Bool} (h1 : a = a') (h3 : c = c') : Ending.returned (.tuple #[.int k a, .bool c]) = .returned (.tuple #[.int k a', .bool c']) := by rw [h1, h3]
theorem ret_ii {k k' : IntKind} {a a' b b' : Int} (h1 : a = a') (h3 : b = b') : Ending.returned (.tuple #[.int k a, .int k' b]) = .returned (.tuple #[.int k a', .int k' b']) := by rw [h1, h3]
theorem ret_int {k : IntKind} {a b : Int} (h : a = b) : Ending.returned (.int k a) = .returned (.int k b) := by rw [h]

end Go.Proofs.YtcpanmonllhmaaaDoor
