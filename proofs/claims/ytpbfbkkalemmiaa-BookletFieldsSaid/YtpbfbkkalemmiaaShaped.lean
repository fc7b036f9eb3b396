/- The law's shaped: what it holds in hand. -/
import Derived.Test.YtpbfbkkalemmiaaTapeS
import Derived.Test.YtpbfbkkalemmiaaBaseF
import Derived.Test.YtpbfbkkalemmiaaPart
import Derived.Deep.DrawnRows
namespace Go.Proofs.Ytpbfbkkalemmiaa
open Go.RowKit
attribute [local go_sem ↓] Go.wp_at_zero Go.wp_at_succ

/-- append of m elements of one cell, which lie in a block of their own. -/
theorem wpList_pushM {P : Program} (w : World) {ops : Array Oper} {rest : List Oper} {o : Oper} {a : Act} {Q : Exit → Act → World → Prop} (hgd : o.guard = none) (s x : Operand) (t : TypeId)
    (ho : o.op = .call { callee := .builtin .append, args := #[s, x], argTypes := #[t, t] })
    (base : Nat) (e : TypeId) (i : TypeInfo) (z : Value) (bytes : Nat) (ht : P.underlying t = some (.slice e)) (hi : P.info? e = some i) (hz : i.zero = some z)
    (hsize : i.size = 1) (hby : i.bytes = bytes) (hzs : z.cells.size = 1)
    (v : Value) (n : Nat) (xs : List Value) (hs : a.eval s = v) (hown : w.ownsRow base e 1 v n xs)
    (g m : Nat) (us : Array Value) (t' : TypeId) (hx : a.eval x = .slice (some ⟨g, 0, none⟩) m m) (hu : w.heap[g]? = some (.cells us t' (0, 0))) (hul : us.size = m) (h1 : ∀ u ∈ us.toList, u.oneCell' = true)
    (hn : n + m ≤ 1000000) (hb : bytes ≤ 1000) (hbase : base ≤ w.heap.size)
    (h : ∀ v' w', w'.ownsRow base e 1 v' (n + m) (xs ++ us.toList) → w.grownBy w' v.ownBlock → wpList P ops Q rest (a.put o.dst v') w') : wpList P ops Q (o :: rest) a w := by
  refine wpList_append_own w hgd s x t ho base e i z 1 bytes ht hi hz hsize hby hzs (by omega) v n xs hs hown ⟨g, 0, none⟩ m m us.toList hx (by simp [hul]) (World.news_of_block hu) h1 (by unfold maxLen; omega) ?_ hbase (fun v' w' h2 h3 _ => h v' w' h2 h3)
  have : (n + m) * bytes ≤ (n + m) * 1000 := Nat.mul_le_mul_left _ hb
  omega

/-- Block b holds a booklet. -/
def BBox (w : World) (b : Nat) (v : Value) : Prop := w.heap[b]? = some (.cells #[v] 38 (0, 0))
section
variable {w w' : World} {b p : Nat} {v : Value}
theorem BBox.cell (h : BBox w b v) : w.cell? ⟨b, 0, none⟩ = some v := blk_cell h (i := 0) rfl
theorem BBox.froz (h : BBox w b v) (i : Nat) : w.frozen? ⟨b, i, none⟩ = false := blk_frozen h i
theorem BBox.lt (h : BBox w b v) : b < w.heap.size := lt_of_blk h
theorem BBox.xt (h : BBox w b v) (hx : XT p w w') (hb : b ≠ p) : BBox w' b v := hx.blk h hb
theorem BBox.ext (h : BBox w b v) (hx : Ext w w') : BBox w' b v := hx.blk h
theorem BBox.far (h : BBox w b v) {a : Addr} (ha : b ≠ a.block) (u : Value) : BBox (w.setCell a u) b v := (Below.heap_setCell _ _ _ _ ha).trans h
theorem BBox.set (h : BBox w b v) (x : Value) : BBox (w.setCell ⟨b, 0, none⟩ x) b x := by unfold BBox at *; rw [blk_set h]; rfl
theorem BBox.grown (h : BBox w b v) {row : Option Nat} (hg : w.grownBy w' row) (hr : row ≠ some b) : BBox w' b v := (hg.block b (lt_of_blk h) (fun e => hr e.symm)).trans h
end

/-- What shaped holds in hand: the paper's block, the result's block, the booklet's block, the pages, the tape. -/
def SH (p : Nat) (w : World) (code var : Int) (sv : Value) (wx : World) (v : Value) (ls : List (List Int)) : Prop :=
  QBox wx w.heap.size code var sv ∧ BBox wx (w.heap.size + 1) (.slice none 0 0) ∧ BBox wx (w.heap.size + 2) v ∧ Mat w.heap.size 28 3 wx v ls ∧ (∀ l ∈ ls, l.length ≤ 40 ∧ ∀ x ∈ l, -1 ≤ x ∧ x ≤ 1000000) ∧ Tape wx p ∧ XT p w wx
section
variable {p : Nat} {w wx w' : World} {code var : Int} {sv v v' : Value} {ls : List (List Int)}
theorem SH.xt (h : SH p w code var sv wx v ls) (hx : XT p wx w') (ht : Tape w' p) (hp : p < w.heap.size) : SH p w code var sv w' v ls := by
  obtain ⟨a, b, c, d, e, f, g⟩ := h
  exact ⟨a.xt hx (by omega), b.xt hx (by omega), c.xt hx (by omega), d.xt hx hp, e, ht, g.trans hx⟩
theorem SH.ext (h : SH p w code var sv wx v ls) (hx : Ext wx w') (hp : p < w.heap.size) : SH p w code var sv w' v ls := h.xt hx.xt (h.2.2.2.2.2.1.ext hx) hp
theorem SH.nils {m : Nat} {us : List Value} (h : SH p w code var sv wx v ls) (hp : p < w.heap.size) (hus : wx.ownsRow w.heap.size 28 1 v ls.length us) (hg : wx.grownBy w' v.ownBlock)
    (h' : w'.ownsRow w.heap.size 28 1 v' (ls.length + m) (us ++ List.replicate m (.slice none 0 0))) :
    w'.cell? ⟨w.heap.size + 2, 0, none⟩ = some v ∧ w'.frozen? ⟨w.heap.size + 2, 0, none⟩ = false ∧ SH p w code var sv (w'.setCell ⟨w.heap.size + 2, 0, none⟩ v') v' (ls ++ List.replicate m []) := by
  obtain ⟨a, b, c, d, e, f, g⟩ := h
  have a' := a.grown hg (own_ne hus a (by decide))
  have b' := b.grown hg (own_ne hus b (by decide))
  have c' := c.grown hg (own_ne hus c (by decide))
  have d' := d.nils (by decide) hus hg h'
  refine ⟨c'.cell, c'.froz 0, a'.far (by simp) _, b'.far (by simp) _, c'.set _, d'.far c' (by decide) (by decide) rfl _, ?_, ?_, ?_⟩
  · intro l hl
    rcases List.mem_append.1 hl with hl | hl
    · exact e l hl
    · rw [(List.mem_replicate.1 hl).2]; simp
  · exact (f.grown hg (fun k hk => by have := own_ge hus k hk; omega)).setNew (by simp; omega) _
  · exact (XT.grown g hg (own_ge hus)).setNew (by simp) _
/-- The booklet's cell behind the growth of a row. -/
theorem SH.box {m cu : Nat} {A : Option Addr} {xs : List Value} {w1 w2 : World} (h : SH p w code var sv wx v ls) (hp : p < w.heap.size) (hx1 : XT p wx w1) (hrow : wx.ownsRow w.heap.size 3 1 (.slice A m cu) m xs) (hg : w1.grownBy w2 (Value.slice A m cu).ownBlock) :
    w2.cell? ⟨w.heap.size + 2, 0, none⟩ = some v := by
  have c1 := h.2.2.1.xt hx1 (show w.heap.size + 2 ≠ p by omega)
  exact (c1.grown hg (own_ne (own_xt hrow hx1 hp) c1 (by decide))).cell
theorem SH.pap {m cu : Nat} {A : Option Addr} {xs : List Value} {w1 w2 : World} (h : SH p w code var sv wx v ls) (hp : p < w.heap.size) (hx1 : XT p wx w1) (hrow : wx.ownsRow w.heap.size 3 1 (.slice A m cu) m xs) (hg : w1.grownBy w2 (Value.slice A m cu).ownBlock) :
    w2.cell? ⟨w.heap.size, 2, none⟩ = some sv := by
  have c1 := h.1.xt hx1 (show w.heap.size ≠ p by omega)
  exact (c1.grown hg (own_ne (own_xt hrow hx1 hp) c1 (by decide))).cells.2.2
/-- Row j grows by x. -/
theorem SH.row {gg n cap j m g' c' : Nat} {A : Option Addr} {cu : Nat} {l : List Int} {x : Int} {w1 w2 : World} (h : SH p w code var sv wx (.slice (some ⟨gg, 0, none⟩) n cap) ls) (hp : p < w.heap.size) (hl : ls[j]? = some l) (hm : l.length ≤ 39) (hx : -1 ≤ x ∧ x ≤ 1000000)
    (hx1 : XT p wx w1) (ht1 : Tape w1 p) (hrow : wx.ownsRow w.heap.size 3 1 (.slice A m cu) m (l.map (Value.int .i64))) (hgw : w.heap.size ≤ gg)
    (hg : w1.grownBy w2 (Value.slice A m cu).ownBlock)
    (hM : w2.cell? ⟨gg, j, none⟩ = some (.slice A m cu) ∧ w2.frozen? ⟨gg, j, none⟩ = false ∧ Mat w.heap.size 28 3 (w2.setCell ⟨gg, j, none⟩ (.slice (some ⟨g', 0, none⟩) (m + 1) c')) (.slice (some ⟨gg, 0, none⟩) n cap) (ls.set j (l ++ [x]))) :
    SH p w code var sv (w2.setCell ⟨gg, j, none⟩ (.slice (some ⟨g', 0, none⟩) (m + 1) c')) (.slice (some ⟨gg, 0, none⟩) n cap) (ls.set j (l ++ [x])) := by
  obtain ⟨a, b, c, d, e, f, g⟩ := h
  have hr1 := own_xt hrow hx1 hp
  obtain ⟨us, _, hus⟩ := d.own
  have a1 := (a.xt hx1 (by omega))
  have b1 := (b.xt hx1 (by omega))
  have c1 := (c.xt hx1 (by omega))
  have a' := a1.grown hg (own_ne hr1 a1 (by decide))
  have b' := b1.grown hg (own_ne hr1 b1 (by decide))
  have c' := c1.grown hg (own_ne hr1 c1 (by decide))
  have ng : ∀ {bb t : Nat} {cs : Array Value}, wx.heap[bb]? = some (.cells cs t (0, 0)) → t ≠ 28 → bb ≠ gg := fun hb ht he => own_ne hus hb ht (by rw [he]; rfl)
  refine ⟨a'.far (ng a (by decide)) _, b'.far (ng b (by decide)) _, c'.far (ng c (by decide)) _, hM.2.2, ?_, ?_, ?_⟩
  · intro y hy
    rcases List.mem_or_eq_of_mem_set hy with hy | rfl
    · exact e y hy
    · have := e l (List.mem_of_getElem? hl)
      refine ⟨by simp; omega, fun z hz => ?_⟩
      rcases List.mem_append.1 hz with hz | hz
      · exact this.2 z hz
      · simp at hz; omega
  · exact (ht1.grown hg (fun k hk => by have := own_ge hrow k hk; omega)).setNew (by simp; omega) _
  · exact (XT.grown (g.trans hx1) hg (own_ge hrow)).setNew (by simpa using hgw) _
end
end Go.Proofs.Ytpbfbkkalemmiaa
