/- rscode.Decode's search: what it keeps, and what a sublist's first element is. -/
import Derived.Test.YtlabmdekdhjofaaDoorRsK
namespace Go.Proofs.YtlabmdekdhjofaaDoor
open Go.RowKit

theorem sub_first {α : Type} {x : α} {S l : List α} : ∀ (next : Nat), (x :: S).Sublist (l.drop next) → ∃ i, next ≤ i ∧ l[i]? = some x ∧ S.Sublist (l.drop (i + 1)) := by
  intro next
  obtain ⟨m, hm⟩ : ∃ m, m = l.length - next := ⟨_, rfl⟩
  induction m generalizing next with
  | zero =>
    intro h
    rw [List.drop_of_length_le (by omega)] at h
    cases h
  | succ m ih =>
    intro h
    rw [List.drop_eq_getElem_cons (by omega)] at h
    cases h with
    | cons _ h =>
      obtain ⟨i, h1, h2, h3⟩ := ih (next + 1) (by omega) h
      exact ⟨i, by omega, h2, h3⟩
    | cons_cons _ h => exact ⟨next, Nat.le_refl _, List.getElem?_eq_getElem (by omega), h⟩

/-- What a search may turn: the blocks of places and values, and the row of places. -/
structure SFr (gP gV : Nat) (w : World) (vp : Value) (w' : World) (vp' : Value) : Prop where
  os : w'.os = w.os
  tape : w'.tape = w.tape
  output : w'.output = w.output
  size : w.heap.size ≤ w'.heap.size
  block : ∀ k, k < w.heap.size → k ≠ gP → k ≠ gV → vp.ownBlock ≠ some k → w'.heap[k]? = w.heap[k]?
  own : ∀ k, vp'.ownBlock = some k → vp.ownBlock = some k ∨ w.heap.size ≤ k
section
variable {gP gV : Nat} {w w1 w2 : World} {vp v1 v2 : Value}
theorem SFr.refl (gP gV : Nat) (w : World) (vp : Value) : SFr gP gV w vp w vp := ⟨rfl, rfl, rfl, Nat.le_refl _, fun _ _ _ _ _ => rfl, fun _ h => .inl h⟩
theorem SFr.trans (h : SFr gP gV w vp w1 v1) (k : SFr gP gV w1 v1 w2 v2) : SFr gP gV w vp w2 v2 :=
  ⟨k.os.trans h.os, k.tape.trans h.tape, k.output.trans h.output, Nat.le_trans h.size k.size,
    fun i hi h1 h2 h3 => (k.block i (Nat.lt_of_lt_of_le hi h.size) h1 h2 (fun e => by
      rcases h.own i e with h4 | h4
      · exact h3 h4
      · omega)).trans (h.block i hi h1 h2 h3),
    fun i hi => by
      rcases k.own i hi with h4 | h4
      · exact h.own i h4
      · exact .inr (Nat.le_trans h.size h4)⟩
theorem SFr.of_ext (e : Ext w w1) : SFr gP gV w vp w1 vp := ⟨e.os, e.tape, e.output, e.size, fun i hi _ _ _ => e.block i hi, fun _ h => .inl h⟩
theorem SFr.grown {row : Option Nat} (hg : w.grownBy w1 row) (hr : ∀ k, row = some k → vp.ownBlock = some k) (ho : ∀ k, v1.ownBlock = some k → vp.ownBlock = some k ∨ w.heap.size ≤ k) : SFr gP gV w vp w1 v1 :=
  ⟨hg.os, hg.tape, hg.output, hg.size, fun i hi _ _ h => hg.block i hi (fun e => h (hr i e.symm)), ho⟩
theorem SFr.setP (w : World) (vp : Value) (i : Nat) (u : Value) : SFr gP gV w vp (w.setCell ⟨gP, i, none⟩ u) vp :=
  ⟨rfl, rfl, rfl, by simp [World.setCell], fun k _ h1 _ _ => Below.heap_setCell _ _ _ _ (by simpa using h1), fun _ h => .inl h⟩
theorem SFr.setV (w : World) (vp : Value) (i : Nat) (u : Value) : SFr gP gV w vp (w.setCell ⟨gV, i, none⟩ u) vp :=
  ⟨rfl, rfl, rfl, by simp [World.setCell], fun k _ _ h2 _ => Below.heap_setCell _ _ _ _ (by simpa using h2), fun _ h => .inl h⟩
theorem SFr.keepIs {p n c : Nat} {A : Option Addr} {l : List Int} (h : SFr gP gV w vp w1 v1) (hi : IsI p w (.slice A n c) l) (ha : ∀ ad, A = some ad → ad.block ≠ gP ∧ ad.block ≠ gV ∧ vp.ownBlock ≠ some ad.block ∧ ad.block < w.heap.size) : IsI p w1 (.slice A n c) l := by
  obtain ⟨A', c', hv, h1, h2, h3, h5, h4⟩ := hi
  injection hv with e1 e2 e3
  subst e1; subst e3
  refine ⟨A, c, by rw [e2], h1, h2, h3, h5, fun k x hx => ?_⟩
  obtain ⟨b, off, hA, hb, hc⟩ := h4 k x hx
  obtain ⟨g1, g2, g3, g4⟩ := ha _ hA
  exact ⟨b, off, hA, hb, (World.cell?_of_block (w := w) (h.block b g4 g1 g2 g3)).trans hc⟩
end

/-- The variables that the search shares with Decode. -/
structure DSt (fl : List F) (wh : List Nat) (n gS gW gP gV gH gF : Nat) (Aw : Option Addr) (cw : Nat) (Ah : Option Addr) (nh ch base : Nat) (w : World) (ps : List Nat) (Ap : Option Addr) (np cp : Nat) (vv : Value) : Prop where
  s : w.heap[gS]? = some (.cells (arrF (synF fl) 6) 52 (0, 0))
  wd : w.heap[gW]? = some (.cells #[.slice Aw n cw] 27 (0, 0))
  p : w.heap[gP]? = some (.cells #[.slice Ap np cp] 27 (0, 0))
  v : w.heap[gV]? = some (.cells #[vv] 27 (0, 0))
  h : w.heap[gH]? = some (.cells #[.slice Ah nh ch] 27 (0, 0))
  f : w.heap[gF]? = some (.cells #[.func (.func 51) #[] #[.pointer (some ⟨gS, 0, none⟩), .pointer (some ⟨gW, 0, none⟩), .pointer (some ⟨gP, 0, none⟩), .pointer (some ⟨gV, 0, none⟩), .pointer (some ⟨gH, 0, none⟩), .pointer (some ⟨gF, 0, none⟩)]] 25 (0, 0))
  hi : IsI gP w (.slice Ah nh ch) (psI wh)
  ha : ∀ ad, Ah = some ad → ad.block ≠ gP ∧ ad.block ≠ gV ∧ (Value.slice Ap np cp).ownBlock ≠ some ad.block ∧ ad.block < w.heap.size
  own : w.ownsRow base 3 1 (.slice Ap np cp) np ((psI ps).map (Value.int .i64))
  len : ps.length = np
  tabs : Tabs w
  b2 : 2 ≤ base
  bP : base ≤ gP
  bV : base ≤ gV
  sP : gS ≠ gP
  sV : gS ≠ gV
  wP : gW ≠ gP
  wV : gW ≠ gV
  hP : gH ≠ gP
  hV : gH ≠ gV
  fP : gF ≠ gP
  fV : gF ≠ gV
  pV : gP ≠ gV
theorem own_shape {w : World} {base e size n : Nat} {v : Value} {xs : List Value} (h : w.ownsRow base e size v n xs) : ∃ A c, v = .slice A n c ∧ n ≤ c ∧ c ≤ 9223372036854775807 := by
  rcases h.2 with ⟨rfl, rfl⟩ | ⟨g, cap, cur, rfl, _, _, h1, h2, _⟩
  · exact ⟨none, 0, rfl, Nat.le_refl _, by omega⟩
  · exact ⟨_, _, rfl, h1, h2⟩
section
variable {fl : List F} {wh : List Nat} {n gS gW gP gV gH gF : Nat} {Aw : Option Addr} {cw : Nat} {Ah : Option Addr} {nh ch base : Nat} {w w' : World} {ps ps' : List Nat} {Ap Ap' : Option Addr} {np cp np' cp' : Nat} {vv vv' : Value}
/-- Behind a step that turns no more than a search may. -/
theorem DSt.step (d : DSt fl wh n gS gW gP gV gH gF Aw cw Ah nh ch base w ps Ap np cp vv) (e : SFr gP gV w (.slice Ap np cp) w' (.slice Ap' np' cp'))
    (hp : w'.heap[gP]? = some (.cells #[.slice Ap' np' cp'] 27 (0, 0))) (hv : w'.heap[gV]? = some (.cells #[vv'] 27 (0, 0)))
    (ho : w'.ownsRow base 3 1 (.slice Ap' np' cp') np' ((psI ps').map (Value.int .i64))) (hl : ps'.length = np') :
    DSt fl wh n gS gW gP gV gH gF Aw cw Ah nh ch base w' ps' Ap' np' cp' vv' := by
  have hb : ∀ k, k < base → k < w.heap.size → w'.heap[k]? = w.heap[k]? := fun k hk hlt => e.block k hlt (by have := d.bP; omega) (by have := d.bV; omega) (fun h => by have := own_ge d.own k h; omega)
  refine ⟨(e.block _ (lt_of_blk d.s) d.sP d.sV (own_ne d.own d.s (by decide))).trans d.s, (e.block _ (lt_of_blk d.wd) d.wP d.wV (own_ne d.own d.wd (by decide))).trans d.wd, hp, hv,
    (e.block _ (lt_of_blk d.h) d.hP d.hV (own_ne d.own d.h (by decide))).trans d.h, (e.block _ (lt_of_blk d.f) d.fP d.fV (own_ne d.own d.f (by decide))).trans d.f, e.keepIs d.hi d.ha, fun ad hA => ?_, ho, hl, ?_, d.b2, d.bP, d.bV, d.sP, d.sV, d.wP, d.wV, d.hP, d.hV, d.fP, d.fV, d.pV⟩
  · obtain ⟨h1, h2, h3, h4⟩ := d.ha ad hA
    refine ⟨h1, h2, fun h => ?_, Nat.lt_of_lt_of_le h4 e.size⟩
    rcases e.own _ h with h5 | h5
    · exact h3 h5
    · omega
  · have b2 := d.b2
    have hs := d.tabs.lt
    exact ⟨fun k hk => (World.cell?_of_block (w := w) (hb 0 (by omega) (by omega))).trans (d.tabs.1 k hk), fun k hk => (World.cell?_of_block (w := w) (hb 1 (by omega) (by omega))).trans (d.tabs.2 k hk)⟩
theorem DSt.ext (d : DSt fl wh n gS gW gP gV gH gF Aw cw Ah nh ch base w ps Ap np cp vv) (e : Ext w w') : DSt fl wh n gS gW gP gV gH gF Aw cw Ah nh ch base w' ps Ap np cp vv :=
  d.step (SFr.of_ext e) (e.blk d.p) (e.blk d.v) (own_ext d.own e) d.len
end
end Go.Proofs.YtlabmdekdhjofaaDoor
