/- A matrix of six rows of elements in memory, all of it in blocks from 'base' on. No program. -/
import Derived.Test.YtcpanmonllhmaaaDoorGGf
import Derived.Test.YtcpanmonllhmaaaDoorTape
set_option linter.unusedSimpArgs false
set_option linter.unusedVariables false
namespace Go.Proofs.YtcpanmonllhmaaaDoor
open Go.RowKit

/-- Block g holds the headers of six rows; row r lies in block b r. -/
structure MatB (base g : Nat) (tS tI : TypeId) (w : World) (M : Nat → Nat → F) (wd : Nat) (b cu : Nat → Nat) (hd : Array Value) : Prop where
  head : w.heap[g]? = some (.cells hd tS (0, 0))
  hdAt : ∀ r, r < 6 → hd[r]? = some (.slice (some ⟨b r, 0, none⟩) wd (cu r))
  row : ∀ r, r < 6 → ∃ cur : Array Value, w.heap[b r]? = some (.cells cur tI (0, 0)) ∧ ∀ c, c < wd → cur[c]? = some (.int .i64 ((M r c).n : Int))
  inj : ∀ r s, r < 6 → s < 6 → b r = b s → r = s
  gne : ∀ r, r < 6 → b r ≠ g
  bge : ∀ r, r < 6 → base ≤ b r
  gge : base ≤ g
  cap : ∀ r, r < 6 → wd ≤ cu r ∧ cu r ≤ 9223372036854775807
def MatW (base g : Nat) (tS tI : TypeId) (w : World) (M : Nat → Nat → F) (wd : Nat) : Prop := ∃ b cu hd, MatB base g tS tI w M wd b cu hd

section
variable {base g wd : Nat} {tS tI : TypeId} {w w' : World} {M N : Nat → Nat → F}
theorem MatW.keep (h : MatW base g tS tI w M wd) (e : ∀ k, base ≤ k → k < w.heap.size → w'.heap[k]? = w.heap[k]?) : MatW base g tS tI w' M wd := by
  obtain ⟨b, cu, hd, h⟩ := h
  refine ⟨b, cu, hd, ⟨(e g h.gge (lt_of_blk h.head)).trans h.head, h.hdAt, fun r hr => ?_, h.inj, h.gne, h.bge, h.gge, h.cap⟩⟩
  obtain ⟨cur, h1, h2⟩ := h.row r hr
  exact ⟨cur, (e _ (h.bge r hr) (lt_of_blk h1)).trans h1, h2⟩
theorem MatW.ext (h : MatW base g tS tI w M wd) (e : Ext w w') : MatW base g tS tI w' M wd := h.keep fun k _ hk => e.block k hk
theorem MatW.xt {p : Nat} (h : MatW base g tS tI w M wd) (e : XT p w w') (hp : p < base) : MatW base g tS tI w' M wd := h.keep fun k hb hk => e.block k hk (fun e => by injection e; omega)
theorem MatW.congr (h : MatW base g tS tI w M wd) (e : ∀ r c, r < 6 → c < wd → M r c = N r c) : MatW base g tS tI w N wd := by
  obtain ⟨b, cu, hd, h⟩ := h
  refine ⟨b, cu, hd, ⟨h.head, h.hdAt, fun r hr => ?_, h.inj, h.gne, h.bge, h.gge, h.cap⟩⟩
  obtain ⟨cur, h1, h2⟩ := h.row r hr
  exact ⟨cur, h1, fun c hc => by rw [← e r c hr hc]; exact h2 c hc⟩
/-- Row r: its header, its elements, and what a store leaves. -/
theorem MatW.at_ (h : MatW base g tS tI w M wd) {r : Nat} (hr : r < 6) :
    ∃ b cu, w.cell? ⟨g, r, none⟩ = some (.slice (some ⟨b, 0, none⟩) wd cu) ∧ wd ≤ cu ∧ cu ≤ 9223372036854775807 ∧ base ≤ b ∧ b ≠ g ∧
      (∀ c, c < wd → w.cell? ⟨b, c, none⟩ = some (.int .i64 ((M r c).n : Int))) ∧ (∀ c, w.frozen? ⟨b, c, none⟩ = false) ∧
      (∀ (w' : World) (c : Nat) (y : F), Ext w w' → MatW base g tS tI (w'.setCell ⟨b, c, none⟩ (.int .i64 (y.n : Int))) (F.upd M r c y) wd ∧ Below base w (w'.setCell ⟨b, c, none⟩ (.int .i64 (y.n : Int)))) := by
  obtain ⟨b, cu, hd, h⟩ := h
  obtain ⟨cur, h1, h2⟩ := h.row r hr
  refine ⟨b r, cu r, blk_cell h.head (h.hdAt r hr), (h.cap r hr).1, (h.cap r hr).2, h.bge r hr, h.gne r hr, fun c hc => blk_cell h1 (h2 c hc), fun c => blk_frozen h1 c, fun w' c y e => ⟨⟨b, cu, hd, ⟨?_, h.hdAt, fun s hs => ?_, h.inj, h.gne, h.bge, h.gge, h.cap⟩⟩, ?_⟩⟩
  · rw [Below.heap_setCell _ _ _ _ (by simpa using (h.gne r hr).symm)]; exact e.blk h.head
  · by_cases es : s = r
    · subst es
      refine ⟨_, blk_set (e.blk h1) _, fun c' hc' => ?_⟩
      rw [Array.getElem?_setIfInBounds]
      unfold F.upd
      by_cases ec : c = c'
      · subst ec
        have : c < cur.size := by have := h2 c hc'; exact (Array.getElem?_eq_some_iff.1 this).1
        rw [if_pos rfl, if_pos this, if_pos ⟨rfl, rfl⟩]
      · rw [if_neg ec, if_neg (fun h => ec h.2.symm)]; exact h2 c' hc'
    · obtain ⟨cur', h3, h4⟩ := h.row s hs
      have hb : b s ≠ b r := fun e => es (h.inj s r hs hr e)
      refine ⟨cur', ?_, fun c' hc' => ?_⟩
      · rw [Below.heap_setCell _ _ _ _ (by simpa using hb)]; exact e.blk h3
      · unfold F.upd; rw [if_neg (fun h => es h.1)]; exact h4 c' hc'
  · have hlt : base ≤ w.heap.size := Nat.le_trans (h.bge r hr) (Nat.le_of_lt (lt_of_blk h1))
    exact Below.setCell (Below.mono e hlt) (h.bge r hr) _
theorem MatW.frozAt (h : MatW base g tS tI w M wd) {r b n cu : Nat} (hr : r < 6) (hc : w.cell? ⟨g, r, none⟩ = some (.slice (some ⟨b, 0, none⟩) n cu)) (c : Nat) : w.frozen? ⟨b, c, none⟩ = false := by
  obtain ⟨b', cu', h0, _, _, _, _, _, h4, _⟩ := h.at_ hr
  rw [hc] at h0
  injection h0 with h0
  injection h0 with h1
  injection h1 with h1
  injection h1 with h1
  subst h1
  exact h4 c
/-- Two rows change places. -/
theorem MatW.swap (h : MatW base g tS tI w M wd) {k p : Nat} (hk : k < 6) (hp : p < 6) :
    ∃ bk ck bp cp, w.cell? ⟨g, k, none⟩ = some (.slice (some ⟨bk, 0, none⟩) wd ck) ∧ w.cell? ⟨g, p, none⟩ = some (.slice (some ⟨bp, 0, none⟩) wd cp) ∧ w.frozen? ⟨g, k, none⟩ = false ∧ w.frozen? ⟨g, p, none⟩ = false ∧
      ∀ w' : World, Ext w w' → MatW base g tS tI ((w'.setCell ⟨g, k, none⟩ (.slice (some ⟨bp, 0, none⟩) wd cp)).setCell ⟨g, p, none⟩ (.slice (some ⟨bk, 0, none⟩) wd ck)) (F.swapM M k p) wd ∧
        Below base w ((w'.setCell ⟨g, k, none⟩ (.slice (some ⟨bp, 0, none⟩) wd cp)).setCell ⟨g, p, none⟩ (.slice (some ⟨bk, 0, none⟩) wd ck)) := by
  obtain ⟨b, cu, hd, h⟩ := h
  have hsz : ∀ r, r < 6 → r < hd.size := fun r hr => (Array.getElem?_eq_some_iff.1 (h.hdAt r hr)).1
  refine ⟨b k, cu k, b p, cu p, blk_cell h.head (h.hdAt k hk), blk_cell h.head (h.hdAt p hp), blk_frozen h.head k, blk_frozen h.head p, fun w' e => ⟨?_, ?_⟩⟩
  · refine ⟨fun r => if r = k then b p else if r = p then b k else b r, fun r => if r = k then cu p else if r = p then cu k else cu r, _, ⟨blk_set (blk_set (e.blk h.head) _) _, fun r hr => ?_, fun r hr => ?_, fun r s hr hs he => ?_, fun r hr => ?_, fun r hr => ?_, h.gge, fun r hr => ?_⟩⟩
    · rw [Array.getElem?_setIfInBounds, Array.getElem?_setIfInBounds, Array.size_setIfInBounds]
      by_cases e1 : p = r
      · subst e1
        rw [if_pos rfl, if_pos (hsz p hp)]
        by_cases e2 : p = k
        · subst e2; simp
        · simp [e2]
      · rw [if_neg e1]
        by_cases e2 : k = r
        · subst e2; rw [if_pos rfl, if_pos (hsz k hk)]; simp
        · rw [if_neg e2, h.hdAt r hr]; simp [Ne.symm e1, Ne.symm e2]
    · have hkeep : ∀ s, s < 6 → ((w'.setCell ⟨g, k, none⟩ (.slice (some ⟨b p, 0, none⟩) wd (cu p))).setCell ⟨g, p, none⟩ (.slice (some ⟨b k, 0, none⟩) wd (cu k))).heap[b s]? = w.heap[b s]? := fun s hs => by
        rw [Below.heap_setCell _ _ _ _ (by simpa using h.gne s hs), Below.heap_setCell _ _ _ _ (by simpa using h.gne s hs)]
        obtain ⟨cur, h1, _⟩ := h.row s hs
        exact e.block _ (lt_of_blk h1)
      unfold F.swapM
      by_cases e1 : r = k
      · simp only [if_pos e1]; rw [hkeep p hp]; exact h.row p hp
      · by_cases e2 : r = p
        · simp only [if_neg e1, if_pos e2]; rw [hkeep k hk]; exact h.row k hk
        · simp only [if_neg e1, if_neg e2]; rw [hkeep r hr]; exact h.row r hr
    · have hi := h.inj
      split at he
      · split at he
        · omega
        · split at he
          · have := hi _ _ hp hk he; omega
          · have := hi _ _ hp hs he; omega
      · split at he
        · split at he
          · have := hi _ _ hk hp he; omega
          · split at he
            · omega
            · have := hi _ _ hk hs he; omega
        · split at he
          · have := hi _ _ hr hp he; omega
          · split at he
            · have := hi _ _ hr hk he; omega
            · exact hi _ _ hr hs he
    · split
      · exact h.gne p hp
      · split
        · exact h.gne k hk
        · exact h.gne r hr
    · split
      · exact h.bge p hp
      · split
        · exact h.bge k hk
        · exact h.bge r hr
    · split
      · exact h.cap p hp
      · split
        · exact h.cap k hk
        · exact h.cap r hr
  · have hlt : base ≤ w.heap.size := Nat.le_trans h.gge (Nat.le_of_lt (lt_of_blk h.head))
    exact Below.setCell (Below.setCell (Below.mono e hlt) h.gge _) h.gge _
end
/-- What holds below 'base' still. -/
theorem Ext.below_trans {base : Nat} {w0 w w' : World} (h : Ext w0 w) (hb : w0.heap.size ≤ base) (k : Below base w w') : Ext w0 w' := Below.trans h (Below.mono k hb)
end Go.Proofs.YtcpanmonllhmaaaDoor
