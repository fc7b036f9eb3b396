/- What is chosen on a page: plain lists. The fields of a page come in groups, one for each choice part. -/
import Derived.Test.YtndmadohffcdiaaFieldsP
import Derived.Test.YtndmadohffcdiaaSplitA
import Derived.Test.YtndmadohffcdiaaBubE
namespace Go.Proofs.Ytndmadohffcdiaa
open Go.RowKit

/-- The fields of groups (part, number of options). -/
def grp (g : Nat × Nat) : List Fld := (List.range g.2).map fun k : Nat => ⟨(g.1 : Int), (k : Int)⟩
def flatG (G : List (Nat × Nat)) : List Fld := (G.map grp).flatten
theorem grp_len (g : Nat × Nat) : (grp g).length = g.2 := by simp [grp]
theorem flatG_cons (g : Nat × Nat) (G : List (Nat × Nat)) : flatG (g :: G) = grp g ++ flatG G := rfl
theorem grp_part {g : Nat × Nat} {q : Fld} (h : q ∈ grp g) : q.part = g.1 := by
  obtain ⟨k, _, rfl⟩ := List.mem_map.1 h; rfl
theorem flatG_part {G : List (Nat × Nat)} {q : Fld} (h : q ∈ flatG G) : ∃ g ∈ G, q.part = g.1 := by
  obtain ⟨l, hl, hq⟩ := List.mem_flatten.1 h
  obtain ⟨g, hg, rfl⟩ := List.mem_map.1 hl
  exact ⟨g, hg, grp_part hq⟩
/-- The groups of a page. -/
def groups (ps : List Part) (pg : List Int) : List (Nat × Nat) := pg.filterMap fun x => match ps[x.toNat]? with
  | some q => if q.kind = 2 then some (x.toNat, q.opts.toNat) else none
  | none => none
/-- Each list cut in pieces of these sizes. -/
def chunks : List (Nat × Nat) → List Int → List (List Int)
  | [], _ => []
  | g :: G, cs => cs.take g.2 :: chunks G (cs.drop g.2)
/-- The answers, group by group. -/
def ansF (J : List Int → Int) : List (Nat × Nat) → List Int → List Int → List Int
  | [], _, acc => acc
  | g :: G, cs, acc => ansF J G (cs.drop g.2) (acc.set g.1 (J (cs.take g.2)))
/-- The values of the fields of part i. -/
def valsOf (fs : List Fld) (cs : List Int) (i : Int) : List Int := (fs.zip cs).filterMap fun x => if x.1.part = i then some x.2 else none
/-- The groups are of different parts, below n, with 2 to 5 options. -/
def GOk (n : Nat) (G : List (Nat × Nat)) : Prop := G.Pairwise (fun a b => a.1 < b.1) ∧ ∀ g ∈ G, g.1 < n ∧ 2 ≤ g.2 ∧ g.2 ≤ 5

theorem valsOf_all {fs : List Fld} {cs : List Int} {i : Int} (hl : fs.length = cs.length) (h : ∀ q ∈ fs, q.part = i) : valsOf fs cs i = cs := by
  induction fs generalizing cs with
  | nil => simp [valsOf, List.eq_nil_of_length_eq_zero hl.symm]
  | cons q fs ih =>
    cases cs with
    | nil => simp at hl
    | cons c cs =>
      have := ih (cs := cs) (by simpa using hl) (fun q hq => h q (by simp [hq]))
      unfold valsOf at *
      simp [h q (by simp), this]
theorem valsOf_none {fs : List Fld} {cs : List Int} {i : Int} (h : ∀ q ∈ fs, q.part ≠ i) : valsOf fs cs i = [] := by
  unfold valsOf
  rw [List.filterMap_eq_nil_iff]
  intro x hx
  have := h x.1 (List.of_mem_zip hx).1
  simp [this]
theorem valsOf_app {a b : List Fld} {cs : List Int} {i : Int} (h : a.length ≤ cs.length) : valsOf (a ++ b) cs i = valsOf a (cs.take a.length) i ++ valsOf b (cs.drop a.length) i := by
  unfold valsOf
  conv => lhs; rw [← List.take_append_drop a.length cs]
  rw [List.zip_append (by simp; omega), List.filterMap_append]

section
variable {J : List Int → Int}
theorem ansF_len (G : List (Nat × Nat)) (cs acc : List Int) : (ansF J G cs acc).length = acc.length := by
  induction G generalizing cs acc with
  | nil => rfl
  | cons g G ih => rw [ansF, ih]; simp
theorem ansF_at (G : List (Nat × Nat)) (cs acc : List Int) (i : Nat) (hp : G.Pairwise (fun a b => a.1 < b.1)) (hb : ∀ g ∈ G, g.1 < acc.length ∧ 2 ≤ g.2) (hl : (flatG G).length = cs.length) :
    (ansF J G cs acc)[i]? = if valsOf (flatG G) cs (i : Int) = [] then acc[i]? else some (J (valsOf (flatG G) cs (i : Int))) := by
  induction G generalizing cs acc with
  | nil => simp [ansF, flatG, valsOf]
  | cons g G ih =>
    have hl' : (flatG G).length = (cs.drop g.2).length := by rw [flatG_cons, List.length_append, grp_len] at hl; rw [List.length_drop]; omega
    have hlg : g.2 ≤ cs.length := by rw [flatG_cons, List.length_append, grp_len] at hl; omega
    rw [ansF, ih (cs.drop g.2) (acc.set g.1 (J (cs.take g.2))) (List.pairwise_cons.1 hp).2 (fun x hx => by have := hb x (by simp [hx]); simpa using this) hl']
    rw [flatG_cons, valsOf_app (by rw [grp_len]; exact hlg), grp_len]
    by_cases hi : i = g.1
    · subst hi
      have h1 : valsOf (grp g) (cs.take g.2) (g.1 : Int) = cs.take g.2 := valsOf_all (by rw [grp_len, List.length_take]; omega) (fun q hq => grp_part hq)
      have h2 : valsOf (flatG G) (cs.drop g.2) (g.1 : Int) = [] := valsOf_none (fun q hq => by
        obtain ⟨x, hx, e⟩ := flatG_part hq
        have := (List.pairwise_cons.1 hp).1 x hx
        omega)
      rw [h1, h2, List.append_nil]
      have hne : cs.take g.2 ≠ [] := by
        intro e
        have h3 := congrArg List.length e
        rw [List.length_take, List.length_nil] at h3
        have := (hb g (by simp)).2
        omega
      rw [if_pos rfl, if_neg hne, List.getElem?_set_self (hb g (by simp)).1]
    · have h1 : valsOf (grp g) (cs.take g.2) (i : Int) = [] := valsOf_none (fun q hq => by rw [grp_part hq]; omega)
      rw [h1, List.nil_append, List.getElem?_set_ne (Ne.symm hi)]
end
/-- What the reference computes. -/
def refA (J : List Int → Int) (n : Nat) (fs : List Fld) (cs : List Int) : List Int := (List.range n).map fun i : Nat => if valsOf fs cs (i : Int) = [] then -1 else J (valsOf fs cs (i : Int))
theorem ans_ref {J : List Int → Int} {n : Nat} {G : List (Nat × Nat)} {cs : List Int} (hg : GOk n G) (hl : (flatG G).length = cs.length) : ansF J G cs (List.replicate n (-1)) = refA J n (flatG G) cs := by
  apply List.ext_getElem?
  intro i
  rw [ansF_at G cs _ i hg.1 (fun g h => by have := hg.2 g h; simp; omega) hl]
  unfold refA
  rcases Nat.lt_or_ge i n with hi | hi
  · simp only [List.getElem?_map, List.getElem?_range hi, Option.map_some]
    split <;> simp [hi]
  · rw [List.getElem?_eq_none (by simpa using hi), List.getElem?_eq_none (by simpa using hi)]
    rw [if_pos]
    refine valsOf_none (fun q hq => ?_)
    obtain ⟨g, hgm, e⟩ := flatG_part hq
    have := (hg.2 g hgm).1
    omega

/-- The runs of such fields are the groups. -/
theorem same_grp {fs : List Fld} {a : Nat} {g : Nat × Nat} {G : List (Nat × Nat)} (h : fs.drop a = flatG (g :: G)) : Same fs a (a + g.2) (g.1 : Int) := by
  intro k q hk hk' hq
  have : (fs.drop a)[k - a]? = some q := by rw [List.getElem?_drop]; rw [show a + (k - a) = k by omega]; exact hq
  rw [h, flatG_cons, List.getElem?_append_left (by rw [grp_len]; omega)] at this
  exact grp_part (List.mem_of_getElem? this)
theorem runs_groups {fs : List Fld} {cs : List Int} (hl : fs.length = cs.length) : ∀ (G : List (Nat × Nat)) (a : Nat), G.Pairwise (fun a b => a.1 < b.1) → (∀ g ∈ G, 2 ≤ g.2) → fs.drop a = flatG G → a ≤ fs.length →
    (∀ q, 0 < a → fs[a - 1]? = some q → ∀ g ∈ G, q.part < g.1) → runsTo fs cs cs.length = runsTo fs cs a ++ chunks G (cs.drop a) := by
  intro G
  induction G with
  | nil =>
    intro a _ _ hd ha _
    have : a = cs.length := by
      have := congrArg List.length hd
      simp [flatG] at this
      omega
    subst this
    simp [chunks]
  | cons g G ih =>
    intro a hp h2 hd ha hprev
    have hg2 := h2 g (by simp)
    have hlen : a + g.2 ≤ fs.length := by
      have := congrArg List.length hd
      rw [flatG_cons, List.length_append, grp_len, List.length_drop] at this
      omega
    have hs := same_grp hd
    have hnew : newRun fs a := by
      rcases Nat.eq_zero_or_pos a with h0 | h0
      · exact .inl h0
      · refine .inr fun x y hx hy => ?_
        have h1 := hs a x (Nat.le_refl _) (by omega) hx
        have h2 := hprev y h0 hy g (by simp)
        omega
    have hr := runs_whole (fs := fs) (cs := cs) (by omega) hnew (show a < a + g.2 by omega) (hs.runs hlen)
    have hd' : fs.drop (a + g.2) = flatG G := by
      rw [← List.drop_drop, hd, flatG_cons, List.drop_append, List.drop_eq_nil_of_le (by rw [grp_len]; omega), grp_len]; simp
    rw [ih (a + g.2) (List.pairwise_cons.1 hp).2 (fun x hx => h2 x (by simp [hx])) hd' hlen (fun q _ hq x hx => ?_), hr, chunks, List.append_assoc, List.drop_drop]
    · congr 2
      rw [List.singleton_append]
      congr 1
      rw [List.drop_take]
      congr 1
      omega
    · have := hs (a + g.2 - 1) q (by omega) (by omega) hq
      have := (List.pairwise_cons.1 hp).1 x hx
      omega
theorem runs_all {fs : List Fld} {cs : List Int} {G : List (Nat × Nat)} (hl : fs.length = cs.length) (hp : G.Pairwise (fun a b => a.1 < b.1)) (h2 : ∀ g ∈ G, 2 ≤ g.2) (hd : fs = flatG G) : runsTo fs cs cs.length = chunks G cs := by
  have := runs_groups hl G 0 hp h2 (by simpa using hd) (by omega) (fun q h => by omega)
  simpa [runsTo] using this

theorem flds_groups (ps : List Part) (pg : List Int) (h0 : ∀ x ∈ pg, 0 ≤ x) : fldsOf ps pg = flatG (groups ps pg) := by
  induction pg with
  | nil => rfl
  | cons x pg ih =>
    have hx := h0 x (by simp)
    have e : fldsOf ps (x :: pg) = partF ps x ++ fldsOf ps pg := rfl
    rw [e, ih (fun y hy => h0 y (by simp [hy]))]
    unfold groups
    rw [List.filterMap_cons]
    unfold partF
    cases hq : ps[x.toNat]? with
    | none => simp
    | some q =>
      by_cases hk : q.kind = 2
      · simp only [hk, if_true]
        rw [flatG_cons]
        congr 1
        unfold grp
        simp only
        rw [show ((x.toNat : Nat) : Int) = x by omega]
      · simp [hk]
theorem groups_ok {code var : Int} {ps : List Part} {pgs : List (List Int)} {i : Nat} {pg : List Int} (h : bkB code var ps pgs = true) (hp : pgs[i]? = some pg) : GOk ps.length (groups ps pg) ∧ ∀ x ∈ pg, 0 ≤ x := by
  have hpp := page_parts h hp
  have hb := bk_of h
  obtain ⟨hv, _, _, _, hok⟩ := hb
  have key : ∀ (l : List (List Int)) (nx i : Nat) (pg : List Int), okPages (ps.map need) nx l → l[i]? = some pg → ∃ a, pgOk (ps.map need) a pg := by
    intro l
    induction l with
    | nil => intro nx i pg _ h; simp at h
    | cons p l ih =>
      intro nx i pg ho h
      cases i with
      | zero => simp at h; subst h; exact ⟨nx, ho.1⟩
      | succ i => exact ih _ i pg ho.2 (by simpa using h)
  obtain ⟨a, ha⟩ := key pgs 0 i pg hok hp
  have hasc : pg.Pairwise (fun x y => x < y) := by
    rw [List.pairwise_iff_getElem]
    intro k m hk hm hkm
    have e1 := ha.1.2 k _ hk (List.getElem?_eq_getElem hk)
    have e2 := ha.1.2 m _ hm (List.getElem?_eq_getElem hm)
    omega
  have h0 : ∀ x ∈ pg, 0 ≤ x := by
    intro x hx
    obtain ⟨k, hk⟩ := List.getElem?_of_mem hx
    obtain ⟨j, q, rfl, _⟩ := hpp.2 k x hk
    omega
  refine ⟨⟨?_, ?_⟩, h0⟩
  · unfold groups
    rw [List.pairwise_filterMap]
    refine hasc.imp_of_mem ?_
    intro x y hx hy hxy g hg g' hg'
    have := h0 x hx
    split at hg
    · split at hg
      · injection hg with hg; subst hg
        split at hg'
        · split at hg'
          · injection hg' with hg'; subst hg'; simp only; omega
          · cases hg'
        · cases hg'
      · cases hg
    · cases hg
  · intro g hg
    unfold groups at hg
    obtain ⟨x, hx, hg⟩ := List.mem_filterMap.1 hg
    obtain ⟨k, hk⟩ := List.getElem?_of_mem hx
    obtain ⟨j, q, rfl, hj, _, hvq⟩ := hpp.2 k x hk
    simp only [Int.toNat_natCast, hj] at hg
    split at hg
    · rename_i hk2
      injection hg with hg; subst hg
      have := vp_of hvq
      have := (List.getElem?_eq_some_iff.1 hj).1
      simp only; omega
    · cases hg
theorem judgeV_bd (d f ld : Int) (l : List Int) : -2 ≤ judgeV d f ld l ∧ judgeV d f ld l ≤ 5 := by
  unfold judgeV
  split
  · omega
  · rename_i h
    have h5 : l.length ≤ 5 := by
      rcases Nat.lt_or_ge 5 l.length with h' | h'
      · exact absurd (.inr (.inr (.inl h'))) h
      · exact h'
    have hm : 0 ≤ midx l ∧ midx l ≤ 5 := by
      unfold midx
      have := amax_le l l.length
      omega
    split
    · omega
    · split
      · split <;> omega
      · split <;> omega
/-- What Page returns. -/
noncomputable def pageL (code var : Int) (ps : List Part) (pgs : List (List Int)) (d f ld page : Int) (cs : List Int) : List Int :=
  if vldB d f ld = true ∧ bkB code var ps pgs = true ∧ 0 ≤ page ∧ page < pgs.length ∧ cs.length = (fieldsP code var ps pgs page).length ∧ cs.all valB = true then refA (judgeV d f ld) ps.length (fieldsP code var ps pgs page) cs else []
noncomputable def pageE (code var : Int) (ps : List Part) (pgs : List (List Int)) (d f ld page : Int) (cs : List Int) : Int :=
  if ¬ (vldB d f ld = true ∧ bkB code var ps pgs = true) then 1 else if ¬ (0 ≤ page ∧ page < pgs.length) then 4 else if cs.length ≠ (fieldsP code var ps pgs page).length then 22 else if cs.all valB = false then 2 else 0
section
variable {code var : Int} {ps : List Part} {pgs : List (List Int)} {d f ld page : Int} {cs : List Int}
theorem page_1 (h : ¬ (vldB d f ld = true ∧ bkB code var ps pgs = true)) : [] = pageL code var ps pgs d f ld page cs ∧ 1 = pageE code var ps pgs d f ld page cs := by
  constructor
  · unfold pageL; rw [if_neg (fun x => h ⟨x.1, x.2.1⟩)]
  · unfold pageE; rw [if_pos h]
theorem page_4 (h : vldB d f ld = true ∧ bkB code var ps pgs = true) (h2 : ¬ (0 ≤ page ∧ page < pgs.length)) : [] = pageL code var ps pgs d f ld page cs ∧ 4 = pageE code var ps pgs d f ld page cs := by
  constructor
  · unfold pageL; rw [if_neg (fun x => h2 ⟨x.2.2.1, x.2.2.2.1⟩)]
  · unfold pageE; rw [if_neg (fun x => x h), if_pos h2]
theorem page_22 (h : vldB d f ld = true ∧ bkB code var ps pgs = true) (h2 : 0 ≤ page ∧ page < pgs.length) (h3 : cs.length ≠ (fieldsP code var ps pgs page).length) : [] = pageL code var ps pgs d f ld page cs ∧ 22 = pageE code var ps pgs d f ld page cs := by
  constructor
  · unfold pageL; rw [if_neg (fun x => h3 x.2.2.2.2.1)]
  · unfold pageE; rw [if_neg (fun x => x h), if_neg (fun x => x h2), if_pos h3]
theorem page_2 (h : vldB d f ld = true ∧ bkB code var ps pgs = true) (h2 : 0 ≤ page ∧ page < pgs.length) (h3 : cs.length = (fieldsP code var ps pgs page).length) (h4 : cs.all valB = false) : [] = pageL code var ps pgs d f ld page cs ∧ 2 = pageE code var ps pgs d f ld page cs := by
  constructor
  · unfold pageL; rw [if_neg (fun x => by rw [x.2.2.2.2.2] at h4; cases h4)]
  · unfold pageE; rw [if_neg (fun x => x h), if_neg (fun x => x h2), if_neg (fun x => x h3), if_pos h4]
theorem page_0 (h : vldB d f ld = true ∧ bkB code var ps pgs = true) (h2 : 0 ≤ page ∧ page < pgs.length) (h3 : cs.length = (fieldsP code var ps pgs page).length) (h4 : cs.all valB = true) : refA (judgeV d f ld) ps.length (fieldsP code var ps pgs page) cs = pageL code var ps pgs d f ld page cs ∧ 0 = pageE code var ps pgs d f ld page cs := by
  constructor
  · unfold pageL; rw [if_pos ⟨h.1, h.2, h2.1, h2.2, h3, h4⟩]
  · unfold pageE; rw [if_neg (fun x => x h), if_neg (fun x => x h2), if_neg (fun x => x h3), if_neg (by simp [h4])]
theorem refA_i64 (fs : List Fld) (n : Nat) (cs : List Int) : ∀ x ∈ refA (judgeV d f ld) n fs cs, I64 x := by
  intro x hx
  obtain ⟨i, _, rfl⟩ := List.mem_map.1 hx
  have := judgeV_bd d f ld (valsOf fs cs (i : Int))
  split <;> exact ⟨by omega, by omega⟩
end
end Go.Proofs.Ytndmadohffcdiaa
