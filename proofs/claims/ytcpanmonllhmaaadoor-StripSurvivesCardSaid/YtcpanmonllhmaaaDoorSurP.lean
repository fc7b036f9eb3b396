/- A strip with damaged modules: what survives. No program. -/
import Derived.Test.YtcpanmonllhmaaaDoorDamP
import Derived.Test.YtcpanmonllhmaaaDoorGStK
set_option linter.unusedSimpArgs false
set_option linter.unusedVariables false
namespace Go.Proofs.YtcpanmonllhmaaaDoor
open Go.RowKit

def pos (o m : Nat) : Nat := 7 + 5 * o + m
/-- The module m of a symbol. -/
def md (x : F) (m : Nat) : UInt8 := (mods x.n).getD m 0
theorem md_bit : ∀ (x : F) (m : Nat), m < 5 → md x m = 48 ∨ md x m = 49 := by
  intro x m hm
  have : (mods x.n)[m]? = some (md x m) := by
    unfold md; rw [List.getD_eq_getElem?_getD, List.getElem?_eq_getElem (by rw [mods_len]; exact hm)]; rfl
  exact mods_ok x _ (List.mem_of_getElem? this)
theorem gd_set {l : List UInt8} {q i : Nat} {v : UInt8} (hq : q < l.length) : (l.set q v).getD i 0 = if i = q then v else l.getD i 0 := by
  rw [List.getD_eq_getElem?_getD, List.getD_eq_getElem?_getD, List.getElem?_set]
  by_cases h : q = i
  · subst h; rw [if_pos rfl, if_pos hq, if_pos rfl]; rfl
  · rw [if_neg h, if_neg (fun e => h e.symm)]
theorem chgL_nat {l : List UInt8} {q : Nat} (how : Int) (hq : q < l.length) : chgL l (q : Int) how = l.set q (chgB (l.getD q 0) how) := by
  unfold chgL; rw [if_pos (by omega), Int.toNat_natCast]
theorem chgB_ok (b : UInt8) (how : Int) : chgB b how = 48 ∨ chgB b how = 49 ∨ chgB b how = 63 := by
  unfold chgB; split
  · exact .inr (.inr rfl)
  · split
    · exact .inr (.inl rfl)
    · exact .inl rfl
theorem strip_set {l : List UInt8} {q : Nat} {v : UInt8} (h : stripB l = true) (hv : v = 48 ∨ v = 49 ∨ v = 63) : stripB (l.set q v) = true := by
  obtain ⟨h1, h2⟩ := strip_iff.1 h
  refine strip_iff.2 ⟨by rw [List.length_set]; exact h1, fun b hb => ?_⟩
  rcases List.mem_or_eq_of_mem_set hb with hb | rfl
  · exact h2 b hb
  · exact hv
/-- At most k modules of either end are damaged. -/
def Ends (l : List UInt8) (k : Nat) : Prop := 7 ≤ (l.take 7).count 49 + k ∧ 7 ≤ (l.drop 67).count 48 + k
theorem count_set_ge (l : List UInt8) (q : Nat) (v a : UInt8) : l.count a ≤ (l.set q v).count a + 1 := by
  by_cases hq : q < l.length
  · rw [List.count_set hq]
    split <;> split <;> omega
  · rw [List.set_eq_of_length_le (by omega)]; omega
theorem Ends.head {l : List UInt8} {k q : Nat} {v : UInt8} (hq : q < 7) (h : 7 ≤ (l.take 7).count 49 + k) : 7 ≤ ((l.set q v).take 7).count 49 + (k + 1) := by
  rw [List.take_set]
  have := count_set_ge (l.take 7) q v 49
  omega
theorem Ends.tail {l : List UInt8} {k r : Nat} {v : UInt8} (h : 7 ≤ (l.drop 67).count 48 + k) : 7 ≤ ((l.set (67 + r) v).drop 67).count 48 + (k + 1) := by
  rw [List.drop_set, if_neg (by omega), show 67 + r - 67 = r by omega]
  have := count_set_ge (l.drop 67) r v 48
  omega
theorem take_mid {l : List UInt8} {q : Nat} {v : UInt8} (hq : 7 ≤ q) : (l.set q v).take 7 = l.take 7 := by rw [List.take_set, List.set_eq_of_length_le (by rw [List.length_take]; omega)]
theorem drop_mid {l : List UInt8} {q : Nat} {v : UInt8} (hq : q < 67) : (l.set q v).drop 67 = l.drop 67 := by rw [List.drop_set, if_pos hq]
/-- Both ends are damaged once more; the middle stands. -/
structure Mid (c : List F) (k : Nat) (l : List UInt8) : Prop where
  strip : stripB l = true
  ends : Ends l k
  mid : ∀ o m, o < 12 → m < 5 → l.getD (pos o m) 0 = md (c.getD o 0) m
theorem draw_getD {c : List F} (h : c.length = 12) {o m : Nat} (ho : o < 12) (hm : m < 5) : (drawL c).getD (pos o m) 0 = md (c.getD o 0) m := by
  have h1 := cut_draw h ho
  have h2 : (cutS (drawL c) o)[m]? = (drawL c)[pos o m]? := by unfold cutS pos; rw [List.getElem?_take, if_pos hm, List.getElem?_drop]
  unfold md
  rw [List.getD_eq_getElem?_getD, ← h2, h1]
  exact (List.getD_eq_getElem?_getD ..).symm
theorem Mid.zero {c : List F} (h : c.length = 12) : Mid c 0 (drawL c) :=
  ⟨draw_strip h, ⟨by rw [draw_head]; decide, by rw [draw_tail h]; decide⟩, fun _ _ ho hm => draw_getD h ho hm⟩
theorem Mid.step {c : List F} {k r r' : Nat} {l : List UInt8} {h h' : Int} (H : Mid c k l) (hr : r < 7) (hr' : r' < 7) : Mid c (k + 1) (chgL (chgL l (r : Int) h) ((67 + r' : Nat) : Int) h') := by
  have hl := (strip_iff.1 H.strip).1
  rw [chgL_nat h (by omega)]
  have s1 := strip_set (q := r) H.strip (chgB_ok (l.getD r 0) h)
  have hl1 := (strip_iff.1 s1).1
  rw [chgL_nat h' (by rw [hl1]; omega)]
  refine ⟨strip_set s1 (chgB_ok _ _), ⟨?_, ?_⟩, fun o m ho hm => ?_⟩
  · rw [take_mid (by omega)]
    exact Ends.head hr H.ends.1
  · refine Ends.tail ?_
    rw [drop_mid (by omega)]; exact H.ends.2
  · have hp : pos o m < 67 ∧ 7 ≤ pos o m := by unfold pos; omega
    rw [gd_set (by rw [hl1]; omega), if_neg (by omega), gd_set (by omega), if_neg (by omega)]
    exact H.mid o m ho hm
/-- The symbols of an order as far as number i: the first a wrong, the next unreadable. -/
structure Dmg (c : List F) (ord : List Int) (a i : Nat) (l : List UInt8) : Prop where
  strip : stripB l = true
  ends : Ends l 3
  err : ∀ j o : Nat, ord[j]? = some (o : Int) → j < i → j < a → (∀ m, m < 5 → l.getD (pos o m) 0 = 48 ∨ l.getD (pos o m) 0 = 49) ∧ ∃ m, m < 5 ∧ l.getD (pos o m) 0 ≠ md (c.getD o 0) m
  era : ∀ j o : Nat, ord[j]? = some (o : Int) → j < i → a ≤ j → ∃ m, m < 5 ∧ l.getD (pos o m) 0 = 63
  rest : ∀ j o : Nat, ord[j]? = some (o : Int) → i ≤ j → ∀ m, m < 5 → l.getD (pos o m) 0 = md (c.getD o 0) m
theorem ord_lt {ord : List Int} {j o : Nat} (hp : ord.Perm (upTo 12)) (h : ord[j]? = some (o : Int)) : o < 12 := by
  have := upTo_mem (hp.mem_iff.1 (List.mem_of_getElem? h)); omega
theorem Dmg.zero {c : List F} {ord : List Int} {a : Nat} {l : List UInt8} (hp : ord.Perm (upTo 12)) (H : Mid c 3 l) : Dmg c ord a 0 l :=
  ⟨H.strip, H.ends, fun _ _ _ h => absurd h (by omega), fun _ _ _ h => absurd h (by omega), fun _ o ho _ m hm => H.mid o m (ord_lt hp ho) hm⟩
/-- The symbol at o is being damaged: m modules are looked at; f must be. -/
structure Inn (c : List F) (ord : List Int) (a i o f m : Nat) (l : List UInt8) : Prop where
  strip : stripB l = true
  ends : Ends l 3
  err : ∀ j o' : Nat, ord[j]? = some (o' : Int) → j < i → j < a → (∀ m, m < 5 → l.getD (pos o' m) 0 = 48 ∨ l.getD (pos o' m) 0 = 49) ∧ ∃ m, m < 5 ∧ l.getD (pos o' m) 0 ≠ md (c.getD o' 0) m
  era : ∀ j o' : Nat, ord[j]? = some (o' : Int) → j < i → a ≤ j → ∃ m, m < 5 ∧ l.getD (pos o' m) 0 = 63
  rest : ∀ j o' : Nat, ord[j]? = some (o' : Int) → i < j → ∀ m, m < 5 → l.getD (pos o' m) 0 = md (c.getD o' 0) m
  cur : ∀ q, m ≤ q → q < 5 → l.getD (pos o q) 0 = md (c.getD o 0) q
  bits : i < a → ∀ q, q < 5 → l.getD (pos o q) 0 = 48 ∨ l.getD (pos o q) 0 = 49
  hit : f < m → (i < a → l.getD (pos o f) 0 ≠ md (c.getD o 0) f) ∧ (a ≤ i → l.getD (pos o f) 0 = 63)
theorem Dmg.begin {c : List F} {ord : List Int} {a i o f : Nat} {l : List UInt8} (H : Dmg c ord a i l) (ho : ord[i]? = some (o : Int)) : Inn c ord a i o f 0 l :=
  ⟨H.strip, H.ends, H.err, H.era, fun j o' h hj => H.rest j o' h (by omega), fun q _ hq => H.rest i o ho (Nat.le_refl _) q hq, fun _ q hq => by rw [H.rest i o ho (Nat.le_refl _) q hq]; exact md_bit _ _ hq, fun h => absurd h (by omega)⟩
theorem Inn.fin {c : List F} {ord : List Int} {a i o f : Nat} {l : List UInt8} (H : Inn c ord a i o f 5 l) (ho : ord[i]? = some (o : Int)) (hf : f < 5) : Dmg c ord a (i + 1) l := by
  have hii : ∀ {j o' : Nat}, ord[j]? = some (o' : Int) → j = i → o' = o := fun h e => by rw [e, ho] at h; injection h with h; omega
  refine ⟨H.strip, H.ends, fun j o' h h1 h2 => ?_, fun j o' h h1 h2 => ?_, fun j o' h h1 => H.rest j o' h (by omega)⟩
  · by_cases e : j = i
    · obtain rfl := hii h e
      exact ⟨H.bits (by omega), f, hf, (H.hit hf).1 (by omega)⟩
    · exact H.err j o' h (by omega) h2
  · by_cases e : j = i
    · obtain rfl := hii h e
      exact ⟨f, hf, (H.hit hf).2 (by omega)⟩
    · exact H.era j o' h (by omega) h2
theorem Inn.skip {c : List F} {ord : List Int} {a i o f m : Nat} {l : List UInt8} (H : Inn c ord a i o f m l) (hf : m ≠ f) : Inn c ord a i o f (m + 1) l :=
  ⟨H.strip, H.ends, H.err, H.era, H.rest, fun q h1 h2 => H.cur q (by omega) h2, H.bits, fun h => H.hit (by omega)⟩
theorem chg_bit {b : UInt8} (h : b = 48 ∨ b = 49) : (chgB b 0 = 48 ∨ chgB b 0 = 49) ∧ chgB b 0 ≠ b := by
  rcases h with rfl | rfl <;> decide
theorem Inn.chg {c : List F} {ord : List Int} {a i o f m : Nat} {l : List UInt8} (H : Inn c ord a i o f m l) (hp : ord.Perm (upTo 12)) (ho : ord[i]? = some (o : Int)) (hm : m < 5) {how : Int} (h0 : i < a → how = 0) (h1 : a ≤ i → how = 1) :
    Inn c ord a i o f (m + 1) (chgL l ((pos o m : Nat) : Int) how) := by
  have hl := (strip_iff.1 H.strip).1
  have ho12 := ord_lt hp ho
  have hpl : pos o m < 67 ∧ 7 ≤ pos o m := by unfold pos; omega
  rw [chgL_nat how (by omega)]
  have key : ∀ {j o' m' : Nat}, ord[j]? = some (o' : Int) → j ≠ i → m' < 5 → pos o' m' ≠ pos o m := fun {j o' m'} h hj hm' e => by
    have : o' = o := by unfold pos at e; omega
    subst this
    exact hj (ord_inj hp h ho)
  have same : ∀ {j o' m' : Nat}, ord[j]? = some (o' : Int) → j ≠ i → m' < 5 → (l.set (pos o m) (chgB (l.getD (pos o m) 0) how)).getD (pos o' m') 0 = l.getD (pos o' m') 0 := fun {j o' m'} h hj hm' => by
    rw [gd_set (by omega), if_neg (key h hj hm')]
  refine ⟨strip_set H.strip (chgB_ok _ _), ⟨by rw [take_mid (by omega)]; exact H.ends.1, by rw [drop_mid (by omega)]; exact H.ends.2⟩, fun j o' h h2 h3 => ?_, fun j o' h h2 h3 => ?_, fun j o' h h2 m' hm' => ?_, fun q h2 h3 => ?_, fun hia q hq => ?_, fun hf => ?_⟩
  · obtain ⟨g1, q, g2, g3⟩ := H.err j o' h h2 h3
    exact ⟨fun m' hm' => by rw [same h (by omega) hm']; exact g1 m' hm', q, g2, by rw [same h (by omega) g2]; exact g3⟩
  · obtain ⟨q, g2, g3⟩ := H.era j o' h h2 h3
    exact ⟨q, g2, by rw [same h (by omega) g2]; exact g3⟩
  · rw [same h (by omega) hm']; exact H.rest j o' h h2 m' hm'
  · rw [gd_set (by omega), if_neg (by unfold pos; omega)]; exact H.cur q (by omega) h3
  · rw [gd_set (by omega)]
    split
    · rw [h0 hia]; exact (chg_bit (H.bits hia m hm)).1
    · exact H.bits hia q hq
  · by_cases e : f = m
    · subst e
      rw [gd_set (by omega), if_pos rfl]
      refine ⟨fun hia => ?_, fun hai => by rw [h1 hai]; rfl⟩
      rw [h0 hia, ← H.cur f (Nat.le_refl _) hm]
      exact (chg_bit (H.bits hia f hm)).2
    · have hfm := H.hit (by omega)
      rw [gd_set (by omega), if_neg (by unfold pos; omega)]
      exact hfm
theorem cutS_eq {l : List UInt8} (h : l.length = 74) {o : Nat} (ho : o < 12) : cutS l o = [l.getD (pos o 0) 0, l.getD (pos o 1) 0, l.getD (pos o 2) 0, l.getD (pos o 3) 0, l.getD (pos o 4) 0] := by
  have hg : ∀ m, m < 5 → (cutS l o)[m]? = some (l.getD (pos o m) 0) := fun m hm => by
    unfold cutS
    rw [List.getElem?_take, if_pos hm, List.getElem?_drop, List.getD_eq_getElem?_getD, List.getElem?_eq_getElem (by omega)]
    have : l[pos o m]? = some (l[7 + 5 * o + m]'(by omega)) := List.getElem?_eq_getElem (by unfold pos; omega)
    rw [this]; rfl
  apply List.ext_getElem?
  intro m
  rcases Nat.lt_or_ge m 5 with hm | hm
  · rw [hg m hm]
    match m, hm with
    | 0, _ => rfl
    | 1, _ => rfl
    | 2, _ => rfl
    | 3, _ => rfl
    | 4, _ => rfl
  · rw [List.getElem?_eq_none (by rw [cutS_len h ho]; exact hm), List.getElem?_eq_none (by simpa using hm)]
theorem bin_mods : ∀ a b c d e : Bool, mods (binL [if a then 49 else 48, if b then 49 else 48, if c then 49 else 48, if d then 49 else 48, if e then 49 else 48]) = [if a then 49 else 48, if b then 49 else 48, if c then 49 else 48, if d then 49 else 48, if e then 49 else 48] := by decide +kernel
theorem bitB {b : UInt8} (h : b = 48 ∨ b = 49) : ∃ y : Bool, b = if y then 49 else 48 := by
  rcases h with rfl | rfl
  · exact ⟨false, rfl⟩
  · exact ⟨true, rfl⟩
/-- Five readable modules that spell a symbol are its modules. -/
theorem symV_bits {b0 b1 b2 b3 b4 : UInt8} (h0 : b0 = 48 ∨ b0 = 49) (h1 : b1 = 48 ∨ b1 = 49) (h2 : b2 = 48 ∨ b2 = 49) (h3 : b3 = 48 ∨ b3 = 49) (h4 : b4 = 48 ∨ b4 = 49) :
    0 ≤ symV [b0, b1, b2, b3, b4] ∧ symV [b0, b1, b2, b3, b4] < 32 ∧ ∀ x : F, symV [b0, b1, b2, b3, b4] = (x.n : Int) → mods x.n = [b0, b1, b2, b3, b4] := by
  obtain ⟨y0, rfl⟩ := bitB h0
  obtain ⟨y1, rfl⟩ := bitB h1
  obtain ⟨y2, rfl⟩ := bitB h2
  obtain ⟨y3, rfl⟩ := bitB h3
  obtain ⟨y4, rfl⟩ := bitB h4
  have hn : (63 : UInt8) ∉ [if y0 then (49 : UInt8) else 48, if y1 then 49 else 48, if y2 then 49 else 48, if y3 then 49 else 48, if y4 then 49 else 48] := by
    revert y0 y1 y2 y3 y4; decide
  unfold symV
  rw [if_neg hn]
  have hb := bin5 y0 y1 y2 y3 y4
  refine ⟨by omega, by omega, fun x hx => ?_⟩
  have hx' : binL [if y0 then (49 : UInt8) else 48, if y1 then 49 else 48, if y2 then 49 else 48, if y3 then 49 else 48, if y4 then 49 else 48] = x.n := by omega
  rw [← hx']; exact bin_mods y0 y1 y2 y3 y4
theorem md_list (x : F) : mods x.n = [md x 0, md x 1, md x 2, md x 3, md x 4] := rfl
theorem symV_md (x : F) : symV [md x 0, md x 1, md x 2, md x 3, md x 4] = (x.n : Int) := by rw [← md_list]; exact symV_mods x
theorem wordL_getD (l : List UInt8) {o : Nat} (ho : o < 12) : (wordL l).getD o 0 = symV (cutS l o) := by rw [List.getD_eq_getElem?_getD, wordL_at l ho]; rfl
theorem Dmg.dam {c : List F} {ord : List Int} {a i : Nat} {l : List UInt8} (H : Dmg c ord a i l) (hc : c.length = 12) (hp : ord.Perm (upTo 12)) : Dam c ord a i (wordL l) := by
  have hl := (strip_iff.1 H.strip).1
  refine ⟨by rw [wordL_len, hc], fun j o h => ?_⟩
  have ho := ord_lt hp h
  rw [wordL_getD l ho, cutS_eq hl ho]
  refine ⟨fun h1 h2 => ?_, fun h1 h2 => ?_, fun h1 => ?_⟩
  · obtain ⟨g1, m, hm, g2⟩ := H.err j o h h1 h2
    obtain ⟨s1, s2, s3⟩ := symV_bits (g1 0 (by omega)) (g1 1 (by omega)) (g1 2 (by omega)) (g1 3 (by omega)) (g1 4 (by omega))
    refine ⟨s1, s2, fun e => g2 ?_⟩
    have := s3 _ e
    rw [md_list] at this
    simp only [List.cons.injEq, and_true] at this
    obtain ⟨t0, t1, t2, t3, t4⟩ := this
    match m, hm with
    | 0, _ => exact t0.symm
    | 1, _ => exact t1.symm
    | 2, _ => exact t2.symm
    | 3, _ => exact t3.symm
    | 4, _ => exact t4.symm
  · obtain ⟨m, hm, g2⟩ := H.era j o h h1 h2
    unfold symV
    rw [if_pos]
    match m, hm with
    | 0, _ => rw [g2]; simp
    | 1, _ => rw [g2]; simp
    | 2, _ => rw [g2]; simp
    | 3, _ => rw [g2]; simp
    | 4, _ => rw [g2]; simp
  · have g := H.rest j o h h1
    rw [g 0 (by omega), g 1 (by omega), g 2 (by omega), g 3 (by omega), g 4 (by omega), symV_md]
/-- A strip with few damaged modules is read as its label. -/
theorem Dmg.read {p c g v : Int} {ord : List Int} {a b : Nat} {l : List UInt8} (H : Dmg (labW p c g v) ord a (a + b) l) (hp : ord.Perm (upTo 12)) (hL : labB p c g v = true) (h6 : 2 * a + b ≤ 6) : ReadF l p c g v (a : Int) 0 := by
  have hl := labW_len p c g v
  have hm : markB l 49 48 = true := by
    have h1 := H.ends.1
    have h2 := H.ends.2
    unfold markB
    simp only [Bool.and_eq_true, decide_eq_true_eq]
    omega
  obtain ⟨u1, u2⟩ := upr_up H.strip hm
  have hn := (H.dam hl hp).near hp hl (labW_code _ _ _ _) (by omega) h6
  refine ⟨fun e => absurd u2 e, fun _ => ⟨toF (symL p c g v), a, 0, ?_, fun e => absurd rfl e, fun _ => ?_⟩⟩
  · rw [u1]
    refine ⟨fun e => ?_, fun _ => .inl ⟨labW p c g v, a, hn, ?_, rfl, rfl⟩⟩
    · rw [word_strip H.strip] at e; cases e
    · rw [wordL_len, ← labW_take]
  · have hb := labB_iff.1 hL
    have h0 := dz_lab hL 0 _ rfl
    have h1 := dz_lab hL 1 _ rfl
    have h2 := dz_lab hL 2 _ rfl
    have h3 := dz_lab hL 3 _ rfl
    have h4 := dz_lab hL 4 _ rfl
    have h5 := dz_lab hL 5 _ rfl
    have hc : candZ (toF (symL p c g v)) = c := by unfold candZ; rw [h1, h2, h3]; omega
    rw [hc, h0, h4, h5]
    exact ⟨fun e => by omega, fun _ => ⟨rfl, rfl, rfl, rfl, rfl, rfl⟩⟩
end Go.Proofs.YtcpanmonllhmaaaDoor
