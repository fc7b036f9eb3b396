/- awardingbodylaw18.word: a codeword with changes and erasures. -/
import Derived.Test.YtlabmdekdhjofaaDoorRsT
import Derived.Test.YtlabmdekdhjofaaDoorTapeC
namespace Go.Proofs.YtlabmdekdhjofaaDoor
open Go.RowKit

/-- A codeword with changes (the first a places of an order) and erasures (the next ones), as far as number k. -/
def Dam (c : List F) (ord : List Int) (a k : Nat) (lx : List Int) : Prop :=
  lx.length = c.length ∧ ∀ (j o : Nat), ord[j]? = some (o : Int) → (j < k → j < a → 0 ≤ lx.getD o 0 ∧ lx.getD o 0 < 32 ∧ lx.getD o 0 ≠ ((c.getD o 0).n : Int)) ∧ (j < k → a ≤ j → lx.getD o 0 = -1) ∧ (k ≤ j → lx.getD o 0 = ((c.getD o 0).n : Int))
theorem wI_getD (c : List F) (o : Nat) : (wI c).getD o 0 = ((c.getD o 0).n : Int) := by
  unfold wI
  rw [List.getD_eq_getElem?_getD, List.getD_eq_getElem?_getD, List.getElem?_map]
  cases c[o]? <;> rfl
theorem Dam.zero (c : List F) (ord : List Int) (a : Nat) : Dam c ord a 0 (wI c) :=
  ⟨wI_len c, fun j o _ => ⟨fun h => by omega, fun h => by omega, fun _ => wI_getD c o⟩⟩
theorem ord_inj {ord : List Int} {n i j : Nat} {x : Int} (hp : ord.Perm (upTo n)) (h1 : ord[i]? = some x) (h2 : ord[j]? = some x) : i = j := by
  have hn : ord.Nodup := hp.nodup_iff.2 (List.Pairwise.map _ (fun a b h e => h (Int.ofNat.inj e)) List.nodup_range)
  exact (List.getElem?_inj (List.getElem?_eq_some_iff.1 h1).1 hn).1 (h1.trans h2.symm)
theorem getD_set_eq {l : List Int} {o : Nat} {y : Int} (h : o < l.length) : (l.set o y).getD o 0 = y := by
  rw [List.getD_eq_getElem?_getD, List.getElem?_set_self h]; rfl
theorem getD_set_ne {l : List Int} {o i : Nat} {y : Int} (h : o ≠ i) : (l.set o y).getD i 0 = l.getD i 0 := by
  rw [List.getD_eq_getElem?_getD, List.getElem?_set_ne h, List.getD_eq_getElem?_getD]
theorem Dam.err {c : List F} {ord : List Int} {a k n o : Nat} {lx : List Int} {r : F} (h : Dam c ord a k lx) (hp : ord.Perm (upTo n)) (ho : ord[k]? = some (o : Int)) (hol : o < c.length) (hk : k < a) (hr : r ≠ 0) : Dam c ord a (k + 1) (lx.set o (((c.getD o 0 + r).n : Nat) : Int)) := by
  refine ⟨by rw [List.length_set]; exact h.1, fun j o' hj => ?_⟩
  by_cases e : j = k
  · subst e
    rw [ho] at hj
    injection hj with hj
    obtain rfl : o = o' := by omega
    rw [getD_set_eq (by rw [h.1]; exact hol)]
    have := (c.getD o 0 + r).lt
    refine ⟨fun _ _ => ⟨by omega, by omega, fun e => ?_⟩, fun _ h => by omega, fun h => by omega⟩
    have e2 : c.getD o 0 + r = c.getD o 0 := F.ext (by omega)
    refine hr ?_
    have := congrArg (fun z => c.getD o 0 + z) e2
    simpa [← F.add_assoc, F.add_self, F.zero_add] using this
  · have hne : o ≠ o' := fun eo => by subst eo; exact e (ord_inj hp hj ho)
    rw [getD_set_ne hne]
    have := h.2 j o' hj
    exact ⟨fun h1 h2 => this.1 (by omega) h2, fun h1 h2 => this.2.1 (by omega) h2, fun h1 => this.2.2 (by omega)⟩
theorem Dam.era {c : List F} {ord : List Int} {a k n o : Nat} {lx : List Int} (h : Dam c ord a k lx) (hp : ord.Perm (upTo n)) (ho : ord[k]? = some (o : Int)) (hol : o < c.length) (hk : a ≤ k) : Dam c ord a (k + 1) (lx.set o (-1)) := by
  refine ⟨by rw [List.length_set]; exact h.1, fun j o' hj => ?_⟩
  by_cases e : j = k
  · subst e
    rw [ho] at hj
    injection hj with hj
    obtain rfl : o = o' := by omega
    rw [getD_set_eq (by rw [h.1]; exact hol)]
    exact ⟨fun _ h => by omega, fun _ _ => rfl, fun h => by omega⟩
  · have hne : o ≠ o' := fun eo => by subst eo; exact e (ord_inj hp hj ho)
    rw [getD_set_ne hne]
    have := h.2 j o' hj
    exact ⟨fun h1 h2 => this.1 (by omega) h2, fun h1 h2 => this.2.1 (by omega) h2, fun h1 => this.2.2 (by omega)⟩
theorem ord_mem {ord : List Int} {n o : Nat} (hp : ord.Perm (upTo n)) (ho : o < n) : ∃ j : Nat, ord[j]? = some (o : Int) := by
  have : (o : Int) ∈ ord := hp.mem_iff.2 (List.mem_map.2 ⟨o, List.mem_range.2 ho, rfl⟩)
  exact List.mem_iff_getElem?.1 this
theorem Dam.bnd {c : List F} {ord : List Int} {a k n : Nat} {lx : List Int} (h : Dam c ord a k lx) (hp : ord.Perm (upTo n)) (hc : c.length = n) : ∀ x ∈ lx, -1 ≤ x ∧ x < 32 := by
  intro x hx
  obtain ⟨o, ho, rfl⟩ := List.getElem_of_mem hx
  obtain ⟨j, hj⟩ := ord_mem (o := o) hp (by rw [← hc, ← h.1]; exact ho)
  have e : lx.getD o 0 = lx[o] := by rw [List.getD_eq_getElem?_getD, List.getElem?_eq_getElem ho]; rfl
  have hd := h.2 j o hj
  rw [e] at hd
  have := (c.getD o 0).lt
  rcases Nat.lt_or_ge j k with h1 | h1
  · rcases Nat.lt_or_ge j a with h2 | h2
    · have := hd.1 h1 h2; omega
    · have := hd.2.1 h1 h2; omega
  · have := hd.2.2 h1; omega
theorem Dam.word {c : List F} {ord : List Int} {a k n : Nat} {lx : List Int} (h : Dam c ord a k lx) (hp : ord.Perm (upTo n)) (hc : c.length = n) (h7 : 7 ≤ n) (h15 : n ≤ 15) : wordB (-1) lx = true :=
  mem_word (by rw [h.1]; omega) (by rw [h.1]; omega) (h.bnd hp hc)
/-- The places of an order, from one number to another. -/
def ordNat (ord : List Int) : List Nat := ord.map Int.toNat
theorem ordNat_nodup {ord : List Int} {n : Nat} (hp : ord.Perm (upTo n)) : (ordNat ord).Nodup := by
  have : (ordNat ord).Perm (List.range n) := by
    have := hp.map Int.toNat
    refine this.trans ?_
    unfold upTo
    rw [List.map_map]
    have : (Int.toNat ∘ fun i : Nat => (i : Int)) = id := by funext i; simp
    rw [this, List.map_id]
  exact this.nodup_iff.2 List.nodup_range
theorem Dam.near {c : List F} {ord : List Int} {a b n : Nat} {lx : List Int} (h : Dam c ord a (a + b) lx) (hp : ord.Perm (upTo n)) (hc : c.length = n) (hcode : F.Code c) (hab : a + b ≤ n) (h6 : 2 * a + b ≤ 6) : Near lx c a := by
  have hlo : (ordNat ord).length = n := by unfold ordNat; rw [List.length_map, hp.length_eq]; simp [upTo]
  have hol : ord.length = n := by rw [hp.length_eq]; simp [upTo]
  have hn := ordNat_nodup hp
  have hw := h.bnd hp hc
  have hmem : ∀ j o : Nat, (ordNat ord)[j]? = some o → ord[j]? = some (o : Int) := fun j o hj => by
    unfold ordNat at hj
    rw [List.getElem?_map, Option.map_eq_some_iff] at hj
    obtain ⟨x, hx, rfl⟩ := hj
    have := upTo_mem (hp.mem_iff.1 (List.mem_of_getElem? hx))
    rw [hx]; congr 1; omega
  have her : (erTo lx lx.length).length = b := by
    have h1 : (erTo lx lx.length).length ≤ (((ordNat ord).drop a).take b).length := nodup_len _ _ ((List.nodup_append.1 (er_wh_nodup lx lx.length)).1) fun o ho => by
      obtain ⟨ho1, ho2⟩ := mem_er.1 ho
      obtain ⟨j, hj⟩ := ord_mem (o := o) hp (by rw [← hc, ← h.1]; exact ho1)
      have hd := h.2 j o hj
      have hj1 : a ≤ j ∧ j < a + b := by
        rw [ho2] at hd
        have := (c.getD o 0).lt
        rcases Nat.lt_or_ge j (a + b) with g1 | g1
        · rcases Nat.lt_or_ge j a with g2 | g2
          · have := (hd.1 g1 g2).1; omega
          · exact ⟨g2, g1⟩
        · have := hd.2.2 g1; omega
      refine List.mem_iff_getElem?.2 ⟨j - a, ?_⟩
      rw [List.getElem?_take, if_pos (by omega), List.getElem?_drop, show a + (j - a) = j by omega]
      unfold ordNat
      rw [List.getElem?_map, hj]; simp
    have h2 : (((ordNat ord).drop a).take b).length ≤ (erTo lx lx.length).length := nodup_len _ _ ((hn.sublist (List.drop_sublist _ _)).sublist (List.take_sublist _ _)) fun o ho => by
      obtain ⟨j, hj⟩ := List.mem_iff_getElem?.1 ho
      rw [List.getElem?_take] at hj
      split at hj
      · rw [List.getElem?_drop] at hj
        have hj' := hmem _ _ hj
        have hb := upTo_mem (hp.mem_iff.1 (List.mem_of_getElem? hj'))
        exact mem_er.2 ⟨by rw [h.1, hc]; omega, (h.2 _ o hj').2.1 (by omega) (by omega)⟩
      · cases hj
    rw [List.length_take, List.length_drop] at h1 h2
    omega
  have hwr : (wrongP lx c).length = a := by
    have key : ∀ j o : Nat, ord[j]? = some (o : Int) → (o ∈ wrongP lx c ↔ j < a) := fun j o hj => by
      have hb := upTo_mem (hp.mem_iff.1 (List.mem_of_getElem? hj))
      have hol2 : o < lx.length := by rw [h.1, hc]; omega
      have hd := h.2 j o hj
      have hcl := (c.getD o 0).lt
      have hx : lx[o]? = some (lx.getD o 0) := by rw [List.getD_eq_getElem?_getD, List.getElem?_eq_getElem hol2]; rfl
      unfold wrongP
      rw [List.mem_filter, mem_wh]
      constructor
      · rintro ⟨⟨_, h2⟩, h3⟩
        rcases Nat.lt_or_ge j a with g | g
        · exact g
        · rcases Nat.lt_or_ge j (a + b) with g1 | g1
          · exact absurd (hd.2.1 g1 g) h2
          · have e := hd.2.2 g1
            have h4 := toF_el hx (by omega) (by omega)
            rw [e] at h4
            have : (toF lx).getD o 0 = c.getD o 0 := F.ext (by omega)
            rw [this] at h3
            simp at h3
      · intro g
        have e := hd.1 (by omega) g
        refine ⟨⟨hol2, by omega⟩, ?_⟩
        have h4 := toF_el hx e.1 e.2.1
        have : (toF lx).getD o 0 ≠ c.getD o 0 := fun e2 => e.2.2 (by rw [e2] at h4; omega)
        rw [beq_eq_false_iff_ne.2 this]; rfl
    have h1 : (wrongP lx c).length ≤ ((ordNat ord).take a).length := nodup_len _ _ ((List.nodup_append.1 (er_wh_nodup lx lx.length)).2.1.sublist (wrong_sub lx c)) fun o ho => by
      have ho1 := (mem_wh.1 (List.mem_filter.1 ho).1).1
      obtain ⟨j, hj⟩ := ord_mem (o := o) hp (by rw [← hc, ← h.1]; exact ho1)
      have := (key j o hj).1 ho
      refine List.mem_iff_getElem?.2 ⟨j, ?_⟩
      rw [List.getElem?_take, if_pos this]
      unfold ordNat
      rw [List.getElem?_map, hj]; simp
    have h2 : ((ordNat ord).take a).length ≤ (wrongP lx c).length := nodup_len _ _ (hn.sublist (List.take_sublist _ _)) fun o ho => by
      obtain ⟨j, hj⟩ := List.mem_iff_getElem?.1 ho
      rw [List.getElem?_take] at hj
      split at hj
      · exact (key j o (hmem _ _ hj)).2 (by assumption)
      · cases hj
    rw [List.length_take] at h1 h2
    omega
  exact ⟨h.1.symm, hcode, hwr, by rw [her]; exact h6⟩

/-- What word returns. -/
def WordRet (p : Nat) (w : World) (a b : Nat) (e : Ending) (w' : World) : Prop :=
  ∃ (fd : List F) (lx ord : List Int) (g n cx : Nat) (Ad : Option Addr) (nd cd : Nat), e = .returned (.tuple #[.slice (some ⟨g, 0, none⟩) n cx, .slice Ad nd cd]) ∧ fd.length = nd ∧ 1 ≤ nd ∧ nd ≤ 9 ∧ n = nd + 6 ∧ n ≤ cx ∧ cx ≤ 9223372036854775807 ∧ nd ≤ cd ∧ cd ≤ 9223372036854775807 ∧
    OwnW w.heap.size w' (.slice Ad nd cd) fd ∧ w'.ownsRow w.heap.size 3 1 (.slice (some ⟨g, 0, none⟩) n cx) n (lx.map (Value.int .i64)) ∧ lx.length = n ∧ ord.Perm (upTo n) ∧ Dam (encF fd) ord a (min (a + b) n) lx ∧ Tape w' p ∧ XT p w w'

set_option maxRecDepth 100000 in
set_option maxHeartbeats 4000000 in
theorem word_any (p a b : Nat) (w : World) (h : Tape w p) (ha : a ≤ 1000) (hb : b ≤ 1000) :
    Calls Tryd.prog 30 #[.pointer (some ⟨p, 0, none⟩), .int .i64 (a : Int), .int .i64 (b : Int)] w (WordRet p w a b) := by
  have hlt := h.lt
  have H := Lib.hid h
  clear h
  obtain ⟨i0, hi0, hz0, hz1, hz2⟩ := info_parts Tryd.infoI
  go_enter Tryd.func30, Tryd.ntmps30
  go_wp2_with fail
  refine (range_any _ 1 9 _ H.out (by omega) (by omega) (by omega) (by omega)).mono ?_
  rintro e w1 ⟨v1, rfl, ⟨r, rfl, hr1, hr2⟩, HT1, HX1⟩
  replace hr2 : r ≤ 9 := by omega
  obtain ⟨r, rfl⟩ := Int.eq_ofNat_of_zero_le (show 0 ≤ r by omega)
  replace HT1 := Lib.hid HT1
  replace HX1 := Lib.hid HX1
  have hs1 := HX1.out.size
  clear H
  go_wp2_with fail
  go_loopw [8, 9] (fun s8 s9 wr => ∃ (k : Nat) (fd : List F), s9 = .int .i64 (k : Int) ∧ k ≤ r ∧ Hid (fd.length + k = r ∧ OwnW w.heap.size wr s8 fd ∧ Tape wr p ∧ XT p w wr)) (fun _ i _ => (intOf i).toNat)
  case atStart => exact ⟨r, [], rfl, Nat.le_refl _, by simp, World.ownsRow_nil _ _ _ _, HT1.out, HX1.out⟩
  case round =>
    clear HT1 HX1
    obtain ⟨k, fd, rfl, hk, HK⟩ := hrel
    have HFL := Lib.hid HK.out.1
    have HO := Lib.hid HK.out.2.1
    have HT := Lib.hid HK.out.2.2.1
    have HX := Lib.hid HK.out.2.2.2
    clear HK
    have hfl : fd.length ≤ 9 := by have := HFL.out; omega
    by_cases hk0 : 0 < k
    · go_wp2_with (first
        | (go_at_call 26; refine (next_any _ 32 _ HT.out (by omega)).mono ?_; rintro e w2 ⟨v2, rfl, ⟨y, rfl, hy0, hy1⟩, HT2, HX2⟩; replace HT2 := Lib.hid HT2; have HO2 := Lib.hid (HO.out.xt HX2 (by omega)); have HX02 := Lib.hid (HX.out.trans HX2); have hs2 := HX02.out.size; clear HX2)
        | (at_builtin; refine wpList_push _ rfl (.tmp 20) (.tmp 23) 27 rfl w.heap.size 3 i0 _ 8 Tryd.underlying27 hi0 hz0 hz1 hz2 rfl u8 fd.length _ rfl (World.ownsRow.alloc HO2.out _) _ _ rfl (by simp; rfl) rfl (by omega) (by omega) (by simp; omega) ?_; intro v4 w4 hown4 hg4; have HO4 := Lib.hid hown4; have HX4 := Lib.hid (XT.grown (HX02.out.ext ((Ext.refl _).alloc _)) hg4 (own_ge HO2.out)); have HT4 := Lib.hid ((HT2.out.ext ((Ext.refl _).alloc _)).grown hg4 (fun k hk => (by have := own_ge HO2.out k hk; omega))); clear hown4 hg4))
      go_roundw
      case rel =>
        obtain ⟨yf, hyf⟩ : ∃ yf : F, y = (yf.n : Int) := ⟨F.mk y.toNat (by omega), by rw [F.n_mk]; omega⟩
        subst hyf
        refine ⟨k - 1, fd ++ [yf], by go_num, by omega, by have := HFL.out; simp; omega, ?_, HT4.out, HX4.out⟩
        show World.ownsRow _ _ _ _ _ _ _
        rw [wI_app, List.map_append, List.length_append]; exact HO4.out
      case measure => simp [intOf]; omega
    · obtain rfl : k = 0 := by omega
      obtain ⟨Ad, cd, rfl, hcd1, hcd2⟩ := own_shape HO.out
      have hfr : fd.length = r := by have := HFL.out; omega
      rw [hfr] at hcd1 ⊢
      have HFR := Lib.hid hfr
      have HDI : Hid (IsI wr.heap.size wr (.slice Ad r cd) (wI fd)) := by
        have h := IsI.of_own' (p := wr.heap.size) (e := 3) HO.out (fun h => by have := (HO.out.lt _ h).2; omega) (wI_i64 _) (by rw [wI_len]; omega)
        rw [hfr] at h
        exact h
      have ea := encL_ok (d := fd) (by omega) (by omega)
      clear hfr
      go_wp2_with fail
      refine (rencode_any _ (wI fd) _ HDI.out).mono ?_
      rintro e w2 ⟨A2, m2, c2, rfl, hm2, hc21, hc22, ho2, hx2⟩
      rw [ea.2]
      rw [ea.1] at ho2 hm2
      rw [wI_len, encF_len, HFR.out] at hm2
      subst hm2
      obtain ⟨g, rfl⟩ : ∃ g, A2 = some ⟨g, 0, none⟩ := by
        rcases ho2.2 with ⟨e, h0⟩ | ⟨g', cap', cur, e, _⟩
        · omega
        · injection e with e1; exact ⟨g', e1⟩
      have hgb := (ho2.lt g rfl)
      have HO2 := Lib.hid ho2
      have HT2 := Lib.hid (HT.out.ext hx2)
      have HD2 := Lib.hid (HO.out.ext hx2)
      have HX2 := Lib.hid (HX.out.ext hx2)
      have hsr := HX.out.size
      have hpg : p < g := by have := HT.out.lt; omega
      have HDG : Hid ((Value.slice Ad fd.length cd).ownBlock ≠ some g) := fun e => by have := (HO.out.lt g e).2; omega
      clear ho2 hx2 HDI HO HT HX HFL ea hk
      have HORD := Lib.hid (order_any p (r + 6) w2 HT2.out (by omega))
      rw [show (((r + 6 : Nat)) : Int) = (r : Int) + 6 by omega] at HORD
      go_wp2_with fail
      refine (HORD.out).mono ?_
      rintro e w3 ⟨v3, rfl, ⟨ord, ho3, hperm⟩, HT3, HX3⟩
      have HOL : Hid (ord.length = r + 6) := by show _ = _; rw [hperm.length_eq]; simp [upTo]
      rw [HOL.out] at ho3
      obtain ⟨A3, c3, rfl, hc31, hc32⟩ := own_shape ho3
      obtain ⟨g3, rfl⟩ : ∃ g3, A3 = some ⟨g3, 0, none⟩ := by
        rcases ho3.2 with ⟨e, h0⟩ | ⟨g', cap', cur, e, _⟩
        · omega
        · injection e with e1; exact ⟨g', e1⟩
      have hg3 : w2.heap.size ≤ g3 := (ho3.lt g3 rfl).1
      have HO3 := Lib.hid ho3
      have HPM := Lib.hid hperm
      have HXX : Hid (w3.ownsRow w.heap.size 3 1 (.slice (some ⟨g, 0, none⟩) (r + 6) c2) (r + 6) ((wI (encF fd)).map (Value.int .i64))) := own_mono (own_xt HO2.out HX3 (by have := HT2.out.lt; omega)) hsr
      have HD3 := Lib.hid (HD2.out.xt HX3 (by omega))
      have HX03 := Lib.hid (HX2.out.trans HX3)
      replace HT3 := Lib.hid HT3
      have HEL : Hid ((encF fd).length = r + 6) := by show _ = _; rw [encF_len, HFR.out]
      clear ho3 hperm HX3 HO2 HD2 HX2 HT2 HORD
      go_wp2_with fail
      go_loopw [13] (fun s13 wr => ∃ (k : Nat), s13 = .int .i64 (k : Int) ∧ k ≤ r + 6 ∧ k ≤ a + b ∧ Hid (∃ lx : List Int, lx.length = r + 6 ∧ wr.ownsRow w.heap.size 3 1 (.slice (some ⟨g, 0, none⟩) (r + 6) c2) (r + 6) (lx.map (Value.int .i64)) ∧ wr.ownsRow w2.heap.size 3 1 (.slice (some ⟨g3, 0, none⟩) (r + 6) c3) (r + 6) (ord.map (Value.int .i64)) ∧ OwnW w.heap.size wr (.slice Ad fd.length cd) fd ∧ Dam (encF fd) ord a k lx ∧ Tape wr p ∧ XT p w wr)) (fun i _ => r + 6 - (intOf i).toNat)
      case atStart => exact ⟨0, rfl, by omega, by omega, _, by rw [wI_len]; exact HEL.out, HXX.out, HO3.out, HD3.out, Dam.zero _ _ _, HT3.out, HX03.out⟩
      case round =>
        clear HXX HO3 HD3 HT3 HX03
        obtain ⟨k, rfl, hk, hkab, HK⟩ := hrel
        obtain ⟨lx, k1, k2, k3, k4, k5, k6, k7⟩ := HK.out
        have HLX := Lib.hid k1
        have HX := Lib.hid k2
        have HO := Lib.hid k3
        have HD := Lib.hid k4
        have HDM := Lib.hid k5
        have HT := Lib.hid k6
        have HXT := Lib.hid k7
        clear HK k1 k2 k3 k4 k5 k6 k7
        by_cases hka : k < a + b
        · by_cases hkn : k < r + 6
          · obtain ⟨z, hz⟩ : ∃ z, ord[k]? = some z := ⟨_, List.getElem?_eq_getElem (by rw [HOL.out]; exact hkn)⟩
            have hzb := upTo_mem (HPM.out.mem_iff.1 (List.mem_of_getElem? hz))
            obtain ⟨o, rfl⟩ := Int.eq_ofNat_of_zero_le hzb.1
            have hor : o < r + 6 := by omega
            have HZ := Lib.hid hz
            clear hz hzb
            have c1 : wr.cell? ⟨g3, k, none⟩ = some (.int .i64 (o : Int)) := by
              rw [HO.out.cellAt k (by omega)]; simp [HZ.out]
            obtain ⟨y, hy⟩ : ∃ y, lx[o]? = some y := ⟨_, List.getElem?_eq_getElem (by rw [HLX.out]; exact hor)⟩
            have c2' : wr.cell? ⟨g, o, none⟩ = some (.int .i64 y) := by
              rw [HX.out.cellAt o (by omega)]; simp [hy]
            have HY := Lib.hid hy
            clear hy
            by_cases hkaa : k < a
            · have hyv : y = (((encF fd).getD o 0).n : Int) := by
                have := (HDM.out.2 k o HZ.out).2.2 (Nat.le_refl _)
                rw [List.getD_eq_getElem?_getD, HY.out] at this
                exact this
              subst hyv
              have hS : wr.drew.cell? ⟨g3, k, none⟩ = some (.int .i64 (o : Int)) ∧ wr.drew.cell? ⟨g, o, none⟩ = some (.int .i64 (((encF fd).getD o 0).n : Int)) := ⟨c1, c2'⟩
              replace hS := Lib.hid hS
              generalize hcy : (encF fd).getD o 0 = yf at *
              have HCY := Lib.hid hcy
              clear hcy
              have f1 : (0 : Int) ≤ (k : Int) := Int.natCast_nonneg _
              have f2 : (k : Int) < (r : Int) + 6 := by omega
              have f3 : (0 : Int) ≤ (o : Int) := Int.natCast_nonneg _
              have f4 : (o : Int) < (r : Int) + 6 := by omega
              go_upto_region 12 with (fail)
              refine wp_region_k 11 (fun w' => w'.cell? ⟨g3, k, none⟩ = some (.int .i64 (o : Int)) ∧ w'.cell? ⟨g, o, none⟩ = some (.int .i64 (yf.n : Int))) (by kernel_rfl) ?_
              refine wpAnyK_take 0 (some 50) (v := ?kv1) rfl rfl (by kernel_rfl) (by kernel_rfl) (by kernel_rfl) (by decide) (by kernel_rfl) (fun _ _ _ h => h) (by rfl) ?ky1 hS.out ?kr1
              case ky1 => ((intro wk hk); (try dsimp only at hk); go_simp; try with_reducible rfl)
              try simp only [Act.put, List.setIfInBounds_toArray, List.set_cons_zero, List.set_cons_succ]
              refine wpAnyK_take 1 (some 51) (v := ?kv2) rfl rfl (by kernel_rfl) (by kernel_rfl) (by kernel_rfl) (by decide) (by kernel_rfl) (fun _ _ _ h => h) (by rfl) ?ky2 hS.out ?kr2
              case ky2 => ((intro wk hk); (try dsimp only at hk); go_simp; try with_reducible rfl)
              try simp only [Act.put, List.setIfInBounds_toArray, List.set_cons_zero, List.set_cons_succ]
              refine wpAnyK_take 2 (some 52) (v := ?kv3) rfl rfl (by kernel_rfl) (by kernel_rfl) (by kernel_rfl) (by decide) (by kernel_rfl) (fun _ _ _ h => h) (by rfl) ?ky3 hS.out ?kr3
              case ky3 => ((intro wk hk); (try dsimp only at hk); go_simp; try with_reducible rfl)
              try simp only [Act.put, List.setIfInBounds_toArray, List.set_cons_zero, List.set_cons_succ]
              refine wpAnyK_take 3 (some 53) (v := ?kv4) rfl rfl (by kernel_rfl) (by kernel_rfl) (by kernel_rfl) (by decide) (by kernel_rfl) (fun _ _ _ h => h) (by rfl) ?ky4 hS.out ?kr4
              case ky4 => ((intro wk hk); (try dsimp only at hk); go_simp; try with_reducible rfl)
              try simp only [Act.put, List.setIfInBounds_toArray, List.set_cons_zero, List.set_cons_succ]
              refine wpAnyK_take 4 (some 54) (v := ?kv5) rfl rfl (by kernel_rfl) (by kernel_rfl) (by kernel_rfl) (by decide) (by kernel_rfl) (fun _ _ _ h => h) (by rfl) ?ky5 hS.out ?kr5
              case ky5 => ((intro wk hk); (try dsimp only at hk); go_simp; try with_reducible rfl)
              try simp only [Act.put, List.setIfInBounds_toArray, List.set_cons_zero, List.set_cons_succ]
              refine wpAnyK_take 5 (some 55) (v := ?kv6) rfl rfl (by kernel_rfl) (by kernel_rfl) (by kernel_rfl) (by decide) (by kernel_rfl) (fun _ _ _ h => h) (by rfl) ?ky6 hS.out ?kr6
              case ky6 => ((intro wk hk); (try dsimp only at hk); go_simp; try with_reducible rfl)
              try simp only [Act.put, List.setIfInBounds_toArray, List.set_cons_zero, List.set_cons_succ]
              refine wpAnyK_take 6 (some 56) (v := ?kv7) rfl rfl (by kernel_rfl) (by kernel_rfl) (by kernel_rfl) (by decide) (by kernel_rfl) (fun _ _ _ h => h) (by rfl) ?ky7 hS.out ?kr7
              case ky7 => ((intro wk hk); (try dsimp only at hk); go_simp; try with_reducible rfl)
              try simp only [Act.put, List.setIfInBounds_toArray, List.set_cons_zero, List.set_cons_succ]
              refine wpAnyK_take 7 (some 57) (v := ?kv8) rfl rfl (by kernel_rfl) (by kernel_rfl) (by kernel_rfl) (by decide) (by kernel_rfl) (fun _ _ _ h => h) (by rfl) ?ky8 hS.out ?kr8
              case ky8 => ((intro wk hk); (try dsimp only at hk); go_simp; try with_reducible rfl)
              try simp only [Act.put, List.setIfInBounds_toArray, List.set_cons_zero, List.set_cons_succ]
              refine wpAnyK_one 8 (by kernel_rfl) rfl (fun K hK => ?_)
              go_simp
              refine (range_any p 1 31 _ (HT.out.ext (Ext.refl _).drew) (by omega) (by omega) (by omega) (by omega)).mono ?_
              rintro e x1 ⟨v5, rfl, ⟨rr, rfl, hr3, hr4⟩, HT5, HX5⟩
              replace hr4 : rr ≤ 31 := by omega
              obtain ⟨rf, hrf⟩ : ∃ rf : F, rr = (rf.n : Int) := ⟨F.mk rr.toNat (by omega), by rw [F.n_mk]; omega⟩
              subst hrf
              have hrne : rf ≠ 0 := fun e => by rw [e, F.n_zero] at hr3; omega
              have HX6 := Lib.hid ((XT.refl p wr).ext (Ext.refl _).drew |>.trans HX5)
              have c1b := HX6.out.cell c1 (by simp; omega)
              have c2b := HX6.out.cell c2' (by simp; omega)
              replace hS := Lib.hid (And.intro c1b c2b)
              have HXb := Lib.hid (own_xt HX.out HX6.out (by omega))
              have hfz := HXb.out.frozenAt o
              refine hK.out _ _ (fun _ => hS.out) ?_
              clear hK K
              try simp only [Act.put, List.setIfInBounds_toArray, List.set_cons_zero, List.set_cons_succ]
              refine wpAnyK_take 9 (some 59) (v := ?kv9) rfl rfl (by kernel_rfl) (by kernel_rfl) (by kernel_rfl) (by decide) (by kernel_rfl) (fun _ _ _ h => h) (by rfl) ?ky9 hS.out ?kr9
              case ky9 => ((intro wk hk); (try dsimp only at hk); go_simp; try with_reducible rfl)
              try simp only [Act.put, List.setIfInBounds_toArray, List.set_cons_zero, List.set_cons_succ]
              refine wpAnyK_take 10 (some 60) (v := ?kv10) rfl rfl (by kernel_rfl) (by kernel_rfl) (by kernel_rfl) (by decide) (by kernel_rfl) (fun _ _ _ h => h) (by rfl) ?ky10 hS.out ?kr10
              case ky10 => ((intro wk hk); (try dsimp only at hk); go_simp; try with_reducible rfl)
              try simp only [Act.put, List.setIfInBounds_toArray, List.set_cons_zero, List.set_cons_succ]
              refine wpAnyK_one 11 (by kernel_rfl) rfl (fun K hK => ?_)
              go_simp
              refine hK.out _ _ (fun h => absurd rfl h) ?_
              clear hK K
              refine wpAnyK_done (by kernel_rfl) ?_ _
              rw [xor_F]
              have HXc := Lib.hid (own_set (k := o) (x := ((yf + rf).n : Int)) HXb.out)
              have HOc := Lib.hid (own_far' (a := ⟨g, o, none⟩) (own_xt HO.out HX6.out (by have := HT.out.lt; omega)) (by simp [Value.ownBlock]; omega) (.int .i64 ((yf + rf).n : Int)))
              have HDc := Lib.hid (own_far' (a := ⟨g, o, none⟩) (own_xt HD.out HX6.out (by omega)) HDG.out (.int .i64 ((yf + rf).n : Int)))
              have HTc := Lib.hid (HT5.setNew (a := ⟨g, o, none⟩) (by simp; omega) (.int .i64 ((yf + rf).n : Int)))
              have HXTc := Lib.hid ((HXT.out.trans HX6.out).setNew (a := ⟨g, o, none⟩) (by simp; omega) (.int .i64 ((yf + rf).n : Int)))
              have HDMc : Hid (Dam (encF fd) ord a (k + 1) (lx.set o ((yf + rf).n : Int))) := by
                have h := HDM.out.err HPM.out HZ.out (by rw [HEL.out]; exact hor) hkaa hrne
                rw [HCY.out] at h
                exact h
              have HLc : Hid ((lx.set o ((yf + rf).n : Int)).length = r + 6) := by show _ = _; rw [List.length_set]; exact HLX.out
              clear hS c1 c2' c1b c2b hfz HXb HX6 HT5 HX5
              go_wp2_with fail
              go_roundw
              case rel => exact ⟨k + 1, by go_num, by omega, by omega, _, HLc.out, HXc.out, HOc.out, HDc.out, HDMc.out, HTc.out, HXTc.out⟩
              case measure => simp [intOf]; omega
            · have hfz := HX.out.frozenAt o
              have HXc := Lib.hid (own_set (k := o) (x := (-1 : Int)) HX.out)
              have HOc := Lib.hid (own_far' (a := ⟨g, o, none⟩) HO.out (by simp [Value.ownBlock]; omega) (.int .i64 (-1)))
              have HDc := Lib.hid (own_far' (a := ⟨g, o, none⟩) HD.out HDG.out (.int .i64 (-1)))
              have HTc := Lib.hid (HT.out.setNew (a := ⟨g, o, none⟩) (by simp; omega) (.int .i64 (-1)))
              have HXTc := Lib.hid (HXT.out.setNew (a := ⟨g, o, none⟩) (by simp; omega) (.int .i64 (-1)))
              have HDMc := Lib.hid (HDM.out.era HPM.out HZ.out (by rw [HEL.out]; exact hor) (by omega))
              have HLc : Hid ((lx.set o (-1)).length = r + 6) := by show _ = _; rw [List.length_set]; exact HLX.out
              go_wp2_with fail
              go_roundw
              case rel => exact ⟨k + 1, by go_num, by omega, by omega, _, HLc.out, HXc.out, HOc.out, HDc.out, HDMc.out, HTc.out, HXTc.out⟩
              case measure => simp [intOf]; omega
          · obtain rfl : k = r + 6 := by omega
            go_wp2_with fail
            go_ret2
            exact ⟨fd, lx, ord, g, r + 6, c2, Ad, r, cd, rfl, HFR.out, by omega, by omega, rfl, by omega, by omega, by omega, by omega, by have := HD.out; rw [HFR.out] at this; exact this, HX.out, HLX.out, HPM.out, by rw [Nat.min_eq_right (by omega)]; exact HDM.out, HT.out, HXT.out⟩
        · obtain rfl : k = a + b := by omega
          go_wp2_with fail
          go_ret2
          exact ⟨fd, lx, ord, g, r + 6, c2, Ad, r, cd, rfl, HFR.out, by omega, by omega, rfl, by omega, by omega, by omega, by omega, by have := HD.out; rw [HFR.out] at this; exact this, HX.out, HLX.out, HPM.out, by rw [Nat.min_eq_left (by omega)]; exact HDM.out, HT.out, HXT.out⟩
end Go.Proofs.YtlabmdekdhjofaaDoor
