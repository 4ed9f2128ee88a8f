/-
  Search trees on pages in memory: their shape, and what lies where (no program).
-/
import Derived.Test.YtdiocmjhencbpaaT07a
namespace Go.Proofs.Ytdiocmjhencbpaa
set_option maxRecDepth 8000
set_option linter.unusedSimpArgs false
set_option linter.unusedVariables false
open Go Xe
/-- A page holds a node. -/
def pageAt (s : List Nd) (r : Rf) (n : Nd) : Prop := rdH s r = (n, 0, s)
theorem pageAt_key {s : List Nd} {r : Rf} {n : Nd} (h : pageAt s r n) : 1 ≤ r.key ∧ r.key ≤ s.length ∧ refO (r.key - 1) = r ∧ s[(r.key - 1).toNat]? = some n := by
  unfold pageAt rdH at h
  split at h
  · rename_i hh
    refine ⟨hh.1, hh.2.1, hh.2.2, ?_⟩
    have hlt : (r.key - 1).toNat < s.length := by omega
    simp only [Prod.mk.injEq, List.getD_eq_getElem?_getD, List.getElem?_eq_getElem hlt, Option.getD_some] at h
    rw [List.getElem?_eq_getElem hlt, h.1]
  · simp at h
theorem pageAt_mk {s : List Nd} {i : Nat} {n : Nd} (h : s[i]? = some n) : pageAt s (refO i) n := by
  have hlt := (List.getElem?_eq_some_iff.1 h).1
  unfold pageAt rdH
  rw [if_pos ⟨by simp only [refO]; omega, by simp only [refO]; omega, by simp only [refO, Int.add_sub_cancel]⟩]
  simp only [refO, Int.add_sub_cancel, Int.toNat_natCast, List.getD_eq_getElem?_getD, h, Option.getD_some]
theorem pageAt_mono {s s' : List Nd} {r : Rf} {n : Nd} (l : s <+: s') (h : pageAt s r n) : pageAt s' r n := by
  obtain ⟨t, rfl⟩ := l
  obtain ⟨h1, h2, h3, h4⟩ := pageAt_key h
  have h5 : (s ++ t)[(r.key - 1).toNat]? = some n := by rw [List.getElem?_append_left (by omega)]; exact h4
  have := pageAt_mk h5
  rwa [show (((r.key - 1).toNat : Nat) : Int) = r.key - 1 by omega, h3] at this
/-- A node that is not laid down, of so many levels below it: its secrets, or its kids with where they lie. -/
def Un : Nat → Type
  | 0 => List En
  | h + 1 => List (Rf × Un h)
abbrev Tn (h : Nat) := Rf × Un h
def lowU : (h : Nat) → Un h → ByteArray
  | 0, (es : List En) => match es with | e :: _ => e.name | [] => ByteArray.empty
  | h + 1, (ts : List (Tn h)) => match ts with | t :: _ => lowU h t.2 | [] => ByteArray.empty
def kidU (h : Nat) (t : Tn h) : Kd := ⟨lowU h t.2, t.1⟩
def nodeU : (h : Nat) → Un h → Nd
  | 0, (es : List En) => ⟨true, es, []⟩
  | h + 1, (ts : List (Tn h)) => ⟨false, [], ts.map (kidU h)⟩
def entsU : (h : Nat) → Un h → List En
  | 0, (es : List En) => es
  | h + 1, (ts : List (Tn h)) => ts.flatMap fun t => entsU h t.2
def szU : (h : Nat) → Un h → Nat
  | 0, (es : List En) => es.length
  | h + 1, (ts : List (Tn h)) => ts.length
def pagesU : (h : Nat) → Un h → List Rf
  | 0, _ => []
  | h + 1, (ts : List (Tn h)) => ts.flatMap fun t => t.1 :: pagesU h t.2
def LaidU (s : List Nd) : (h : Nat) → Un h → Prop
  | 0, _ => True
  | h + 1, (ts : List (Tn h)) => ∀ t ∈ ts, pageAt s t.1 (nodeU h t.2) ∧ LaidU s h t.2
def okU : (h : Nat) → Un h → Prop
  | 0, _ => True
  | h + 1, (ts : List (Tn h)) => ∀ t ∈ ts, 2 ≤ szU h t.2 ∧ szU h t.2 ≤ 4 ∧ okU h t.2
theorem lowN_nodeU : ∀ (h : Nat) (u : Un h), lowN (nodeU h u) = lowU h u
  | 0, (es : List En) => by cases es <;> rfl
  | h + 1, (ts : List (Tn h)) => by cases ts <;> rfl
theorem sizeN_nodeU : ∀ (h : Nat) (u : Un h), sizeN (nodeU h u) = szU h u
  | 0, (es : List En) => rfl
  | h + 1, (ts : List (Tn h)) => by simp [sizeN, nodeU, szU]
theorem LaidU_mono {s s' : List Nd} (l : s <+: s') : ∀ {h : Nat} {u : Un h}, LaidU s h u → LaidU s' h u
  | 0, _, _ => trivial
  | h + 1, ts, hl => fun t ht => ⟨pageAt_mono l (hl t ht).1, LaidU_mono l (hl t ht).2⟩
theorem low_head : ∀ {h : Nat} {u : Un h}, 0 < szU h u → okU h u → ∃ e es, entsU h u = e :: es ∧ lowU h u = e.name
  | 0, es, h1, _ => by
    cases (es : List En) with
    | nil => simp [szU] at h1
    | cons e es => exact ⟨e, es, rfl, rfl⟩
  | h + 1, ts, h1, h2 => by
    match (ts : List (Tn h)), h1, h2 with
    | t :: ts, h1, h2 =>
      obtain ⟨h3, _, h5⟩ := h2 t (by simp)
      obtain ⟨e, es, h6, h7⟩ := low_head (by omega) h5
      exact ⟨e, es ++ ts.flatMap fun t => entsU h t.2, by simp [entsU, h6], by simp [lowU, h7]⟩
theorem pages_key {s : List Nd} : ∀ {h : Nat} {u : Un h}, LaidU s h u → ∀ r ∈ pagesU h u, 1 ≤ r.key ∧ r.key ≤ s.length
  | 0, _, _, r, hr => by simp [pagesU] at hr
  | h + 1, ts, hl, r, hr => by
    obtain ⟨t, ht, hr⟩ := List.mem_flatMap.1 hr
    rcases List.mem_cons.1 hr with rfl | hr
    · have := pageAt_key (hl t ht).1; exact ⟨this.1, this.2.1⟩
    · exact pages_key (hl t ht).2 r hr
/-- How many of some pages are new ones. -/
def newc (n : Nat) (l : List Rf) : Nat := l.countP fun r => decide ((n : Int) < r.key)
theorem newc_app (n : Nat) (a b : List Rf) : newc n (a ++ b) = newc n a + newc n b := List.countP_append
theorem newc_old {n : Nat} {l : List Rf} (h : ∀ r ∈ l, r.key ≤ n) : newc n l = 0 := by
  unfold newc
  rw [List.countP_eq_zero]
  intro r hr; have := h r hr; simp; omega
/-- Nodes that are laid down one behind the other. -/
def laidT (h : Nat) : Nat → List (Un h) → List (Tn h)
  | _, [] => []
  | n, u :: us => (refO n, u) :: laidT h (n + 1) us
theorem laidT_len (h : Nat) : ∀ (us : List (Un h)) (n : Nat), (laidT h n us).length = us.length
  | [], _ => rfl
  | u :: us, n => by simp [laidT, laidT_len h us]
theorem layO_heap (h : Nat) : ∀ (us : List (Un h)) (s : List Nd) (acc : List Kd), s.length + us.length ≤ 20000 → layO heapO s (us.map (nodeU h)) acc = (acc ++ (laidT h s.length us).map (kidU h), 0, s ++ us.map (nodeU h))
  | [], s, acc, _ => by simp [layO, laidT]
  | u :: us, s, acc, hb => by
    simp only [List.length_cons] at hb
    have hw : wrH s (nodeU h u) = (refO s.length, 0, s ++ [nodeU h u]) := if_neg (by omega)
    rw [List.map_cons, layO_cons]
    simp only [hw]
    rw [if_neg (by simp), layO_heap h us _ _ (by simp; omega)]
    simp [laidT, kidU, lowN_nodeU]
theorem laidT_mem {h : Nat} : ∀ {us : List (Un h)} {s : List Nd} {t : Tn h}, t ∈ laidT h s.length us → t.2 ∈ us ∧ pageAt (s ++ us.map (nodeU h)) t.1 (nodeU h t.2)
  | [], _, _, ht => by simp [laidT] at ht
  | u :: us, s, t, ht => by
    simp only [laidT, List.mem_cons] at ht
    rcases ht with rfl | ht
    · refine ⟨by simp, pageAt_mk ?_⟩
      rw [List.getElem?_append_right (Nat.le_refl _), Nat.sub_self]; rfl
    · have := laidT_mem (us := us) (s := s ++ [nodeU h u]) (t := t) (by simpa using ht)
      refine ⟨by simp [this.1], ?_⟩
      rw [List.map_cons, List.append_cons]; exact this.2
theorem laidT_ents (h : Nat) : ∀ (us : List (Un h)) (n : Nat), ((laidT h n us).flatMap fun t => entsU h t.2) = us.flatMap (entsU h)
  | [], _ => rfl
  | u :: us, n => by simp only [laidT, List.flatMap_cons]; rw [laidT_ents h us]
theorem laidT_new {h : Nat} : ∀ (us : List (Un h)) (n m : Nat), n ≤ m → newc n ((laidT h m us).flatMap fun t => t.1 :: pagesU h t.2) = us.length + newc n (us.flatMap (pagesU h))
  | [], _, _, _ => rfl
  | u :: us, n, m, hn => by
    simp only [laidT, List.flatMap_cons, newc_app, List.length_cons]
    rw [laidT_new us n (m + 1) (by omega)]
    have : newc n (refO m :: pagesU h u) = 1 + newc n (pagesU h u) := by
      unfold newc
      rw [List.countP_cons_of_pos (p := fun r : Rf => decide ((n : Int) < r.key)) (decide_eq_true (show (n : Int) < (refO m).key by simp only [refO]; omega)), Nat.add_comm]
    rw [this]; omega
theorem laidT_old {h : Nat} : ∀ {us : List (Un h)} {n m : Nat} {r : Rf}, n ≤ m → r ∈ ((laidT h m us).flatMap fun t => t.1 :: pagesU h t.2) → r.key ≤ n → r ∈ us.flatMap (pagesU h)
  | [], _, _, _, _, hr, _ => by simp [laidT] at hr
  | u :: us, n, m, r, hn, hr, hk => by
    simp only [laidT, List.flatMap_cons, List.mem_append, List.mem_cons] at hr ⊢
    rcases hr with (rfl | hr) | hr
    · simp only [refO] at hk; omega
    · exact .inl hr
    · exact .inr (laidT_old (by omega) hr hk)
theorem at1_heap {s : List Nd} {r : Rf} {h : Nat} {u : Un h} (hp : pageAt s r (nodeU h u)) (h0 : h = 0 ∨ 0 < szU h u) : at1 heapO s r = (nodeU h u, 0, s) := by
  unfold at1
  have hp : rdH s r = (nodeU h u, 0, s) := hp
  simp only [hp]
  rw [if_neg (by simp), if_neg]
  rintro ⟨hl, hk⟩
  match h, u, hl, hk, h0 with
  | 0, es, hl, _, _ => simp [nodeU] at hl
  | h + 1, ts, _, hk, h0 =>
    rcases h0 with h0 | h0
    · omega
    · have hk : List.map (kidU h) (ts : List (Tn h)) = [] := hk
      have hk := List.map_eq_nil_iff.1 hk
      simp only [szU] at h0
      rw [hk] at h0; simp at h0
/-! ### The kid below which a name belongs -/
theorem belowGo_spec (ks : List Kd) (name : ByteArray) : ∀ n, (∀ j, belowGo ks name n < j → j ≤ n → sl name (ks.getD j kd0).low = true) ∧ (0 < belowGo ks name n → sl name (ks.getD (belowGo ks name n) kd0).low = false)
  | 0 => ⟨fun j h1 h2 => by simp [belowGo] at h1; omega, fun h => by simp [belowGo] at h⟩
  | n + 1 => by
    obtain ⟨h1, h2⟩ := belowGo_spec ks name n
    simp only [belowGo]
    split
    · rename_i h3
      refine ⟨fun j hj1 hj2 => ?_, h2⟩
      by_cases hj : j = n + 1
      · rw [hj]; exact h3
      · exact h1 j hj1 (by omega)
    · rename_i h3
      exact ⟨fun j hj1 hj2 => by omega, fun _ => by simpa using h3⟩
theorem flat_split {α β : Type} {ts : List α} {f : α → List β} {i : Nat} (h : i < ts.length) : ts.flatMap f = (ts.take i).flatMap f ++ (f ts[i] ++ (ts.drop (i + 1)).flatMap f) := by
  rw [← List.flatMap_cons, ← List.drop_eq_getElem_cons h, ← List.flatMap_append, List.take_append_drop]
/-- A row of trees falls into what lies ahead of a name, the tree in which it belongs, and what lies behind. -/
theorem below_parts {h : Nat} {ts : List (Tn h)} {name : ByteArray} (hn : 0 < ts.length) (hok : okU (h + 1) ts) (hs : Sorted (entsU (h + 1) ts)) :
    ∃ A t C, ts = A ++ t :: C ∧ A.length = belowN (ts.map (kidU h)) name ∧ (∀ x ∈ A.flatMap (fun t => entsU h t.2), sl x.name name = true) ∧ (∀ x ∈ C.flatMap (fun t => entsU h t.2), sl name x.name = true) := by
  have hlt : belowN (ts.map (kidU h)) name < ts.length := by simpa using belowN_lt (ks := ts.map (kidU h)) (by simpa using hn) name
  obtain ⟨i, hi⟩ : ∃ i, i = belowN (ts.map (kidU h)) name := ⟨_, rfl⟩
  rw [← hi] at hlt ⊢
  obtain ⟨b1, b2⟩ := belowGo_spec (ts.map (kidU h)) name ((ts.map (kidU h)).length - 1)
  have hi' : i = belowGo (ts.map (kidU h)) name ((ts.map (kidU h)).length - 1) := hi
  rw [← hi'] at b1 b2
  have hg : ∀ j (hj : j < ts.length), ((ts.map (kidU h)).getD j kd0).low = lowU h ts[j].2 := by
    intro j hj
    rw [List.getD_eq_getElem?_getD, List.getElem?_map, List.getElem?_eq_getElem hj]; rfl
  have hsplit : ts = ts.take i ++ ts[i] :: ts.drop (i + 1) := by rw [← List.drop_eq_getElem_cons hlt, List.take_append_drop]
  refine ⟨ts.take i, ts[i], ts.drop (i + 1), hsplit, by rw [List.length_take]; omega, ?_, ?_⟩
  · intro x hx
    have hi0 : 0 < i := by
      rcases Nat.eq_zero_or_pos i with h0 | h0
      · rw [h0] at hx; simp at hx
      · exact h0
    have hlow := b2 hi0
    rw [hg i hlt] at hlow
    obtain ⟨h3, _, h5⟩ := hok ts[i] (List.getElem_mem hlt)
    obtain ⟨e, es, h6, h7⟩ := low_head (by omega) h5
    have hs' : Sorted ((ts.take i).flatMap (fun t => entsU h t.2) ++ (ts[i] :: ts.drop (i + 1)).flatMap (fun t => entsU h t.2)) := by
      rw [← List.flatMap_append, ← hsplit]; exact hs
    have hxe : sl x.name e.name = true := (Sorted.app.1 hs').2.2 x hx e (List.mem_flatMap.2 ⟨ts[i], List.mem_cons_self, by rw [h6]; simp⟩)
    rw [h7] at hlow
    rcases sl_or (a := e.name) (b := name) with h8 | h8 | h8
    · exact sl_trans hxe h8
    · rw [← h8]; exact hxe
    · rw [hlow] at h8; cases h8
  · intro x hx
    obtain ⟨t, ht, hx⟩ := List.mem_flatMap.1 hx
    obtain ⟨j, hj, rfl⟩ := List.mem_iff_getElem.1 ht
    rw [List.length_drop] at hj
    have hlow := b1 (i + 1 + j) (by omega) (by simp; omega)
    rw [hg (i + 1 + j) (by omega)] at hlow
    rw [List.getElem_drop] at hx
    obtain ⟨h3, _, h5⟩ := hok ts[i + 1 + j] (List.getElem_mem _)
    obtain ⟨e, es, h6, h7⟩ := low_head (by omega) h5
    rw [h7] at hlow
    rw [h6] at hx
    rcases List.mem_cons.1 hx with rfl | hx
    · exact hlow
    · have hse : Sorted (entsU h ts[i + 1 + j].2) := by
        have : (entsU h ts[i + 1 + j].2).Sublist (entsU (h + 1) ts) := by
          have h10 : entsU (h + 1) ts = (ts.take (i + 1 + j)).flatMap (fun t => entsU h t.2) ++ (entsU h ts[i + 1 + j].2 ++ (ts.drop (i + 1 + j + 1)).flatMap (fun t => entsU h t.2)) := flat_split (f := fun t : Tn h => entsU h t.2) (by omega)
          rw [h10]
          exact (List.sublist_append_left _ _).trans (List.sublist_append_right _ _)
        exact hs.sublist this
      rw [h6] at hse
      exact sl_trans hlow ((List.pairwise_cons.1 hse).1 x hx)
theorem insE_mid {X Y Z : List En} {e : En} (hX : ∀ x ∈ X, sl x.name e.name = true) (hZ : ∀ x ∈ Z, sl e.name x.name = true) : insE (X ++ Y ++ Z) e = X ++ insE Y e ++ Z := by
  unfold insE
  rw [List.filter_append, List.filter_append, List.filter_append, List.filter_append, filter_all (l := X) (p := ltE e.name) hX, filter_none (l := Z) (p := ltE e.name) (fun x hx => sl_asymm (hZ x hx)), filter_none (l := X) (p := gtE e.name) (fun x hx => sl_asymm (hX x hx)), filter_all (l := Z) (p := gtE e.name) hZ]
  simp
theorem delE_mid {X Y Z : List En} {name : ByteArray} (hX : ∀ x ∈ X, sl x.name name = true) (hZ : ∀ x ∈ Z, sl name x.name = true) : delE (X ++ Y ++ Z) name = X ++ delE Y name ++ Z := by
  unfold delE
  rw [List.filter_append, List.filter_append, List.filter_append, List.filter_append, filter_all (l := X) (p := ltE name) hX, filter_none (l := Z) (p := ltE name) (fun x hx => sl_asymm (hZ x hx)), filter_none (l := X) (p := gtE name) (fun x hx => sl_asymm (hX x hx)), filter_all (l := Z) (p := gtE name) hZ]
  simp
end Go.Proofs.Ytdiocmjhencbpaa
