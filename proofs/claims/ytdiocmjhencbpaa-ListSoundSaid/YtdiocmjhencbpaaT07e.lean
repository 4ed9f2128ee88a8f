/-
  Whole search trees on pages in memory: Put, Delete, Get, All (no program).
-/
import Derived.Test.YtdiocmjhencbpaaT07d
namespace Go.Proofs.Ytdiocmjhencbpaa
set_option maxRecDepth 8000
set_option linter.unusedSimpArgs false
set_option linter.unusedVariables false
open Go Xe
structure TreeAt (s : List Nd) (root : Rf) (h : Nat) (u : Un h) : Prop where
  pg : pageAt s root (nodeU h u)
  laid : LaidU s h u
  ok : okU h u
  srt : Sorted (entsU h u)
  most : szU h u ≤ 4
  two : h = 0 ∨ 2 ≤ szU h u
theorem TreeAt.mono {s s' : List Nd} {root : Rf} {h : Nat} {u : Un h} (l : s <+: s') (t : TreeAt s root h u) : TreeAt s' root h u := ⟨pageAt_mono l t.pg, LaidU_mono l t.laid, t.ok, t.srt, t.most, t.two⟩
structure StepR (s : List Nd) (root : Rf) (h : Nat) (u : Un h) (es : List En) (extra : Nat) (s' : List Nd) (root' : Rf) (h' : Nat) (u' : Un h') : Prop where
  ext : s <+: s'
  len : s'.length ≤ s.length + extra
  tree : TreeAt s' root' h' u'
  ents : entsU h' u' = es
  fresh : newc s.length (root' :: pagesU h' u') = s'.length - s.length
  old : ∀ r ∈ root' :: pagesU h' u', r.key ≤ s.length → r ∈ root :: pagesU h u
theorem newc_cons_new {n m : Nat} {l : List Rf} (h : n ≤ m) : newc n (refO m :: l) = newc n l + 1 := by
  unfold newc
  rw [List.countP_cons_of_pos (p := fun r : Rf => decide ((n : Int) < r.key)) (decide_eq_true (show (n : Int) < (refO m).key by simp only [refO]; omega))]
theorem refO_new {n m : Nat} (h : n ≤ m) : ¬ (refO m).key ≤ n := by simp only [refO]; omega
theorem put_tree {s : List Nd} {root : Rf} {h : Nat} {u : Un h} (e : En) (t : TreeAt s root h u) (h8 : h < 8) (hb : s.length + 2 * h + 3 ≤ 20000) :
    ∃ s' root' h' u', putT heapO s root e = (root', 0, s') ∧ StepR s root h u (insE (entsU h u) e) (2 * h + 3) s' root' h' u' ∧ (h' = h ∨ h' = h + 1) := by
  obtain ⟨us, s1, h1, h2⟩ := put_spec h (e := e) (k := 8) h8 t.pg t.laid t.ok t.srt t.most (t.two.imp id (by omega)) (by omega)
  have hl0 := h2.ext.length_le
  have hl1 := h2.len
  have hsrt : Sorted (insE (entsU h u) e) := sorted_ins t.srt e
  have hold := h2.old
  have hfresh := h2.fresh
  have hents := h2.ents
  rcases h2.one with ⟨v, rfl, h3, h4⟩ | ⟨v1, v2, rfl, h3, h4⟩
  · simp only [List.flatMap_cons, List.flatMap_nil, List.append_nil] at hold hfresh hents
    have hly := layO_heap h [v] s1 [] (by simp; omega)
    refine ⟨s1 ++ [nodeU h v], refO s1.length, h, v, ?_, ⟨h2.ext.trans (List.prefix_append _ _), by simp; omega, ⟨pageAt_mk (by simp), LaidU_mono (List.prefix_append _ _) (h2.laid v (by simp)), h2.ok v (by simp), by rw [hents]; exact hsrt, h4, t.two.imp id (by omega)⟩, hents, ?_, ?_⟩, .inl rfl⟩
    · simp only [putT, h1]
      rw [if_neg (by simp), growO_succ, hly, if_neg (by simp), if_pos (by simp [laidT])]
      simp [laidT, kidU]
    · rw [newc_cons_new hl0, hfresh, List.length_append, List.length_singleton]; omega
    · intro r hr hk
      rcases List.mem_cons.1 hr with rfl | hr
      · exact absurd hk (refO_new hl0)
      · exact List.mem_cons_of_mem _ (hold r hr hk)
  · have hly := layO_heap h [v1, v2] s1 [] (by simp; omega)
    obtain ⟨X, hX⟩ : ∃ X : Un (h + 1), X = laidT h s1.length [v1, v2] := ⟨_, rfl⟩
    have hkids : (⟨false, [], (laidT h s1.length [v1, v2]).map (kidU h)⟩ : Nd) = nodeU (h + 1) X := by rw [hX]; rfl
    have hl2 : (s1 ++ [v1, v2].map (nodeU h)).length = s1.length + 2 := by simp
    have hly2 := layO_heap (h + 1) [X] (s1 ++ [v1, v2].map (nodeU h)) [] (by rw [hl2, List.length_singleton]; omega)
    have hly3 : layO heapO (s1 ++ [v1, v2].map (nodeU h)) [nodeU (h + 1) X] [] = ([⟨lowU (h + 1) X, refO (s1.length + 2 : Nat)⟩], 0, s1 ++ [v1, v2].map (nodeU h) ++ [nodeU (h + 1) X]) := hly2.trans (by rw [hl2]; rfl)
    have hp1 : s1 <+: s1 ++ [v1, v2].map (nodeU h) := List.prefix_append _ _
    have hp2 : s1 ++ [v1, v2].map (nodeU h) <+: s1 ++ [v1, v2].map (nodeU h) ++ [nodeU (h + 1) X] := List.prefix_append _ _
    have hne : entsU (h + 1) X = insE (entsU h u) e := by
      rw [hX]; show (laidT h s1.length [v1, v2]).flatMap (fun t => entsU h t.2) = _
      rw [laidT_ents]; exact hents
    have hsz : szU (h + 1) X = 2 := by rw [hX]; show (laidT h s1.length [v1, v2]).length = 2; rw [laidT_len]; rfl
    refine ⟨s1 ++ [v1, v2].map (nodeU h) ++ [nodeU (h + 1) X], refO (s1.length + 2 : Nat), h + 1, X, ?_, ⟨(h2.ext.trans hp1).trans hp2, by rw [List.length_append, hl2, List.length_singleton]; omega, ⟨?_, ?_, ?_, by rw [hne]; exact hsrt, by omega, .inr (by omega)⟩, hne, ?_, ?_⟩, .inr rfl⟩
    · simp only [putT, h1]
      rw [if_neg (by simp), growO_succ, hly, if_neg (by simp), if_neg (by simp [laidT]), List.nil_append, growO_succ, hkids, hly3, if_neg (by simp)]
      exact if_pos rfl
    · exact pageAt_mk (by rw [← hl2, List.getElem?_append_right (Nat.le_refl _), Nat.sub_self]; rfl)
    · rw [hX]
      intro t' ht'
      have := laidT_mem ht'
      rw [← hX]
      exact ⟨pageAt_mono hp2 this.2, LaidU_mono (hp1.trans hp2) (h2.laid _ this.1)⟩
    · rw [hX]
      intro t' ht'
      have := (laidT_mem (s := s1) ht').1
      refine ⟨?_, ?_, h2.ok _ this⟩ <;> (simp only [List.mem_cons, List.not_mem_nil, or_false] at this; rcases this with h9 | h9 <;> rw [h9] <;> omega)
    · rw [newc_cons_new (by omega), hX, pgs_cons, laidT_new _ _ _ hl0, hfresh, ← hX, List.length_append, hl2, List.length_singleton, List.length_cons, List.length_singleton]; omega
    · intro r hr hk
      rcases List.mem_cons.1 hr with rfl | hr
      · exact absurd hk (refO_new (by omega))
      · rw [hX, pgs_cons] at hr
        exact List.mem_cons_of_mem _ (hold r (laidT_old hl0 hr hk) hk)
theorem del_tree {s : List Nd} {root : Rf} {h : Nat} {u : Un h} (name : ByteArray) (t : TreeAt s root h u) (h8 : h < 8) (hb : s.length + 2 * h + 3 ≤ 20000) :
    ((∀ e ∈ entsU h u, e.name ≠ name) ∧ delT heapO s root name = (root, false, 0, s)) ∨ (∃ e ∈ entsU h u, e.name = name) ∧
    ∃ s' root' h' u', delT heapO s root name = (root', true, 0, s') ∧ StepR s root h u (delE (entsU h u) name) (2 * h + 2) s' root' h' u' ∧ (h' = h ∨ h = h' + 1) := by
  rcases take_spec h (name := name) (k := 8) h8 t.pg t.laid t.ok t.srt t.most t.two (by omega) with ⟨h1, x, h2⟩ | ⟨h1, v, s1, h2, h3⟩
  · exact .inl ⟨h1, by simp only [delT, h2]; rw [if_neg (by simp), if_pos trivial]⟩
  refine .inr ⟨h1, ?_⟩
  have hl0 := h3.ext.length_le
  have hl1 := h3.len
  have hmost := h3.most
  have hless := h3.less
  have htm := t.most
  by_cases hc : (nodeU h v).leaf = false ∧ (nodeU h v).kids.length = 1
  · match h, u, v, t, h2, h3, hc, hl1 with
    | 0, u, v, t, h2, h3, hc, _ => simp [nodeU] at hc
    | h + 1, u, v, t, h2, h3, hc, hl1 =>
      obtain ⟨t1, rfl⟩ : ∃ t1 : Tn h, v = [t1] := by
        have : (v : List (Tn h)).length = 1 := by
          exact Eq.trans (@List.length_map (Tn h) Kd v (kidU h)).symm hc.2
        exact List.length_eq_one_iff.1 this
      have hl1' := h3.laid t1 (by simp)
      have ho1' := h3.ok t1 (by simp)
      have hen : entsU h t1.2 = delE (entsU (h + 1) u) name := by rw [← h3.ents]; show _ = [t1].flatMap _; simp
      refine ⟨s1, t1.1, h, t1.2, ?_, ⟨h3.ext, by omega, ⟨hl1'.1, hl1'.2, ho1'.2.2, by rw [hen]; exact sorted_del t.srt _, ho1'.2.1, .inr ho1'.1⟩, hen, ?_, ?_⟩, .inr rfl⟩
      · simp only [delT, h2]
        rw [if_neg (by simp), if_neg (by simp), if_pos hc]
        rfl
      · have := h3.fresh; rw [pgs_cons] at this; simpa using this
      · intro r hr hk
        exact List.mem_cons_of_mem _ (h3.old r (by rw [pgs_cons]; simpa using hr) hk)
  · have hly := layO_heap h [v] s1 [] (by simp; omega)
    refine ⟨s1 ++ [nodeU h v], refO s1.length, h, v, ?_, ⟨h3.ext.trans (List.prefix_append _ _), by simp; omega, ⟨pageAt_mk (by simp), LaidU_mono (List.prefix_append _ _) h3.laid, h3.ok, by rw [h3.ents]; exact sorted_del t.srt _, by omega, ?_⟩, h3.ents, ?_, ?_⟩, .inl rfl⟩
    · simp only [delT, h2]
      rw [if_neg (by simp), if_neg (by simp), if_neg hc]
      have hly' : layO heapO s1 [nodeU h v] [] = _ := hly
      rw [hly', if_neg (by simp)]
      simp [laidT, kidU]
    · rcases t.two with h9 | h9
      · exact .inl h9
      · obtain rfl | ⟨h0, rfl⟩ : h = 0 ∨ ∃ q, h = q + 1 := by
          rcases Nat.eq_zero_or_pos h with h8 | h8
          · exact .inl h8
          · exact .inr ⟨h - 1, by omega⟩
        · exact .inl rfl
        · refine .inr ?_
          have : (v : List (Tn h0)).length ≠ 1 := fun h8 => hc ⟨rfl, Eq.trans (@List.length_map (Tn h0) Kd v (kidU h0)) h8⟩
          have h7 : szU (h0 + 1) v = (v : List (Tn h0)).length := rfl
          omega
    · rw [newc_cons_new hl0, h3.fresh, List.length_append, List.length_singleton]; omega
    · intro r hr hk
      rcases List.mem_cons.1 hr with rfl | hr
      · exact absurd hk (refO_new hl0)
      · exact List.mem_cons_of_mem _ (h3.old r hr hk)
theorem get_spec : ∀ (h : Nat) {u : Un h} {s : List Nd} {r : Rf} {name : ByteArray} {k : Nat}, h < k → pageAt s r (nodeU h u) → LaidU s h u → okU h u → Sorted (entsU h u) → (h = 0 ∨ 0 < szU h u) →
    getO heapO k s r name = match findE (entsU h u) name with | some e => (e, true, 0, s) | none => (en0, false, 0, s)
  | 0, (es : List En), s, r, name, k, hk, hp, _, _, hs, h0 => by
    obtain ⟨k, rfl⟩ : ∃ q, k = q + 1 := ⟨k - 1, by omega⟩
    have hs : Sorted es := hs
    have hat := at1_heap hp (.inl rfl)
    have e1 : getO heapO (k + 1) s r name = if searchB es name = true then (es.getD (searchI es name) en0, true, 0, s) else (en0, false, 0, s) := getO_leaf heapO (k := k) (name := name) hat rfl
    have e2 : findE (entsU 0 es) name = if searchB es name = true then some (es.getD (searchI es name) en0) else none := getN_sorted hs name
    rw [e1, e2]
    split <;> rfl
  | h + 1, (ts : List (Tn h)), s, r, name, k, hk, hp, hl, hok, hs, h0 => by
    obtain ⟨k, rfl⟩ : ∃ q, k = q + 1 := ⟨k - 1, by omega⟩
    have h0 : 0 < ts.length := by rcases h0 with h | h; omega; exact h
    have hat := at1_heap hp (.inr h0)
    obtain ⟨A, t, C, rfl, hAl, hA, hC⟩ := below_parts (name := name) h0 hok hs
    have hlt := hl t (by simp)
    have hot := hok t (by simp)
    have hs' := hs
    rw [ents_split, Sorted.app, Sorted.app] at hs'
    have hget : ((nodeU (h + 1) (A ++ t :: C)).kids.getD (belowN (nodeU (h + 1) (A ++ t :: C)).kids name) kd0).ref = t.1 := by
      show (((A ++ t :: C).map (kidU h)).getD (belowN ((A ++ t :: C).map (kidU h)) name) kd0).ref = t.1
      rw [← hAl, List.map_append, List.map_cons, getD_split (by simp)]; rfl
    have e1 := getO_inner heapO (k := k) (name := name) hat rfl
    rw [hget] at e1
    rw [e1, get_spec h (by omega) hlt.1 hlt.2 hot.2.2 hs'.1.2.1 (.inr (by omega))]
    have e2 : findE (entsU (h + 1) (A ++ t :: C)) name = findE (entsU h t.2) name := by
      unfold findE
      rw [ents_split, List.find?_append, List.find?_append]
      have hAn : (A.flatMap (fun t => entsU h t.2)).find? (fun e => decide (e.name = name)) = none := List.find?_eq_none.2 fun x hx => by
        intro h9; have h9 : x.name = name := by simpa using h9
        have := hA x hx; rw [h9, sl_irrefl] at this; cases this
      have hCn : (C.flatMap (fun t => entsU h t.2)).find? (fun e => decide (e.name = name)) = none := List.find?_eq_none.2 fun x hx => by
        intro h9; have h9 : x.name = name := by simpa using h9
        have := hC x hx; rw [h9, sl_irrefl] at this; cases this
      rw [hAn, hCn]; simp
    rw [e2]
theorem get_tree {s : List Nd} {root : Rf} {h : Nat} {u : Un h} (name : ByteArray) (t : TreeAt s root h u) (h8 : h < 8) :
    getO heapO 8 s root name = match findE (entsU h u) name with | some e => (e, true, 0, s) | none => (en0, false, 0, s) := get_spec h h8 t.pg t.laid t.ok t.srt (t.two.imp id (by omega))
/-- The pages of a tree, as All shows them. -/
def seenU : (h : Nat) → Int → Rf → Un h → List Sn
  | 0, d, r, u => [⟨d, r, nodeU 0 u⟩]
  | h + 1, d, r, (ts : List (Tn h)) => ⟨d, r, nodeU (h + 1) ts⟩ :: ts.flatMap fun t => seenU h (d + 1) t.1 t.2
theorem all_spec : ∀ (h : Nat) {u : Un h} {s : List Nd} {r : Rf} {k : Nat} {d : Int}, h < k → pageAt s r (nodeU h u) → LaidU s h u → okU h u → (h = 0 ∨ 0 < szU h u) → allO heapO k d s r = (seenU h d r u, 0, s)
  | 0, (es : List En), s, r, k, d, hk, hp, _, _, h0 => by
    obtain ⟨k, rfl⟩ : ∃ q, k = q + 1 := ⟨k - 1, by omega⟩
    have hat := at1_heap hp (.inl rfl)
    rw [allO_ok heapO hat (show allsO (allO heapO k (d + 1)) (nodeU 0 es).kids s = ([], 0, s) from rfl)]
    rfl
  | h + 1, (ts : List (Tn h)), s, r, k, d, hk, hp, hl, hok, h0 => by
    obtain ⟨k, rfl⟩ : ∃ q, k = q + 1 := ⟨k - 1, by omega⟩
    have h0 : 0 < ts.length := by rcases h0 with h | h; omega; exact h
    have hat := at1_heap hp (.inr h0)
    have key : ∀ (us : List (Tn h)), (∀ t ∈ us, t ∈ ts) → allsO (allO heapO k (d + 1)) (us.map (kidU h)) s = (us.flatMap fun t => seenU h (d + 1) t.1 t.2, 0, s) := by
      intro us
      induction us with
      | nil => intro _; rfl
      | cons t us ih =>
        intro hm
        have hlt := hl t (hm t (by simp))
        have hot := hok t (hm t (by simp))
        have e1 : allO heapO k (d + 1) s (kidU h t).ref = (seenU h (d + 1) t.1 t.2, 0, s) := all_spec h (by omega) hlt.1 hlt.2 hot.2.2 (.inr (by omega))
        rw [List.map_cons, allsO_cons]
        simp only [e1]
        rw [if_neg (by simp), ih (fun t ht => hm t (by simp [ht]))]
        simp
    rw [allO_ok heapO hat (key ts (fun t ht => ht)), if_neg (by simp)]
    rfl
theorem all_tree {s : List Nd} {root : Rf} {h : Nat} {u : Un h} (t : TreeAt s root h u) (h8 : h < 8) : allO heapO 8 1 s root = (seenU h 1 root u, 0, s) := all_spec h h8 t.pg t.laid t.ok (t.two.imp id (by omega))
/-- A tree of so many levels has at least so many secrets. -/
theorem ents_many : ∀ (h : Nat) (u : Un h), okU h u → szU h u * 2 ^ h ≤ (entsU h u).length
  | 0, (es : List En), _ => by show es.length * 2 ^ 0 ≤ es.length; omega
  | h + 1, (ts : List (Tn h)), hok => by
    have key : ∀ (us : List (Tn h)), (∀ t ∈ us, t ∈ ts) → us.length * 2 ^ (h + 1) ≤ (us.flatMap fun t => entsU h t.2).length := by
      intro us
      induction us with
      | nil => intro _; simp
      | cons t us ih =>
        intro hm
        have hot := hok t (hm t (by simp))
        have h1 := ents_many h t.2 hot.2.2
        have h2 := ih fun t ht => hm t (by simp [ht])
        have h3 : 2 * 2 ^ h ≤ szU h t.2 * 2 ^ h := Nat.mul_le_mul_right _ hot.1
        rw [List.flatMap_cons, List.length_append, List.length_cons, Nat.add_mul, Nat.one_mul, Nat.pow_succ]
        rw [Nat.pow_succ] at h2
        omega
    exact key ts fun t ht => ht
theorem TreeAt.low {s : List Nd} {root : Rf} {h : Nat} {u : Un h} (t : TreeAt s root h u) (hn : (entsU h u).length < 256) : h < 7 := by
  rcases t.two with h1 | h1
  · omega
  · have h2 := ents_many h u t.ok
    have h3 : 2 * 2 ^ h ≤ szU h u * 2 ^ h := Nat.mul_le_mul_right _ h1
    rcases Nat.lt_or_ge h 7 with h4 | h4
    · exact h4
    · have h5 : 2 ^ 7 ≤ 2 ^ h := Nat.pow_le_pow_right (by omega) h4
      omega
end Go.Proofs.Ytdiocmjhencbpaa
