/-
  Search trees on pages in memory: what Put makes of a tree (no program).
-/
import Derived.Test.YtdiocmjhencbpaaT07b
namespace Go.Proofs.Ytdiocmjhencbpaa
set_option maxRecDepth 8000
set_option linter.unusedSimpArgs false
set_option linter.unusedVariables false
open Go Xe
def takeU : (h : Nat) → Nat → Un h → Un h
  | 0, k, (es : List En) => es.take k
  | h + 1, k, (ts : List (Tn h)) => ts.take k
def dropU : (h : Nat) → Nat → Un h → Un h
  | 0, k, (es : List En) => es.drop k
  | h + 1, k, (ts : List (Tn h)) => ts.drop k
structure CutR (h : Nat) (v a b : Un h) : Prop where
  ents : entsU h a ++ entsU h b = entsU h v
  pages : pagesU h a ++ pagesU h b = pagesU h v
  laid : ∀ s, LaidU s h v → LaidU s h a ∧ LaidU s h b
  ok : okU h v → okU h a ∧ okU h b
theorem cut_spec : ∀ (h k : Nat) (v : Un h), CutR h v (takeU h k v) (dropU h k v)
  | 0, k, (es : List En) => ⟨List.take_append_drop k es, rfl, fun _ _ => ⟨trivial, trivial⟩, fun _ => ⟨trivial, trivial⟩⟩
  | h + 1, k, (ts : List (Tn h)) => ⟨by simp only [entsU, takeU, dropU]; rw [← List.flatMap_append, List.take_append_drop], by simp only [pagesU, takeU, dropU]; rw [← List.flatMap_append, List.take_append_drop],
      fun s hl => ⟨fun t ht => hl t (List.mem_of_mem_take ht), fun t ht => hl t (List.mem_of_mem_drop ht)⟩, fun hl => ⟨fun t ht => hl t (List.mem_of_mem_take ht), fun t ht => hl t (List.mem_of_mem_drop ht)⟩⟩
theorem cut_sz : ∀ (h k : Nat) (v : Un h), k ≤ szU h v → szU h (takeU h k v) = k ∧ szU h (dropU h k v) = szU h v - k
  | 0, k, (es : List En), hk => ⟨by simp only [szU, takeU] at *; rw [List.length_take]; omega, by simp only [szU, dropU]; rw [List.length_drop]⟩
  | h + 1, k, (ts : List (Tn h)), hk => ⟨by simp only [szU, takeU] at *; rw [List.length_take]; omega, by simp only [szU, dropU]; rw [List.length_drop]⟩
theorem halves_U : ∀ (h : Nat) (v : Un h), halvesN (nodeU h v) = [nodeU h (takeU h ((szU h v + 1) / 2) v), nodeU h (dropU h ((szU h v + 1) / 2) v)]
  | 0, (es : List En) => by simp [halvesN, nodeU, sizeN, szU, takeU, dropU]
  | h + 1, (ts : List (Tn h)) => by simp [halvesN, nodeU, sizeN, szU, takeU, dropU, List.map_take, List.map_drop]
structure SplitR (h : Nat) (v : Un h) (us : List (Un h)) : Prop where
  ents : us.flatMap (entsU h) = entsU h v
  pages : us.flatMap (pagesU h) = pagesU h v
  laid : ∀ s, LaidU s h v → ∀ w ∈ us, LaidU s h w
  ok : okU h v → ∀ w ∈ us, okU h w
theorem SplitR.one (h : Nat) (v : Un h) : SplitR h v [v] := ⟨by simp, by simp, fun s hl w hw => by rw [List.mem_singleton.1 hw]; exact hl, fun hl w hw => by rw [List.mem_singleton.1 hw]; exact hl⟩
theorem SplitR.two {h : Nat} {v a b : Un h} (c : CutR h v a b) : SplitR h v [a, b] := ⟨by simp [c.ents], by simp [c.pages], fun s hl w hw => by
    simp only [List.mem_cons, List.not_mem_nil, or_false] at hw
    rcases hw with rfl | rfl
    · exact (c.laid s hl).1
    · exact (c.laid s hl).2, fun hl w hw => by
    simp only [List.mem_cons, List.not_mem_nil, or_false] at hw
    rcases hw with rfl | rfl
    · exact (c.ok hl).1
    · exact (c.ok hl).2⟩
theorem split_spec (h : Nat) (v : Un h) (hs : szU h v ≤ 5) : ∃ us, splitN (nodeU h v) = us.map (nodeU h) ∧ ((us = [v] ∧ szU h v ≤ 4) ∨ ∃ v1 v2, us = [v1, v2] ∧ szU h v1 = 3 ∧ szU h v2 = 2) ∧ SplitR h v us := by
  by_cases h5 : 4 < szU h v
  · have e : splitN (nodeU h v) = halvesN (nodeU h v) := if_pos (by rw [sizeN_nodeU]; exact h5)
    obtain ⟨z1, z2⟩ := cut_sz h ((szU h v + 1) / 2) v (by omega)
    rw [e, halves_U]
    exact ⟨[takeU h ((szU h v + 1) / 2) v, dropU h ((szU h v + 1) / 2) v], rfl, .inr ⟨_, _, rfl, by omega, by omega⟩, .two (cut_spec h _ v)⟩
  · have e : splitN (nodeU h v) = [nodeU h v] := if_neg (by rw [sizeN_nodeU]; exact h5)
    rw [e]
    exact ⟨[v], rfl, .inl ⟨rfl, by omega⟩, .one h v⟩
structure PutR (s : List Nd) (h : Nat) (u : Un h) (e : En) (us : List (Un h)) (s' : List Nd) : Prop where
  ext : s <+: s'
  len : s'.length ≤ s.length + 2 * h
  laid : ∀ v ∈ us, LaidU s' h v
  ok : ∀ v ∈ us, okU h v
  ents : us.flatMap (entsU h) = insE (entsU h u) e
  one : (∃ v, us = [v] ∧ szU h u ≤ szU h v ∧ szU h v ≤ 4) ∨ ∃ v1 v2, us = [v1, v2] ∧ szU h v1 = 3 ∧ szU h v2 = 2
  fresh : newc s.length (us.flatMap (pagesU h)) = s'.length - s.length
  old : ∀ r ∈ us.flatMap (pagesU h), r.key ≤ s.length → r ∈ pagesU h u
theorem insE_len {es : List En} (h : Sorted es) (e : En) : es.length ≤ (insE es e).length ∧ (insE es e).length ≤ es.length + 1 := by
  obtain ⟨A, m, C, h1, h2, h3, h4, _, _⟩ := search_parts h e.name
  unfold insE
  rw [← h2, ← h3]
  have : es.length = A.length + m.length + C.length := by rw [h1]; simp only [List.length_append]
  simp only [List.length_append, List.length_cons, List.length_nil]
  rcases h4 with rfl | ⟨x, rfl, _⟩
  · simp at this; omega
  · simp only [List.length_cons, List.length_nil] at this; omega
theorem ents_split {h : Nat} {A C : List (Tn h)} {t : Tn h} : entsU (h + 1) (A ++ t :: C) = A.flatMap (fun t => entsU h t.2) ++ entsU h t.2 ++ C.flatMap (fun t => entsU h t.2) := by
  simp [entsU]
theorem getD_split {α : Type} {A C : List α} {t d : α} {i : Nat} (hi : A.length = i) : (A ++ t :: C).getD i d = t := by
  subst hi
  rw [List.getD_eq_getElem?_getD, List.getElem?_append_right (Nat.le_refl _), Nat.sub_self]; rfl
theorem re_split {h : Nat} {A C M : List (Tn h)} {t : Tn h} {i : Nat} (hi : A.length = i) : reN (nodeU (h + 1) (A ++ t :: C)) i (i + 1) (M.map (kidU h)) = nodeU (h + 1) (A ++ M ++ C) := by
  subst hi
  have e1 : (A ++ t :: C).take A.length = A := List.take_left
  have e2 : (A ++ t :: C).drop (A.length + 1) = C := by rw [← List.drop_drop, List.drop_left]; rfl
  simp only [reN, nodeU, ← List.map_take, ← List.map_drop]
  rw [e1, e2, List.map_append, List.map_append]
theorem put_spec : ∀ (h : Nat) {u : Un h} {s : List Nd} {r : Rf} {e : En} {k : Nat}, h < k → pageAt s r (nodeU h u) → LaidU s h u → okU h u → Sorted (entsU h u) → szU h u ≤ 4 → (h = 0 ∨ 0 < szU h u) → s.length + 2 * h ≤ 20000 →
    ∃ us s', putO heapO k s r e = (us.map (nodeU h), 0, s') ∧ PutR s h u e us s'
  | 0, (es : List En), s, r, e, k, hk, hp, _, _, hs, hz, h0, _ => by
    obtain ⟨k, rfl⟩ : ∃ q, k = q + 1 := ⟨k - 1, by omega⟩
    have hs : Sorted es := hs
    have hz : es.length ≤ 4 := hz
    have hat := at1_heap hp h0
    have hlen := insE_len hs e
    rw [putO_leaf heapO hat rfl]
    have e1 : insN (nodeU 0 es) e = nodeU 0 (insE es e) := insN_sorted hs [] e
    obtain ⟨us, h1, h2, h3⟩ := split_spec 0 (insE es e) (by show (insE es e).length ≤ 5; omega)
    rw [e1, h1]
    refine ⟨us, s, rfl, List.prefix_refl _, by omega, h3.laid s trivial, h3.ok trivial, h3.ents, ?_, ?_, ?_⟩
    · rcases h2 with ⟨h4, h5⟩ | h4
      · exact .inl ⟨_, h4, hlen.1, h5⟩
      · exact .inr h4
    · rw [h3.pages]; simp [pagesU, newc]
    · intro r hr _; rw [h3.pages] at hr; simp [pagesU] at hr
  | h + 1, (ts : List (Tn h)), s, r, e, k, hk, hp, hl, hok, hs, hz, h0, hb => by
    obtain ⟨k, rfl⟩ : ∃ q, k = q + 1 := ⟨k - 1, by omega⟩
    have h0 : 0 < ts.length := by rcases h0 with h | h; omega; exact h
    have hz : ts.length ≤ 4 := hz
    have hat := at1_heap hp (.inr h0)
    obtain ⟨A, t, C, rfl, hAl, hA, hC⟩ := below_parts (name := e.name) h0 hok hs
    have hlt := hl t (by simp)
    have hot := hok t (by simp)
    have hst : Sorted (entsU h t.2) := by
      rw [ents_split, Sorted.app, Sorted.app] at hs; exact hs.1.2.1
    obtain ⟨us, s1, h1, h2⟩ := put_spec h (e := e) (k := k) (by omega) hlt.1 hlt.2 hot.2.2 hst hot.2.1 (.inr (by omega)) (by omega)
    have hget : ((nodeU (h + 1) (A ++ t :: C)).kids.getD (belowN (nodeU (h + 1) (A ++ t :: C)).kids e.name) kd0).ref = t.1 := by
      show (((A ++ t :: C).map (kidU h)).getD (belowN ((A ++ t :: C).map (kidU h)) e.name) kd0).ref = t.1
      rw [← hAl, List.map_append, List.map_cons, getD_split (by simp)]; rfl
    have hul : us.length ≤ 2 ∧ 1 ≤ us.length := by rcases h2.one with ⟨v, rfl, _⟩ | ⟨v1, v2, rfl, _⟩ <;> simp
    have hs1 := h2.len
    have hly := layO_heap h us s1 [] (by omega)
    have hr9 : putO heapO k s ((nodeU (h + 1) (A ++ t :: C)).kids.getD (belowN (nodeU (h + 1) (A ++ t :: C)).kids e.name) kd0).ref e = (us.map (nodeU h), 0, s1) := by rw [hget]; exact h1
    rw [putO_inner heapO hat rfl hr9, if_neg (by simp), hly, if_neg (by simp)]
    have hbe : belowN (nodeU (h + 1) (A ++ t :: C)).kids e.name = A.length := hAl.symm
    rw [hbe, List.nil_append, re_split rfl]
    have hAC : A.length + C.length + 1 ≤ 4 := by simp at hz; omega
    obtain ⟨vs, h3, h4, h5⟩ := split_spec (h + 1) (A ++ laidT h s1.length us ++ C) (by show (A ++ laidT h s1.length us ++ C).length ≤ 5; simp only [List.length_append, laidT_len]; omega)
    rw [h3]
    have hpre : s1 <+: s1 ++ us.map (nodeU h) := List.prefix_append _ _
    have hext := h2.ext.trans hpre
    have hl0 : s.length ≤ s1.length := h2.ext.length_le
    have hlaid : LaidU (s1 ++ us.map (nodeU h)) (h + 1) (A ++ laidT h s1.length us ++ C) := by
      intro t' ht'
      rcases List.mem_append.1 ht' with ht' | ht'
      · rcases List.mem_append.1 ht' with ht' | ht'
        · have := hl t' (by simp [ht']); exact ⟨pageAt_mono hext this.1, LaidU_mono hext this.2⟩
        · have := laidT_mem ht'; exact ⟨this.2, LaidU_mono hpre (h2.laid _ this.1)⟩
      · have := hl t' (by simp [ht']); exact ⟨pageAt_mono hext this.1, LaidU_mono hext this.2⟩
    have husz : ∀ v ∈ us, 2 ≤ szU h v ∧ szU h v ≤ 4 := by
      rcases h2.one with ⟨v, rfl, h6, h7⟩ | ⟨v1, v2, rfl, h6, h7⟩
      · intro w hw; rw [List.mem_singleton.1 hw]; omega
      · intro w hw; simp only [List.mem_cons, List.not_mem_nil, or_false] at hw; rcases hw with rfl | rfl <;> omega
    have hokn : okU (h + 1) (A ++ laidT h s1.length us ++ C) := by
      intro t' ht'
      rcases List.mem_append.1 ht' with ht' | ht'
      · rcases List.mem_append.1 ht' with ht' | ht'
        · exact hok t' (by simp [ht'])
        · have := laidT_mem (s := s1) ht'; have h9 := husz _ this.1; exact ⟨h9.1, h9.2, h2.ok _ this.1⟩
      · exact hok t' (by simp [ht'])
    have hpg : ∀ X : List (Tn h), pagesU (h + 1) X = X.flatMap fun t => t.1 :: pagesU h t.2 := fun X => rfl
    have hkeyA : ∀ r ∈ A.flatMap (fun t => t.1 :: pagesU h t.2), r.key ≤ s.length := fun r hr => (pages_key (h := h + 1) (u := A) (fun t ht => hl t (by simp [ht])) r hr).2
    have hkeyC : ∀ r ∈ C.flatMap (fun t => t.1 :: pagesU h t.2), r.key ≤ s.length := fun r hr => (pages_key (h := h + 1) (u := C) (fun t ht => hl t (by simp [ht])) r hr).2
    refine ⟨vs, s1 ++ us.map (nodeU h), rfl, hext, by rw [List.length_append, List.length_map]; omega, h5.laid _ hlaid, h5.ok hokn, ?_, ?_, ?_, ?_⟩
    · rw [h5.ents, ents_split, insE_mid hA hC, ← h2.ents]
      simp only [entsU, List.flatMap_append]
      rw [laidT_ents]
    · rcases h4 with ⟨h6, h7⟩ | h6
      · refine .inl ⟨_, h6, ?_, h7⟩
        show (A ++ t :: C).length ≤ (A ++ laidT h s1.length us ++ C).length
        simp only [List.length_append, List.length_cons, laidT_len]; omega
      · exact .inr h6
    · rw [h5.pages, hpg, List.flatMap_append, List.flatMap_append, newc_app, newc_app, newc_old hkeyA, newc_old hkeyC, laidT_new us _ _ hl0, h2.fresh, List.length_append, List.length_map]
      omega
    · intro r hr hk
      rw [h5.pages, hpg, List.flatMap_append, List.flatMap_append] at hr
      rw [hpg, List.flatMap_append, List.flatMap_cons]
      rcases List.mem_append.1 hr with hr | hr
      · rcases List.mem_append.1 hr with hr | hr
        · exact List.mem_append.2 (.inl hr)
        · have h9 := laidT_old hl0 hr hk
          exact List.mem_append.2 (.inr (List.mem_append.2 (.inl (List.mem_cons_of_mem _ (h2.old r h9 hk)))))
      · exact List.mem_append.2 (.inr (List.mem_append.2 (.inr hr)))
end Go.Proofs.Ytdiocmjhencbpaa
