/-
  Search trees on pages in memory: what Delete's walk makes of a tree (no program).
-/
import Derived.Test.YtdiocmjhencbpaaT07c
namespace Go.Proofs.Ytdiocmjhencbpaa
set_option maxRecDepth 8000
set_option linter.unusedSimpArgs false
set_option linter.unusedVariables false
open Go Xe
def appU : (h : Nat) → Un h → Un h → Un h
  | 0, (a : List En), (b : List En) => (a ++ b : List En)
  | h + 1, (a : List (Tn h)), (b : List (Tn h)) => (a ++ b : List (Tn h))
theorem with_U : ∀ (h : Nat) (a b : Un h), withN (nodeU h a) (nodeU h b) = nodeU h (appU h a b)
  | 0, (a : List En), (b : List En) => rfl
  | h + 1, (a : List (Tn h)), (b : List (Tn h)) => by simp [withN, nodeU, appU]
theorem app_sz : ∀ (h : Nat) (a b : Un h), szU h (appU h a b) = szU h a + szU h b
  | 0, (a : List En), (b : List En) => List.length_append
  | h + 1, (a : List (Tn h)), (b : List (Tn h)) => List.length_append
theorem app_ents : ∀ (h : Nat) (a b : Un h), entsU h (appU h a b) = entsU h a ++ entsU h b
  | 0, (a : List En), (b : List En) => rfl
  | h + 1, (a : List (Tn h)), (b : List (Tn h)) => List.flatMap_append
theorem app_pages : ∀ (h : Nat) (a b : Un h), pagesU h (appU h a b) = pagesU h a ++ pagesU h b
  | 0, (a : List En), (b : List En) => rfl
  | h + 1, (a : List (Tn h)), (b : List (Tn h)) => List.flatMap_append
theorem app_laid {s : List Nd} : ∀ {h : Nat} {a b : Un h}, LaidU s h a → LaidU s h b → LaidU s h (appU h a b)
  | 0, _, _, _, _ => trivial
  | h + 1, a, b, h1, h2 => fun t ht => (List.mem_append.1 ht).elim (h1 t) (h2 t)
theorem app_ok : ∀ {h : Nat} {a b : Un h}, okU h a → okU h b → okU h (appU h a b)
  | 0, _, _, _, _ => trivial
  | h + 1, a, b, h1, h2 => fun t ht => (List.mem_append.1 ht).elim (h1 t) (h2 t)
theorem leafU : ∀ (h : Nat) (u v : Un h), (nodeU h u).leaf = (nodeU h v).leaf
  | 0, _, _ => rfl
  | _ + 1, _, _ => rfl
theorem even_spec (h : Nat) (v : Un h) (h1 : 3 ≤ szU h v) (h2 : szU h v ≤ 5) : ∃ us, evenN (nodeU h v) = us.map (nodeU h) ∧ 1 ≤ us.length ∧ us.length ≤ 2 ∧ (∀ w ∈ us, 2 ≤ szU h w ∧ szU h w ≤ 4) ∧ SplitR h v us := by
  by_cases h5 : szU h v < 4
  · have e : evenN (nodeU h v) = [nodeU h v] := if_pos (by rw [sizeN_nodeU]; exact h5)
    rw [e]
    exact ⟨[v], rfl, by simp, by simp, fun w hw => by rw [List.mem_singleton.1 hw]; omega, .one h v⟩
  · have e : evenN (nodeU h v) = halvesN (nodeU h v) := if_neg (by rw [sizeN_nodeU]; exact h5)
    obtain ⟨z1, z2⟩ := cut_sz h ((szU h v + 1) / 2) v (by omega)
    rw [e, halves_U]
    refine ⟨[takeU h ((szU h v + 1) / 2) v, dropU h ((szU h v + 1) / 2) v], rfl, by simp, by simp, fun w hw => ?_, .two (cut_spec h _ v)⟩
    simp only [List.mem_cons, List.not_mem_nil, or_false] at hw
    rcases hw with rfl | rfl <;> omega
structure TakeR (s : List Nd) (h : Nat) (u : Un h) (name : ByteArray) (v : Un h) (s' : List Nd) : Prop where
  ext : s <+: s'
  len : s'.length ≤ s.length + 2 * h
  laid : LaidU s' h v
  ok : okU h v
  ents : entsU h v = delE (entsU h u) name
  less : szU h u ≤ szU h v + 1
  most : szU h v ≤ szU h u
  fresh : newc s.length (pagesU h v) = s'.length - s.length
  old : ∀ r ∈ pagesU h v, r.key ≤ s.length → r ∈ pagesU h u
theorem re_splits {h : Nat} {A T C M : List (Tn h)} {i j : Nat} (hi : A.length = i) (hj : i + T.length = j) : reN (nodeU (h + 1) (A ++ T ++ C)) i j (M.map (kidU h)) = nodeU (h + 1) (A ++ M ++ C) := by
  subst hi
  subst hj
  have e1 : (A ++ T ++ C).take A.length = A := by rw [List.append_assoc, List.take_left]
  have e2 : (A ++ T ++ C).drop (A.length + T.length) = C := by rw [← List.length_append, List.drop_left]
  simp only [reN, nodeU, ← List.map_take, ← List.map_drop]
  rw [e1, e2, List.map_append, List.map_append]
theorem pgs_cons {h : Nat} (X : List (Tn h)) : pagesU (h + 1) X = X.flatMap fun t => t.1 :: pagesU h t.2 := rfl
/-- Parts laid down in the place of others. -/
theorem end_spec {h : Nat} {A T C : List (Tn h)} {us : List (Un h)} {s s1 : List Nd} {name : ByteArray} {i j : Nat} (hi : A.length = i) (hj : i + T.length = j) (hl : LaidU s (h + 1) (A ++ T ++ C)) (hok : okU (h + 1) (A ++ T ++ C))
    (hA : ∀ x ∈ A.flatMap (fun t => entsU h t.2), sl x.name name = true) (hC : ∀ x ∈ C.flatMap (fun t => entsU h t.2), sl name x.name = true)
    (hx : s <+: s1) (hlen : s1.length ≤ s.length + 2 * h) (hul : ∀ v ∈ us, LaidU s1 h v) (huo : ∀ v ∈ us, okU h v) (hus : ∀ v ∈ us, 2 ≤ szU h v ∧ szU h v ≤ 4) (hue : us.flatMap (entsU h) = delE (T.flatMap fun t => entsU h t.2) name)
    (hn1 : us.length ≤ T.length) (hn2 : T.length ≤ us.length + 1) (hn3 : us.length ≤ 2) (hf : newc s.length (us.flatMap (pagesU h)) = s1.length - s.length) (ho : ∀ r ∈ us.flatMap (pagesU h), r.key ≤ s.length → r ∈ T.flatMap fun t => t.1 :: pagesU h t.2) (hb : s1.length + 2 ≤ 20000) :
    ∃ v s', endO heapO (nodeU (h + 1) (A ++ T ++ C)) i j (us.map (nodeU h), 0, s1) = (nodeU (h + 1) v, true, 0, s') ∧ TakeR s (h + 1) (A ++ T ++ C) name v s' := by
  have hly := layO_heap h us s1 [] (by omega)
  refine ⟨A ++ laidT h s1.length us ++ C, s1 ++ us.map (nodeU h), ?_, ?_⟩
  · unfold endO
    rw [if_neg (by simp)]
    dsimp only
    rw [hly, if_neg (by simp), List.nil_append, re_splits hi hj]
  have hpre : s1 <+: s1 ++ us.map (nodeU h) := List.prefix_append _ _
  have hext := hx.trans hpre
  have hl0 : s.length ≤ s1.length := hx.length_le
  have hkeyA : ∀ r ∈ A.flatMap (fun t => t.1 :: pagesU h t.2), r.key ≤ s.length := fun r hr => (pages_key (h := h + 1) (u := A) (fun t ht => hl t (by simp [ht])) r hr).2
  have hkeyC : ∀ r ∈ C.flatMap (fun t => t.1 :: pagesU h t.2), r.key ≤ s.length := fun r hr => (pages_key (h := h + 1) (u := C) (fun t ht => hl t (by simp [ht])) r hr).2
  refine ⟨hext, by rw [List.length_append, List.length_map]; omega, ?_, ?_, ?_, ?_, ?_, ?_, ?_⟩
  · intro t' ht'
    rcases List.mem_append.1 ht' with ht' | ht'
    · rcases List.mem_append.1 ht' with ht' | ht'
      · have := hl t' (by simp [ht']); exact ⟨pageAt_mono hext this.1, LaidU_mono hext this.2⟩
      · have := laidT_mem ht'; exact ⟨this.2, LaidU_mono hpre (hul _ this.1)⟩
    · have := hl t' (by simp [ht']); exact ⟨pageAt_mono hext this.1, LaidU_mono hext this.2⟩
  · intro t' ht'
    rcases List.mem_append.1 ht' with ht' | ht'
    · rcases List.mem_append.1 ht' with ht' | ht'
      · exact hok t' (by simp [ht'])
      · have := laidT_mem (s := s1) ht'; have h9 := hus _ this.1; exact ⟨h9.1, h9.2, huo _ this.1⟩
    · exact hok t' (by simp [ht'])
  · have e1 : ∀ X : List (Tn h), entsU (h + 1) X = X.flatMap fun t => entsU h t.2 := fun X => rfl
    rw [e1, e1, List.flatMap_append, List.flatMap_append, List.flatMap_append, List.flatMap_append, delE_mid hA hC, laidT_ents, hue]
  · show (A ++ T ++ C).length ≤ (A ++ laidT h s1.length us ++ C).length + 1
    simp only [List.length_append, laidT_len]; omega
  · show (A ++ laidT h s1.length us ++ C).length ≤ (A ++ T ++ C).length
    simp only [List.length_append, laidT_len]; omega
  · rw [pgs_cons, List.flatMap_append, List.flatMap_append, newc_app, newc_app, newc_old hkeyA, newc_old hkeyC, laidT_new us _ _ hl0, hf, List.length_append, List.length_map]
    omega
  · intro r hr hk
    rw [pgs_cons, List.flatMap_append, List.flatMap_append] at hr
    rw [pgs_cons, List.flatMap_append, List.flatMap_append]
    rcases List.mem_append.1 hr with hr | hr
    · rcases List.mem_append.1 hr with hr | hr
      · exact List.mem_append.2 (.inl (List.mem_append.2 (.inl hr)))
      · exact List.mem_append.2 (.inl (List.mem_append.2 (.inr (ho r (laidT_old hl0 hr hk) hk))))
    · exact List.mem_append.2 (.inr hr)
theorem take_spec : ∀ (h : Nat) {u : Un h} {s : List Nd} {r : Rf} {name : ByteArray} {k : Nat}, h < k → pageAt s r (nodeU h u) → LaidU s h u → okU h u → Sorted (entsU h u) → szU h u ≤ 4 → (h = 0 ∨ 2 ≤ szU h u) → s.length + 2 * h ≤ 20000 →
    ((∀ e ∈ entsU h u, e.name ≠ name) ∧ ∃ x, takeO heapO k s r name = (x, false, 0, s)) ∨ (∃ e ∈ entsU h u, e.name = name) ∧ ∃ v s', takeO heapO k s r name = (nodeU h v, true, 0, s') ∧ TakeR s h u name v s'
  | 0, (es : List En), s, r, name, k, hk, hp, _, _, hs, hz, h0, _ => by
    obtain ⟨k, rfl⟩ : ∃ q, k = q + 1 := ⟨k - 1, by omega⟩
    have hs : Sorted es := hs
    have hat := at1_heap hp (.inl rfl)
    obtain ⟨h1, h2, h3⟩ := takeN_sorted hs name
    have e1 := takeO_leaf heapO (k := k) (name := name) hat rfl
    by_cases hb : searchB es name = true
    · have e2 : takeO heapO (k + 1) s r name = (nodeU 0 (delE es name : List En), true, 0, s) := by
        have e3 : takeO heapO (k + 1) s r name = (⟨true, if searchB es name = true then es.eraseIdx (searchI es name) else es, []⟩, searchB es name, 0, s) := e1
        rw [e3, h1, hb]; rfl
      refine .inr ⟨h2.1 hb, (delE es name : List En), s, e2, List.prefix_refl _, by omega, trivial, trivial, rfl, ?_, ?_, ?_, ?_⟩
      · show es.length ≤ (delE es name).length + 1; have := h3 hb; omega
      · show (delE es name).length ≤ es.length; have := h3 hb; omega
      · simp [pagesU, newc]
      · intro r hr; simp [pagesU] at hr
    · have hb' : searchB es name = false := by simpa using hb
      have e2 : ∃ x, takeO heapO (k + 1) s r name = (x, false, 0, s) := by
        rw [e1]; exact ⟨_, by show (_, searchB es name, (0 : Int), s) = _; rw [hb']⟩
      exact .inl ⟨fun e he hn => hb (h2.2 ⟨e, he, hn⟩), e2⟩
  | h + 1, (ts : List (Tn h)), s, r, name, k, hk, hp, hl, hok, hs, hz, h0, hb => by
    obtain ⟨k, rfl⟩ : ∃ q, k = q + 1 := ⟨k - 1, by omega⟩
    have h0 : 2 ≤ ts.length := by rcases h0 with h | h; omega; exact h
    have hz : ts.length ≤ 4 := hz
    have hat := at1_heap hp (.inr (show 0 < ts.length by omega))
    obtain ⟨A, t, C, rfl, hAl, hA, hC⟩ := below_parts (name := name) (by omega) hok hs
    have hlt := hl t (by simp)
    have hot := hok t (by simp)
    have hs' := hs
    rw [ents_split, Sorted.app, Sorted.app] at hs'
    have hst : Sorted (entsU h t.2) := hs'.1.2.1
    have hget : ((nodeU (h + 1) (A ++ t :: C)).kids.getD (belowN (nodeU (h + 1) (A ++ t :: C)).kids name) kd0).ref = t.1 := by
      show (((A ++ t :: C).map (kidU h)).getD (belowN ((A ++ t :: C).map (kidU h)) name) kd0).ref = t.1
      rw [← hAl, List.map_append, List.map_cons, getD_split (by simp)]; rfl
    have hno : ∀ e ∈ entsU (h + 1) (A ++ t :: C), e.name = name → e ∈ entsU h t.2 := by
      intro e he hn
      rw [ents_split] at he
      rcases List.mem_append.1 he with he | he
      · rcases List.mem_append.1 he with he | he
        · have := hA e he; rw [hn, sl_irrefl] at this; cases this
        · exact he
      · have := hC e he; rw [hn, sl_irrefl] at this; cases this
    rcases take_spec h (name := name) (k := k) (by omega) hlt.1 hlt.2 hot.2.2 hst hot.2.1 (.inr hot.1) (by omega) with ⟨h1, x, h2⟩ | ⟨⟨e, he, hen⟩, v, s1, h2, h3⟩
    · refine .inl ⟨fun e he hn => h1 e (hno e he hn) hn, nd0, ?_⟩
      have hr9 : takeO heapO k s ((nodeU (h + 1) (A ++ t :: C)).kids.getD (belowN (nodeU (h + 1) (A ++ t :: C)).kids name) kd0).ref name = (x, false, 0, s) := by rw [hget]; exact h2
      exact takeO_no heapO hat rfl hr9 (.inr rfl)
    · refine .inr ⟨⟨e, by rw [ents_split]; simp [he], hen⟩, ?_⟩
      have hr9 : takeO heapO k s ((nodeU (h + 1) (A ++ t :: C)).kids.getD (belowN (nodeU (h + 1) (A ++ t :: C)).kids name) kd0).ref name = (nodeU h v, true, 0, s1) := by rw [hget]; exact h2
      have hbe : A.length = belowN (nodeU (h + 1) (A ++ t :: C)).kids name := hAl
      have hl0 := h3.ext.length_le
      have hlen1 := h3.len
      have hless := h3.less
      have hmost := h3.most
      have ho1 : ∀ r ∈ pagesU h v, r.key ≤ s.length → r ∈ [t].flatMap fun t => t.1 :: pagesU h t.2 := fun r hr hk => by
        simp only [List.flatMap_cons, List.flatMap_nil, List.append_nil]; exact List.mem_cons_of_mem _ (h3.old r hr hk)
      have hkl : (nodeU (h + 1) (A ++ t :: C)).kids.length = A.length + C.length + 1 := by
        show ((A ++ t :: C).map (kidU h)).length = _; simp only [List.length_map, List.length_append, List.length_cons]; omega
      have htl : (A ++ t :: C).length = A.length + C.length + 1 := by simp only [List.length_append, List.length_cons]; omega
      by_cases hc : szU h v < 2
      · have hc' : sizeN (nodeU h v) < 2 ∧ 1 < (nodeU (h + 1) (A ++ t :: C)).kids.length := ⟨by rw [sizeN_nodeU]; exact hc, by rw [hkl]; omega⟩
        rw [takeO_level heapO hat rfl hbe hr9 hc', hkl]
        obtain ⟨q, rfl⟩ : ∃ q, k = q + 1 := ⟨k - 1, by omega⟩
        match hCe : C with
        | t2 :: C0 =>
          have hmin : min A.length (A.length + (t2 :: C0).length + 1 - 2) = A.length := by simp only [List.length_cons]; omega
          rw [hmin]
          have hlt2 := hl t2 (by simp)
          have hot2 := hok t2 (by simp)
          have hg2 : ((nodeU (h + 1) (A ++ t :: t2 :: C0)).kids.getD (2 * A.length + 1 - A.length) kd0).ref = t2.1 := by
            show (((A ++ t :: t2 :: C0).map (kidU h)).getD (2 * A.length + 1 - A.length) kd0).ref = t2.1
            rw [List.append_cons, List.map_append, List.map_cons, getD_split (by simp; omega)]; rfl
          have hat2 : atO heapO (q + 1) s1 ((nodeU (h + 1) (A ++ t :: t2 :: C0)).kids.getD (2 * A.length + 1 - A.length) kd0).ref = (nodeU h t2.2, 0, s1) := by
            rw [hg2]; exact at1_heap (pageAt_mono h3.ext hlt2.1) (.inr (by omega))
          rw [levelO_ok heapO hat2 (leafU h _ _), if_neg (by omega), with_U]
          obtain ⟨us, e1, e2, e3, e4, e5⟩ := even_spec h (appU h v t2.2) (by rw [app_sz]; omega) (by rw [app_sz]; omega)
          rw [e1]
          have hre : A ++ t :: t2 :: C0 = A ++ [t, t2] ++ C0 := by simp
          rw [hre] at hl hok ⊢
          have hCt : ∀ x ∈ entsU h t2.2, sl name x.name = true := fun x hx => hC x (by simp [hx])
          refine end_spec rfl rfl hl hok hA (fun x hx => hC x (by simp only [List.flatMap_cons]; exact List.mem_append.2 (.inr hx))) h3.ext hlen1 (e5.laid _ (app_laid h3.laid (LaidU_mono h3.ext hlt2.2))) (e5.ok (app_ok h3.ok hot2.2.2)) e4 ?_ e3 (by simp; omega) e3 ?_ ?_ (by omega)
          · have := delE_mid (X := []) (Y := entsU h t.2) (Z := entsU h t2.2) (name := name) (by simp) hCt
            simp only [List.nil_append] at this
            rw [e5.ents, app_ents, h3.ents]; simp only [List.flatMap_cons, List.flatMap_nil, List.append_nil]; exact this.symm
          · rw [e5.pages, app_pages, newc_app, h3.fresh, newc_old (fun r hr => (pages_key hlt2.2 r hr).2)]; rfl
          · intro r hr hk
            rw [e5.pages, app_pages] at hr
            simp only [List.flatMap_cons, List.flatMap_nil, List.append_nil]
            rcases List.mem_append.1 hr with hr | hr
            · exact List.mem_append.2 (.inl (List.mem_cons_of_mem _ (h3.old r hr hk)))
            · exact List.mem_append.2 (.inr (List.mem_cons_of_mem _ hr))
        | [] =>
          obtain ⟨A0, t2, rfl⟩ : ∃ A0 t2, A = A0 ++ [t2] := ⟨A.dropLast, A.getLast (by rintro rfl; simp at h0), (List.dropLast_concat_getLast _).symm⟩
          have hmin : min (A0 ++ [t2]).length ((A0 ++ [t2]).length + ([] : List (Tn h)).length + 1 - 2) = A0.length := by simp
          have hAl2 : (A0 ++ [t2]).length = A0.length + 1 := by simp
          rw [hmin]
          have hlt2 := hl t2 (by simp)
          have hot2 := hok t2 (by simp)
          have hg2 : ((nodeU (h + 1) (A0 ++ [t2] ++ t :: [])).kids.getD (2 * A0.length + 1 - (A0 ++ [t2]).length) kd0).ref = t2.1 := by
            show (((A0 ++ [t2] ++ t :: []).map (kidU h)).getD (2 * A0.length + 1 - (A0 ++ [t2]).length) kd0).ref = t2.1
            rw [List.append_assoc, List.map_append, List.singleton_append, List.map_cons, getD_split (by simp; omega)]; rfl
          have hat2 : atO heapO (q + 1) s1 ((nodeU (h + 1) (A0 ++ [t2] ++ t :: [])).kids.getD (2 * A0.length + 1 - (A0 ++ [t2]).length) kd0).ref = (nodeU h t2.2, 0, s1) := by
            rw [hg2]; exact at1_heap (pageAt_mono h3.ext hlt2.1) (.inr (by omega))
          rw [levelO_ok heapO hat2 (leafU h _ _), if_pos (by omega), with_U]
          obtain ⟨us, e1, e2, e3, e4, e5⟩ := even_spec h (appU h t2.2 v) (by rw [app_sz]; omega) (by rw [app_sz]; omega)
          rw [e1]
          have hre : A0 ++ [t2] ++ t :: [] = A0 ++ [t2, t] ++ [] := by simp
          rw [hre] at hl hok ⊢
          have hCt : ∀ x ∈ entsU h t2.2, sl x.name name = true := fun x hx => hA x (by simp [hx])
          refine end_spec rfl rfl hl hok (fun x hx => hA x (by rw [List.flatMap_append]; exact List.mem_append.2 (.inl hx))) (by simp) h3.ext hlen1 (e5.laid _ (app_laid (LaidU_mono h3.ext hlt2.2) h3.laid)) (e5.ok (app_ok hot2.2.2 h3.ok)) e4 ?_ e3 (by simp; omega) e3 ?_ ?_ (by omega)
          · have := delE_mid (X := entsU h t2.2) (Y := entsU h t.2) (Z := []) (name := name) hCt (by simp)
            simp only [List.append_nil] at this
            rw [e5.ents, app_ents, h3.ents]; simp only [List.flatMap_cons, List.flatMap_nil, List.append_nil]; exact this.symm
          · rw [e5.pages, app_pages, newc_app, h3.fresh, newc_old (fun r hr => (pages_key hlt2.2 r hr).2)]; omega
          · intro r hr hk
            rw [e5.pages, app_pages] at hr
            simp only [List.flatMap_cons, List.flatMap_nil, List.append_nil]
            rcases List.mem_append.1 hr with hr | hr
            · exact List.mem_append.2 (.inl (List.mem_cons_of_mem _ hr))
            · exact List.mem_append.2 (.inr (List.mem_cons_of_mem _ (h3.old r hr hk)))
      · have hc' : ¬ (sizeN (nodeU h v) < 2 ∧ 1 < (nodeU (h + 1) (A ++ t :: C)).kids.length) := fun hh => hc (by rw [← sizeN_nodeU]; exact hh.1)
        rw [takeO_plain heapO hat rfl hbe hr9 hc']
        have hre : A ++ t :: C = A ++ [t] ++ C := by simp
        rw [hre] at hl hok ⊢
        refine end_spec (us := [v]) rfl rfl hl hok hA hC h3.ext hlen1 (fun w hw => by rw [List.mem_singleton.1 hw]; exact h3.laid) (fun w hw => by rw [List.mem_singleton.1 hw]; exact h3.ok) (fun w hw => by rw [List.mem_singleton.1 hw]; have := hot.2.1; omega) ?_ (by simp) (by simp) (by simp) ?_ ?_ (by omega)
        · simp only [List.flatMap_cons, List.flatMap_nil, List.append_nil]; exact h3.ents
        · simp only [List.flatMap_cons, List.flatMap_nil, List.append_nil]; exact h3.fresh
        · intro r hr hk; simp only [List.flatMap_cons, List.flatMap_nil, List.append_nil] at hr; exact ho1 r hr hk
end Go.Proofs.Ytdiocmjhencbpaa
