/-
  Whole search trees on pages in memory: Move; what All shows (no program).
-/
import Derived.Test.YtdiocmjhencbpaaT07e
namespace Go.Proofs.Ytdiocmjhencbpaa
set_option maxRecDepth 8000
set_option linter.unusedSimpArgs false
set_option linter.unusedVariables false
open Go Xe
/-- A row of pages ahead of a Move and behind it, of which so many are new. -/
def mvRel (segs : List Int) : List Sn → List Sn → Nat → Prop
  | [], [], n => n = 0
  | x :: xs, y :: ys, n => y.deep = x.deep ∧ y.node.leaf = x.node.leaf ∧ y.node.entries = x.node.entries ∧ y.node.kids.map Kd.low = x.node.kids.map Kd.low ∧
      ((y.ref = x.ref ∧ x.ref.seg ∉ segs ∧ mvRel segs xs ys n) ∨ (y.ref ≠ x.ref ∧ ∃ m, n = m + 1 ∧ mvRel segs xs ys m))
  | _, _, _ => False
theorem mvRel_app {segs : List Int} : ∀ {a b c d : List Sn} {n m : Nat}, mvRel segs a b n → mvRel segs c d m → mvRel segs (a ++ c) (b ++ d) (n + m)
  | [], [], _, _, n, m, h1, h2 => by simp only [mvRel] at h1; subst h1; simpa using h2
  | x :: xs, y :: ys, c, d, n, m, h1, h2 => by
    obtain ⟨e1, e2, e3, e4, h1⟩ := h1
    refine ⟨e1, e2, e3, e4, ?_⟩
    rcases h1 with ⟨e5, e6, h1⟩ | ⟨e5, q, rfl, h1⟩
    · exact .inl ⟨e5, e6, mvRel_app h1 h2⟩
    · exact .inr ⟨e5, q + m, by omega, mvRel_app h1 h2⟩
  | [], _ :: _, _, _, _, _, h1, _ => by simp [mvRel] at h1
  | _ :: _, [], _, _, _, _, h1, _ => by simp [mvRel] at h1
structure MoveR (s : List Nd) (segs : List Int) (h : Nat) (r : Rf) (u : Un h) (r' : Rf) (u' : Un h) (n : Nat) (s' : List Nd) : Prop where
  ext : s <+: s'
  cnt : s'.length = s.length + n
  most : n ≤ (pagesU h u).length + 1
  pg : pageAt s' r' (nodeU h u')
  laid : LaidU s' h u'
  ok : okU h u'
  ents : entsU h u' = entsU h u
  low : lowU h u' = lowU h u
  sz : szU h u' = szU h u
  seen : ∀ d, mvRel segs (seenU h d r u) (seenU h d r' u') n
theorem kept_refl {segs : List Int} : ∀ (h : Nat) (d : Int) (r : Rf) (u : Un h), r.seg ∉ segs → (∀ q ∈ pagesU h u, q.seg ∉ segs) → mvRel segs (seenU h d r u) (seenU h d r u) 0
  | 0, d, r, u, h1, _ => ⟨rfl, rfl, rfl, rfl, .inl ⟨rfl, h1, rfl⟩⟩
  | h + 1, d, r, (ts : List (Tn h)), h1, h2 => by
    refine ⟨rfl, rfl, rfl, rfl, .inl ⟨rfl, h1, ?_⟩⟩
    have key : ∀ us : List (Tn h), (∀ t ∈ us, t ∈ ts) → mvRel segs (us.flatMap fun t => seenU h (d + 1) t.1 t.2) (us.flatMap fun t => seenU h (d + 1) t.1 t.2) 0 := by
      intro us
      induction us with
      | nil => intro _; rfl
      | cons t us ih =>
        intro hm
        rw [List.flatMap_cons]
        have hp : ∀ q ∈ t.1 :: pagesU h t.2, q.seg ∉ segs := fun q hq => h2 q (List.mem_flatMap.2 ⟨t, hm t (by simp), hq⟩)
        exact mvRel_app (n := 0) (m := 0) (kept_refl h (d + 1) t.1 t.2 (hp _ (by simp)) (fun q hq => hp q (by simp [hq]))) (ih fun t ht => hm t (by simp [ht]))
    exact key ts fun t ht => ht
theorem move_spec (segs : List Int) : ∀ (h : Nat) {u : Un h} {s : List Nd} {r : Rf} {k : Nat}, h < k → pageAt s r (nodeU h u) → LaidU s h u → okU h u → (h = 0 ∨ 0 < szU h u) → s.length + (pagesU h u).length + 1 ≤ 20000 →
    ∃ (r' : Rf) (n : Nat) (u' : Un h) (s' : List Nd), moveO heapO segs k s r = (r', (n : Int), 0, s') ∧ MoveR s segs h r u r' u' n s' ∧ (n = 0 → u' = u ∧ r' = r)
  | 0, (es : List En), s, r, k, hk, hp, _, _, h0, hb => by
    obtain ⟨k, rfl⟩ : ∃ q, k = q + 1 := ⟨k - 1, by omega⟩
    have hat := at1_heap hp (.inl rfl)
    have hm : movesO (moveO heapO segs k) (nodeU 0 es).kids 0 s = ([], 0, 0, s) := rfl
    have e1 := moveO_ok heapO hat hm
    rw [if_neg (by simp)] at e1
    by_cases hs : r.seg ∉ segs
    · rw [if_pos ⟨rfl, hs⟩] at e1
      exact ⟨r, 0, es, s, e1, ⟨List.prefix_refl _, rfl, by omega, hp, trivial, trivial, rfl, rfl, rfl, fun d => ⟨rfl, rfl, rfl, rfl, .inl ⟨rfl, hs, rfl⟩⟩⟩, fun _ => ⟨rfl, rfl⟩⟩
    · rw [if_neg (fun hh => hs hh.2)] at e1
      have hw : wrH s ⟨(nodeU 0 es).leaf, (nodeU 0 es).entries, []⟩ = (refO s.length, 0, s ++ [nodeU 0 es]) := if_neg (by omega)
      simp only [hw] at e1
      rw [if_neg (by simp)] at e1
      have hne : refO s.length ≠ r := fun hh => by
        have := (pageAt_key hp).2.1; rw [← hh] at this; simp only [refO] at this; omega
      exact ⟨refO s.length, 1, es, s ++ [nodeU 0 es], e1, ⟨List.prefix_append _ _, by simp, by omega, pageAt_mk (by simp), trivial, trivial, rfl, rfl, rfl, fun d => ⟨rfl, rfl, rfl, rfl, .inr ⟨hne, 0, rfl, rfl⟩⟩⟩, fun h => by omega⟩
  | h + 1, (ts : List (Tn h)), s, r, k, hk, hp, hl, hok, h0, hb => by
    obtain ⟨k, rfl⟩ : ∃ q, k = q + 1 := ⟨k - 1, by omega⟩
    have h0 : 0 < ts.length := by rcases h0 with h | h; omega; exact h
    have hat := at1_heap hp (.inr h0)
    have key : ∀ (us : List (Tn h)) (c : Nat) (s1 : List Nd), (∀ t ∈ us, t ∈ ts) → s <+: s1 → s1.length + (pagesU (h + 1) us).length ≤ 20000 →
        ∃ (us' : List (Tn h)) (n : Nat) (s2 : List Nd), movesO (moveO heapO segs k) (us.map (kidU h)) (c : Int) s1 = (us'.map (kidU h), ((c + n : Nat) : Int), 0, s2) ∧ s1 <+: s2 ∧ s2.length = s1.length + n ∧ n ≤ (pagesU (h + 1) us).length ∧ LaidU s2 (h + 1) us' ∧ okU (h + 1) us' ∧
          entsU (h + 1) us' = entsU (h + 1) us ∧ us'.map (fun t => lowU h t.2) = us.map (fun t => lowU h t.2) ∧ us'.length = us.length ∧ (∀ d, mvRel segs (us.flatMap fun t => seenU h d t.1 t.2) (us'.flatMap fun t => seenU h d t.1 t.2) n) ∧ (n = 0 → us' = us) := by
      intro us
      induction us with
      | nil => intro c s1 _ _ _; exact ⟨[], 0, s1, rfl, List.prefix_refl _, rfl, by omega, fun t ht => (by cases ht), fun t ht => (by cases ht), rfl, rfl, rfl, fun d => rfl, fun _ => rfl⟩
      | cons t us ih =>
        intro c s1 hm hx hb1
        have hlt := hl t (hm t (by simp))
        have hot := hok t (hm t (by simp))
        have hpl : (pagesU (h + 1) (t :: us)).length = (pagesU h t.2).length + 1 + (pagesU (h + 1) us).length := by rw [pgs_cons, pgs_cons, List.flatMap_cons, List.length_append, List.length_cons]
        obtain ⟨r1, n1, u1, s2, e1, m1, z1⟩ := move_spec segs h (k := k) (by omega) (pageAt_mono hx hlt.1) (LaidU_mono hx hlt.2) hot.2.2 (.inr (by omega)) (by omega)
        have hm1 := m1.most
        have hc1 := m1.cnt
        obtain ⟨us', n2, s3, e2, x2, c2, l2, d2, o2, en2, lo2, le2, se2, z2⟩ := ih (c + n1) s2 (fun t ht => hm t (by simp [ht])) (hx.trans m1.ext) (by omega)
        refine ⟨(r1, u1) :: us', n1 + n2, s3, ?_, m1.ext.trans x2, by omega, by omega, ?_, ?_, ?_, ?_, by simp [le2], ?_, ?_⟩
        · have e1' : moveO heapO segs k s1 (kidU h t).ref = (r1, (n1 : Int), 0, s2) := e1
          rw [List.map_cons, movesO_cons]
          simp only [e1']
          rw [if_neg (by simp)]
          rw [show (c : Int) + (n1 : Int) = ((c + n1 : Nat) : Int) by omega]
          simp only [e2]
          rw [show c + n1 + n2 = c + (n1 + n2) by omega, List.map_cons]
          have : (kidU h (r1, u1)) = ⟨(kidU h t).low, r1⟩ := by simp only [kidU, m1.low]
          rw [this]
        · intro t' ht'
          rcases List.mem_cons.1 ht' with rfl | ht'
          · exact ⟨pageAt_mono x2 m1.pg, LaidU_mono x2 m1.laid⟩
          · exact d2 t' ht'
        · intro t' ht'
          rcases List.mem_cons.1 ht' with rfl | ht'
          · exact ⟨by rw [m1.sz]; exact hot.1, by rw [m1.sz]; exact hot.2.1, m1.ok⟩
          · exact o2 t' ht'
        · have f1 : ∀ (x : Tn h) (X : List (Tn h)), entsU (h + 1) (x :: X) = entsU h x.2 ++ entsU (h + 1) X := fun x X => List.flatMap_cons
          rw [f1, f1, en2, m1.ents]
        · rw [List.map_cons, List.map_cons, lo2, m1.low]
        · intro d
          rw [List.flatMap_cons, List.flatMap_cons]
          exact mvRel_app (m1.seen d) (se2 d)
        · intro hn
          have := z1 (by omega)
          rw [z2 (by omega), this.1, this.2]
    have hpl2 : (pagesU (h + 1) ts).length = (ts.flatMap fun t => t.1 :: pagesU h t.2).length := by rw [pgs_cons]
    obtain ⟨us', n, s2, e2, x2, c2, l2, d2, o2, en2, lo2, le2, se2, z2⟩ := key ts 0 s (fun t ht => ht) (List.prefix_refl _) (by omega)
    have hm : movesO (moveO heapO segs k) (nodeU (h + 1) ts).kids 0 s = (us'.map (kidU h), (n : Int), 0, s2) := by
      have : movesO (moveO heapO segs k) (ts.map (kidU h)) ((0 : Nat) : Int) s = _ := e2
      rw [Nat.zero_add] at this
      exact this
    have e1 := moveO_ok heapO hat hm
    rw [if_neg (by simp)] at e1
    have hlow : ∀ X Y : List (Tn h), X.map (fun t => lowU h t.2) = Y.map (fun t => lowU h t.2) → lowU (h + 1) X = lowU (h + 1) Y := by
      intro X Y hh
      cases X with
      | nil => cases Y with
        | nil => rfl
        | cons y Y => simp at hh
      | cons x X => cases Y with
        | nil => simp at hh
        | cons y Y => simp only [List.map_cons, List.cons.injEq] at hh; exact hh.1
    have hkl : ∀ X : List (Tn h), (nodeU (h + 1) X).kids.map Kd.low = X.map fun t => lowU h t.2 := fun X => by
      show (X.map (kidU h)).map Kd.low = _; rw [List.map_map]; rfl
    by_cases hs : (n : Int) = 0 ∧ r.seg ∉ segs
    · rw [if_pos hs] at e1
      have hn : n = 0 := by have := hs.1; omega
      subst hn
      obtain rfl := z2 rfl
      exact ⟨r, 0, us', s2, e1, ⟨x2, c2, by omega, pageAt_mono x2 hp, d2, o2, en2, rfl, rfl, fun d => ⟨rfl, rfl, rfl, rfl, .inl ⟨rfl, hs.2, se2 (d + 1)⟩⟩⟩, fun _ => ⟨rfl, rfl⟩⟩
    · rw [if_neg hs] at e1
      have hb2 : s2.length < 20000 := by omega
      have hw : wrH s2 ⟨(nodeU (h + 1) ts).leaf, (nodeU (h + 1) ts).entries, us'.map (kidU h)⟩ = (refO s2.length, 0, s2 ++ [nodeU (h + 1) us']) := if_neg (by omega)
      simp only [hw] at e1
      rw [if_neg (by simp)] at e1
      have hne : refO s2.length ≠ r := fun hh => by
        have h1 := (pageAt_key hp).2.1; have h2 := x2.length_le; rw [← hh] at h1; simp only [refO] at h1; omega
      refine ⟨refO s2.length, n + 1, us', s2 ++ [nodeU (h + 1) us'], e1, ⟨x2.trans (List.prefix_append _ _), by simp; omega, by omega, pageAt_mk (by simp), LaidU_mono (List.prefix_append _ _) d2, o2, en2, hlow _ _ lo2, le2, fun d => ⟨rfl, rfl, rfl, ?_, .inr ⟨hne, n, rfl, se2 (d + 1)⟩⟩⟩, fun h => by omega⟩
      show (nodeU (h + 1) us').kids.map Kd.low = (nodeU (h + 1) ts).kids.map Kd.low
      rw [hkl, hkl, lo2]
theorem seen_refs : ∀ (h : Nat) (d : Int) (r : Rf) (u : Un h), (seenU h d r u).map (·.ref) = r :: pagesU h u
  | 0, _, _, _ => rfl
  | h + 1, d, r, (ts : List (Tn h)) => by
    simp only [seenU, List.map_cons, pgs_cons]
    congr 1
    rw [List.map_flatMap]
    congr 1
    funext t
    exact seen_refs h (d + 1) t.1 t.2
theorem seen_ents : ∀ (h : Nat) (d : Int) (r : Rf) (u : Un h), ((seenU h d r u).flatMap fun x => x.node.entries) = entsU h u
  | 0, _, _, (es : List En) => by simp [seenU, nodeU, entsU]
  | h + 1, d, r, (ts : List (Tn h)) => by
    have e1 : ((seenU (h + 1) d r ts).flatMap fun x => x.node.entries) = (ts.flatMap fun t => seenU h (d + 1) t.1 t.2).flatMap fun x => x.node.entries := by simp [seenU, nodeU]
    rw [e1, List.flatMap_assoc]
    show _ = ts.flatMap fun t => entsU h t.2
    congr 1
    funext t
    exact seen_ents h (d + 1) t.1 t.2
end Go.Proofs.Ytdiocmjhencbpaa
