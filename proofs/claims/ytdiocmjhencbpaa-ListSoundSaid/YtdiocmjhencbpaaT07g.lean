/-
  A call's step at a whole tree, and what it lays down anew (no program).
-/
import Derived.Test.YtdiocmjhencbpaaT07f
namespace Go.Proofs.Ytdiocmjhencbpaa
set_option maxRecDepth 8000
set_option linter.unusedSimpArgs false
set_option linter.unusedVariables false
open Go Xe
theorem StepR.more {s : List Nd} {root : Rf} {h : Nat} {u : Un h} {es : List En} {a b : Nat} {s' : List Nd} {root' : Rf} {h' : Nat} {u' : Un h'} (st : StepR s root h u es a s' root' h' u') (hab : a ≤ b) : StepR s root h u es b s' root' h' u' :=
  ⟨st.ext, Nat.le_trans st.len (by omega), st.tree, st.ents, st.fresh, st.old⟩
theorem StepR.same {s : List Nd} {root : Rf} {h : Nat} {u : Un h} (t : TreeAt s root h u) (b : Nat) : StepR s root h u (entsU h u) b s root h u :=
  ⟨List.prefix_refl _, by omega, t, rfl, by
    rw [newc_old (fun r hr => ?_)]; omega
    rcases List.mem_cons.1 hr with rfl | hr
    · exact (pageAt_key t.pg).2.1
    · exact (pages_key t.laid r hr).2, fun r hr _ => hr⟩
theorem step_put {s : List Nd} {root : Rf} {h : Nat} {u : Un h} (e : En) (t : TreeAt s root h u) (hn : (entsU h u).length < 255) (hb : s.length + 17 ≤ 20000) :
    ∃ s' root' h' u', putT heapO s root e = (root', 0, s') ∧ StepR s root h u (insE (entsU h u) e) (2 * h + 3) s' root' h' u' ∧ (h' = h ∨ h' = h + 1) ∧ h < 7 := by
  have h7 := t.low (by omega)
  obtain ⟨s', root', h', u', h1, h2, h3⟩ := put_tree e t (by omega) (by omega)
  exact ⟨s', root', h', u', h1, h2, h3, h7⟩
theorem delE_len (es : List En) (name : ByteArray) : (delE es name).length ≤ es.length := by
  unfold delE
  rw [List.length_append]
  have : ∀ l : List En, (l.filter (ltE name)).length + (l.filter (gtE name)).length ≤ l.length := by
    intro l
    induction l with
    | nil => simp
    | cons x l ih =>
      by_cases h1 : ltE name x = true
      · have h2 := lt_not_gt h1
        rw [List.filter_cons_of_pos h1, List.filter_cons_of_neg (by rw [h2]; simp)]
        simp only [List.length_cons]; omega
      · rw [List.filter_cons_of_neg h1]
        by_cases h2 : gtE name x = true
        · rw [List.filter_cons_of_pos h2]; simp only [List.length_cons]; omega
        · rw [List.filter_cons_of_neg h2]; simp only [List.length_cons]; omega
  exact this es
theorem delE_none {es : List En} (h : Sorted es) {name : ByteArray} (hn : ∀ e ∈ es, e.name ≠ name) : delE es name = es := by
  obtain ⟨h1, h2, _⟩ := takeN_sorted h name
  rw [← h1, if_neg]
  intro hb
  obtain ⟨e, he, hen⟩ := h2.1 hb
  exact hn e he hen
theorem step_del {s : List Nd} {root : Rf} {h : Nat} {u : Un h} (name : ByteArray) (t : TreeAt s root h u) (hn : (entsU h u).length < 255) (hb : s.length + 17 ≤ 20000) :
    ∃ b s' root' h' u', delT heapO s root name = (root', b, 0, s') ∧ StepR s root h u (delE (entsU h u) name) (2 * h + 2) s' root' h' u' ∧ (h' = h ∨ h = h' + 1) ∧ h < 7 ∧ (b = true ↔ ∃ e ∈ entsU h u, e.name = name) ∧ (b = false → s' = s ∧ root' = root ∧ h' = h) := by
  have h7 := t.low (by omega)
  rcases del_tree name t (by omega) (by omega) with ⟨h1, h2⟩ | ⟨h1, s', root', h', u', h2, h3, h4⟩
  · refine ⟨false, s, root, h, u, h2, ?_, .inl rfl, h7, ⟨fun h => (by cases h), fun ⟨e, he, hn⟩ => absurd hn (h1 e he)⟩, fun _ => ⟨rfl, rfl, rfl⟩⟩
    rw [delE_none t.srt h1]
    exact StepR.same t _
  · exact ⟨true, s', root', h', u', h2, h3, h4, h7, ⟨fun _ => h1, fun _ => rfl⟩, fun h => by cases h⟩
theorem seen_deep : ∀ (h : Nat) (d : Int) (r : Rf) (u : Un h), ∀ x ∈ seenU h d r u, d ≤ x.deep ∧ x.deep ≤ d + h
  | 0, d, r, u, x, hx => by simp only [seenU, List.mem_singleton] at hx; subst hx; simp
  | h + 1, d, r, (ts : List (Tn h)), x, hx => by
    rcases List.mem_cons.1 hx with rfl | hx
    · simp only; omega
    · obtain ⟨t, _, hx⟩ := List.mem_flatMap.1 hx
      have := seen_deep h (d + 1) t.1 t.2 x hx
      omega
theorem seen_wf {h : Nat} {r : Rf} {u : Un h} (h8 : h < 8) : ∀ x ∈ seenU h 1 r u, (Lit.int .i64 x.deep).wf = true := fun x hx => by
  have := seen_deep h 1 r u x hx
  exact wf_i64 (by omega)
def knownIn (l : List Sn) (r : Rf) : Bool := l.any fun x => decide (x.ref = r)
theorem knownIn_snoc (l : List Sn) (x : Sn) (r : Rf) : knownIn (l ++ [x]) r = (knownIn l r || decide (x.ref = r)) := by simp [knownIn]
theorem knownIn_iff {l : List Sn} {r : Rf} : knownIn l r = true ↔ r ∈ l.map (·.ref) := by
  simp [knownIn, List.mem_map]
theorem fresh_count {s : List Nd} {root : Rf} {h : Nat} {u : Un h} {es : List En} {x : Nat} {s' : List Nd} {root' : Rf} {h' : Nat} {u' : Un h'} (t : TreeAt s root h u) (st : StepR s root h u es x s' root' h' u') :
    (seenU h' 1 root' u').countP (fun y => !knownIn (seenU h 1 root u) y.ref) = s'.length - s.length := by
  rw [← st.fresh, ← seen_refs h' 1 root' u']
  unfold newc
  rw [List.countP_map]
  refine List.countP_congr fun y hy => ?_
  have hy2 : y.ref ∈ root' :: pagesU h' u' := by rw [← seen_refs h' 1 root' u']; exact List.mem_map.2 ⟨y, hy, rfl⟩
  have hiff := knownIn_iff (l := seenU h 1 root u) (r := y.ref)
  rw [seen_refs] at hiff
  simp only [Function.comp_apply, Bool.not_eq_true', decide_eq_true_eq]
  constructor
  · intro hk
    rcases (show (s.length : Int) < y.ref.key ∨ y.ref.key ≤ s.length by omega) with h1 | h1
    · exact h1
    · have := hiff.2 (st.old _ hy2 h1)
      rw [hk] at this; cases this
  · intro hk
    cases hq : knownIn (seenU h 1 root u) y.ref with
    | false => rfl
    | true =>
      have := hiff.1 hq
      rcases List.mem_cons.1 this with h1 | h1
      · have := (pageAt_key t.pg).2.1; rw [← h1] at this; omega
      · have := (pages_key t.laid _ h1).2; omega
end Go.Proofs.Ytdiocmjhencbpaa
