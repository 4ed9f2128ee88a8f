/-
  A tree of secrets that may be: its nodes may be, its levels and pages are no more than may be (no program).
-/
import Derived.Test.YtdiocmjhencbpaaL15
import Derived.Test.YtdiocmjhencbpaaE05
namespace Go.Proofs.Ytdiocmjhencbpaa
set_option maxRecDepth 8000
set_option linter.unusedSimpArgs false
set_option linter.unusedVariables false
open Go Xe
theorem ins_mem {es : List En} {e x : En} (h : x ∈ insE es e) : x = e ∨ x ∈ es := by
  unfold insE at h
  rcases List.mem_append.1 h with h | h
  · rcases List.mem_append.1 h with h | h
    · exact .inr (List.mem_filter.1 h).1
    · exact .inl (List.mem_singleton.1 h)
  · exact .inr (List.mem_filter.1 h).1
theorem two_len (n : ByteArray) : ∀ es : List En, (es.filter (ltE n)).length + (es.filter (gtE n)).length ≤ es.length
  | [] => by simp
  | e :: es => by
    have ih := two_len n es
    have h : ltE n e = true → gtE n e = false := fun h => by simp only [ltE, gtE] at *; exact sl_asymm h
    rw [List.filter_cons, List.filter_cons]
    cases h1 : ltE n e with
    | true => rw [h h1]; simp only [if_true, Bool.false_eq_true, if_false, List.length_cons]; omega
    | false =>
      simp only [Bool.false_eq_true, if_false, List.length_cons]
      cases h2 : gtE n e with
      | true => simp only [if_true, List.length_cons]; omega
      | false => simp only [Bool.false_eq_true, if_false]; omega
theorem ins_len (es : List En) (e : En) : (insE es e).length ≤ es.length + 1 := by
  have := two_len e.name es
  unfold insE
  rw [List.length_append, List.length_append, List.length_singleton]; omega
theorem fold_mem : ∀ {xs acc : List En} {x : En}, x ∈ xs.foldl insE acc → x ∈ acc ∨ x ∈ xs
  | [], _, _, h => .inl h
  | y :: xs, acc, x, h => by
    rcases fold_mem (xs := xs) h with h | h
    · rcases ins_mem h with h | h
      · exact .inr (by simp [h])
      · exact .inl h
    · exact .inr (by simp [h])
theorem fold_len : ∀ (xs acc : List En), (xs.foldl insE acc).length ≤ acc.length + xs.length
  | [], _ => by simp
  | y :: xs, acc => by
    have h1 := fold_len xs (insE acc y)
    have h2 := ins_len acc y
    rw [List.foldl_cons, List.length_cons]; omega
theorem growE_mem {xs : List En} {x : En} (h : x ∈ growE xs) : x ∈ xs := (fold_mem h).elim (fun h => by cases h) id
theorem growE_len (xs : List En) : (growE xs).length ≤ xs.length := by have := fold_len xs []; simpa [growE] using this
theorem pages_half : ∀ (h : Nat) (u : Un h), okU h u → 2 ≤ szU h u → (pagesU h u).length + 2 ≤ 2 * ((entsU h u).length / 2)
  | 0, (es : List En), _, h => by have h : 2 ≤ es.length := h; show 0 + 2 ≤ 2 * (es.length / 2); omega
  | h + 1, (ts : List (Tn h)), hok, h2 => by
    have key : ∀ (us : List (Tn h)), (∀ t ∈ us, t ∈ ts) → (us.flatMap fun t => t.1 :: pagesU h t.2).length + us.length ≤ 2 * ((us.flatMap fun t => entsU h t.2).length / 2) := by
      intro us
      induction us with
      | nil => intro _; simp
      | cons t us ih =>
        intro hm
        have hot := hok t (hm t (by simp))
        have h1 := pages_half h t.2 hot.2.2 hot.1
        have h2 := ih fun t ht => hm t (by simp [ht])
        rw [List.flatMap_cons, List.flatMap_cons, List.length_append, List.length_append, List.length_cons, List.length_cons]
        omega
    have h3 := key ts fun t ht => ht
    have h4 : 2 ≤ ts.length := h2
    show (ts.flatMap fun t => t.1 :: pagesU h t.2).length + 2 ≤ 2 * ((ts.flatMap fun t => entsU h t.2).length / 2)
    omega
theorem seen_len (h : Nat) (d : Int) (r : Rf) (u : Un h) : (seenU h d r u).length = (pagesU h u).length + 1 := by
  have := congrArg List.length (seen_refs h d r u)
  rwa [List.length_map, List.length_cons] at this
theorem lev_many {h n : Nat} {l : Int} (h7 : h < 7) (h1 : h = 0 ∨ 2 * 2 ^ h ≤ n) (hn : n ≤ 64) (hl : (n : Int) / 2 ≤ l) (hl1 : 1 ≤ l) (hl2 : l ≤ 32) : (h : Int) + 1 ≤ lev l := by
  have : h = 0 ∨ h = 1 ∨ h = 2 ∨ h = 3 ∨ h = 4 ∨ h = 5 ∨ h = 6 := by omega
  unfold lev
  rcases this with rfl | rfl | rfl | rfl | rfl | rfl | rfl <;> simp only [Nat.reducePow, Nat.reduceMul] at h1 <;> (repeat' split) <;> omega
theorem pageAt_refR {s : List Nd} {r : Rf} {n : Nd} (h : pageAt s r n) (hs : s.length ≤ 1000) : refR r ∧ r.len = 1 := by
  obtain ⟨h1, h2, h3, _⟩ := pageAt_key h
  have e1 : (refO (r.key - 1)).seg = r.seg := by rw [h3]
  have e2 : (refO (r.key - 1)).off = r.off := by rw [h3]
  have e3 : (refO (r.key - 1)).len = r.len := by rw [h3]
  simp only [refO] at e1 e2 e3
  unfold refR
  omega
theorem rightE_name {q : Qt} {e : En} (h : rightE q e = 0) : e.name ≠ ByteArray.empty ∧ ¬ q.nm < e.name.size := by
  unfold rightE at h
  split at h
  · omega
  · unfold namedE at h
    split at h
    · omega
    · split at h
      · omega
      · rename_i h2
        split at h
        · omega
        · rename_i h3; exact ⟨h2, h3⟩
theorem entsBad_ok {q : Qt} : ∀ {es : List En} {p : Option ByteArray}, (∀ e ∈ es, rightE q e = 0) → Sorted es → (∀ n, p = some n → ∀ e ∈ es, sl n e.name = true) → entsBad q p es = 0
  | [], _, _, _, _ => rfl
  | e :: es, p, h1, h2, h3 => by
    have h4 := h1 e (by simp)
    obtain ⟨_, h5, h6⟩ := Sorted.app.1 (show Sorted ([e] ++ es) from h2)
    unfold entsBad
    rw [if_neg (by omega), if_neg]
    · exact entsBad_ok (fun x hx => h1 x (by simp [hx])) h5 (fun n hn x hx => by cases hn; exact h6 e (by simp) x hx)
    · cases p with
      | none => simp
      | some n => simp [h3 n rfl e (by simp)]
theorem kidsBad_ok {q : Qt} {h : Nat} : ∀ {ts : List (Tn h)} {p : Option ByteArray}, (∀ t ∈ ts, 0 < szU h t.2 ∧ okU h t.2 ∧ refR t.1) → Sorted (ts.flatMap fun t => entsU h t.2) → (∀ e ∈ (ts.flatMap fun t => entsU h t.2), rightE q e = 0) → (∀ n, p = some n → ∀ e ∈ (ts.flatMap fun t => entsU h t.2), sl n e.name = true) → kidsBad q p (ts.map (kidU h)) = 0
  | [], _, _, _, _, _ => rfl
  | t :: ts, p, h1, h2, h3, h4 => by
    obtain ⟨ha, hb, hc⟩ := h1 t (by simp)
    obtain ⟨e, es, he, hl⟩ := low_head ha hb
    rw [List.flatMap_cons] at h2 h3 h4
    have hem : e ∈ entsU h t.2 := by rw [he]; simp
    obtain ⟨_, h5, h6⟩ := Sorted.app.1 h2
    obtain ⟨h7, h8⟩ := rightE_name (h3 e (List.mem_append_left _ hem))
    show kidsBad q p (kidU h t :: ts.map (kidU h)) = 0
    unfold kidsBad
    have e1 : (kidU h t).low = e.name := hl
    have e2 : (kidU h t).ref = t.1 := rfl
    rw [e1, e2, if_neg h7, if_neg h8, if_neg (by simpa using hc), if_neg]
    · exact kidsBad_ok (fun x hx => h1 x (by simp [hx])) h5 (fun x hx => h3 x (List.mem_append_right _ hx)) (fun n hn x hx => by cases hn; exact h6 e hem x hx)
    · cases p with
      | none => simp
      | some n => simp [h4 n rfl e (List.mem_append_left _ hem)]
theorem flat_sub {α β : Type} {ts : List α} {f : α → List β} {t : α} (h : t ∈ ts) : ∃ A B, ts.flatMap f = A ++ (f t ++ B) := by
  obtain ⟨X, Y, rfl⟩ := List.append_of_mem h
  exact ⟨X.flatMap f, Y.flatMap f, by rw [List.flatMap_append, List.flatMap_cons]⟩
theorem seen_right {q : Qt} (hq : q.ok) {s : List Nd} (hs : s.length ≤ 1000) : ∀ (h : Nat) (d : Int) (r : Rf) (u : Un h), okU h u → szU h u ≤ 4 → (h = 0 ∨ 2 ≤ szU h u) → LaidU s h u → (∀ e ∈ entsU h u, rightE q e = 0) → Sorted (entsU h u) → ∀ x ∈ seenU h d r u, rightN q x.node = 0
  | 0, d, r, (es : List En), _, h4, _, _, h5, h6, x, hx => by
    have h4 : es.length ≤ 4 := h4
    obtain rfl := List.mem_singleton.1 hx
    show rightN q ⟨true, es, []⟩ = 0
    unfold rightN
    rw [if_neg (by simpa using hq), if_pos rfl, if_neg (by simp; omega)]
    exact entsBad_ok h5 h6 (fun n hn => by cases hn)
  | h + 1, d, r, (ts : List (Tn h)), hok, h4, h2, hl, h5, h6, x, hx => by
    have h4 : ts.length ≤ 4 := h4
    have h2 : 2 ≤ ts.length := h2.elim (fun h => by omega) id
    rcases List.mem_cons.1 hx with rfl | hx
    · show rightN q ⟨false, [], ts.map (kidU h)⟩ = 0
      unfold rightN
      rw [if_neg (by simpa using hq), if_neg (by simp), if_neg (by simp only [List.length_nil, List.length_map]; omega)]
      exact kidsBad_ok (fun t ht => ⟨by have := (hok t ht).1; omega, (hok t ht).2.2, (pageAt_refR (hl t ht).1 hs).1⟩) h6 h5 (fun n hn => by cases hn)
    · obtain ⟨t, ht, hx⟩ := List.mem_flatMap.1 hx
      obtain ⟨A, B, hAB⟩ := flat_sub (f := fun t : Tn h => entsU h t.2) ht
      have h6 : Sorted (ts.flatMap fun t => entsU h t.2) := h6
      rw [hAB] at h6
      obtain ⟨_, h7, _⟩ := Sorted.app.1 h6
      obtain ⟨h8, _, _⟩ := Sorted.app.1 h7
      exact seen_right hq hs h (d + 1) t.1 t.2 (hok t ht).2.2 (hok t ht).2.1 (.inr (hok t ht).1) (hl t ht).2 (fun e he => h5 e (List.mem_flatMap.2 ⟨t, ht, he⟩)) h8 x hx
theorem seen_len1 {s : List Nd} (hs : s.length ≤ 1000) : ∀ (h : Nat) (d : Int) (r : Rf) (u : Un h), LaidU s h u → r.len = 1 → ∀ x ∈ seenU h d r u, x.ref.len = 1
  | 0, d, r, (es : List En), _, hr, x, hx => by obtain rfl := List.mem_singleton.1 hx; exact hr
  | h + 1, d, r, (ts : List (Tn h)), hl, hr, x, hx => by
    rcases List.mem_cons.1 hx with rfl | hx
    · exact hr
    · obtain ⟨t, ht, hx⟩ := List.mem_flatMap.1 hx
      exact seen_len1 hs h (d + 1) t.1 t.2 (hl t ht).2 (pageAt_refR (hl t ht).1 hs).2 x hx
theorem seen_deep_le : ∀ (h : Nat) (d : Int) (r : Rf) (u : Un h), ∀ x ∈ seenU h d r u, d ≤ x.deep ∧ x.deep ≤ d + h
  | 0, d, r, (es : List En), x, hx => by obtain rfl := List.mem_singleton.1 hx; simp
  | h + 1, d, r, (ts : List (Tn h)), x, hx => by
    rcases List.mem_cons.1 hx with rfl | hx
    · simp only; omega
    · obtain ⟨t, ht, hx⟩ := List.mem_flatMap.1 hx
      have := seen_deep_le h (d + 1) t.1 t.2 x hx
      omega
theorem seen_deep_max : ∀ (h : Nat) (d : Int) (r : Rf) (u : Un h), okU h u → (h = 0 ∨ 2 ≤ szU h u) → ∃ x ∈ seenU h d r u, x.deep = d + h
  | 0, d, r, (es : List En), _, _ => ⟨_, List.mem_singleton.2 rfl, by simp⟩
  | h + 1, d, r, (ts : List (Tn h)), hok, h2 => by
    have h2 : 2 ≤ ts.length := h2.elim (fun h => by omega) id
    obtain ⟨t, ht⟩ : ∃ t, t ∈ ts := List.exists_mem_of_length_pos (by omega)
    obtain ⟨x, hx, hd⟩ := seen_deep_max h (d + 1) t.1 t.2 (hok t ht).2.2 (.inr (hok t ht).1)
    exact ⟨x, List.mem_cons_of_mem _ (List.mem_flatMap.2 ⟨t, ht, hx⟩), by omega⟩
end Go.Proofs.Ytdiocmjhencbpaa
