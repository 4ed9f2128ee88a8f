/-
  Rows of secrets in the order of their names: searched, put in, taken out (no program).
-/
import Derived.Test.YtdiocmjhencbpaaC07m
namespace Go.Proofs.Ytdiocmjhencbpaa
set_option maxRecDepth 8000
set_option linter.unusedSimpArgs false
set_option linter.unusedVariables false
open Go Xe
def Sorted (es : List En) : Prop := es.Pairwise fun a b => sl a.name b.name = true
def ltE (name : ByteArray) (e : En) : Bool := sl e.name name
def gtE (name : ByteArray) (e : En) : Bool := sl name e.name
/-- A row with a secret put in its place; without the secret of a name. -/
def insE (es : List En) (e : En) : List En := es.filter (ltE e.name) ++ [e] ++ es.filter (gtE e.name)
def delE (es : List En) (name : ByteArray) : List En := es.filter (ltE name) ++ es.filter (gtE name)
def findE (es : List En) (name : ByteArray) : Option En := es.find? fun e => decide (e.name = name)
theorem sl_or {a b : ByteArray} : sl a b = true ∨ a = b ∨ sl b a = true := by
  cases h1 : sl a b with
  | true => exact .inl rfl
  | false => cases h2 : sl b a with
    | true => exact .inr (.inr rfl)
    | false => exact .inr (.inl (sl_total h1 h2))
theorem filter_all {α : Type} {p : α → Bool} {l : List α} (h : ∀ x ∈ l, p x = true) : l.filter p = l := List.filter_eq_self.2 h
theorem filter_none {α : Type} {p : α → Bool} {l : List α} (h : ∀ x ∈ l, p x = false) : l.filter p = [] := by
  rw [List.filter_eq_nil_iff]; intro x hx; rw [h x hx]; simp
theorem lt_not_gt {e : En} {name : ByteArray} (h : ltE name e = true) : gtE name e = false := sl_asymm h
theorem gt_not_lt {e : En} {name : ByteArray} (h : gtE name e = true) : ltE name e = false := sl_asymm h
theorem Sorted.app {a b : List En} : Sorted (a ++ b) ↔ Sorted a ∧ Sorted b ∧ ∀ x ∈ a, ∀ y ∈ b, sl x.name y.name = true := List.pairwise_append
theorem Sorted.filter {a : List En} (h : Sorted a) (p : En → Bool) : Sorted (a.filter p) := List.Pairwise.filter p h
theorem sorted_ins {es : List En} (h : Sorted es) (e : En) : Sorted (insE es e) := by
  unfold insE
  rw [Sorted.app, Sorted.app]
  refine ⟨⟨h.filter _, by simp [Sorted], fun x hx y hy => ?_⟩, h.filter _, fun x hx y hy => ?_⟩
  · rw [List.mem_singleton.1 hy]; exact (List.mem_filter.1 hx).2
  · have hy2 : sl e.name y.name = true := (List.mem_filter.1 hy).2
    rcases List.mem_append.1 hx with hx | hx
    · exact sl_trans (show sl x.name e.name = true from (List.mem_filter.1 hx).2) hy2
    · rw [List.mem_singleton.1 hx]; exact hy2
theorem sorted_del {es : List En} (h : Sorted es) (name : ByteArray) : Sorted (delE es name) := by
  unfold delE
  rw [Sorted.app]
  exact ⟨h.filter _, h.filter _, fun x hx y hy => sl_trans (show sl x.name name = true from (List.mem_filter.1 hx).2) (show sl name y.name = true from (List.mem_filter.1 hy).2)⟩
/-- A sorted row falls into what lies ahead of a name, what bears it, and what lies behind it. -/
theorem sorted_parts : ∀ {es : List En} (_ : Sorted es) (name : ByteArray), ∃ m, es = es.filter (ltE name) ++ m ++ es.filter (gtE name) ∧ (m = [] ∨ ∃ e, m = [e] ∧ e.name = name)
  | [], _, name => ⟨[], by simp, .inl rfl⟩
  | x :: es, h, name => by
    have hx := (List.pairwise_cons.1 h).1
    have ht : Sorted es := (List.pairwise_cons.1 h).2
    rcases sl_or (a := x.name) (b := name) with h1 | h1 | h1
    · obtain ⟨m, h2, h3⟩ := sorted_parts ht name
      refine ⟨m, ?_, h3⟩
      have e1 : ltE name x = true := h1
      rw [List.filter_cons_of_pos e1, List.filter_cons_of_neg (by rw [lt_not_gt e1]; simp)]
      rw [List.cons_append, List.cons_append, ← h2]
    · have hg : ∀ y ∈ es, gtE name y = true := fun y hy => h1 ▸ hx y hy
      refine ⟨[x], ?_, .inr ⟨x, rfl, h1⟩⟩
      have e1 : ltE name x = false := by unfold ltE; rw [h1]; exact sl_irrefl _
      have e2 : gtE name x = false := by unfold gtE; rw [h1]; exact sl_irrefl _
      rw [List.filter_cons_of_neg (by rw [e1]; simp), List.filter_cons_of_neg (by rw [e2]; simp), filter_none (fun y hy => gt_not_lt (hg y hy)), filter_all hg]
      rfl
    · have hg : ∀ y ∈ x :: es, gtE name y = true := fun y hy => by
        rcases List.mem_cons.1 hy with rfl | hy
        · exact h1
        · exact sl_trans h1 (hx y hy)
      exact ⟨[], by rw [filter_none (fun y hy => gt_not_lt (hg y hy)), filter_all hg]; rfl, .inl rfl⟩
theorem getD_app {A m C : List En} {j : Nat} : (A ++ m ++ C).getD j en0 = if j < A.length then A.getD j en0 else if j < A.length + m.length then m.getD (j - A.length) en0 else C.getD (j - (A.length + m.length)) en0 := by
  simp only [List.getD_eq_getElem?_getD]
  split
  · rename_i h; rw [List.append_assoc, List.getElem?_append_left h]
  · rename_i h
    split
    · rename_i h2
      rw [List.append_assoc, List.getElem?_append_right (by omega), List.getElem?_append_left (by omega)]
    · rename_i h2
      rw [List.getElem?_append_right (by rw [List.length_append]; omega), List.length_append]
theorem getD_mem {l : List En} {j : Nat} (h : j < l.length) : l.getD j en0 ∈ l := by
  rw [List.getD_eq_getElem?_getD, List.getElem?_eq_getElem h]; exact List.getElem_mem h
/-- The place of a name in a sorted row is behind all that lie ahead of it. -/
theorem bs_spec {A m C : List En} {name : ByteArray} (hA : ∀ x ∈ A, sl x.name name = true) (hC : ∀ x ∈ m ++ C, sl x.name name = false) :
    ∀ (d i j : Nat), j - i = d → i ≤ A.length → A.length ≤ j → j ≤ (A ++ m ++ C).length → bsGo (A ++ m ++ C) name i j = A.length := by
  intro d
  induction d using Nat.strongRecOn with
  | ind d ih =>
    intro i j hd hi hj hn
    by_cases h : i < j
    · rw [bsGo_lt h]
      have hlen : (A ++ m ++ C).length = A.length + m.length + C.length := by simp only [List.length_append]
      by_cases hm : (i + j) / 2 < A.length
      · have : sl ((A ++ m ++ C).getD ((i + j) / 2) en0).name name = true := by
          rw [getD_app, if_pos hm]; exact hA _ (getD_mem hm)
        rw [if_pos this]
        exact ih (j - ((i + j) / 2 + 1)) (by omega) _ _ rfl (by omega) hj hn
      · have : sl ((A ++ m ++ C).getD ((i + j) / 2) en0).name name = false := by
          rw [getD_app, if_neg hm]
          split
          · exact hC _ (List.mem_append.2 (.inl (getD_mem (by omega))))
          · exact hC _ (List.mem_append.2 (.inr (getD_mem (by omega))))
        rw [if_neg (by rw [this]; simp)]
        exact ih ((i + j) / 2 - i) (by omega) _ _ rfl hi (by omega) (by omega)
    · rw [bsGo_ge h]; omega
theorem search_parts {es : List En} (h : Sorted es) (name : ByteArray) : ∃ A m C, es = A ++ m ++ C ∧ A = es.filter (ltE name) ∧ C = es.filter (gtE name) ∧ (m = [] ∨ ∃ e, m = [e] ∧ e.name = name) ∧ searchI es name = A.length ∧ searchB es name = !m.isEmpty := by
  obtain ⟨m, h1, h2⟩ := sorted_parts h name
  have hA : ∀ x ∈ es.filter (ltE name), sl x.name name = true := fun x hx => (List.mem_filter.1 hx).2
  have hC0 : ∀ x ∈ es.filter (gtE name), sl x.name name = false := fun x hx => gt_not_lt (List.mem_filter.1 hx).2
  refine ⟨es.filter (ltE name), m, es.filter (gtE name), h1, rfl, rfl, h2, ?_⟩
  generalize es.filter (ltE name) = A at h1 hA ⊢
  have hCg : ∀ x ∈ es.filter (gtE name), x.name ≠ name := fun x hx he => by
    have := (List.mem_filter.1 hx).2
    unfold gtE at this; rw [he, sl_irrefl] at this; cases this
  generalize es.filter (gtE name) = C at h1 hC0 hCg ⊢
  subst h1
  have hmC : ∀ x ∈ m ++ C, sl x.name name = false := by
    intro x hx
    rcases List.mem_append.1 hx with hx | hx
    · rcases h2 with rfl | ⟨e, rfl, he⟩
      · cases hx
      · rw [List.mem_singleton.1 hx, he]; exact sl_irrefl _
    · exact hC0 x hx
  have hs : searchI (A ++ m ++ C) name = A.length := bs_spec hA hmC _ 0 _ rfl (Nat.zero_le _) (by simp only [List.length_append]; omega) (Nat.le_refl _)
  refine ⟨hs, ?_⟩
  unfold searchB
  rw [hs]
  rcases h2 with rfl | ⟨e, rfl, he⟩
  · simp only [List.append_nil, List.isEmpty_nil, Bool.not_true, Bool.and_eq_false_iff, decide_eq_false_iff_not]
    by_cases hc : C = []
    · left; subst hc; simp
    · right
      have hlt : 0 < C.length := List.length_pos_iff.2 hc
      have : (A ++ C).getD A.length en0 = C.getD 0 en0 := by
        simp only [List.getD_eq_getElem?_getD]; rw [List.getElem?_append_right (Nat.le_refl _), Nat.sub_self]
      rw [this]
      exact hCg _ (getD_mem hlt)
  · have : (A ++ [e] ++ C).getD A.length en0 = e := by
      rw [getD_app, if_neg (by omega), if_pos (by simp), Nat.sub_self]; rfl
    rw [this, decide_eq_true he, decide_eq_true (by simp only [List.length_append, List.length_cons]; omega)]
    rfl
theorem insN_sorted {es : List En} (h : Sorted es) (ks : List Kd) (e : En) : insN ⟨true, es, ks⟩ e = ⟨true, insE es e, ks⟩ := by
  obtain ⟨A, m, C, h1, h2, h3, h4, h5, h6⟩ := search_parts h e.name
  unfold insN insE
  simp only [h6, h5]
  rw [← h2, ← h3]
  congr 1
  rcases h4 with rfl | ⟨x, rfl, hx⟩
  · rw [if_neg (by simp), h1, List.append_nil, List.take_left, List.drop_left]
  · rw [if_pos (by simp), h1, List.append_assoc, List.set_append_right _ _ (Nat.le_refl _), Nat.sub_self, List.append_assoc]; rfl
theorem takeN_sorted {es : List En} (h : Sorted es) (name : ByteArray) : (if searchB es name = true then es.eraseIdx (searchI es name) else es) = delE es name ∧ (searchB es name = true ↔ ∃ e ∈ es, e.name = name) ∧ (searchB es name = true → (delE es name).length + 1 = es.length) := by
  obtain ⟨A, m, C, h1, h2, h3, h4, h5, h6⟩ := search_parts h name
  unfold delE
  rw [h5, h6, ← h2, ← h3]
  have hA : ∀ x ∈ A, x.name ≠ name := fun x hx he => by
    rw [h2] at hx; have := (List.mem_filter.1 hx).2; unfold ltE at this; rw [he, sl_irrefl] at this; cases this
  have hC : ∀ x ∈ C, x.name ≠ name := fun x hx he => by
    rw [h3] at hx; have := (List.mem_filter.1 hx).2; unfold gtE at this; rw [he, sl_irrefl] at this; cases this
  clear h2 h3 h5 h6 h
  subst h1
  rcases h4 with rfl | ⟨x, rfl, hx⟩
  · refine ⟨by simp, ⟨fun h => by simp at h, fun ⟨e, he, hn⟩ => ?_⟩, fun h => by simp at h⟩
    rw [List.append_nil] at he
    rcases List.mem_append.1 he with he | he
    · exact absurd hn (hA e he)
    · exact absurd hn (hC e he)
  · refine ⟨?_, ⟨fun _ => ⟨x, by simp, hx⟩, fun _ => by simp⟩, fun _ => by simp only [List.length_append, List.length_cons, List.length_nil]; omega⟩
    rw [if_pos (by simp), List.append_assoc, List.eraseIdx_append_of_length_le (Nat.le_refl _), Nat.sub_self]; rfl
theorem getN_sorted {es : List En} (h : Sorted es) (name : ByteArray) : findE es name = if searchB es name = true then some (es.getD (searchI es name) en0) else none := by
  obtain ⟨A, m, C, h1, h2, h3, h4, h5, h6⟩ := search_parts h name
  rw [h5, h6]
  have hA : ∀ x ∈ A, decide (x.name = name) = false := fun x hx => decide_eq_false fun he => by
    rw [h2] at hx; have := (List.mem_filter.1 hx).2; unfold ltE at this; rw [he, sl_irrefl] at this; cases this
  have hC : ∀ x ∈ C, decide (x.name = name) = false := fun x hx => decide_eq_false fun he => by
    rw [h3] at hx; have := (List.mem_filter.1 hx).2; unfold gtE at this; rw [he, sl_irrefl] at this; cases this
  clear h2 h3 h5 h6 h
  subst h1
  have hAn : A.find? (fun e => decide (e.name = name)) = none := List.find?_eq_none.2 fun x hx => by rw [hA x hx]; simp
  have hCn : C.find? (fun e => decide (e.name = name)) = none := List.find?_eq_none.2 fun x hx => by rw [hC x hx]; simp
  unfold findE
  rcases h4 with rfl | ⟨x, rfl, hx⟩
  · rw [List.append_nil, List.find?_append, hAn, hCn]; rfl
  · have : (A ++ [x] ++ C).getD A.length en0 = x := by
      rw [getD_app, if_neg (by omega), if_pos (by simp), Nat.sub_self]; rfl
    rw [this, List.append_assoc, List.find?_append, hAn, List.find?_append]
    simp [hx]
end Go.Proofs.Ytdiocmjhencbpaa
