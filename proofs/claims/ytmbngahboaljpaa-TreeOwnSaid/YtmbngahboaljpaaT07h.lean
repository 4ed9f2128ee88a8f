/-
  A list of calls and the secrets that they left (no program).
-/
import Derived.Test.YtmbngahboaljpaaH10
namespace Go.Proofs.Ytmbngahboaljpaa
set_option maxRecDepth 8000
set_option linter.unusedSimpArgs false
set_option linter.unusedVariables false
open Go Xe
theorem secO_name (o : Op7) : (secO o).name = o.name := rfl
def hasO (l : List Op7) (name : ByteArray) : Option Op7 := l.find? fun o => decide (o.name = name)
def withoutO (l : List Op7) (name : ByteArray) : List Op7 := l.filter fun o => decide (o.name ≠ name)
/-- Secrets in their order are just those of a list of calls. -/
def MapOf (l : List Op7) (es : List En) : Prop := Sorted es ∧ es.Perm (l.map secO)
theorem sorted_uniq : ∀ {es : List En} (_ : Sorted es) {a b : En}, a ∈ es → b ∈ es → a.name = b.name → a = b
  | [], _, _, _, ha, _, _ => by cases ha
  | x :: es, h, a, b, ha, hb, hn => by
    have hx := (List.pairwise_cons.1 h).1
    rcases List.mem_cons.1 ha with ha1 | ha1
    · rcases List.mem_cons.1 hb with hb1 | hb1
      · rw [ha1, hb1]
      · have := hx b hb1; rw [← hn, ha1, sl_irrefl] at this; cases this
    · rcases List.mem_cons.1 hb with hb1 | hb1
      · have := hx a ha1; rw [hn, hb1, sl_irrefl] at this; cases this
      · exact sorted_uniq (List.pairwise_cons.1 h).2 ha1 hb1 hn
theorem findE_mem {es : List En} (h : Sorted es) {e : En} (he : e ∈ es) : findE es e.name = some e := by
  unfold findE
  cases hf : es.find? fun x => decide (x.name = e.name) with
  | none => have := List.find?_eq_none.1 hf e he; simp at this
  | some x =>
    have h1 := List.mem_of_find?_eq_some hf
    have h2 : x.name = e.name := by simpa using List.find?_some hf
    rw [sorted_uniq h h1 he h2]
theorem findE_some {es : List En} {name : ByteArray} {e : En} (h : findE es name = some e) : e ∈ es ∧ e.name = name := ⟨List.mem_of_find?_eq_some h, by simpa using List.find?_some h⟩
theorem hasO_some {l : List Op7} {name : ByteArray} {o : Op7} (h : hasO l name = some o) : o ∈ l ∧ o.name = name := ⟨List.mem_of_find?_eq_some h, by simpa using List.find?_some h⟩
theorem hasO_mem {l : List Op7} {o : Op7} (h : o ∈ l) : ∃ q, hasO l o.name = some q := by
  cases hf : hasO l o.name with
  | none => have := List.find?_eq_none.1 hf o h; simp at this
  | some x => exact ⟨x, rfl⟩
theorem MapOf.len {l : List Op7} {es : List En} (m : MapOf l es) : es.length = l.length := by rw [m.2.length_eq, List.length_map]
theorem MapOf.of_ent {l : List Op7} {es : List En} (m : MapOf l es) {e : En} (he : e ∈ es) : ∃ o, hasO l e.name = some o ∧ e = secO o := by
  obtain ⟨o, ho, hoe⟩ := List.mem_map.1 (m.2.mem_iff.1 he)
  obtain ⟨q, hq⟩ := hasO_mem ho
  have hn : o.name = e.name := by rw [← hoe]; rfl
  rw [hn] at hq
  have h1 := hasO_some hq
  have h2 : secO q ∈ es := m.2.mem_iff.2 (List.mem_map.2 ⟨q, h1.1, rfl⟩)
  exact ⟨q, hq, sorted_uniq m.1 he h2 h1.2.symm⟩
theorem MapOf.of_op {l : List Op7} {es : List En} (m : MapOf l es) {o : Op7} (ho : o ∈ l) : findE es o.name = some (secO o) :=
  findE_mem m.1 (e := secO o) (m.2.mem_iff.2 (List.mem_map.2 ⟨o, ho, rfl⟩))
theorem MapOf.none_iff {l : List Op7} {es : List En} (m : MapOf l es) (name : ByteArray) : (findE es name).isSome = (hasO l name).isSome := by
  cases h1 : findE es name with
  | some e =>
    obtain ⟨he, hn⟩ := findE_some h1
    obtain ⟨o, ho, _⟩ := m.of_ent he
    rw [hn] at ho; rw [ho]; rfl
  | none =>
    cases h2 : hasO l name with
    | none => rfl
    | some o =>
      obtain ⟨ho, hn⟩ := hasO_some h2
      have := m.of_op ho
      rw [hn, h1] at this; cases this
theorem delE_perm (es : List En) (name : ByteArray) : (delE es name).Perm (es.filter fun e => decide (e.name ≠ name)) := by
  unfold delE
  induction es with
  | nil => exact .refl _
  | cons x es ih =>
    rcases sl_or (a := x.name) (b := name) with h | h | h
    · have h1 : ltE name x = true := h
      rw [List.filter_cons_of_pos h1, List.filter_cons_of_neg (by rw [lt_not_gt h1]; simp), List.filter_cons_of_pos (by simpa using sl_ne h)]
      exact ih.cons x
    · have h1 : ltE name x = false := by unfold ltE; rw [h]; exact sl_irrefl _
      have h2 : gtE name x = false := by unfold gtE; rw [h]; exact sl_irrefl _
      rw [List.filter_cons_of_neg (by rw [h1]; simp), List.filter_cons_of_neg (by rw [h2]; simp), List.filter_cons_of_neg (by simpa using h)]
      exact ih
    · have h1 : gtE name x = true := h
      rw [List.filter_cons_of_neg (by rw [gt_not_lt h1]; simp), List.filter_cons_of_pos h1, List.filter_cons_of_pos (by simpa using (sl_ne h).symm)]
      exact List.perm_middle.trans (ih.cons x)
theorem filter_sec (l : List Op7) (name : ByteArray) : (l.map secO).filter (fun e => decide (e.name ≠ name)) = (withoutO l name).map secO := by
  unfold withoutO
  rw [List.filter_map]; rfl
theorem MapOf.del {l : List Op7} {es : List En} (m : MapOf l es) (name : ByteArray) : MapOf (withoutO l name) (delE es name) :=
  ⟨sorted_del m.1 name, by rw [← filter_sec]; exact (delE_perm es name).trans (m.2.filter _)⟩
theorem MapOf.ins {l : List Op7} {es : List En} (m : MapOf l es) (o : Op7) : MapOf (withoutO l o.name ++ [o]) (insE es (secO o)) := by
  refine ⟨sorted_ins m.1 _, ?_⟩
  have h1 : (insE es (secO o)).Perm (delE es o.name ++ [secO o]) := by
    show (es.filter (ltE o.name) ++ [secO o] ++ es.filter (gtE o.name)).Perm (es.filter (ltE o.name) ++ es.filter (gtE o.name) ++ [secO o])
    rw [List.append_assoc, List.append_assoc]
    exact List.Perm.append_left _ List.perm_append_comm
  rw [List.map_append]
  exact h1.trans ((m.del o.name).2.append_right _)
theorem MapOf.nil : MapOf [] [] := ⟨List.Pairwise.nil, .refl _⟩
theorem without_len (l : List Op7) (name : ByteArray) : (withoutO l name).length ≤ l.length := List.length_filter_le _ _
def lastN (es : List En) : ByteArray := match es.getLast? with | some e => e.name | none => ByteArray.empty
theorem lastN_snoc (es : List En) (e : En) : lastN (es ++ [e]) = e.name := by simp [lastN]
/-- The next secret stands behind the last one. -/
theorem lastN_lt {pre post : List En} {e : En} (h : Sorted (pre ++ e :: post)) (hp : 0 < pre.length) : sl (lastN pre) e.name = true := by
  obtain ⟨p0, x, rfl⟩ : ∃ p0 x, pre = p0 ++ [x] := ⟨pre.dropLast, pre.getLast (by rintro rfl; simp at hp), (List.dropLast_concat_getLast _).symm⟩
  rw [lastN_snoc]
  exact (Sorted.app.1 h).2.2 x (by simp) e (by simp)
theorem seen_leaf {h : Nat} {d : Int} {r : Rf} {u : Un h} : ∀ x ∈ seenU h d r u, x.node.entries ≠ [] → x.node.leaf = true := by
  induction h generalizing d r with
  | zero => intro x hx _; simp only [seenU, List.mem_singleton] at hx; subst hx; rfl
  | succ h ih =>
    intro x hx he
    rcases List.mem_cons.1 hx with rfl | hx
    · exact absurd rfl he
    · obtain ⟨t, _, hx⟩ := List.mem_flatMap.1 hx
      exact ih x hx he
end Go.Proofs.Ytmbngahboaljpaa
