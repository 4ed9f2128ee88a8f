/-
  Layer 8's laws: names in order (no program).
-/
import Derived.Test.YtdiocmjhencbpaaL11
namespace Go.Proofs.Ytdiocmjhencbpaa
set_option maxRecDepth 8000
set_option linter.unusedSimpArgs false
set_option linter.unusedVariables false
open Go Xe
theorem begins_iff {s p : ByteArray} : begins s p = true ↔ p.toList <+: s.toList := by
  rw [ByteArray.toList_eq, ByteArray.toList_eq]
  have hx : (s.extract 0 p.size).data.toList = s.data.toList.take p.data.toList.length := by
    rw [ByteArray.data_extract, Array.toList_extract]
    show (s.data.toList.drop 0).take (p.data.size - 0) = _
    simp
  unfold begins
  constructor
  · split
    · intro h
      have h := of_decide_eq_true h
      rw [h] at hx
      rw [hx]
      exact List.take_prefix _ _
    · intro h; cases h
  · intro h
    have hl := h.length_le
    have hz : p.size ≤ s.size := by simpa using hl
    rw [if_pos hz]
    refine decide_eq_true ((toList_iff _ _).1 ?_)
    rw [ByteArray.toList_eq, ByteArray.toList_eq, hx]
    exact (List.prefix_iff_eq_take.1 h).symm
theorem bl_of_prefix : ∀ {p s : List UInt8}, p <+: s → Op.bytesLess s p = false
  | [], s, _ => by cases s <;> rfl
  | x :: p, [], h => by simp at h
  | x :: p, y :: s, h0 => by
    obtain ⟨rfl, h1⟩ := List.cons_prefix_cons.1 h0
    simp [Op.bytesLess]; exact bl_of_prefix h1
theorem bl_past : ∀ {p x y : List UInt8}, Op.bytesLess x p = false → ¬ p <+: x → Op.bytesLess x y = true → ¬ p <+: y
  | [], _, _, _, h, _ => absurd (List.nil_prefix) h
  | a :: p, [], _, h, _, _ => by simp [Op.bytesLess] at h
  | a :: p, b :: x, [], _, _, h => by simp [Op.bytesLess] at h
  | a :: p, b :: x, c :: y, h1, h2, h3 => by
    intro hp0
    obtain ⟨rfl, hp⟩ := List.cons_prefix_cons.1 hp0
    simp only [Op.bytesLess, Bool.or_eq_true, Bool.or_eq_false_iff, decide_eq_true_eq, decide_eq_false_iff_not, Bool.and_eq_true, Bool.and_eq_false_iff, beq_iff_eq, beq_eq_false_iff_ne] at h1 h3
    rcases h3 with h3 | ⟨rfl, h3⟩
    · exact h1.1 h3
    · refine bl_past (h1.2.resolve_left (by simp)) (fun h => h2 (List.cons_prefix_cons.2 ⟨rfl, h⟩)) h3 hp
theorem begins_ge {s p : ByteArray} (h : begins s p = true) : sl s p = false := bl_of_prefix (begins_iff.1 h)
theorem begins_past {p x y : ByteArray} (h1 : sl x p = false) (h2 : begins x p = false) (h3 : sl x y = true) : begins y p = false :=
  Bool.eq_false_iff.2 fun h => bl_past h1 (fun h4 => by rw [begins_iff.2 h4] at h2; cases h2) h3 (begins_iff.1 h)
theorem pRange_from (p : ByteArray) (e : En) : pRange p ByteArray.empty e = !sl e.name p := by
  unfold pRange
  cases sl e.name p <;> simp
theorem pRange_to {p : ByteArray} (hp : p ≠ ByteArray.empty) (e : En) : pRange ByteArray.empty p e = sl e.name p := by
  unfold pRange
  rw [sl_empty, if_neg hp]; rfl
/-- Those that begin with a text come first among those from it on. -/
theorem begins_first {p : ByteArray} : ∀ {es : List En} (_ : Sorted es), ∃ r, es.filter (pRange p ByteArray.empty) = es.filter (fun e => begins e.name p) ++ r
  | [], _ => ⟨[], rfl⟩
  | x :: es, h => by
    obtain ⟨hx, hs⟩ := List.pairwise_cons.1 h
    obtain ⟨r, hr⟩ := begins_first (p := p) hs
    cases hb : begins x.name p with
    | true =>
      have h1 : pRange p ByteArray.empty x = true := by rw [pRange_from, begins_ge hb]; rfl
      exact ⟨r, by rw [List.filter_cons_of_pos h1, List.filter_cons_of_pos (p := fun e : En => begins e.name p) hb, hr]; rfl⟩
    | false =>
      cases hq : sl x.name p with
      | true =>
        have h1 : ¬ pRange p ByteArray.empty x = true := by rw [pRange_from, hq]; simp
        exact ⟨r, by rw [List.filter_cons_of_neg h1, List.filter_cons_of_neg (by simp [hb]), hr]⟩
      | false =>
        have h0 : (x :: es).filter (fun e => begins e.name p) = [] := by
          refine List.filter_eq_nil_iff.2 fun e he => ?_
          rcases List.mem_cons.1 he with rfl | he
          · simp [hb]
          · simp [begins_past hq hb (hx e he)]
        exact ⟨_, by rw [h0]; rfl⟩
theorem floor_self {es : List En} (h : Sorted es) {k : Nat} {e : En} (hk : es[k]? = some e) : lastO (es.filter (pFloor e.name)) = (e, true) := by
  obtain ⟨h1, rfl⟩ := List.getElem?_eq_some_iff.1 hk
  have e1 : es = es.take k ++ (es[k] :: es.drop (k + 1)) := by (conv => lhs; rw [← List.take_append_drop k es, List.drop_eq_getElem_cons h1])
  have hs := h
  rw [e1] at hs
  obtain ⟨_, h2, h3⟩ := Sorted.app.1 hs
  have h4 := (List.pairwise_cons.1 h2).1
  generalize es[k] = e at *
  rw [e1, List.filter_append, List.filter_cons_of_pos (by simp [pFloor, sl_irrefl])]
  have h5 : (es.drop (k + 1)).filter (pFloor e.name) = [] := List.filter_eq_nil_iff.2 fun y hy => by simp [pFloor, h4 y hy]
  rw [h5]
  exact lastO_snoc _ _
theorem sorted_cut {p : ByteArray} : ∀ {es : List En} (_ : Sorted es), es.filter (fun e => sl e.name p) ++ es.filter (fun e => !sl e.name p) = es
  | [], _ => rfl
  | x :: es, h => by
    obtain ⟨hx, hs⟩ := List.pairwise_cons.1 h
    have ih := sorted_cut (p := p) hs
    cases hq : sl x.name p with
    | true => rw [List.filter_cons_of_pos (p := fun e : En => sl e.name p) hq, List.filter_cons_of_neg (by simp [hq]), List.cons_append, ih]
    | false =>
      have h0 : es.filter (fun e => sl e.name p) = [] := List.filter_eq_nil_iff.2 fun e he => by
        intro h9
        rw [sl_trans (hx e he) h9] at hq; cases hq
      rw [h0, List.nil_append] at ih
      rw [List.filter_cons_of_neg (by simp [hq]), h0, List.nil_append, List.filter_cons_of_pos (by simp [hq]), ih]
end Go.Proofs.Ytdiocmjhencbpaa
