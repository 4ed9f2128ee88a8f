/-
  XE, part 16: slices.SortFunc of the library over a slice of the call's own.
-/
import Derived.Test.YtipdklbedpkobaaX15
import Derived.Shelf.SlSortCmp.NoneTotal
namespace Go.Proofs.Ytipdklbedpkobaa.Xe
open Go Go.Proofs Go.Sort Go.Shelf

/-- What a call leaves that wrote nothing of old: draws and new blocks. -/
theorem grown_of_sat {w w' : World} (h : Sat (envOf w) w' [Old w]) : ∃ q os, w' = grow (w.drewN q) os := by
  have hb := h.below
  have he := h.env
  refine ⟨w'.drawn - w.drawn, w'.heap.extract w.heap.size w'.heap.size, ?_⟩
  have h4 : w.drawn ≤ w'.drawn := he.2.2.2
  have hh : w'.heap = w.heap ++ w'.heap.extract w.heap.size w'.heap.size := by
    apply Array.ext_getElem?
    intro i
    by_cases hi : i < w.heap.size
    · rw [Array.getElem?_append_left hi]
      exact h.old_block hi
    · rw [Array.getElem?_append_right (by omega), Array.getElem?_extract]
      by_cases h5 : i < w'.heap.size
      · rw [if_pos (by omega)]
        congr 1
        omega
      · rw [if_neg (by omega)]
        exact Array.getElem?_eq_none (by omega)
  have e1 : w' = ⟨w'.heap, w'.tape, w'.drawn, w'.os, w'.output⟩ := rfl
  have e2 : grow (w.drewN (w'.drawn - w.drawn)) (w'.heap.extract w.heap.size w'.heap.size) = ⟨w.heap ++ w'.heap.extract w.heap.size w'.heap.size, w.tape, w.drawn + (w'.drawn - w.drawn), w.os, w.output⟩ := rfl
  rw [e2, ← hh, show w.drawn + (w'.drawn - w.drawn) = w'.drawn by omega]
  have t1 : w'.os = w.os := he.1
  have t2 : w'.tape = w.tape := he.2.1
  have t3 : w'.output = w.output := he.2.2.1
  rw [← t1, ← t2, ← t3]

theorem Sat.grow {E : Env} {w : World} {L : List As} (h : Sat E w L) (os : Array Obj) : Sat E (Go.Sort.grow w os) L := by
  obtain ⟨e, g, hg, hs⟩ := h
  refine ⟨e, g, hg, fun b o hb => ?_⟩
  have h1 := hs b o hb
  show (w.heap ++ os)[b]? = some o
  rw [Array.getElem?_append_left (Array.getElem?_eq_some_iff.1 h1).1]
  exact h1
theorem Sat.ahead {E : Env} {w : World} {L : List As} (h : Sat E w L) (n : Nat) : Sat E (Go.Sort.ahead w n) L :=
  ⟨⟨h.1.1, h.1.2.1, h.1.2.2.1, Nat.le_trans h.1.2.2.2 (Nat.le_add_right _ _)⟩, h.2⟩

theorem flatMap_get {α : Type} [Inhabited α] {enc : α → List Value} {k : Nat} (hk : ∀ x, (enc x).length = k) : ∀ (xs : List α) (t : Nat), t < xs.length * k → (xs.flatMap enc)[t]? = (enc xs[t / k]!)[t % k]?
  | [], t, h => by simp at h
  | x :: xs, t, h => by
    have k0 : 0 < k := by
      rcases Nat.eq_zero_or_pos k with h0 | h0
      · rw [h0] at h; simp at h
      · exact h0
    rw [List.flatMap_cons]
    by_cases ht : t < k
    · rw [List.getElem?_append_left (by rw [hk]; exact ht), Nat.div_eq_of_lt ht, Nat.mod_eq_of_lt ht]
      rfl
    · have h2 : t - k < xs.length * k := by
        rw [List.length_cons, Nat.add_mul, Nat.one_mul] at h; omega
      rw [List.getElem?_append_right (by rw [hk]; omega), hk, flatMap_get hk xs (t - k) h2]
      have e : t = (t - k) + k := by omega
      have e1 : t / k = (t - k) / k + 1 := by conv => lhs; rw [e]
                                              exact Nat.add_div_right _ k0
      have e2 : t % k = (t - k) % k := by conv => lhs; rw [e]
                                          exact Nat.add_mod_right _ _
      rw [e1, e2]
      rfl
theorem flatK_toList {α : Type} [Inhabited α] {enc : α → List Value} {k : Nat} (hk : ∀ x, (enc x).length = k) (xs : List α) : (flatK enc k xs.toArray).toList = xs.flatMap enc := by
  have hl : (xs.flatMap enc).length = xs.length * k := by
    induction xs with
    | nil => simp
    | cons x xs ih => rw [List.flatMap_cons, List.length_append, hk, ih, List.length_cons, Nat.add_mul, Nat.one_mul, Nat.add_comm]
  apply List.ext_getElem?
  intro t
  by_cases ht : t < xs.length * k
  · rw [flatMap_get hk xs t ht, Array.getElem?_toList]
    have h1 := get_flatK enc k xs.toArray t (by simpa using ht)
    have h2 : t < (flatK enc k xs.toArray).size := by rw [size_flatK]; simpa using ht
    rw [getElem!_pos _ t h2] at h1
    rw [Array.getElem?_eq_getElem h2, h1]
    have k0 : 0 < k := by
      rcases Nat.eq_zero_or_pos k with h0 | h0
      · rw [h0] at ht; simp at ht
      · exact h0
    have h3 : t % k < (enc xs[t / k]!).length := by rw [hk]; exact Nat.mod_lt _ k0
    rw [List.getElem?_eq_getElem h3]
    congr 1
    have h4 : (xs.toArray)[t / k]! = xs[t / k]! := by simp
    rw [h4]
    exact getElem!_pos (enc xs[t / k]!) (t % k) h3
  · rw [List.getElem?_eq_none (by rw [Array.length_toList, size_flatK]; simp; omega), List.getElem?_eq_none (by rw [hl]; omega)]

theorem putCells_take (F cur : Array Value) (h : F.size ≤ cur.size) : (putCells id 0 F cur).toList.take F.size = F.toList := by
  apply List.ext_getElem?
  intro t
  rw [List.getElem?_take]
  split
  · rename_i ht
    rw [Array.getElem?_toList, Array.getElem?_toList]
    unfold putCells
    rw [Array.getElem?_mapIdx, Array.getElem?_eq_getElem (show t < cur.size by omega), Array.getElem?_eq_getElem ht]
    simp [ht]
  · rename_i ht
    rw [List.getElem?_eq_none (by simpa using ht)]

/-- slices.SortFunc over a slice of the call's own. -/
theorem sort_sat {P : Program} {ρ : Ren} {α : Type} [Inhabited α] (L : SlLaysF0.n6 P ρ) {k : Nat} (aE : ∀ w, (isAgg (ρ.t 24)).run P w = .ok true w) (zE : ∀ w, (Go.sizeOf (ρ.t 24)).run P w = .ok k w) {enc : α → List Value} (hk : ∀ x, (enc x).length = k)
    (h1 : ∀ x, ∀ v ∈ enc x, v.oneCell' = true) {cf : α → α → Int} (hO : SWO (ltOf cf)) {g : Nat} (eg : ∀ args w, (callFunc g args).run P w = .ok (.enter g args) w)
    (hcmp : ∀ (E : Env) (w : World) (M : List As) (x y : α), Sat E w M → Calls P g #[.agg (enc x).toArray, .agg (enc y).toArray] w fun e w' => e = .returned (.int .i64 (cf x y)) ∧ Sat E w' M)
    {E : Env} {w : World} {M : List As} {e : Nat} {v : Value} {xs : List α} (hw : Sat E w (OwnSl e k v xs.length (xs.flatMap enc) :: M)) (hsz : xs.length < 4611686018427387904) :
    Calls P (ρ.f 6) #[v, .func (.func g) #[] #[]] w fun en w' => en = .returned (.tuple #[]) ∧ ∃ ys : List α, ys.Perm xs ∧ ys.Pairwise (fun x y => ltOf cf y x = false) ∧ Sat E w' (OwnSl e k v xs.length (ys.flatMap enc) :: M) := by
  obtain ⟨he, g0, ⟨p1, p2, d, hu, hA, hL⟩, hs⟩ := id hw
  rcases hA with ⟨a, rfl, hn, _, _⟩ | ⟨hl, ⟨rfl, hn, _⟩ | ⟨b, cap, cur, rfl, hp, hc1, hc2, hc3, hc4⟩⟩
  · have hx : xs = [] := List.eq_nil_of_length_eq_zero hn
    refine (AnyF.slices_SortFunc_none L (some a) 0 _ w).mono ?_
    rintro _ _ ⟨rfl, rfl⟩
    exact ⟨rfl, xs, .refl _, by rw [hx]; exact .nil, hw⟩
  · have hx : xs = [] := List.eq_nil_of_length_eq_zero hn
    refine (AnyF.slices_SortFunc_none L none 0 _ w).mono ?_
    rintro _ _ ⟨rfl, rfl⟩
    exact ⟨rfl, xs, .refl _, by rw [hx]; exact .nil, hw⟩
  · have hw1 : Sat E w (pt b (.cells cur e (0, 0)) :: M) := ⟨he, g0, ⟨p1, p2, d, hu, hp, hL⟩, hs⟩
    have hblk := hw1.block
    have hnk : xs.length * k ≤ cur.size := by rw [hc3]; exact Nat.mul_le_mul_right _ hc1
    have hH : HoldsK enc k w b 0 xs.toArray := by
      intro j hj
      rw [size_flatK] at hj
      have hj' : j < xs.length * k := by simpa using hj
      refine ⟨?_, ?_⟩
      · have e1 : w.cell? ⟨b, 0 + j, none⟩ = cur[j]? := by simp [World.cell?, hblk]
        rw [e1, ← Array.getElem?_toList]
        have e2 : cur.toList[j]? = (cur.toList.take (xs.length * k))[j]? := by rw [List.getElem?_take, if_pos hj']
        rw [e2, hc4, ← flatK_toList hk xs, Array.getElem?_toList]
        have h2 : j < (flatK enc k xs.toArray).size := by rw [size_flatK]; exact hj
        rw [Array.getElem?_eq_getElem h2, getElem!_pos _ j h2]
        rfl
      · simp [World.frozen?, hblk]
    refine (AnyQ.slices_SortFunc L k aE zE enc hk h1 cf hO g #[] b 0 cap xs.toArray w eg ?_ hH (Array.getElem?_eq_some_iff.1 hblk).1 (by simpa using hsz)).mono ?_
    · intro m os dk hs x y
      refine (hcmp _ _ _ x y (Sat.old _)).mono ?_
      rintro _ w' ⟨rfl, hw'⟩
      exact ⟨rfl, grown_of_sat hw'⟩
    · rintro _ w' ⟨rfl, d', n, os, ⟨hds, _, hperm⟩, hsort, rfl⟩
      have hds' : d'.size = xs.length := by simpa using hds
      have hd2 : d' = d'.toList.toArray := by simp
      refine ⟨rfl, d'.toList, ?_, ?_, ?_⟩
      · have e1 : d'.extract 0 xs.toArray.size = d' := by
          rw [← hds]; simp
        have e2 : xs.toArray.extract 0 xs.toArray.size = xs.toArray := by simp
        rw [e1, e2] at hperm
        simpa using hperm
      · rw [List.pairwise_iff_getElem]
        intro i j hi hj hij
        have := hsort i j (Nat.zero_le _) hij (by rw [Array.length_toList] at hj; omega)
        rw [getElem!_pos d' j (by simpa using hj), getElem!_pos d' i (by simpa using hi)] at this
        simpa using this
      · have hF : (flatK enc k d').size = xs.length * k := by rw [size_flatK, hds']
        have hFl : (flatK enc k d').toList = d'.toList.flatMap enc := by
          conv => lhs; rw [hd2]
          exact flatK_toList hk _
        have hw2 : Sat E (putRowK enc k (Go.Sort.ahead w n) b 0 d') (pt b (.cells (putCells id 0 (flatK enc k d') cur) e (0, 0)) :: M) := by
          refine (hw1.ahead n).set rfl ?_ ?_
          · show (w.heap.modify b _)[b]? = _
            rw [Array.getElem?_modify, if_pos rfl, hblk]
            rfl
          · intro i hi
            show (w.heap.modify b _)[i]? = _
            rw [Array.getElem?_modify, if_neg (fun h => hi h.symm)]
            rfl
        unfold sortWorldK
        refine (Sat.own_mk hw2 hc1 hc2 ?_ ?_).grow os
        · rw [← hc3]; simp [putCells]
        · have := putCells_take (flatK enc k d') cur (by omega)
          rw [hF, hFl] at this
          exact this
end Go.Proofs.Ytipdklbedpkobaa.Xe
