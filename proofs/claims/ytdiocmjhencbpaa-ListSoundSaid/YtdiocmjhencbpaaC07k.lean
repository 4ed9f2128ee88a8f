/-
  The search tree over any pages: Move.
-/
import Derived.Test.YtdiocmjhencbpaaC07j
namespace Go.Proofs.Ytdiocmjhencbpaa
set_option maxRecDepth 8000
set_option linter.unusedSimpArgs false
set_option linter.unusedVariables false
open Go Xe
section
variable {τ : Type} (P : PgOps τ)
theorem moveO_bad {segs : List Int} {k : Nat} {s s1 : τ} {r : Rf} {x : Nd} {bad : Int} (h : atO P k s r = (x, bad, s1)) (hb : bad ≠ 0) : moveO P segs k s r = (rf0, 0, bad, s1) := by
  cases k with
  | zero => simp only [atO, Prod.mk.injEq] at h; obtain ⟨_, rfl, rfl⟩ := h; rfl
  | succ k => simp only [atO] at h; simp only [moveO, h]; exact if_pos hb
theorem moveO_ok {segs : List Int} {k : Nat} {s s1 : τ} {r : Rf} {x : Nd} (h : at1 P s r = (x, 0, s1)) {ks : List Kd} {n bad : Int} {s2 : τ} (hm : movesO (moveO P segs k) x.kids 0 s1 = (ks, n, bad, s2)) :
    moveO P segs (k + 1) s r = if bad ≠ 0 then (rf0, 0, bad, s2) else if n = 0 ∧ r.seg ∉ segs then (r, 0, 0, s2) else if (P.wr s2 ⟨x.leaf, x.entries, ks⟩).2.1 ≠ 0 then (rf0, 0, (P.wr s2 ⟨x.leaf, x.entries, ks⟩).2.1, (P.wr s2 ⟨x.leaf, x.entries, ks⟩).2.2) else ((P.wr s2 ⟨x.leaf, x.entries, ks⟩).1, n + 1, 0, (P.wr s2 ⟨x.leaf, x.entries, ks⟩).2.2) := by
  simp only [moveO, h]; rw [if_neg (by simp)]; simp only [hm]
theorem movesO_cons {f : τ → Rf → Rf × Int × Int × τ} {k : Kd} {ks : List Kd} {n : Int} {s : τ} : movesO f (k :: ks) n s = if (f s k.ref).2.2.1 ≠ 0 then ([], 0, (f s k.ref).2.2.1, (f s k.ref).2.2.2) else
    (⟨k.low, (f s k.ref).1⟩ :: (movesO f ks (n + (f s k.ref).2.1) (f s k.ref).2.2.2).1, (movesO f ks (n + (f s k.ref).2.1) (f s k.ref).2.2.2).2.1, (movesO f ks (n + (f s k.ref).2.1) (f s k.ref).2.2.2).2.2.1, (movesO f ks (n + (f s k.ref).2.1) (f s k.ref).2.2.2).2.2.2) := rfl
end
def mvB : Nat → Int
  | 0 => 0
  | k + 1 => 4 * mvB k + 1
theorem mvB_pos : ∀ k, 0 ≤ mvB k
  | 0 => by simp [mvB]
  | k + 1 => by have := mvB_pos k; simp only [mvB]; omega
theorem mvB_mono : ∀ {k m : Nat}, k ≤ m → mvB k ≤ mvB m
  | _, 0, h => by rw [Nat.le_zero.1 h]; exact Int.le_refl _
  | k, m + 1, h => by
    rcases Nat.lt_or_ge m k with h1 | h1
    · rw [show k = m + 1 by omega]; exact Int.le_refl _
    · have h2 := mvB_mono h1
      have h3 := mvB_pos m
      simp only [mvB]; omega
theorem mvB_le {k : Nat} (h : k ≤ 9) : mvB k ≤ 100000 := Int.le_trans (mvB_mono h) (by decide)
/-- The cells of a row of kids of which one leads elsewhere. -/
theorem kid_set {done rest : List Kd} {y : Kd} {r : Rf} {o : Nat} (ho : o = done.length * 5 + 1) :
    ((done ++ y :: rest).flatMap Kd.cells).take o ++ r.cells ++ ((done ++ y :: rest).flatMap Kd.cells).drop (o + 4) = (done ++ ⟨y.low, r⟩ :: rest).flatMap Kd.cells := by
  subst ho
  have hl := kids_len done
  rw [List.flatMap_append, List.flatMap_append, List.flatMap_cons, List.flatMap_cons, ← hl, List.take_length_add_append, show (done.flatMap Kd.cells).length + 1 + 4 = (done.flatMap Kd.cells).length + 5 by omega, List.drop_length_add_append]
  simp
end Go.Proofs.Ytdiocmjhencbpaa
