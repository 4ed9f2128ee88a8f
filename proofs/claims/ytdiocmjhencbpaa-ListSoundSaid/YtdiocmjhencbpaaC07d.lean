/-
  The search tree over any pages: Put.
-/
import Derived.Test.YtdiocmjhencbpaaC07c
namespace Go.Proofs.Ytdiocmjhencbpaa
set_option maxRecDepth 8000
set_option linter.unusedSimpArgs false
set_option linter.unusedVariables false
open Go Xe
section
variable {τ : Type} (P : PgOps τ)
theorem layO_len : ∀ (l : List Nd) (s : τ) (acc : List Kd), (layO P s l acc).2.1 = 0 → (layO P s l acc).1.length = acc.length + l.length
  | [], s, acc, _ => rfl
  | x :: l, s, acc, h => by
    rw [layO_cons] at h ⊢
    split at h
    · rename_i hb; exact absurd h hb
    · rename_i hb
      rw [if_neg hb, layO_len l _ _ h]; simp; omega
theorem splitN_len (x : Nd) : 1 ≤ (splitN x).length ∧ (splitN x).length ≤ 2 := by
  unfold splitN halvesN; split
  · split <;> simp
  · simp
theorem belowGo_le (ks : List Kd) (name : ByteArray) : ∀ i, belowGo ks name i ≤ i
  | 0 => Nat.le_refl _
  | i + 1 => by
    simp only [belowGo]
    split
    · have := belowGo_le ks name i; omega
    · omega
theorem belowN_lt {ks : List Kd} (h : 0 < ks.length) (name : ByteArray) : belowN ks name < ks.length := by
  have := belowGo_le ks name (ks.length - 1)
  unfold belowN; omega
theorem atO_zero {s s1 : τ} {r : Rf} {x : Nd} {k : Nat} (h : atO P k s r = (x, 0, s1)) : ∃ q, k = q + 1 ∧ at1 P s r = (x, 0, s1) := by
  cases k with
  | zero => simp [atO] at h
  | succ q => exact ⟨q, rfl, h⟩
theorem at1_kids {s s1 : τ} {r : Rf} {x : Nd} (h : at1 P s r = (x, 0, s1)) (hl : x.leaf = false) : 0 < x.kids.length := by
  unfold at1 at h
  split at h
  · rename_i hb; simp only [Prod.mk.injEq] at h; exact absurd h.2.1 hb
  · split at h
    · simp at h
    · rename_i hb
      simp only [Prod.mk.injEq] at h
      rw [← h.1] at hl ⊢
      rcases Nat.eq_zero_or_pos (P.rd s r).1.kids.length with h0 | h0
      · exact absurd ⟨hl, List.eq_nil_of_length_eq_zero h0⟩ hb
      · exact h0
theorem putO_bad {k : Nat} {s s1 : τ} {r : Rf} {e : En} {x : Nd} {bad : Int} (h : atO P k s r = (x, bad, s1)) (hb : bad ≠ 0) : putO P k s r e = ([], bad, s1) := by
  cases k with
  | zero =>
    simp only [atO, Prod.mk.injEq] at h
    obtain ⟨_, rfl, rfl⟩ := h
    rfl
  | succ k =>
    simp only [atO] at h
    simp only [putO, h]
    exact if_pos hb
theorem putO_leaf {k : Nat} {s s1 : τ} {r : Rf} {e : En} {x : Nd} (h : at1 P s r = (x, 0, s1)) (hl : x.leaf = true) : putO P (k + 1) s r e = (splitN (insN x e), 0, s1) := by
  simp only [putO, h]
  rw [if_neg (by simp), if_pos hl]
theorem putO_inner {k : Nat} {s s1 s2 : τ} {r : Rf} {e : En} {x : Nd} {l : List Nd} {bad : Int} (h : at1 P s r = (x, 0, s1)) (hl : x.leaf = false) (hr : putO P k s1 (x.kids.getD (belowN x.kids e.name) kd0).ref e = (l, bad, s2)) :
    putO P (k + 1) s r e = if bad ≠ 0 then ([], bad, s2) else if (layO P s2 l []).2.1 ≠ 0 then ([], (layO P s2 l []).2.1, (layO P s2 l []).2.2) else (splitN (reN x (belowN x.kids e.name) (belowN x.kids e.name + 1) (layO P s2 l []).1), 0, (layO P s2 l []).2.2) := by
  simp only [putO, h]
  rw [if_neg (by simp), if_neg (by simp [hl])]
  simp only [hr]
theorem putO_len : ∀ (k : Nat) {s : τ} {r : Rf} {e : En}, (putO P k s r e).2.1 = 0 → 1 ≤ (putO P k s r e).1.length ∧ (putO P k s r e).1.length ≤ 2
  | 0, s, r, e, h => by simp [putO] at h
  | k + 1, s, r, e, h => by
    rcases hq : at1 P s r with ⟨x, bad, s1⟩
    by_cases hb : bad = 0
    · subst hb
      cases hl : x.leaf with
      | true => rw [putO_leaf P hq hl]; exact splitN_len _
      | false =>
        rcases hr : putO P k s1 (x.kids.getD (belowN x.kids e.name) kd0).ref e with ⟨l, b2, s2⟩
        rw [putO_inner P hq hl hr] at h ⊢
        split at h
        · rename_i h9; exact absurd h h9
        · rename_i h9
          rw [if_neg h9]
          split at h
          · rename_i h8; exact absurd h h8
          · rename_i h8; rw [if_neg h8]; exact splitN_len _
    · have : atO P (k + 1) s r = (x, bad, s1) := hq
      rw [putO_bad P this hb] at h
      exact absurd h hb
theorem halves_small {x : Nd} (h : x.mid) : ∀ y ∈ halvesN x, y.small := by
  intro y hy
  have hm := sizeN_le h
  unfold halvesN at hy
  split at hy
  · rename_i hl
    have hs : sizeN x = x.entries.length := if_pos hl
    simp only [List.mem_cons, List.not_mem_nil, or_false] at hy
    rcases hy with rfl | rfl
    · exact ⟨by simp only [List.length_take]; omega, by simp, by simp, by simp⟩
    · exact ⟨by simp only [List.length_drop]; omega, by simp, by simp, by simp⟩
  · rename_i hl
    have hs : sizeN x = x.kids.length := if_neg hl
    simp only [List.mem_cons, List.not_mem_nil, or_false] at hy
    rcases hy with rfl | rfl
    · exact ⟨by simp, by simp only [List.length_take]; omega, by simp, by simp⟩
    · exact ⟨by simp, by simp only [List.length_drop]; omega, by simp, by simp⟩
theorem few_small {y : Nd} (hs : sizeN y ≤ 4) (h2 : y.leaf = true → y.kids = []) (h3 : y.leaf = false → y.entries = []) : y.small := by
  cases hl : y.leaf with
  | true => have : sizeN y = y.entries.length := if_pos hl; exact ⟨by omega, by rw [h2 hl]; simp, h2, h3⟩
  | false => have : sizeN y = y.kids.length := if_neg (by simp [hl]); exact ⟨by rw [h3 hl]; simp, by omega, h2, h3⟩
theorem split_small {x : Nd} (h : x.mid) (h2 : x.leaf = true → x.kids = []) (h3 : x.leaf = false → x.entries = []) : ∀ y ∈ splitN x, y.small := by
  intro y hy
  unfold splitN at hy
  split at hy
  · exact halves_small h y hy
  · rename_i hs
    simp only [List.mem_singleton] at hy
    subst hy
    exact few_small (by omega) h2 h3
end
end Go.Proofs.Ytdiocmjhencbpaa
