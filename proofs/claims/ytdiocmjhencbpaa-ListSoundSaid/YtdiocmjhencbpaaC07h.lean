/-
  The search tree over any pages: what comes of a page with a secret taken out.
-/
import Derived.Test.YtdiocmjhencbpaaC07g
namespace Go.Proofs.Ytdiocmjhencbpaa
set_option maxRecDepth 8000
set_option linter.unusedSimpArgs false
set_option linter.unusedVariables false
open Go Xe
theorem halves_len (x : Nd) : (halvesN x).length = 2 := by unfold halvesN; split <;> rfl
theorem with_mid {x y : Nd} (hx : x.small) (hy : y.small) : (withN x y).mid := ⟨by simp only [withN, List.length_append]; have := hx.1; have := hy.1; omega, by simp only [withN, List.length_append]; have := hx.2.1; have := hy.2.1; omega⟩
/-- What two neighbours become. -/
def evenN (all : Nd) : List Nd := if sizeN all < 4 then [all] else halvesN all
theorem evenN_len (x : Nd) : 1 ≤ (evenN x).length ∧ (evenN x).length ≤ 2 := by
  unfold evenN; split
  · simp
  · rw [halves_len]; omega
theorem even_small {x : Nd} (h : x.mid) (h2 : x.leaf = true → x.kids = []) (h3 : x.leaf = false → x.entries = []) : ∀ y ∈ evenN x, y.small := by
  intro y hy
  unfold evenN at hy
  split at hy
  · rename_i hs
    simp only [List.mem_singleton] at hy
    subst hy
    exact few_small (by omega) h2 h3
  · exact halves_small h y hy
theorem with_proper {x y : Nd} (hx : x.small) (hy : y.small) (hl : y.leaf = x.leaf) : ((withN x y).leaf = true → (withN x y).kids = []) ∧ ((withN x y).leaf = false → (withN x y).entries = []) := by
  obtain ⟨_, _, h1, h2⟩ := hx
  obtain ⟨_, _, h3, h4⟩ := hy
  exact ⟨fun h => by simp only [withN] at h ⊢; rw [h1 h, h3 (hl.trans h)]; rfl, fun h => by simp only [withN] at h ⊢; rw [h2 h, h4 (hl.trans h)]; rfl⟩
theorem levelO_bad {τ : Type} (P : PgOps τ) {k : Nat} {s s1 : τ} {x y z : Nd} {i f : Nat} {bad : Int} (h : atO P k s (x.kids.getD (2 * f + 1 - i) kd0).ref = (z, bad, s1)) (hb : bad ≠ 0) : levelO P k s x i f y = ([], bad, s1) := by
  simp only [levelO, h]; exact if_pos hb
theorem levelO_leaf {τ : Type} (P : PgOps τ) {k : Nat} {s s1 : τ} {x y z : Nd} {i f : Nat} (h : atO P k s (x.kids.getD (2 * f + 1 - i) kd0).ref = (z, 0, s1)) (hl : z.leaf ≠ y.leaf) : levelO P k s x i f y = ([], 70, s1) := by
  simp only [levelO, h]; rw [if_neg (by simp), if_pos hl]
theorem levelO_ok {τ : Type} (P : PgOps τ) {k : Nat} {s s1 : τ} {x y z : Nd} {i f : Nat} (h : atO P k s (x.kids.getD (2 * f + 1 - i) kd0).ref = (z, 0, s1)) (hl : z.leaf = y.leaf) : levelO P k s x i f y = (evenN (if 2 * f + 1 - i < i then withN z y else withN y z), 0, s1) := by
  simp only [levelO, h]; rw [if_neg (by simp), if_neg (by simp [hl])]; rfl
end Go.Proofs.Ytdiocmjhencbpaa
