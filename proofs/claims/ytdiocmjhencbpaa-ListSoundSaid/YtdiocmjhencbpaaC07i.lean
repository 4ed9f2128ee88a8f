/-
  The search tree over any pages: what comes of a page with a secret taken out; Delete.
-/
import Derived.Test.YtdiocmjhencbpaaC07h
namespace Go.Proofs.Ytdiocmjhencbpaa
set_option maxRecDepth 8000
set_option linter.unusedSimpArgs false
set_option linter.unusedVariables false
open Go Xe
section
variable {τ : Type} (P : PgOps τ)
theorem takeO_bad {k : Nat} {s s1 : τ} {r : Rf} {name : ByteArray} {x : Nd} {bad : Int} (h : atO P k s r = (x, bad, s1)) (hb : bad ≠ 0) : takeO P k s r name = (nd0, false, bad, s1) := by
  cases k with
  | zero => simp only [atO, Prod.mk.injEq] at h; obtain ⟨_, rfl, rfl⟩ := h; rfl
  | succ k => simp only [atO] at h; simp only [takeO, h]; exact if_pos hb
theorem takeO_leaf {k : Nat} {s s1 : τ} {r : Rf} {name : ByteArray} {x : Nd} (h : at1 P s r = (x, 0, s1)) (hl : x.leaf = true) :
    takeO P (k + 1) s r name = (⟨true, if searchB x.entries name = true then x.entries.eraseIdx (searchI x.entries name) else x.entries, x.kids⟩, searchB x.entries name, 0, s1) := by
  simp only [takeO, h]; rw [if_neg (by simp), if_pos hl]
theorem takeO_no {k : Nat} {s s1 s2 : τ} {r : Rf} {name : ByteArray} {x y : Nd} {is : Bool} {b2 : Int} (h : at1 P s r = (x, 0, s1)) (hl : x.leaf = false) (hr : takeO P k s1 (x.kids.getD (belowN x.kids name) kd0).ref name = (y, is, b2, s2)) (hb : b2 ≠ 0 ∨ is = false) :
    takeO P (k + 1) s r name = (nd0, false, b2, s2) := by
  simp only [takeO, h]; rw [if_neg (by simp), if_neg (by simp [hl])]; simp only [hr]; exact if_pos hb
/-- A page whose kids were put together anew. -/
def endO (x : Nd) (f t : Nat) (l : List Nd × Int × τ) : Nd × Bool × Int × τ :=
  if l.2.1 ≠ 0 then (nd0, false, l.2.1, l.2.2) else
  if (layO P l.2.2 l.1 []).2.1 ≠ 0 then (nd0, false, (layO P l.2.2 l.1 []).2.1, (layO P l.2.2 l.1 []).2.2) else (reN x f t (layO P l.2.2 l.1 []).1, true, 0, (layO P l.2.2 l.1 []).2.2)
theorem takeO_level {k : Nat} {s s1 s2 : τ} {r : Rf} {name : ByteArray} {x y : Nd} {i : Nat} (h : at1 P s r = (x, 0, s1)) (hl : x.leaf = false) (hi : i = belowN x.kids name) (hr : takeO P k s1 (x.kids.getD (belowN x.kids name) kd0).ref name = (y, true, 0, s2)) (hc : sizeN y < 2 ∧ 1 < x.kids.length) :
    takeO P (k + 1) s r name = endO P x (min i (x.kids.length - 2)) (min i (x.kids.length - 2) + 2) (levelO P k s2 x i (min i (x.kids.length - 2)) y) := by
  subst hi
  simp only [takeO, h]; rw [if_neg (by simp), if_neg (by simp [hl])]; simp only [hr]; rw [if_neg (by simp)]; simp only [if_pos hc]; rfl
theorem takeO_plain {k : Nat} {s s1 s2 : τ} {r : Rf} {name : ByteArray} {x y : Nd} {i : Nat} (h : at1 P s r = (x, 0, s1)) (hl : x.leaf = false) (hi : i = belowN x.kids name) (hr : takeO P k s1 (x.kids.getD (belowN x.kids name) kd0).ref name = (y, true, 0, s2)) (hc : ¬ (sizeN y < 2 ∧ 1 < x.kids.length)) :
    takeO P (k + 1) s r name = endO P x i (i + 1) ([y], 0, s2) := by
  subst hi
  simp only [takeO, h]; rw [if_neg (by simp), if_neg (by simp [hl])]; simp only [hr]; rw [if_neg (by simp)]; simp only [if_neg hc]; rfl
theorem levelO_len {k : Nat} {s : τ} {x y : Nd} {i f : Nat} : (levelO P k s x i f y).1.length ≤ 2 ∧ ((levelO P k s x i f y).2.1 = 0 → 1 ≤ (levelO P k s x i f y).1.length) := by
  rcases hq : atO P k s (x.kids.getD (2 * f + 1 - i) kd0).ref with ⟨z, bad, s1⟩
  by_cases hb : bad = 0
  · subst hb
    by_cases hl : z.leaf = y.leaf
    · rw [levelO_ok P hq hl]
      have := evenN_len (if 2 * f + 1 - i < i then withN z y else withN y z)
      exact ⟨this.2, fun _ => this.1⟩
    · rw [levelO_leaf P hq hl]; simp
  · rw [levelO_bad P hq hb]; exact ⟨by simp, fun h => absurd h hb⟩
end
end Go.Proofs.Ytdiocmjhencbpaa
