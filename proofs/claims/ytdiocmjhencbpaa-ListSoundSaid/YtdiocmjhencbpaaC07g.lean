/-
  The search tree over any pages: Get.
-/
import Derived.Test.YtdiocmjhencbpaaC07f
namespace Go.Proofs.Ytdiocmjhencbpaa
set_option maxRecDepth 8000
set_option linter.unusedSimpArgs false
set_option linter.unusedVariables false
open Go Xe
section
variable {τ : Type} (P : PgOps τ)
theorem getO_bad {k : Nat} {s s1 : τ} {r : Rf} {name : ByteArray} {x : Nd} {bad : Int} (h : atO P k s r = (x, bad, s1)) (hb : bad ≠ 0) : getO P k s r name = (en0, false, bad, s1) := by
  cases k with
  | zero => simp only [atO, Prod.mk.injEq] at h; obtain ⟨_, rfl, rfl⟩ := h; rfl
  | succ k => simp only [atO] at h; simp only [getO, h]; exact if_pos hb
theorem getO_leaf {k : Nat} {s s1 : τ} {r : Rf} {name : ByteArray} {x : Nd} (h : at1 P s r = (x, 0, s1)) (hl : x.leaf = true) : getO P (k + 1) s r name = if searchB x.entries name = true then (x.entries.getD (searchI x.entries name) en0, true, 0, s1) else (en0, false, 0, s1) := by
  simp only [getO, h]; rw [if_neg (by simp), if_pos hl]
theorem getO_inner {k : Nat} {s s1 : τ} {r : Rf} {name : ByteArray} {x : Nd} (h : at1 P s r = (x, 0, s1)) (hl : x.leaf = false) : getO P (k + 1) s r name = getO P k s1 (x.kids.getD (belowN x.kids name) kd0).ref name := by
  simp only [getO, h]; rw [if_neg (by simp), if_neg (by simp [hl])]
end
theorem own_vn0 {E : Env} {w : World} {L : List As} (h : Sat E w L) : Sat E w (VnsAt (.slice none 0 0) en0.versions :: L) := h.own_nil 113 3
end Go.Proofs.Ytdiocmjhencbpaa
