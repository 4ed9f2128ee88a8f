/-
  The cache (layer 15): Get, whatever comes of it.
-/
import Derived.Test.YtlgpdglnfjndhaaC15c
namespace Go.Proofs.Ytlgpdglnfjndhaa
set_option maxRecDepth 8000
set_option linter.unusedSimpArgs false
set_option linter.unusedVariables false
open Go Xe
def Ch.get (s : Ch) (r : Rf) : Nd × Bool × Ch :=
  match s.l[(s.pl r).toNat]? with
  | some x => if 0 ≤ s.pl r then (x.node, true, s.hit (s.pl r).toNat x) else (⟨false, [], []⟩, false, s.miss)
  | none => (⟨false, [], []⟩, false, s.miss)
theorem Ch.get_no {s : Ch} {r : Rf} (h : s.pl r = -1) : s.get r = (⟨false, [], []⟩, false, s.miss) := by
  unfold Ch.get; split
  · rw [if_neg (by omega)]
  · rfl
theorem Ch.get_yes {s : Ch} {r : Rf} {i : Nat} {x : Hd} (h : s.pl r = i) (hx : s.l[i]? = some x) : s.get r = (x.node, true, s.hit i x) := by
  unfold Ch.get; rw [h, Int.toNat_natCast, hx]; exact if_pos (by omega)
theorem Ch.get_facts (s : Ch) (r : Rf) : (s.get r).2.2.l.length = s.l.length ∧ (s.get r).2.2.room = s.room := by
  have hpb := s.pl_bound r
  by_cases h : s.pl r = -1
  · rw [Ch.get_no h]; exact ⟨rfl, rfl⟩
  · have hlt : (s.pl r).toNat < s.l.length := by omega
    rw [Ch.get_yes (i := (s.pl r).toNat) (by omega) (List.getElem?_eq_getElem hlt)]
    refine ⟨?_, rfl⟩
    simp only [Ch.hit, List.length_append, List.length_cons, List.length_nil]; rw [List.length_eraseIdx_of_lt hlt]; omega
end Go.Proofs.Ytlgpdglnfjndhaa
