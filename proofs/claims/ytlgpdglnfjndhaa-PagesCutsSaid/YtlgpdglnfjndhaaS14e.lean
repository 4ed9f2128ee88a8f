/-
  The laws' own helpers of layer 14: a new log, a raw number among n.
-/
import Derived.Test.YtlgpdglnfjndhaaS14d
namespace Go.Proofs.Ytlgpdglnfjndhaa
set_option maxRecDepth 8000
set_option linter.unusedSimpArgs false
set_option linter.unusedVariables false
open Go Xe Go.Lib
def newMd (size : Int) (n : Nat) : Md := ⟨size, List.replicate n ByteArray.empty, [], 0⟩
theorem newSegs_len {n : Nat} (h : 1 ≤ n) : (newSegs n).length = n := by unfold newSegs; simp; omega
theorem new_LgI {size : Int} {n : Nat} (h1 : 1 ≤ n) (h2 : n ≤ 4096) (h3 : 1 ≤ size) (h4 : size ≤ 1048576) : LgI size 0 (newSegs n) (newMd size n) ⟨false, 0, 0⟩ := by
  have hl := newSegs_len h1
  refine ⟨⟨by simp [newMd]; omega, by simp [newMd]; omega, h3, h4, fun b hb => by rw [(List.mem_replicate.1 hb).2]; show ((0 : Nat) : Int) ≤ size; omega⟩, rfl, by rw [hl]; simp [newMd], Int.le_refl _, by rw [hl]; omega, rfl, ?_, ?_, ⟨by simp, by simp, rfl⟩, ⟨rfl, rfl⟩⟩
  · show (0 : Int) ≤ _; omega
  · intro x hx
    have hq : (newMd size n).size = size := rfl
    rw [hq]
    unfold newSegs at hx
    rcases List.mem_cons.1 hx with rfl | hx
    · simp only; omega
    · rw [(List.mem_replicate.1 hx).2]; simp only; omega
theorem new_frees (n : Nat) : frees (newSegs n) = n - 1 := by
  unfold frees newSegs
  rw [List.countP_cons_of_neg (by simp)]
  simp [List.countP_replicate]
end Go.Proofs.Ytlgpdglnfjndhaa
