/-
  The laws' own helpers of layer 14: a new log, a raw number among n.
-/
import Derived.Test.YtlgpdglnfjndhaaS14d
namespace Go.Proofs.Ytlgpdglnfjndhaa
set_option maxRecDepth 8000
set_option linter.unusedSimpArgs false
set_option linter.unusedVariables false
open Go Xe Go.Lib
def newMd (size : Int) (n : Nat) : Md := ⟨size, List.replicate n ByteArray.empty, [], 0⟩
theorem newSegs_len {n : Nat} (h : 1 ≤ n) : (newSegs n).length = n := by unfold newSegs; simp; omega
theorem new_LgI {size : Int} {n : Nat} (h1 : 1 ≤ n) (h2 : n ≤ 4096) (h3 : 1 ≤ size) (h4 : size ≤ 1048576) : LgI size 0 (newSegs n) (newMd size n) ⟨false, 0, 0⟩ := by
  have hl := newSegs_len h1
  refine ⟨⟨by simp [newMd]; omega, by simp [newMd]; omega, h3, h4, fun b hb => by rw [(List.mem_replicate.1 hb).2]; show ((0 : Nat) : Int) ≤ size; omega⟩, rfl, by rw [hl]; simp [newMd], Int.le_refl _, by rw [hl]; omega, rfl, ?_, ?_, ⟨by simp, by simp, rfl⟩, ⟨rfl, rfl⟩⟩
  · show (0 : Int) ≤ _; omega
  · intro x hx
    have hq : (newMd size n).size = size := rfl
    rw [hq]
    unfold newSegs at hx
    rcases List.mem_cons.1 hx with rfl | hx
    · simp only; omega
    · rw [(List.mem_replicate.1 hx).2]; simp only; omega
theorem new_frees (n : Nat) : frees (newSegs n) = n - 1 := by
  unfold frees newSegs
  rw [List.countP_cons_of_neg (by simp)]
  simp [List.countP_replicate]
end Go.Proofs.Ytlgpdglnfjndhaa

/-
  A log's room: rows of at most a quarter segment; a power that is cut (no program).
-/
namespace Go.Proofs.Ytlgpdglnfjndhaa
set_option maxRecDepth 8000
set_option linter.unusedSimpArgs false
set_option linter.unusedVariables false
open Go Xe Go.Lib
def RoomI (q : Int) (F0 m : Nat) (o : Int) (ss : List Sg) : Prop := frees ss ≤ F0 ∧ (frees ss = F0 ∨ ∃ r : Int, 1 ≤ r ∧ 4 * ((F0 : Int) - frees ss - 1) + r ≤ m ∧ (sgAt ss o).used ≤ q * r)
theorem RoomI.le {q : Int} {F0 m : Nat} {o : Int} {ss : List Sg} (h : RoomI q F0 m o ss) : 4 * ((F0 : Int) - frees ss) ≤ m + 3 := by
  obtain ⟨h1, h2 | ⟨r, h3, h4, _⟩⟩ := h <;> omega
theorem room_step {q o : Int} {ss : List Sg} {md : Md} {pw : Pw} {F0 m : Nat} (I : LgI (4 * q) o ss md pw) (v : ByteArray) (hv : v ≠ ByteArray.empty) (hq : (v.size : Int) ≤ q) (hf : 0 < frees ss) (h : RoomI q F0 m o ss) :
    (appL o ss md pw v).bad = 0 ∧ RoomI q F0 (m + 1) (appL o ss md pw v).o (appL o ss md pw v).ss := by
  obtain ⟨h0, _, _, _, h5⟩ := app_step I v hv (by omega) hf
  obtain ⟨h1, h2⟩ := h
  refine ⟨h0, ?_⟩
  rcases h5 with ⟨ha, hb, hc⟩ | ⟨ha, hb, hc⟩
  · refine ⟨by omega, .inr ⟨1, by omega, ?_, by rw [hc]; omega⟩⟩
    rcases h2 with h2 | ⟨r, h3, h4, h6⟩
    · omega
    · have h7 : 4 ≤ r := by
        rcases Int.lt_or_le r 4 with h8 | h8
        · have : q * r ≤ q * 3 := Int.mul_le_mul_of_nonneg_left (by omega) (by omega)
          omega
        · exact h8
      omega
  · refine ⟨by omega, ?_⟩
    rcases h2 with h2 | ⟨r, h3, h4, h6⟩
    · exact .inl (by omega)
    · refine .inr ⟨r + 1, by omega, by omega, ?_⟩
      rw [hc, Int.mul_add]; omega
/-- A power of the same count that is on, and will not be cut. -/
def Pw.plain (p : Pw) : Pw := ⟨false, 0, p.writes⟩
theorem spend_on {pw : Pw} (h : pw.off = false) : pw.spend.1 = 0 ∧ pw.spend.2.plain = pw.plain.spend.2 := by
  simp only [Pw.spend, Pw.plain, h, Bool.false_eq_true, if_false]
  split <;> simp
theorem spend_off {pw : Pw} (h : pw.off = true) : pw.spend = (110, pw) := by
  unfold Pw.spend; rw [if_pos h]
theorem write_plain {md : Md} {pw : Pw} {i at_ : Int} {v : ByteArray} (h : (md.write pw.plain i at_ v).1 = 0) :
    (pw.off = false → md.write pw i at_ v = (0, (md.write pw.plain i at_ v).2.1, pw.spend.2)) ∧ (pw.off = true → md.write pw i at_ v = (110, md, pw)) ∧ (md.write pw.plain i at_ v).2.2 = pw.plain.spend.2 := by
  have hpl : pw.plain.spend.1 = 0 := (spend_on (pw := pw.plain) rfl).1
  unfold Md.write at h ⊢
  split at h
  · rename_i h1
    simp only [if_pos h1]
    split at h
    · cases h
    · rename_i h2
      simp only [if_neg h2]
      split at h
      · cases h
      · rename_i h3
        simp only [if_neg h3, if_pos hpl]
        refine ⟨fun ho => ?_, fun ho => ?_, trivial⟩
        · rw [if_pos (spend_on ho).1]
        · rw [spend_off ho]; rw [if_neg (by simp)]
  · cases h
/-- An Append under a power that is on, or off: as under one that will not be cut. -/
theorem app_plain {o : Int} {ss : List Sg} {md : Md} {pw : Pw} {v : ByteArray} (h : (appL o ss md pw.plain v).bad = 0) :
    (pw.off = false → appL o ss md pw v = ⟨(appL o ss md pw.plain v).at_, 0, (appL o ss md pw.plain v).o, (appL o ss md pw.plain v).ss, (appL o ss md pw.plain v).md, pw.spend.2⟩) ∧
      (pw.off = true → appL o ss md pw v = ⟨(0, 0, 0), 110, o, ss, md, pw⟩) ∧ (appL o ss md pw.plain v).pw = pw.plain.spend.2 := by
  unfold appL at h ⊢
  split at h
  · cases h
  · rename_i h1
    simp only [if_neg h1]
    split at h
    · cases h
    · rename_i h2
      simp only [if_neg h2]
      split at h
      · rename_i h3; exact absurd h h3
      · rename_i h3
        have hw := write_plain (Classical.not_not.1 h3)
        simp only [if_neg h3]
        refine ⟨fun ho => ?_, fun ho => ?_, hw.2.2⟩
        · rw [hw.1 ho]; simp
        · rw [hw.2.1 ho]; simp
end Go.Proofs.Ytlgpdglnfjndhaa
