/-
  The power (layer 11) and its reference: what each of their calls does.
-/
import Derived.Test.YtlgpdglnfjndhaaT
namespace Go.Proofs.Ytlgpdglnfjndhaa
set_option maxRecDepth 8000
set_option linter.unusedSimpArgs false
set_option linter.unusedVariables false
open Go Xe

/-- A power's fields. -/
structure Pw where
  off : Bool
  ahead : Int
  writes : Int
@[reducible] def PwAt (p : Nat) (s : Pw) : As := pt p (.cells [Value.bool s.off, .int .i64 s.ahead, .int .i64 s.writes].toArray 79 (0, 0))
def Pw.ok (s : Pw) : Prop := 0 ≤ s.ahead ∧ s.ahead ≤ 1073741824 ∧ IntKind.i64.wrap s.writes = s.writes

def Pw.spend (s : Pw) : Int × Pw :=
  if s.off then (110, s) else
  if 0 < s.ahead then (0, ⟨decide (s.ahead - 1 = 0), s.ahead - 1, IntKind.i64.wrap (s.writes + 1)⟩) else (0, ⟨s.off, s.ahead, IntKind.i64.wrap (s.writes + 1)⟩)
def Pw.cut (s : Pw) (n : Int) : Pw := if s.off then s else ⟨decide (n = 0), min (max n 0) 1073741824, s.writes⟩
def Pw.restore (s : Pw) : Pw := ⟨false, 0, s.writes⟩
def Pw.left (s : Pw) : Int := if s.off then 0 else if s.ahead = 0 then -1 else s.ahead

theorem spend_calls {E : Env} {w : World} {L : List As} (p : Nat) (s : Pw) (hok : s.ok) (hw : Sat E w (PwAt p s :: L)) :
    Calls Try.prog 34 #[.pointer (some ⟨p, 0, none⟩)] w fun e w' => e = .returned (.int .i64 s.spend.1) ∧ Sat E w' (PwAt p s.spend.2 :: L) := by
  obtain ⟨off, ahead, writes⟩ := s
  obtain ⟨h0, h1, _⟩ := hok
  simp only at h0 h1
  refine calls_of_g (n := 34) Try.func34 rfl rfl rfl ?_
  change G _ _ _ _ _ [(0, _)] _
  repeat (refine g_seq ?_)
  refine g_region ?_
  refine xV rfl rfl rfl (v_assign rfl) ?_
  refine rl_nil (g_le (xK (Fr.le_refl _)) ?_)
  repeat (refine g_seq ?_)
  refine g_region ?_
  refine xV rfl rfl rfl (v_move rfl) ?_
  refine xV rfl rfl rfl (v_nilCheck rfl) ?_
  refine xV rfl rfl rfl (v_fieldAddr0 T.fld_79_0_0 rfl) ?_
  refine rl_v rfl rfl rfl (by exact sat_cell hw (by (repeat first | with_reducible exact xH | apply xT); first | done | fail) rfl) (v_load T.scal_4 rfl) ?_
  refine rl_nil (g_le (xK (xS rfl (xS rfl (xS rfl (Fr.le_refl _))))) ?_)
  repeat (first | refine g_seq ?_ | refine g_skip ?_ | refine g_inBlock ?_ | refine g_block ?_ | refine g_label ?_)
  refine g_cond rfl (fun h => ?_) (fun h => ?_)
  · subst h
    repeat (refine g_seq ?_)
    refine g_region ?_
    refine xV rfl rfl rfl (v_assign rfl) ?_
    refine rl_nil (g_le (xK (Fr.le_refl _)) ?_)
    refine g_ret1 Try.func34 rfl rfl ?_
    exact ⟨rfl, hw⟩
  · subst h
    repeat (first | refine g_seq ?_ | refine g_skip ?_)
    refine g_region ?_
    refine xV rfl rfl rfl (v_move rfl) ?_
    refine xV rfl rfl rfl (v_nilCheck rfl) ?_
    refine xV rfl rfl rfl (v_fieldAddr0 T.fld_79_2_2 rfl) ?_
    refine rl_v rfl rfl rfl (by exact sat_cell hw (by (repeat first | with_reducible exact xH | apply xT); first | done | fail) rfl) (v_load T.scal_3 rfl) ?_
    refine xV rfl rfl rfl (v_addW rfl rfl) ?_
    refine xV rfl rfl rfl (v_nilCheck rfl) ?_
    refine xV rfl rfl rfl (v_fieldAddr0 T.fld_79_2_2 rfl) ?_
    refine rl_k rfl (k_store hw T.scal_3 rfl rfl rfl (by (repeat first | with_reducible exact xH | apply xT); first | done | fail) rfl (by simp only [List.set, Int.reduceToNat, Nat.reduceMul, Nat.reduceAdd]; rfl) (fun w hw => ?_))
    refine rl_nil (g_le (xS rfl (xS rfl (xS rfl (xS rfl (xS rfl (xS rfl (xS rfl (Fr.le_refl _)))))))) ?_)
    repeat (refine g_seq ?_)
    refine g_region ?_
    refine xV rfl rfl rfl (v_move rfl) ?_
    refine xV rfl rfl rfl (v_nilCheck rfl) ?_
    refine xV rfl rfl rfl (v_fieldAddr0 T.fld_79_1_1 rfl) ?_
    refine rl_v rfl rfl rfl (by exact sat_cell hw (by (repeat first | with_reducible exact xH | apply xT); first | done | fail) rfl) (v_load T.scal_3 rfl) ?_
    refine xV rfl rfl rfl (v_gtr rfl rfl) ?_
    refine rl_nil (g_le (xK (xS rfl (xS rfl (xS rfl (xS rfl (Fr.le_refl _)))))) ?_)
    refine g_cond_dec rfl (fun h => ?_) (fun h => ?_)
    · repeat (refine g_seq ?_)
      refine g_region ?_
      refine xV rfl rfl rfl (v_move rfl) ?_
      refine xV rfl rfl rfl (v_nilCheck rfl) ?_
      refine xV rfl rfl rfl (v_fieldAddr0 T.fld_79_1_1 rfl) ?_
      refine rl_v rfl rfl rfl (by exact sat_cell hw (by (repeat first | with_reducible exact xH | apply xT); first | done | fail) rfl) (v_load T.scal_3 rfl) ?_
      refine xV rfl rfl rfl (v_sub rfl rfl (by omega)) ?_
      refine xV rfl rfl rfl (v_nilCheck rfl) ?_
      refine xV rfl rfl rfl (v_fieldAddr0 T.fld_79_1_1 rfl) ?_
      refine rl_k rfl (k_store hw T.scal_3 rfl rfl rfl (by (repeat first | with_reducible exact xH | apply xT); first | done | fail) rfl (by simp only [List.set, Int.reduceToNat, Nat.reduceMul, Nat.reduceAdd]; rfl) (fun w hw => ?_))
      refine rl_nil (g_le (xS rfl (xS rfl (xS rfl (xS rfl (xS rfl (xS rfl (xS rfl (Fr.le_refl _)))))))) ?_)
      repeat (first | refine g_seq ?_ | refine g_skip ?_ | refine g_inBlock ?_ | refine g_block ?_ | refine g_label ?_)
      refine g_region ?_
      refine xV rfl rfl rfl (v_move rfl) ?_
      refine xV rfl rfl rfl (v_move rfl) ?_
      refine xV rfl rfl rfl (v_nilCheck rfl) ?_
      refine xV rfl rfl rfl (v_fieldAddr0 T.fld_79_1_1 rfl) ?_
      refine rl_v rfl rfl rfl (by exact sat_cell hw (by (repeat first | with_reducible exact xH | apply xT); first | done | fail) rfl) (v_load T.scal_3 rfl) ?_
      refine xV rfl rfl rfl (v_eql rfl rfl) ?_
      refine xV rfl rfl rfl (v_nilCheck rfl) ?_
      refine xV rfl rfl rfl (v_fieldAddr0 T.fld_79_0_0 rfl) ?_
      refine rl_k rfl (k_store hw T.scal_4 rfl rfl rfl (by (repeat first | with_reducible exact xH | apply xT); first | done | fail) rfl (by simp only [List.set, Int.reduceToNat, Nat.reduceMul, Nat.reduceAdd]; rfl) (fun w hw => ?_))
      refine rl_nil (g_le (xS rfl (xS rfl (xS rfl (xS rfl (xS rfl (xS rfl (xS rfl (xS rfl (Fr.le_refl _))))))))) ?_)
      repeat (refine g_seq ?_)
      refine g_region ?_
      refine xV rfl rfl rfl (v_assign rfl) ?_
      refine rl_nil (g_le (xK (Fr.le_refl _)) ?_)
      refine g_ret1 Try.func34 rfl rfl ?_
      refine ⟨?_, ?_⟩
      · simp [Pw.spend, h]
      · simpa [Pw.spend, h] using hw
    · repeat (first | refine g_seq ?_ | refine g_skip ?_)
      refine g_region ?_
      refine xV rfl rfl rfl (v_assign rfl) ?_
      refine rl_nil (g_le (xK (Fr.le_refl _)) ?_)
      refine g_ret1 Try.func34 rfl rfl ?_
      refine ⟨?_, ?_⟩
      · simp [Pw.spend, h]
      · simpa [Pw.spend, h] using hw

theorem new_calls {E : Env} {w : World} {L : List As} (hw : Sat E w L) :
    Calls Try.prog 20 #[] w fun e w' => ∃ p, e = .returned (.pointer (some ⟨p, 0, none⟩)) ∧ Sat E w' (PwAt p ⟨false, 0, 0⟩ :: L) := by
  refine calls_of_g (n := 3) Try.func20 rfl rfl rfl ?_
  change G _ _ _ _ _ [] _
  repeat (refine g_seq ?_)
  refine g_region ?_
  refine xV rfl rfl rfl (v_assign rfl) ?_
  refine rl_nil (g_le (xK (Fr.le_refl _)) ?_)
  repeat (refine g_seq ?_)
  refine g_region ?_
  refine xV rfl rfl rfl (v_build rfl (T.build_79 ..)) ?_
  refine rl_k rfl (k_box hw rfl rfl rfl (fun blk w hw => ?_))
  refine xV rfl rfl rfl (v_assign rfl) ?_
  refine rl_nil (g_le (xK (xS rfl (xS rfl (Fr.le_refl _)))) ?_)
  refine g_ret1 Try.func20 rfl rfl ?_
  exact ⟨_, rfl, hw⟩

/-! ### The reference -/
structure Rw where
  is : Bool
  ahead : Int
  done : Int
/-- The reference's power of a power. -/
def Pw.ref (s : Pw) : Rw := ⟨!s.off, s.ahead, s.writes⟩

theorem wrap_wrap (n : Int) : IntKind.i64.wrap (IntKind.i64.wrap n) = IntKind.i64.wrap n := by
  have := IntKind.wrap_i64 n
  exact i64_in (by rw [this]; omega)
theorem Pw.ok_spend {s : Pw} (h : s.ok) : s.spend.2.ok := by
  obtain ⟨h0, h1, h2⟩ := h
  unfold Pw.spend
  split
  · exact ⟨h0, h1, h2⟩
  · split
    · exact ⟨by simp only; omega, by simp only; omega, wrap_wrap _⟩
    · exact ⟨h0, h1, wrap_wrap _⟩
theorem Pw.ok_new : Pw.ok ⟨false, 0, 0⟩ := ⟨by simp, by simp, i64_in (by simp)⟩

end Go.Proofs.Ytlgpdglnfjndhaa
