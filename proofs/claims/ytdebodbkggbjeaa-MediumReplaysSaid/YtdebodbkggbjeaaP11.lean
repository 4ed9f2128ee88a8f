/-
  The power (layer 11) and its reference: what each of their calls does.
-/
import Derived.Test.YtdebodbkggbjeaaT
namespace Go.Proofs.Ytdebodbkggbjeaa
set_option maxRecDepth 8000
set_option linter.unusedSimpArgs false
set_option linter.unusedVariables false
open Go Xe

/-- A power's fields. -/
structure Pw where
  off : Bool
  ahead : Int
  writes : Int
@[reducible] def PwAt (p : Nat) (s : Pw) : As := pt p (.cells [Value.bool s.off, .int .i64 s.ahead, .int .i64 s.writes].toArray 88 (0, 0))
def Pw.ok (s : Pw) : Prop := 0 ≤ s.ahead ∧ s.ahead ≤ 1073741824 ∧ IntKind.i64.wrap s.writes = s.writes

def Pw.spend (s : Pw) : Int × Pw :=
  if s.off then (110, s) else
  if 0 < s.ahead then (0, ⟨decide (s.ahead - 1 = 0), s.ahead - 1, IntKind.i64.wrap (s.writes + 1)⟩) else (0, ⟨s.off, s.ahead, IntKind.i64.wrap (s.writes + 1)⟩)
def Pw.cut (s : Pw) (n : Int) : Pw := if s.off then s else ⟨decide (n = 0), min (max n 0) 1073741824, s.writes⟩
def Pw.restore (s : Pw) : Pw := ⟨false, 0, s.writes⟩
def Pw.left (s : Pw) : Int := if s.off then 0 else if s.ahead = 0 then -1 else s.ahead

theorem spend_calls {E : Env} {w : World} {L : List As} (p : Nat) (s : Pw) (hok : s.ok) (hw : Sat E w (PwAt p s :: L)) :
    Calls Try.prog 22 #[.pointer (some ⟨p, 0, none⟩)] w fun e w' => e = .returned (.int .i64 s.spend.1) ∧ Sat E w' (PwAt p s.spend.2 :: L) := by
  obtain ⟨off, ahead, writes⟩ := s
  obtain ⟨h0, h1, _⟩ := hok
  simp only at h0 h1
  refine calls_of_g (n := 34) Try.func22 rfl rfl rfl ?_
  change G _ _ _ _ _ [(0, _)] _
  repeat (refine g_seq ?_)
  refine g_region ?_
  refine xV rfl rfl rfl (v_assign rfl) ?_
  refine rl_nil (g_le (xK (Fr.le_refl _)) ?_)
  repeat (refine g_seq ?_)
  refine g_region ?_
  refine xV rfl rfl rfl (v_move rfl) ?_
  refine xV rfl rfl rfl (v_nilCheck rfl) ?_
  refine xV rfl rfl rfl (v_fieldAddr0 T.fld_88_0_0 rfl) ?_
  refine rl_v rfl rfl rfl (by exact sat_cell hw (by (repeat first | with_reducible exact xH | apply xT); first | done | fail) rfl) (v_load T.scal_4 rfl) ?_
  refine rl_nil (g_le (xK (xS rfl (xS rfl (xS rfl (Fr.le_refl _))))) ?_)
  repeat (first | refine g_seq ?_ | refine g_skip ?_ | refine g_inBlock ?_ | refine g_block ?_ | refine g_label ?_)
  refine g_cond rfl (fun h => ?_) (fun h => ?_)
  · subst h
    repeat (refine g_seq ?_)
    refine g_region ?_
    refine xV rfl rfl rfl (v_assign rfl) ?_
    refine rl_nil (g_le (xK (Fr.le_refl _)) ?_)
    refine g_ret1 Try.func22 rfl rfl ?_
    exact ⟨rfl, hw⟩
  · subst h
    repeat (first | refine g_seq ?_ | refine g_skip ?_)
    refine g_region ?_
    refine xV rfl rfl rfl (v_move rfl) ?_
    refine xV rfl rfl rfl (v_nilCheck rfl) ?_
    refine xV rfl rfl rfl (v_fieldAddr0 T.fld_88_2_2 rfl) ?_
    refine rl_v rfl rfl rfl (by exact sat_cell hw (by (repeat first | with_reducible exact xH | apply xT); first | done | fail) rfl) (v_load T.scal_3 rfl) ?_
    refine xV rfl rfl rfl (v_addW rfl rfl) ?_
    refine xV rfl rfl rfl (v_nilCheck rfl) ?_
    refine xV rfl rfl rfl (v_fieldAddr0 T.fld_88_2_2 rfl) ?_
    refine rl_k rfl (k_store hw T.scal_3 rfl rfl rfl (by (repeat first | with_reducible exact xH | apply xT); first | done | fail) rfl (by simp only [List.set, Int.reduceToNat, Nat.reduceMul, Nat.reduceAdd]; rfl) (fun w hw => ?_))
    refine rl_nil (g_le (xS rfl (xS rfl (xS rfl (xS rfl (xS rfl (xS rfl (xS rfl (Fr.le_refl _)))))))) ?_)
    repeat (refine g_seq ?_)
    refine g_region ?_
    refine xV rfl rfl rfl (v_move rfl) ?_
    refine xV rfl rfl rfl (v_nilCheck rfl) ?_
    refine xV rfl rfl rfl (v_fieldAddr0 T.fld_88_1_1 rfl) ?_
    refine rl_v rfl rfl rfl (by exact sat_cell hw (by (repeat first | with_reducible exact xH | apply xT); first | done | fail) rfl) (v_load T.scal_3 rfl) ?_
    refine xV rfl rfl rfl (v_gtr rfl rfl) ?_
    refine rl_nil (g_le (xK (xS rfl (xS rfl (xS rfl (xS rfl (Fr.le_refl _)))))) ?_)
    refine g_cond_dec rfl (fun h => ?_) (fun h => ?_)
    · repeat (refine g_seq ?_)
      refine g_region ?_
      refine xV rfl rfl rfl (v_move rfl) ?_
      refine xV rfl rfl rfl (v_nilCheck rfl) ?_
      refine xV rfl rfl rfl (v_fieldAddr0 T.fld_88_1_1 rfl) ?_
      refine rl_v rfl rfl rfl (by exact sat_cell hw (by (repeat first | with_reducible exact xH | apply xT); first | done | fail) rfl) (v_load T.scal_3 rfl) ?_
      refine xV rfl rfl rfl (v_sub rfl rfl (by omega)) ?_
      refine xV rfl rfl rfl (v_nilCheck rfl) ?_
      refine xV rfl rfl rfl (v_fieldAddr0 T.fld_88_1_1 rfl) ?_
      refine rl_k rfl (k_store hw T.scal_3 rfl rfl rfl (by (repeat first | with_reducible exact xH | apply xT); first | done | fail) rfl (by simp only [List.set, Int.reduceToNat, Nat.reduceMul, Nat.reduceAdd]; rfl) (fun w hw => ?_))
      refine rl_nil (g_le (xS rfl (xS rfl (xS rfl (xS rfl (xS rfl (xS rfl (xS rfl (Fr.le_refl _)))))))) ?_)
      repeat (first | refine g_seq ?_ | refine g_skip ?_ | refine g_inBlock ?_ | refine g_block ?_ | refine g_label ?_)
      refine g_region ?_
      refine xV rfl rfl rfl (v_move rfl) ?_
      refine xV rfl rfl rfl (v_move rfl) ?_
      refine xV rfl rfl rfl (v_nilCheck rfl) ?_
      refine xV rfl rfl rfl (v_fieldAddr0 T.fld_88_1_1 rfl) ?_
      refine rl_v rfl rfl rfl (by exact sat_cell hw (by (repeat first | with_reducible exact xH | apply xT); first | done | fail) rfl) (v_load T.scal_3 rfl) ?_
      refine xV rfl rfl rfl (v_eql rfl rfl) ?_
      refine xV rfl rfl rfl (v_nilCheck rfl) ?_
      refine xV rfl rfl rfl (v_fieldAddr0 T.fld_88_0_0 rfl) ?_
      refine rl_k rfl (k_store hw T.scal_4 rfl rfl rfl (by (repeat first | with_reducible exact xH | apply xT); first | done | fail) rfl (by simp only [List.set, Int.reduceToNat, Nat.reduceMul, Nat.reduceAdd]; rfl) (fun w hw => ?_))
      refine rl_nil (g_le (xS rfl (xS rfl (xS rfl (xS rfl (xS rfl (xS rfl (xS rfl (xS rfl (Fr.le_refl _))))))))) ?_)
      repeat (refine g_seq ?_)
      refine g_region ?_
      refine xV rfl rfl rfl (v_assign rfl) ?_
      refine rl_nil (g_le (xK (Fr.le_refl _)) ?_)
      refine g_ret1 Try.func22 rfl rfl ?_
      refine ⟨?_, ?_⟩
      · simp [Pw.spend, h]
      · simpa [Pw.spend, h] using hw
    · repeat (first | refine g_seq ?_ | refine g_skip ?_)
      refine g_region ?_
      refine xV rfl rfl rfl (v_assign rfl) ?_
      refine rl_nil (g_le (xK (Fr.le_refl _)) ?_)
      refine g_ret1 Try.func22 rfl rfl ?_
      refine ⟨?_, ?_⟩
      · simp [Pw.spend, h]
      · simpa [Pw.spend, h] using hw

theorem cut_calls {E : Env} {w : World} {L : List As} (p : Nat) (s : Pw) (n : Int) (hw : Sat E w (PwAt p s :: L)) :
    Calls Try.prog 19 #[.pointer (some ⟨p, 0, none⟩), .int .i64 n] w fun e w' => e = .returned (.tuple #[]) ∧ Sat E w' (PwAt p (s.cut n) :: L) := by
  obtain ⟨off, ahead, writes⟩ := s
  refine calls_of_g (n := 19) Try.func19 rfl rfl rfl ?_
  change G _ _ _ _ _ [(0, _), (1, _)] _
  repeat (refine g_seq ?_)
  refine g_region ?_
  refine xV rfl rfl rfl (v_move rfl) ?_
  refine xV rfl rfl rfl (v_nilCheck rfl) ?_
  refine xV rfl rfl rfl (v_fieldAddr0 T.fld_88_0_0 rfl) ?_
  refine rl_v rfl rfl rfl (by exact sat_cell hw (by (repeat first | with_reducible exact xH | apply xT); first | done | fail) rfl) (v_load T.scal_4 rfl) ?_
  refine rl_nil (g_le (xK (xS rfl (xS rfl (xS rfl (Fr.le_refl _))))) ?_)
  repeat (first | refine g_seq ?_ | refine g_skip ?_ | refine g_inBlock ?_ | refine g_block ?_ | refine g_label ?_)
  refine g_cond rfl (fun h => ?_) (fun h => ?_)
  · subst h
    repeat (first | refine g_seq ?_ | refine g_skip ?_ | refine g_inBlock ?_ | refine g_block ?_ | refine g_label ?_)
    refine g_ret0 Try.func19 rfl ?_
    exact ⟨rfl, hw⟩
  · subst h
    repeat (first | refine g_seq ?_ | refine g_skip ?_)
    refine g_region ?_
    refine xV rfl rfl rfl (v_move rfl) ?_
    refine xV rfl rfl rfl (v_move rfl) ?_
    refine xV rfl rfl rfl (v_eql rfl rfl) ?_
    refine xV rfl rfl rfl (v_nilCheck rfl) ?_
    refine xV rfl rfl rfl (v_fieldAddr0 T.fld_88_0_0 rfl) ?_
    refine rl_k rfl (k_store hw T.scal_4 rfl rfl rfl (by (repeat first | with_reducible exact xH | apply xT); first | done | fail) rfl (by simp only [List.set, Int.reduceToNat, Nat.reduceMul, Nat.reduceAdd]; rfl) (fun w hw => ?_))
    refine rl_nil (g_le (xS rfl (xS rfl (xS rfl (xS rfl (xS rfl (Fr.le_refl _)))))) ?_)
    repeat (first | refine g_seq ?_ | refine g_skip ?_ | refine g_inBlock ?_ | refine g_block ?_ | refine g_label ?_)
    refine g_region ?_
    refine xV rfl rfl rfl (v_move rfl) ?_
    refine xV rfl rfl rfl (v_move rfl) ?_
    refine xV rfl rfl rfl (v_max rfl rfl) ?_
    refine xV rfl rfl rfl (v_min rfl rfl) ?_
    refine xV rfl rfl rfl (v_nilCheck rfl) ?_
    refine xV rfl rfl rfl (v_fieldAddr0 T.fld_88_1_1 rfl) ?_
    refine rl_k rfl (k_store hw T.scal_3 rfl rfl rfl (by (repeat first | with_reducible exact xH | apply xT); first | done | fail) rfl (by simp only [List.set, Int.reduceToNat, Nat.reduceMul, Nat.reduceAdd]; rfl) (fun w hw => ?_))
    refine rl_nil (g_le (xS rfl (xS rfl (xS rfl (xS rfl (xS rfl (xS rfl (Fr.le_refl _))))))) ?_)
    refine g_end0 Try.func19 rfl ?_
    exact ⟨rfl, hw⟩

theorem restore_calls {E : Env} {w : World} {L : List As} (p : Nat) (s : Pw) (hw : Sat E w (PwAt p s :: L)) :
    Calls Try.prog 16 #[.pointer (some ⟨p, 0, none⟩)] w fun e w' => e = .returned (.tuple #[]) ∧ Sat E w' (PwAt p s.restore :: L) := by
  obtain ⟨off, ahead, writes⟩ := s
  refine calls_of_g (n := 8) Try.func16 rfl rfl rfl ?_
  change G _ _ _ _ _ [(0, _)] _
  repeat (first | refine g_seq ?_ | refine g_skip ?_ | refine g_inBlock ?_ | refine g_block ?_ | refine g_label ?_)
  refine g_region ?_
  refine xV rfl rfl rfl (v_move rfl) ?_
  refine xV rfl rfl rfl (v_move rfl) ?_
  refine xV rfl rfl rfl (v_nilCheck rfl) ?_
  refine xV rfl rfl rfl (v_fieldAddr0 T.fld_88_0_0 rfl) ?_
  refine rl_k rfl (k_store hw T.scal_4 rfl rfl rfl (by (repeat first | with_reducible exact xH | apply xT); first | done | fail) rfl (by simp only [List.set, Int.reduceToNat, Nat.reduceMul, Nat.reduceAdd]; rfl) (fun w hw => ?_))
  refine xV rfl rfl rfl (v_nilCheck rfl) ?_
  refine xV rfl rfl rfl (v_fieldAddr0 T.fld_88_1_1 rfl) ?_
  refine rl_k rfl (k_store hw T.scal_3 rfl rfl rfl (by (repeat first | with_reducible exact xH | apply xT); first | done | fail) rfl (by simp only [List.set, Int.reduceToNat, Nat.reduceMul, Nat.reduceAdd]; rfl) (fun w hw => ?_))
  refine rl_nil (g_le (xS rfl (xS rfl (xS rfl (xS rfl (xS rfl (xS rfl (Fr.le_refl _))))))) ?_)
  refine g_end0 Try.func16 rfl ?_
  exact ⟨rfl, hw⟩

theorem on_calls {E : Env} {w : World} {L : List As} (p : Nat) (s : Pw) (hw : Sat E w (PwAt p s :: L)) :
    Calls Try.prog 20 #[.pointer (some ⟨p, 0, none⟩)] w fun e w' => e = .returned (.bool (!s.off)) ∧ Sat E w' (PwAt p s :: L) := by
  obtain ⟨off, ahead, writes⟩ := s
  refine calls_of_g (n := 8) Try.func20 rfl rfl rfl ?_
  change G _ _ _ _ _ [(0, _)] _
  repeat (refine g_seq ?_)
  refine g_region ?_
  refine xV rfl rfl rfl (v_assign rfl) ?_
  refine rl_nil (g_le (xK (Fr.le_refl _)) ?_)
  repeat (refine g_seq ?_)
  refine g_region ?_
  refine xV rfl rfl rfl (v_move rfl) ?_
  refine xV rfl rfl rfl (v_nilCheck rfl) ?_
  refine xV rfl rfl rfl (v_fieldAddr0 T.fld_88_0_0 rfl) ?_
  refine rl_v rfl rfl rfl (by exact sat_cell hw (by (repeat first | with_reducible exact xH | apply xT); first | done | fail) rfl) (v_load T.scal_4 rfl) ?_
  refine xV rfl rfl rfl (v_not rfl) ?_
  refine xV rfl rfl rfl (v_assign rfl) ?_
  refine rl_nil (g_le (xK (xS rfl (xS rfl (xS rfl (xS rfl (xS rfl (Fr.le_refl _))))))) ?_)
  refine g_ret1 Try.func20 rfl rfl ?_
  exact ⟨rfl, hw⟩

theorem writes_calls {E : Env} {w : World} {L : List As} (p : Nat) (s : Pw) (hw : Sat E w (PwAt p s :: L)) :
    Calls Try.prog 17 #[.pointer (some ⟨p, 0, none⟩)] w fun e w' => e = .returned (.int .i64 s.writes) ∧ Sat E w' (PwAt p s :: L) := by
  obtain ⟨off, ahead, writes⟩ := s
  refine calls_of_g (n := 7) Try.func17 rfl rfl rfl ?_
  change G _ _ _ _ _ [(0, _)] _
  repeat (refine g_seq ?_)
  refine g_region ?_
  refine xV rfl rfl rfl (v_assign rfl) ?_
  refine rl_nil (g_le (xK (Fr.le_refl _)) ?_)
  repeat (refine g_seq ?_)
  refine g_region ?_
  refine xV rfl rfl rfl (v_move rfl) ?_
  refine xV rfl rfl rfl (v_nilCheck rfl) ?_
  refine xV rfl rfl rfl (v_fieldAddr0 T.fld_88_2_2 rfl) ?_
  refine rl_v rfl rfl rfl (by exact sat_cell hw (by (repeat first | with_reducible exact xH | apply xT); first | done | fail) rfl) (v_load T.scal_3 rfl) ?_
  refine xV rfl rfl rfl (v_assign rfl) ?_
  refine rl_nil (g_le (xK (xS rfl (xS rfl (xS rfl (xS rfl (Fr.le_refl _)))))) ?_)
  refine g_ret1 Try.func17 rfl rfl ?_
  exact ⟨rfl, hw⟩

theorem left_calls {E : Env} {w : World} {L : List As} (p : Nat) (s : Pw) (hw : Sat E w (PwAt p s :: L)) :
    Calls Try.prog 21 #[.pointer (some ⟨p, 0, none⟩)] w fun e w' => e = .returned (.int .i64 s.left) ∧ Sat E w' (PwAt p s :: L) := by
  obtain ⟨off, ahead, writes⟩ := s
  refine calls_of_g (n := 18) Try.func21 rfl rfl rfl ?_
  change G _ _ _ _ _ [(0, _)] _
  repeat (refine g_seq ?_)
  refine g_region ?_
  refine xV rfl rfl rfl (v_assign rfl) ?_
  refine rl_nil (g_le (xK (Fr.le_refl _)) ?_)
  repeat (first | refine g_seq ?_ | refine g_block ?_)
  refine g_region ?_
  refine xV rfl rfl rfl (v_move rfl) ?_
  refine xV rfl rfl rfl (v_nilCheck rfl) ?_
  refine xV rfl rfl rfl (v_fieldAddr0 T.fld_88_0_0 rfl) ?_
  refine rl_v rfl rfl rfl (by exact sat_cell hw (by (repeat first | with_reducible exact xH | apply xT); first | done | fail) rfl) (v_load T.scal_4 rfl) ?_
  refine xV rfl rfl rfl (v_assign rfl) ?_
  refine rl_nil (g_le (xK (xS rfl (xS rfl (xS rfl (xS rfl (Fr.le_refl _)))))) ?_)
  refine g_cond rfl (fun h => ?_) (fun h => ?_)
  · subst h
    repeat (refine g_seq ?_)
    refine g_region ?_
    refine xV rfl rfl rfl (v_assign rfl) ?_
    refine rl_nil (g_le (xK (Fr.le_refl _)) ?_)
    refine g_ret1 Try.func21 rfl rfl ?_
    exact ⟨rfl, hw⟩
  · subst h
    repeat (refine g_seq ?_)
    refine g_region ?_
    refine xV rfl rfl rfl (v_move rfl) ?_
    refine xV rfl rfl rfl (v_nilCheck rfl) ?_
    refine xV rfl rfl rfl (v_fieldAddr0 T.fld_88_1_1 rfl) ?_
    refine rl_v rfl rfl rfl (by exact sat_cell hw (by (repeat first | with_reducible exact xH | apply xT); first | done | fail) rfl) (v_load T.scal_3 rfl) ?_
    refine xV rfl rfl rfl (v_eql rfl rfl) ?_
    refine xV rfl rfl rfl (v_assign rfl) ?_
    refine rl_nil (g_le (xK (xS rfl (xS rfl (xS rfl (xS rfl (xS rfl (Fr.le_refl _))))))) ?_)
    refine g_cond_dec rfl (fun h => ?_) (fun h => ?_)
    · repeat (refine g_seq ?_)
      refine g_region ?_
      refine xV rfl rfl rfl (v_assign rfl) ?_
      refine rl_nil (g_le (xK (Fr.le_refl _)) ?_)
      refine g_ret1 Try.func21 rfl rfl ?_
      have h : ahead = 0 := h
      exact ⟨by simp [Pw.left, h], hw⟩
    · repeat (first | refine g_seq ?_ | refine g_skip ?_ | refine g_inBlock ?_)
      refine g_region ?_
      refine xV rfl rfl rfl (v_move rfl) ?_
      refine xV rfl rfl rfl (v_nilCheck rfl) ?_
      refine xV rfl rfl rfl (v_fieldAddr0 T.fld_88_1_1 rfl) ?_
      refine rl_v rfl rfl rfl (by exact sat_cell hw (by (repeat first | with_reducible exact xH | apply xT); first | done | fail) rfl) (v_load T.scal_3 rfl) ?_
      refine xV rfl rfl rfl (v_assign rfl) ?_
      refine rl_nil (g_le (xK (xS rfl (xS rfl (xS rfl (xS rfl (Fr.le_refl _)))))) ?_)
      refine g_ret1 Try.func21 rfl rfl ?_
      exact ⟨by simp [Pw.left, h], hw⟩

theorem new_calls {E : Env} {w : World} {L : List As} (hw : Sat E w L) :
    Calls Try.prog 12 #[] w fun e w' => ∃ p, e = .returned (.pointer (some ⟨p, 0, none⟩)) ∧ Sat E w' (PwAt p ⟨false, 0, 0⟩ :: L) := by
  refine calls_of_g (n := 3) Try.func12 rfl rfl rfl ?_
  change G _ _ _ _ _ [] _
  repeat (refine g_seq ?_)
  refine g_region ?_
  refine xV rfl rfl rfl (v_assign rfl) ?_
  refine rl_nil (g_le (xK (Fr.le_refl _)) ?_)
  repeat (refine g_seq ?_)
  refine g_region ?_
  refine xV rfl rfl rfl (v_build rfl (T.build_88 ..)) ?_
  refine rl_k rfl (k_box hw rfl rfl rfl (fun blk w hw => ?_))
  refine xV rfl rfl rfl (v_assign rfl) ?_
  refine rl_nil (g_le (xK (xS rfl (xS rfl (Fr.le_refl _)))) ?_)
  refine g_ret1 Try.func12 rfl rfl ?_
  exact ⟨_, rfl, hw⟩

/-! ### The reference -/
structure Rw where
  is : Bool
  ahead : Int
  done : Int
@[reducible] def RwAt (p : Nat) (s : Rw) : As := pt p (.cells [Value.bool s.is, .int .i64 s.ahead, .int .i64 s.done].toArray 90 (0, 0))
/-- The reference's power of a power. -/
def Pw.ref (s : Pw) : Rw := ⟨!s.off, s.ahead, s.writes⟩

theorem rnew_calls {E : Env} {w : World} {L : List As} (hw : Sat E w L) :
    Calls Try.prog 13 #[] w fun e w' => ∃ p, e = .returned (.pointer (some ⟨p, 0, none⟩)) ∧ Sat E w' (RwAt p (Pw.ref ⟨false, 0, 0⟩) :: L) := by
  refine calls_of_g (n := 3) Try.func13 rfl rfl rfl ?_
  change G _ _ _ _ _ [] _
  repeat (refine g_seq ?_)
  refine g_region ?_
  refine xV rfl rfl rfl (v_assign rfl) ?_
  refine rl_nil (g_le (xK (Fr.le_refl _)) ?_)
  repeat (refine g_seq ?_)
  refine g_region ?_
  refine xV rfl rfl rfl (v_build rfl (T.build_90_0 ..)) ?_
  refine rl_k rfl (k_box hw rfl rfl rfl (fun blk w hw => ?_))
  refine xV rfl rfl rfl (v_assign rfl) ?_
  refine rl_nil (g_le (xK (xS rfl (xS rfl (Fr.le_refl _)))) ?_)
  refine g_ret1 Try.func13 rfl rfl ?_
  exact ⟨_, rfl, hw⟩

theorem rcut_calls {E : Env} {w : World} {L : List As} (p : Nat) (s : Pw) (n : Int) (h0 : s.off = false → 0 ≤ s.ahead) (hw : Sat E w (RwAt p s.ref :: L)) :
    Calls Try.prog 44 #[.pointer (some ⟨p, 0, none⟩), .int .i64 n] w fun e w' => e = .returned (.tuple #[]) ∧ Sat E w' (RwAt p (s.cut n).ref :: L) := by
  obtain ⟨off, ahead, writes⟩ := s
  refine calls_of_g (n := 24) Try.func44 rfl rfl rfl ?_
  change G _ _ _ _ _ [(0, _), (1, _)] _
  repeat (refine g_seq ?_)
  refine g_region ?_
  refine xV rfl rfl rfl (v_move rfl) ?_
  refine xV rfl rfl rfl (v_nilCheck rfl) ?_
  refine xV rfl rfl rfl (v_fieldAddr0 T.fld_90_0_0 rfl) ?_
  refine rl_v rfl rfl rfl (by exact sat_cell hw (by (repeat first | with_reducible exact xH | apply xT); first | done | fail) rfl) (v_load T.scal_4 rfl) ?_
  refine xV rfl rfl rfl (v_not rfl) ?_
  refine rl_nil (g_le (xK (xS rfl (xS rfl (xS rfl (xS rfl (Fr.le_refl _)))))) ?_)
  refine g_cond rfl (fun h => ?_) (fun h => ?_)
  · have h : off = true := by simpa [Pw.ref] using h
    subst h
    repeat (first | refine g_seq ?_ | refine g_skip ?_ | refine g_inBlock ?_ | refine g_block ?_ | refine g_label ?_)
    refine g_ret0 Try.func44 rfl ?_
    exact ⟨rfl, hw⟩
  · have h : off = false := by simpa [Pw.ref] using h
    subst h
    repeat (first | refine g_seq ?_ | refine g_skip ?_)
    refine g_region ?_
    refine xV rfl rfl rfl (v_move rfl) ?_
    refine xV rfl rfl rfl (v_nilCheck rfl) ?_
    refine xV rfl rfl rfl (v_fieldAddr0 T.fld_90_1_1 rfl) ?_
    refine rl_k rfl (k_store hw T.scal_3 rfl rfl rfl (by (repeat first | with_reducible exact xH | apply xT); first | done | fail) rfl (by simp only [List.set, Int.reduceToNat, Nat.reduceMul, Nat.reduceAdd]; rfl) (fun w hw => ?_))
    refine rl_nil (g_le (xS rfl (xS rfl (xS rfl (Fr.le_refl _)))) ?_)
    repeat (refine g_seq ?_)
    refine g_region ?_
    refine xV rfl rfl rfl (v_move rfl) ?_
    refine xV rfl rfl rfl (v_eql rfl rfl) ?_
    refine rl_nil (g_le (xK (xS rfl (Fr.le_refl _))) ?_)
    refine g_cond_dec rfl (fun h => ?_) (fun h => ?_)
    · subst h
      repeat (first | refine g_seq ?_ | refine g_skip ?_ | refine g_inBlock ?_ | refine g_block ?_ | refine g_label ?_)
      refine g_region ?_
      refine xV rfl rfl rfl (v_move rfl) ?_
      refine xV rfl rfl rfl (v_nilCheck rfl) ?_
      refine xV rfl rfl rfl (v_fieldAddr0 T.fld_90_0_0 rfl) ?_
      refine rl_k rfl (k_store hw T.scal_4 rfl rfl rfl (by (repeat first | with_reducible exact xH | apply xT); first | done | fail) rfl (by simp only [List.set, Int.reduceToNat, Nat.reduceMul, Nat.reduceAdd]; rfl) (fun w hw => ?_))
      refine rl_nil (g_le (xS rfl (xS rfl (xS rfl (Fr.le_refl _)))) ?_)
      repeat (refine g_seq ?_)
      refine g_region ?_
      refine xV rfl rfl rfl (v_move rfl) ?_
      refine xV rfl rfl rfl (v_gtrF rfl rfl (by omega)) ?_
      refine rl_nil (g_le (xK (xS rfl (Fr.le_refl _))) ?_)
      repeat (first | refine g_seq ?_ | refine g_skip ?_ | refine g_inBlock ?_ | refine g_block ?_ | refine g_label ?_)
      refine g_cond_false rfl ?_
      repeat (refine g_skip ?_)
      refine g_end0 Try.func44 rfl ?_
      exact ⟨rfl, hw⟩
    · repeat (first | refine g_seq ?_ | refine g_skip ?_)
      refine g_region ?_
      refine xV rfl rfl rfl (v_move rfl) ?_
      refine xV rfl rfl rfl (v_gtr rfl rfl) ?_
      refine rl_nil (g_le (xK (xS rfl (Fr.le_refl _))) ?_)
      refine g_cond_dec rfl (fun h' => ?_) (fun h' => ?_)
      · repeat (first | refine g_seq ?_ | refine g_skip ?_ | refine g_inBlock ?_ | refine g_block ?_ | refine g_label ?_)
        refine g_region ?_
        refine xV rfl rfl rfl (v_move rfl) ?_
        refine xV rfl rfl rfl (v_move rfl) ?_
        refine xV rfl rfl rfl (v_min rfl rfl) ?_
        refine xV rfl rfl rfl (v_nilCheck rfl) ?_
        refine xV rfl rfl rfl (v_fieldAddr0 T.fld_90_1_1 rfl) ?_
        refine rl_k rfl (k_store hw T.scal_3 rfl rfl rfl (by (repeat first | with_reducible exact xH | apply xT); first | done | fail) rfl (by simp only [List.set, Int.reduceToNat, Nat.reduceMul, Nat.reduceAdd]; rfl) (fun w hw => ?_))
        refine rl_nil (g_le (xS rfl (xS rfl (xS rfl (xS rfl (xS rfl (Fr.le_refl _)))))) ?_)
        refine g_end0 Try.func44 rfl ?_
        refine ⟨rfl, ?_⟩
        have e : (Pw.cut ⟨false, ahead, writes⟩ n).ref = ⟨true, min n 1073741824, writes⟩ := by
          simp [Pw.cut, Pw.ref, h]; omega
        rw [e]; exact hw
      · repeat (refine g_skip ?_)
        refine g_end0 Try.func44 rfl ?_
        refine ⟨rfl, ?_⟩
        have e : (Pw.cut ⟨false, ahead, writes⟩ n).ref = ⟨true, 0, writes⟩ := by
          simp [Pw.cut, Pw.ref, h]; omega
        rw [e]; exact hw

theorem rrestore_calls {E : Env} {w : World} {L : List As} (p : Nat) (s : Pw) (hw : Sat E w (RwAt p s.ref :: L)) :
    Calls Try.prog 45 #[.pointer (some ⟨p, 0, none⟩)] w fun e w' => e = .returned (.tuple #[]) ∧ Sat E w' (RwAt p s.restore.ref :: L) := by
  obtain ⟨off, ahead, writes⟩ := s
  refine calls_of_g (n := 8) Try.func45 rfl rfl rfl ?_
  change G _ _ _ _ _ [(0, _)] _
  repeat (refine g_seq ?_)
  refine g_region ?_
  refine xV rfl rfl rfl (v_move rfl) ?_
  refine xV rfl rfl rfl (v_nilCheck rfl) ?_
  refine xV rfl rfl rfl (v_fieldAddr0 T.fld_90_0_0 rfl) ?_
  refine rl_k rfl (k_store hw T.scal_4 rfl rfl rfl (by (repeat first | with_reducible exact xH | apply xT); first | done | fail) rfl (by simp only [List.set, Int.reduceToNat, Nat.reduceMul, Nat.reduceAdd]; rfl) (fun w hw => ?_))
  refine rl_nil (g_le (xS rfl (xS rfl (xS rfl (Fr.le_refl _)))) ?_)
  repeat (first | refine g_seq ?_ | refine g_skip ?_ | refine g_inBlock ?_ | refine g_block ?_ | refine g_label ?_)
  refine g_region ?_
  refine xV rfl rfl rfl (v_move rfl) ?_
  refine xV rfl rfl rfl (v_nilCheck rfl) ?_
  refine xV rfl rfl rfl (v_fieldAddr0 T.fld_90_1_1 rfl) ?_
  refine rl_k rfl (k_store hw T.scal_3 rfl rfl rfl (by (repeat first | with_reducible exact xH | apply xT); first | done | fail) rfl (by simp only [List.set, Int.reduceToNat, Nat.reduceMul, Nat.reduceAdd]; rfl) (fun w hw => ?_))
  refine rl_nil (g_le (xS rfl (xS rfl (xS rfl (Fr.le_refl _)))) ?_)
  refine g_end0 Try.func45 rfl ?_
  exact ⟨rfl, hw⟩

theorem rspend_calls {E : Env} {w : World} {L : List As} (p : Nat) (s : Pw) (hok : s.ok) (hw : Sat E w (RwAt p s.ref :: L)) :
    Calls Try.prog 46 #[.pointer (some ⟨p, 0, none⟩)] w fun e w' => e = .returned (.int .i64 s.spend.1) ∧ Sat E w' (RwAt p s.spend.2.ref :: L) := by
  obtain ⟨off, ahead, writes⟩ := s
  obtain ⟨h0, h1, _⟩ := hok
  simp only at h0 h1
  simp only [Pw.ref] at hw
  refine calls_of_g (n := 37) Try.func46 rfl rfl rfl ?_
  change G _ _ _ _ _ [(0, _)] _
  repeat (refine g_seq ?_)
  refine g_region ?_
  refine xV rfl rfl rfl (v_assign rfl) ?_
  refine rl_nil (g_le (xK (Fr.le_refl _)) ?_)
  repeat (refine g_seq ?_)
  refine g_region ?_
  refine xV rfl rfl rfl (v_move rfl) ?_
  refine xV rfl rfl rfl (v_nilCheck rfl) ?_
  refine xV rfl rfl rfl (v_fieldAddr0 T.fld_90_0_0 rfl) ?_
  refine rl_v rfl rfl rfl (by exact sat_cell hw (by (repeat first | with_reducible exact xH | apply xT); first | done | fail) rfl) (v_load T.scal_4 rfl) ?_
  refine xV rfl rfl rfl (v_not rfl) ?_
  refine rl_nil (g_le (xK (xS rfl (xS rfl (xS rfl (xS rfl (Fr.le_refl _)))))) ?_)
  refine g_cond rfl (fun h => ?_) (fun h => ?_)
  · have h : off = true := by simpa using h
    subst h
    repeat (refine g_seq ?_)
    refine g_region ?_
    refine xV rfl rfl rfl (v_assign rfl) ?_
    refine rl_nil (g_le (xK (Fr.le_refl _)) ?_)
    refine g_ret1 Try.func46 rfl rfl ?_
    exact ⟨rfl, hw⟩
  · have h : off = false := by simpa using h
    subst h
    repeat (first | refine g_seq ?_ | refine g_skip ?_)
    refine g_region ?_
    refine xV rfl rfl rfl (v_move rfl) ?_
    refine xV rfl rfl rfl (v_move rfl) ?_
    refine xV rfl rfl rfl (v_nilCheck rfl) ?_
    refine xV rfl rfl rfl (v_fieldAddr0 T.fld_90_2_2 rfl) ?_
    refine rl_v rfl rfl rfl (by exact sat_cell hw (by (repeat first | with_reducible exact xH | apply xT); first | done | fail) rfl) (v_load T.scal_3 rfl) ?_
    refine xV rfl rfl rfl (v_addW rfl rfl) ?_
    refine xV rfl rfl rfl (v_nilCheck rfl) ?_
    refine xV rfl rfl rfl (v_fieldAddr0 T.fld_90_2_2 rfl) ?_
    refine rl_k rfl (k_store hw T.scal_3 rfl rfl rfl (by (repeat first | with_reducible exact xH | apply xT); first | done | fail) rfl (by simp only [List.set, Int.reduceToNat, Nat.reduceMul, Nat.reduceAdd]; rfl) (fun w hw => ?_))
    refine rl_nil (g_le (xS rfl (xS rfl (xS rfl (xS rfl (xS rfl (xS rfl (xS rfl (xS rfl (Fr.le_refl _))))))))) ?_)
    repeat (refine g_seq ?_)
    refine g_region ?_
    refine xV rfl rfl rfl (v_move rfl) ?_
    refine xV rfl rfl rfl (v_nilCheck rfl) ?_
    refine xV rfl rfl rfl (v_fieldAddr0 T.fld_90_1_1 rfl) ?_
    refine rl_v rfl rfl rfl (by exact sat_cell hw (by (repeat first | with_reducible exact xH | apply xT); first | done | fail) rfl) (v_load T.scal_3 rfl) ?_
    refine xV rfl rfl rfl (v_gtr rfl rfl) ?_
    refine rl_nil (g_le (xK (xS rfl (xS rfl (xS rfl (xS rfl (Fr.le_refl _)))))) ?_)
    refine g_cond_dec rfl (fun h => ?_) (fun h => ?_)
    · repeat (refine g_seq ?_)
      refine g_region ?_
      refine xV rfl rfl rfl (v_move rfl) ?_
      refine xV rfl rfl rfl (v_move rfl) ?_
      refine xV rfl rfl rfl (v_nilCheck rfl) ?_
      refine xV rfl rfl rfl (v_fieldAddr0 T.fld_90_1_1 rfl) ?_
      refine rl_v rfl rfl rfl (by exact sat_cell hw (by (repeat first | with_reducible exact xH | apply xT); first | done | fail) rfl) (v_load T.scal_3 rfl) ?_
      refine xV rfl rfl rfl (v_sub rfl rfl (by omega)) ?_
      refine xV rfl rfl rfl (v_nilCheck rfl) ?_
      refine xV rfl rfl rfl (v_fieldAddr0 T.fld_90_1_1 rfl) ?_
      refine rl_k rfl (k_store hw T.scal_3 rfl rfl rfl (by (repeat first | with_reducible exact xH | apply xT); first | done | fail) rfl (by simp only [List.set, Int.reduceToNat, Nat.reduceMul, Nat.reduceAdd]; rfl) (fun w hw => ?_))
      refine rl_nil (g_le (xS rfl (xS rfl (xS rfl (xS rfl (xS rfl (xS rfl (xS rfl (xS rfl (Fr.le_refl _))))))))) ?_)
      repeat (refine g_seq ?_)
      refine g_region ?_
      refine xV rfl rfl rfl (v_move rfl) ?_
      refine xV rfl rfl rfl (v_nilCheck rfl) ?_
      refine xV rfl rfl rfl (v_fieldAddr0 T.fld_90_1_1 rfl) ?_
      refine rl_v rfl rfl rfl (by exact sat_cell hw (by (repeat first | with_reducible exact xH | apply xT); first | done | fail) rfl) (v_load T.scal_3 rfl) ?_
      refine xV rfl rfl rfl (v_eql rfl rfl) ?_
      refine rl_nil (g_le (xK (xS rfl (xS rfl (xS rfl (xS rfl (Fr.le_refl _)))))) ?_)
      refine g_cond_dec rfl (fun h' => ?_) (fun h' => ?_)
      · repeat (first | refine g_seq ?_ | refine g_skip ?_ | refine g_inBlock ?_ | refine g_block ?_ | refine g_label ?_)
        refine g_region ?_
        refine xV rfl rfl rfl (v_move rfl) ?_
        refine xV rfl rfl rfl (v_nilCheck rfl) ?_
        refine xV rfl rfl rfl (v_fieldAddr0 T.fld_90_0_0 rfl) ?_
        refine rl_k rfl (k_store hw T.scal_4 rfl rfl rfl (by (repeat first | with_reducible exact xH | apply xT); first | done | fail) rfl (by simp only [List.set, Int.reduceToNat, Nat.reduceMul, Nat.reduceAdd]; rfl) (fun w hw => ?_))
        refine rl_nil (g_le (xS rfl (xS rfl (xS rfl (Fr.le_refl _)))) ?_)
        repeat (refine g_seq ?_)
        refine g_region ?_
        refine xV rfl rfl rfl (v_assign rfl) ?_
        refine rl_nil (g_le (xK (Fr.le_refl _)) ?_)
        refine g_ret1 Try.func46 rfl rfl ?_
        exact ⟨by simp [Pw.spend, h], by simpa [Pw.spend, Pw.ref, h, h'] using hw⟩
      · repeat (first | refine g_seq ?_ | refine g_skip ?_)
        refine g_region ?_
        refine xV rfl rfl rfl (v_assign rfl) ?_
        refine rl_nil (g_le (xK (Fr.le_refl _)) ?_)
        refine g_ret1 Try.func46 rfl rfl ?_
        exact ⟨by simp [Pw.spend, h], by simpa [Pw.spend, Pw.ref, h, h'] using hw⟩
    · repeat (first | refine g_seq ?_ | refine g_skip ?_)
      refine g_region ?_
      refine xV rfl rfl rfl (v_assign rfl) ?_
      refine rl_nil (g_le (xK (Fr.le_refl _)) ?_)
      refine g_ret1 Try.func46 rfl rfl ?_
      exact ⟨by simp [Pw.spend, h], by simpa [Pw.spend, Pw.ref, h] using hw⟩

theorem rleft_calls {E : Env} {w : World} {L : List As} (p : Nat) (s : Pw) (hw : Sat E w (RwAt p s.ref :: L)) :
    Calls Try.prog 47 #[.pointer (some ⟨p, 0, none⟩)] w fun e w' => e = .returned (.int .i64 s.left) ∧ Sat E w' (RwAt p s.ref :: L) := by
  obtain ⟨off, ahead, writes⟩ := s
  simp only [Pw.ref] at hw
  refine calls_of_g (n := 17) Try.func47 rfl rfl rfl ?_
  change G _ _ _ _ _ [(0, _)] _
  repeat (refine g_seq ?_)
  refine g_region ?_
  refine xV rfl rfl rfl (v_assign rfl) ?_
  refine rl_nil (g_le (xK (Fr.le_refl _)) ?_)
  repeat (refine g_seq ?_)
  refine g_region ?_
  refine xV rfl rfl rfl (v_move rfl) ?_
  refine xV rfl rfl rfl (v_nilCheck rfl) ?_
  refine xV rfl rfl rfl (v_fieldAddr0 T.fld_90_0_0 rfl) ?_
  refine rl_v rfl rfl rfl (by exact sat_cell hw (by (repeat first | with_reducible exact xH | apply xT); first | done | fail) rfl) (v_load T.scal_4 rfl) ?_
  refine xV rfl rfl rfl (v_not rfl) ?_
  refine rl_nil (g_le (xK (xS rfl (xS rfl (xS rfl (xS rfl (Fr.le_refl _)))))) ?_)
  refine g_cond rfl (fun h => ?_) (fun h => ?_)
  · have h : off = true := by simpa using h
    subst h
    repeat (refine g_seq ?_)
    refine g_region ?_
    refine xV rfl rfl rfl (v_assign rfl) ?_
    refine rl_nil (g_le (xK (Fr.le_refl _)) ?_)
    refine g_ret1 Try.func47 rfl rfl ?_
    exact ⟨rfl, hw⟩
  · have h : off = false := by simpa using h
    subst h
    repeat (first | refine g_seq ?_ | refine g_skip ?_)
    refine g_region ?_
    refine xV rfl rfl rfl (v_move rfl) ?_
    refine xV rfl rfl rfl (v_nilCheck rfl) ?_
    refine xV rfl rfl rfl (v_fieldAddr0 T.fld_90_1_1 rfl) ?_
    refine rl_v rfl rfl rfl (by exact sat_cell hw (by (repeat first | with_reducible exact xH | apply xT); first | done | fail) rfl) (v_load T.scal_3 rfl) ?_
    refine xV rfl rfl rfl (v_eql rfl rfl) ?_
    refine rl_nil (g_le (xK (xS rfl (xS rfl (xS rfl (xS rfl (Fr.le_refl _)))))) ?_)
    refine g_cond_dec rfl (fun h => ?_) (fun h => ?_)
    · repeat (refine g_seq ?_)
      refine g_region ?_
      refine xV rfl rfl rfl (v_assign rfl) ?_
      refine rl_nil (g_le (xK (Fr.le_refl _)) ?_)
      refine g_ret1 Try.func47 rfl rfl ?_
      have h : ahead = 0 := h
      exact ⟨by simp [Pw.left, h], hw⟩
    · repeat (first | refine g_seq ?_ | refine g_skip ?_)
      refine g_region ?_
      refine xV rfl rfl rfl (v_move rfl) ?_
      refine xV rfl rfl rfl (v_nilCheck rfl) ?_
      refine xV rfl rfl rfl (v_fieldAddr0 T.fld_90_1_1 rfl) ?_
      refine rl_v rfl rfl rfl (by exact sat_cell hw (by (repeat first | with_reducible exact xH | apply xT); first | done | fail) rfl) (v_load T.scal_3 rfl) ?_
      refine xV rfl rfl rfl (v_assign rfl) ?_
      refine rl_nil (g_le (xK (xS rfl (xS rfl (xS rfl (xS rfl (Fr.le_refl _)))))) ?_)
      refine g_ret1 Try.func47 rfl rfl ?_
      exact ⟨by simp [Pw.left, h], hw⟩

theorem wrap_wrap (n : Int) : IntKind.i64.wrap (IntKind.i64.wrap n) = IntKind.i64.wrap n := by
  have := IntKind.wrap_i64 n
  exact i64_in (by rw [this]; omega)
theorem Pw.ok_spend {s : Pw} (h : s.ok) : s.spend.2.ok := by
  obtain ⟨h0, h1, h2⟩ := h
  unfold Pw.spend
  split
  · exact ⟨h0, h1, h2⟩
  · split
    · exact ⟨by simp only; omega, by simp only; omega, wrap_wrap _⟩
    · exact ⟨h0, h1, wrap_wrap _⟩
theorem Pw.ok_cut {s : Pw} (h : s.ok) (n : Int) : (s.cut n).ok := by
  unfold Pw.cut
  split
  · exact h
  · exact ⟨by simp only; omega, by simp only; omega, h.2.2⟩
theorem Pw.ok_restore {s : Pw} (h : s.ok) : s.restore.ok := by simp [Pw.restore, Pw.ok]; exact h.2.2
theorem Pw.ok_new : Pw.ok ⟨false, 0, 0⟩ := ⟨by simp, by simp, i64_in (by simp)⟩

theorem left_eq {E : Env} {w : World} {L : List As} (p : Nat) (s : Pw) (m : Int) (hm : s.left = m) (hw : Sat E w (PwAt p s :: L)) :
    Calls Try.prog 21 #[.pointer (some ⟨p, 0, none⟩)] w fun e w' => e = .returned (.int .i64 m) ∧ Sat E w' (PwAt p s :: L) := hm ▸ left_calls p s hw
theorem spend_eq {E : Env} {w : World} {L : List As} (p : Nat) (s s' : Pw) (m : Int) (hok : s.ok) (hm : s.spend = (m, s')) (hw : Sat E w (PwAt p s :: L)) :
    Calls Try.prog 22 #[.pointer (some ⟨p, 0, none⟩)] w fun e w' => e = .returned (.int .i64 m) ∧ Sat E w' (PwAt p s' :: L) := by
  have := spend_calls p s hok hw
  rwa [hm] at this
theorem writes_eq {E : Env} {w : World} {L : List As} (p : Nat) (s : Pw) (m : Int) (hm : s.writes = m) (hw : Sat E w (PwAt p s :: L)) :
    Calls Try.prog 17 #[.pointer (some ⟨p, 0, none⟩)] w fun e w' => e = .returned (.int .i64 m) ∧ Sat E w' (PwAt p s :: L) := hm ▸ writes_calls p s hw
theorem wrap_add (a b : Int) : IntKind.i64.wrap (IntKind.i64.wrap a + b) = IntKind.i64.wrap (a + b) := by
  simp only [IntKind.wrap_i64]; omega

end Go.Proofs.Ytdebodbkggbjeaa
