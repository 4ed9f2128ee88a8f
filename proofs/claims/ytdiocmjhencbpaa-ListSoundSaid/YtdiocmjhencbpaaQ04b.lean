/-
  Quotas (layer 4): the numbers.
-/
import Derived.Test.YtdiocmjhencbpaaQ04
namespace Go.Proofs.Ytdiocmjhencbpaa
set_option maxRecDepth 8000
set_option linter.unusedSimpArgs false
set_option linter.unusedVariables false
open Go Xe
theorem levels_in {E : Env} {w : World} {L : List As} (b : Nat) (q : Qt) (hq : q.ok) (hw : Sat E w (QtAt b q :: L)) :
    Calls Try.prog 48 #[.pointer (some ⟨b, 0, none⟩)] w fun e w' => e = .returned (.int .i64 q.levels) ∧ Sat E w' (QtAt b q :: L) := levels1_calls b q hq hw
theorem levels_calls {E : Env} {w : World} {L : List As} (q : Qt) (hw : Sat E w L) :
    Calls Try.prog 27 #[q.v] w fun e w' => e = .returned (.int .i64 q.levels) ∧ Sat E w' L := by
  refine calls_of_g (n := 6) Try.func27 rfl rfl rfl ?_
  change G _ _ _ _ _ [(0, _)] _
  refine g_seq ?_
  refine g_region ?_
  refine rl_k rfl (k_box hw rfl rfl rfl (fun bk0_0 w hw => ?_))
  refine xV rfl rfl rfl (v_assign rfl) ?_
  refine rl_nil (g_le (xK (xK (Fr.le_refl _))) ?_)
  refine g_seq ?_
  refine g_region ?_
  refine rl_v rfl rfl rfl (by exact sat_cells hw (by (repeat first | with_reducible exact xH | apply xT); first | done | fail) ⟨rfl, rfl, rfl, rfl, rfl, rfl, rfl, trivial⟩) (v_loadAgg (vs := [_, _, _, _, _, _, _]) T.agg_23_7 rfl rfl) ?_
  refine xV rfl rfl rfl (v_makeFunc rfl rfl) ?_
  refine rl_k rfl (k_callf Try.func47 rfl rfl rfl rfl ?_)
  refine Calls.mono (of_calls q _ q.levels (fun hq => if_neg hq) (fun hq L' w hw => CallsV.mk Try.func48 rfl rfl rfl (Calls.mono (levels_in bk0_0 q hq (hw.mid)) (fun e w' h => ⟨h.1, h.2.mid'⟩))) hw) ?_
  rintro _ w ⟨rfl, hw⟩
  refine ⟨_, rfl, ?_⟩
  refine xV rfl rfl rfl (v_assign rfl) ?_
  refine rl_nil (g_le (xK (xS rfl (xS rfl (xS rfl (Fr.le_refl _))))) ?_)
  refine g_ret1 Try.func27 rfl rfl ?_
  exact ⟨rfl, hw.xQ⟩
theorem livePages_in {E : Env} {w : World} {L : List As} (b : Nat) (q : Qt) (hq : q.ok) (hw : Sat E w (QtAt b q :: L)) :
    Calls Try.prog 50 #[.pointer (some ⟨b, 0, none⟩)] w fun e w' => e = .returned (.int .i64 q.livePages) ∧ Sat E w' (QtAt b q :: L) := by
  have hl := Qt.leaves_bounds hq
  refine calls_of_g (n := 6) Try.func50 rfl rfl rfl ?_
  change G _ _ _ _ _ [(0, _)] _
  refine g_seq ?_
  refine g_region ?_
  refine xV rfl rfl rfl (v_assign rfl) ?_
  refine rl_nil (g_le (xK (Fr.le_refl _)) ?_)
  refine g_seq ?_
  refine g_region ?_
  refine rl_v rfl rfl rfl (by exact sat_cells hw (by (repeat first | with_reducible exact xH | apply xT); first | done | fail) ⟨rfl, rfl, rfl, rfl, rfl, rfl, rfl, trivial⟩) (v_loadAgg (vs := [_, _, _, _, _, _, _]) T.agg_23_7 rfl rfl) ?_
  refine rl_k rfl (k_callf Try.func49 rfl rfl rfl rfl ?_)
  refine Calls.mono (leaves_calls q hq hw) ?_
  rintro _ w ⟨rfl, hw⟩
  refine ⟨_, rfl, ?_⟩
  refine xV rfl rfl rfl (v_mul rfl rfl (by omega)) ?_
  refine xV rfl rfl rfl (v_sub rfl rfl (by omega)) ?_
  refine xV rfl rfl rfl (v_assign rfl) ?_
  refine rl_nil (g_le (xK (xS rfl (xS rfl (xS rfl (xS rfl (Fr.le_refl _)))))) ?_)
  refine g_ret1 Try.func50 rfl rfl ?_
  refine ⟨?_, hw⟩
  unfold Qt.livePages
  rw [if_pos hq]
theorem livePages_calls {E : Env} {w : World} {L : List As} (q : Qt) (hw : Sat E w L) :
    Calls Try.prog 28 #[q.v] w fun e w' => e = .returned (.int .i64 q.livePages) ∧ Sat E w' L := by
  refine calls_of_g (n := 6) Try.func28 rfl rfl rfl ?_
  change G _ _ _ _ _ [(0, _)] _
  refine g_seq ?_
  refine g_region ?_
  refine rl_k rfl (k_box hw rfl rfl rfl (fun bk0_0 w hw => ?_))
  refine xV rfl rfl rfl (v_assign rfl) ?_
  refine rl_nil (g_le (xK (xK (Fr.le_refl _))) ?_)
  refine g_seq ?_
  refine g_region ?_
  refine rl_v rfl rfl rfl (by exact sat_cells hw (by (repeat first | with_reducible exact xH | apply xT); first | done | fail) ⟨rfl, rfl, rfl, rfl, rfl, rfl, rfl, trivial⟩) (v_loadAgg (vs := [_, _, _, _, _, _, _]) T.agg_23_7 rfl rfl) ?_
  refine xV rfl rfl rfl (v_makeFunc rfl rfl) ?_
  refine rl_k rfl (k_callf Try.func47 rfl rfl rfl rfl ?_)
  refine Calls.mono (of_calls q _ q.livePages (fun hq => if_neg hq) (fun hq L' w hw => CallsV.mk Try.func50 rfl rfl rfl (Calls.mono (livePages_in bk0_0 q hq (hw.mid)) (fun e w' h => ⟨h.1, h.2.mid'⟩))) hw) ?_
  rintro _ w ⟨rfl, hw⟩
  refine ⟨_, rfl, ?_⟩
  refine xV rfl rfl rfl (v_assign rfl) ?_
  refine rl_nil (g_le (xK (xS rfl (xS rfl (xS rfl (Fr.le_refl _))))) ?_)
  refine g_ret1 Try.func28 rfl rfl ?_
  exact ⟨rfl, hw.xQ⟩
end Go.Proofs.Ytdiocmjhencbpaa
