/-
  The log (layer 14): which segments are of a kind; the first free one.
-/
import Derived.Test.YtlgpdglnfjndhaaS14
namespace Go.Proofs.Ytlgpdglnfjndhaa
set_option maxRecDepth 8000
set_option linter.unusedSimpArgs false
set_option linter.unusedVariables false
open Go Xe Go.Lib
theorem isFree_calls {E : Env} {w : World} {L : List As} (x : Sg) (hw : Sat E w L) :
    Calls Try.prog 49 #[.agg x.cells.toArray] w fun e w' => e = .returned (.bool (decide (x.kind = 1))) ∧ Sat E w' L := by
  refine calls_of_g (n := 6) Try.func49 rfl rfl rfl ?_
  change G _ _ _ _ _ [(0, _)] _
  refine g_seq ?_
  refine g_region ?_
  refine rl_k rfl (k_box hw rfl rfl rfl (fun bk0_0 w hw => ?_))
  refine xV rfl rfl rfl (v_assign rfl) ?_
  refine rl_nil (g_le (xK (xK (Fr.le_refl _))) ?_)
  refine g_seq ?_
  refine g_region ?_
  refine xV rfl rfl rfl (v_fieldAddr0 T.fld_108_0_0 rfl) ?_
  refine rl_v rfl rfl rfl (by exact sat_cell hw (by (repeat first | with_reducible exact xH | apply xT); first | done | fail) rfl) (v_load T.scal_3 rfl) ?_
  refine xV rfl rfl rfl (v_eql rfl rfl) ?_
  refine xV rfl rfl rfl (v_assign rfl) ?_
  refine rl_nil (g_le (xK (xS rfl (xS rfl (xS rfl (Fr.le_refl _))))) ?_)
  refine g_ret1 Try.func49 rfl rfl ?_
  exact ⟨rfl, hw.xQ⟩
theorem indexSg_calls {E : Env} {w : World} {L : List As} {b c : Nat} {ss : List Sg} (hb : ss.length ≤ 4096) (hw : Sat E w (OwnSl 108 3 (.slice (some ⟨b, 0, none⟩) ss.length c) ss.length (ss.flatMap Sg.cells) :: L)) :
    Calls Try.prog 48 #[.slice (some ⟨b, 0, none⟩) ss.length c, .func (.func 49) #[] #[]] w fun e w' => e = .returned (.int .i64 (sgidx (fun x : Sg => decide (x.kind = 1)) ss 0)) ∧ Sat E w' (OwnSl 108 3 (.slice (some ⟨b, 0, none⟩) ss.length c) ss.length (ss.flatMap Sg.cells) :: L) := by
  refine calls_of_g (n := 19) Try.func48 rfl rfl rfl ?_
  change G _ _ _ _ _ [(0, _), (1, _)] _
  refine g_seq ?_
  refine g_region ?_
  refine xV rfl rfl rfl (v_assign rfl) ?_
  refine rl_nil (g_le (xK (Fr.le_refl _)) ?_)
  refine g_seq (g_seq ?_)
  refine g_region ?_
  refine xV rfl rfl rfl (v_move rfl) ?_
  refine xV rfl rfl rfl (v_lenSlice T.sl_37_108_3 rfl) ?_
  refine xV rfl rfl rfl (v_move rfl) ?_
  refine rl_nil (g_le (xK (xK (xS rfl (Fr.le_refl _)))) ?_)
  refine g_block ?_
  refine g_loopC (σ := Nat) (fun C x => (8, .int .i64 (x : Nat)) :: C) [(0, _), (1, _), (4, _), (7, _)] (by repeat (first | exact Fr.le_nil _ | refine Fr.le_cons rfl ?_)) (fun z w => z ≤ ss.length ∧ sgidx (fun x : Sg => decide (x.kind = 1)) ss 0 = sgidx (fun x : Sg => decide (x.kind = 1)) (ss.drop z) (z : Nat) ∧ Sat E w (OwnSl 108 3 (.slice (some ⟨b, 0, none⟩) ss.length c) ss.length (ss.flatMap Sg.cells) :: L)) (fun z => ss.length - z) ?_ 0 (by repeat (first | exact Fr.le_nil _ | refine Fr.le_cons rfl ?_)) ⟨by simp, by simp, hw⟩
  rintro i w ⟨hi, heq, hw⟩ ih
  refine g_seq ?_
  refine g_region ?_
  refine xV rfl rfl rfl (v_lss rfl rfl) ?_
  refine rl_nil (g_le (xK (Fr.le_refl _)) ?_)
  refine g_seq ?_
  refine g_cond rfl (fun h1 => ?_) (fun h1 => ?_)
  · try with_reducible exact ft_elim h1
    all_goals
      try replace h1 := of_decide_eq_true h1
      refine g_skip (g_seq (g_block (g_seq ?_)))
      have hlt : i < ss.length := by omega
      have hx : ss[i]? = some ss[i] := List.getElem?_eq_getElem hlt
      rw [List.drop_eq_getElem_cons hlt] at heq
      simp only [sgidx] at heq
      generalize ss[i] = x at *
      have hsub := subAt_flat (f := Sg.cells) (sz := 3) (fun _ => rfl) hx
      rw [show 0 + i * 3 = 0 + (i : Int).toNat * 3 by omega] at hsub
      dsimp only [Sg.cells] at hsub
      refine g_region ?_
      refine xV rfl rfl rfl (v_move rfl) ?_
      refine xV rfl rfl rfl (v_assign rfl) ?_
      refine rl_nil (g_le (xK (xK (Fr.le_refl _))) ?_)
      refine g_seq ?_
      refine g_region ?_
      refine xV rfl rfl rfl (v_move rfl) ?_
      refine xV rfl rfl rfl (v_move rfl) ?_
      refine xV rfl rfl rfl (v_move rfl) ?_
      refine xV rfl rfl rfl (v_indexAddr T.sl_37_108_3 rfl rfl (by omega) (by omega)) ?_
      refine rl_v rfl rfl rfl (by exact own_cells hw (by (repeat first | with_reducible exact xH | apply xT); first | done | fail) (by assumption)) (v_loadAgg (vs := [_, _, _]) T.agg_108_3 rfl rfl) ?_
      refine rl_k rfl (k_callv rfl rfl rfl ?_)
      refine CallsV.mk Try.func49 rfl rfl rfl (Calls.mono (isFree_calls x hw) ?_)
      rintro _ w ⟨rfl, hw⟩
      refine ⟨_, rfl, ?_⟩
      refine rl_nil (g_le (xK (xK (xK (xK (xK (xK (Fr.le_refl _))))))) ?_)
      refine g_cond rfl (fun h2 => ?_) (fun h2 => ?_)
      · try with_reducible exact ft_elim h2
        all_goals
          try replace h2 := of_decide_eq_true h2
          rw [if_pos (by simpa using h2)] at heq
          refine g_seq ?_
          refine g_region ?_
          refine xV rfl rfl rfl (v_move rfl) ?_
          refine xV rfl rfl rfl (v_assign rfl) ?_
          refine rl_nil (g_le (xK (xK (Fr.le_refl _))) ?_)
          refine g_ret1 Try.func48 rfl rfl ?_
          exact ⟨by rw [heq], hw⟩
      · try with_reducible exact tf_elim h2
        all_goals
          try replace h2 := of_decide_eq_false h2
          rw [if_neg (by simpa using h2)] at heq
          refine g_skip (g_inBlock ?_)
          refine g_region ?_
          refine xV rfl rfl rfl (v_add rfl rfl (by omega)) ?_
          refine xV rfl rfl rfl (v_move rfl) ?_
          refine rl_nil (g_le (xK (xK (Fr.le_refl _))) ?_)
          exact g_le (by repeat (first | exact Fr.le_nil _ | refine Fr.le_cons rfl ?_)) (ih (i + 1) w ⟨by omega, heq, hw⟩ (by omega))
  · try with_reducible exact tf_elim h1
    all_goals
      try replace h1 := of_decide_eq_false h1
      refine g_exit rfl (g_seq ?_)
      refine g_region ?_
      refine xV rfl rfl rfl (v_assign rfl) ?_
      refine rl_nil (g_le (xK (Fr.le_refl _)) ?_)
      refine g_ret1 Try.func48 rfl rfl ?_
      refine ⟨?_, hw⟩
      rw [heq, List.drop_eq_nil_of_le (by omega)]
      rfl
/-- The places, from i on, of the segments of a kind. -/
def ofS (k : Int) : List Sg → Int → List Int
  | [], _ => []
  | x :: xs, i => if x.kind = k then i :: ofS k xs (i + 1) else ofS k xs (i + 1)
end Go.Proofs.Ytlgpdglnfjndhaa
